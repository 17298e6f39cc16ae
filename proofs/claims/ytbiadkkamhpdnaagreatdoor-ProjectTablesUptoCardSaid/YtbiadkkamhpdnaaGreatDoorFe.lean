/- Walks of the program's functions. -/
import Derived.Test.YtbiadkkamhpdnaaGreatDoorFd
import Derived.Test.YtbiadkkamhpdnaaGreatDoorAn
import Derived.Test.YtbiadkkamhpdnaaGreatDoorFb
import Derived.Test.YtbiadkkamhpdnaaGreatDoorFs
import Derived.Test.YtbiadkkamhpdnaaGreatDoorFc
set_option linter.unusedSimpArgs false
namespace Go.Proofs.YtbiadkkamhpdnaaGreatDoor
open Go Go.AL
set_option maxRecDepth 100000
def octOk (c:UInt8):Prop:=48≤c.toNat∧c.toNat≤55
def G82 (s:Str) (i q:Nat):Prop:=i+q < s.length∧octOk (s.getD (i+q) 0)
instance (s:Str) (i q:Nat):Decidable (G82 s i q):=by unfold G82 octOk;exact inferInstance
set_option maxHeartbeats 1000000
set_option maxHeartbeats 1000000
end Go.Proofs.YtbiadkkamhpdnaaGreatDoor
namespace Go.Proofs.YtbiadkkamhpdnaaGreatDoor
open Go Go.AL
set_option maxRecDepth 100000
end Go.Proofs.YtbiadkkamhpdnaaGreatDoor
namespace Go.Proofs.YtbiadkkamhpdnaaGreatDoor
open Go Go.AL
set_option maxRecDepth 100000
abbrev E11 (i:Int):Ob:=.box [.p (.v (.int .i64 i))]
theorem D74 {gf:Fr} {ob:Obs} (e i j:Int) (out:List Span) (he:e≤1048576) (hj:0≤j) (hj2:j≤536870912) (ho:(out.length:Int)≤i)
  (h5:D4 ob 5=some (.box [.buf 20 Span 2 spanC out])) (h6:D4 ob 6=some (E11 i)) (h7:D4 ob 7=some (E11 j)) (h20:D4 ob 20=some (.spare out.length 2 88)) :
  AL.Met Tryz.prog 267 [.one (.p (.v (.int .i64 e))),.one (.ref 6 0),.one (.ref 5 0),.one (.ref 7 0)] gf ob [20]
   (fun rs ob'=>rs=[]∧ob'=(5,.box [.buf 20 Span 2 spanC (out++M5 i j (e - i).toNat)])::(6,E11 (i+(e - i).toNat))::(7,E11 (j+(e - i).toNat))::(20,.spare (out++M5 i j (e - i).toNat).length 2 88)::Obs.forget 20 ob):=by
 refine AL.Met.introH Tryz.func267 (by decide) rfl rfl rfl (fun hH=>?_)
 refine k3 ?_;refine D1 (X:=Nat) (fun t=>([(0,B8 e),(1,.s (.one (.ref 6 0))),(2,.s (.one (.ref 5 0))),(3,.s (.one (.ref 7 0)))]++Fr.forget 20 gf,(5,.box [.buf 20 Span 2 spanC (out++M5 i j t)])::(6,E11 (i+t))::(7,E11 (j+t))::(20,.spare (out++M5 i j t).length 2 88)::Obs.forget 20 ob)) (fun t=>t≤(e - i).toNat) (fun t=>(e - i).toNat - t) 0 (Nat.zero_le _) ?_ ?_
 ·rw [n8,K06,show i+((0:Nat):Int)=i by omega,show j+((0:Nat):Int)=j by omega]
  exact J78 20 (l:=[(0,B8 e),(1,.s (.one (.ref 6 0))),(2,.s (.one (.ref 5 0))),(3,.s (.one (.ref 7 0)))]) (L:=[(5,_),(6,_),(7,_),(20,_)]) ⟨le1 rfl,le1 rfl,le1 rfl,le1 rfl,trivial⟩ hH (by repeat (first | exact H2 | refine G8 rfl ?_)) ⟨h5,h6,h7,h20,trivial⟩
 intro t ht0
 dsimp only at ht0 ⊢
 have hsl:=V1 i j t
 refine k2 (k2 (A2 (D3 Z Z Z Z (A3 Z Z (E1 Z Z Z (A4 ?_))))));refine k1 ?_;refine B3 rfl (fun ht=>?_) (fun ht=>?_)
 ·have h1:=A0 ht
  refine k5 (k1 (k2 (k3 (k2 (A2 (D3 Z Z Z Z (D3 Z Z Z Z (D3 Z Z Z Z (A6 (E6 Z) Z (A6 (C9 (c:=spanC) (ys:=[⟨i+t,j+t⟩]) (D8 Z Z Z Z F1) Z Z Z) Z (C0 (F8 Z Z Z (.pure _ _ _ _) (by (simp only [J86,J87,J89];omega)) Z) Z (E2 (B6 TySz.out Z Z Z Z Z Z) (A4 ?_)))))))))))));refine k1 (A2 (D3 Z Z Z Z (C7 Z Z Z (E2 (B6 TySz.out Z Z Z Z Z Z) (A4 ?_)))));refine k4 (k1 (A2 (D3 Z Z Z Z (C7 Z Z Z (E2 (B6 TySz.out Z Z Z Z Z Z) (A4 ?_))))));refine k1 ?_;refine ⟨t+1,by omega,by omega,?_⟩
  rw [A51,←K01,show i+((t+1:Nat):Int)=i+t+1 by omega,show j+((t+1:Nat):Int)=j+t+1 by omega]
  exact J63 ⟨le1 rfl,le1 rfl,le1 rfl,le1 rfl,trivial⟩ (W6 hH) (by repeat (first | exact H2 | refine G8 rfl ?_ | refine R9 _ ?_)) (obs_put (L:=[(5,_),(6,_),(7,_),(20,_)]) ⟨rfl,rfl,rfl,rfl,trivial⟩ (by repeat (first | exact J17 | refine J18 rfl ?_ | refine obs_fgt _ ?_)))
 ·have h1:=A1 ht
  have h2:t=(e - i).toNat:=by omega
  subst h2
  refine k6 (k7 (k7 (k8 Z ?_)))
  exact H45 (rets0 rfl) (by repeat (first | exact H2 | refine G8 rfl ?_ | refine J4 _ ?_)) (fun _ _ h=>h) ⟨rfl,rfl⟩
theorem I60 (l:List Change) (m:Int) (hl:l.length≤32768) (hm:m≤4096) (hb:∀c∈l,c.Old≤4096∧0≤c.OldLen∧c.OldLen≤4096∧0≤c.NewLen∧c.NewLen≤4096) :
  FnOk Tryz.prog 262 [pChanges l,E5 m] (fun rs=>rs=[pSpans (M8 l m)]):=by
 refine FnOk.intro Tryz.func262 (by decide) Z Z Z Z ?_
 refine k2 (A2 (A7 Z Z (A4 ?_)));refine k1 (k2 (A2 (C0 (F4 5 Z) Z (A4 ?_))));refine G4 (J61 20 Span 2 spanC 88 (kb:=5) (o:=0) Z Z Z) ?_
 refine k2 (A2 (C0 (F4 6 Z) Z (C0 (F4 7 Z) Z (E2 (B6 TySz.out Z Z Z Z Z Z) (E2 (B6 TySz.out Z Z Z Z Z Z) (A4 ?_))))));refine k1 (k2 (A2 (A6 (C56 Z Z) Z (A7 Z Z (A4 ?_)))));refine k1 (k2 (k2 (A2 (A3 Z Z (D9 Z Z (A3 Z Z (A4 ?_)))))));refine k1 (k3 ?_);refine D1 (X:=Nat × Int × Int × List Span) (fun x=>([(1,B8 m),(5,.s (.one (.ref 5 0))),(6,.s (.one (.ref 6 0))),(7,.s (.one (.ref 7 0))),(8,.s (.one (.clo 267 [] [(6,0),(5,0),(7,0)]))),(12,C4 Change 4 changeC l),(13,B8 l.length),(14,B8 x.1)],[(5,.box [.buf 20 Span 2 spanC x.2.2.2]),(6,E11 x.2.1),(7,E11 x.2.2.1),(20,.spare x.2.2.2.length 2 88)]))
  (fun x=>x.1≤l.length∧0≤x.2.1∧(x.2.2.2.length:Int)≤x.2.1∧x.2.1≤4096+x.1*4096∧0≤x.2.2.1∧x.2.2.1≤x.1*8192∧x.2.2.2++K2 x.2.1 x.2.2.1 (l.drop x.1) m=M8 l m)
  (fun x=>l.length - x.1) (0,0,0,[]) (by simp [M8]) (J58 ⟨le1 rfl,le1 rfl,le1 rfl,le1 rfl,le1 rfl,le1 rfl,le1 rfl,le1 rfl,trivial⟩ ⟨rfl,rfl,rfl,rfl,trivial⟩) ?_
 rintro ⟨k,i,j,out⟩ ⟨hk,hi,ho,hi2,hj,hj2,hp⟩
 dsimp only at hk hi ho hi2 hj hj2 hp ⊢
 refine k2 (A2 (E1 Z Z Z (A4 ?_)));refine k1 (k2 ?_);refine B3 rfl (fun ht=>?_) (fun ht=>?_)
 ·have hlt:k < l.length:=by have:=A0 ht;omega
  obtain ⟨c,hcd⟩:∃c,c=l[k]:=⟨_,rfl⟩
  have hv:l[k]?=some c:=by rw [hcd];simp [hlt]
  have hc:=hb c (K02 hv)
  rw [J92 hlt,←hcd,K2] at hp
  refine k5 (k1 (k2 (k3 (k2 (A2 (A6 (A8 Z (.pure _ _ _ _) Z (by omega) hv) Z (A6 (C8 Z Z) Z (C0 (F4 10 Z) Z (E2 (B6 TySz.out Z Z Z Z Z Z) (A4 ?_))))))))));refine k1 (k2 (O9 [(1,B8 m),(5,.s (.one (.ref 5 0))),(6,.s (.one (.ref 6 0))),(7,.s (.one (.ref 7 0))),(8,.s (.one (.clo 267 [] [(6,0),(5,0),(7,0)]))),(10,.s (.one (.ref 10 0))),(12,C4 Change 4 changeC l),(13,B8 l.length),(14,B8 k)] [(5,.box [.buf 20 Span 2 spanC out]),(6,E11 i),(7,E11 j),(20,.spare out.length 2 88),(10,.box [.p (.v (.int .i64 c.Old)),.p (.v (.int .i64 c.OldLen)),.p (.v (.int .i64 c.New)),.p (.v (.int .i64 c.NewLen))])] (J58 ⟨le1 rfl,le1 rfl,le1 rfl,le1 rfl,le1 rfl,le1 rfl,le1 rfl,le1 rfl,le1 rfl,trivial⟩ ⟨rfl,rfl,rfl,rfl,rfl,trivial⟩) ?_))
  refine A2 (A3 Z Z (A6 (A5 Z) Z (D3 Z Z Z Z (E48 (D74 c.Old i j out (by omega) hj (by omega) ho Z Z Z Z) Z Z Z Z ?_))));rintro _ _ ⟨rfl,rfl⟩;refine A4 ?_;refine k1 ?_
  obtain ⟨n,hn⟩:∃n,n=(c.Old - i).toNat:=⟨_,rfl⟩
  rw [←hn] at hp ⊢
  refine O9 [(1,B8 m),(5,.s (.one (.ref 5 0))),(6,.s (.one (.ref 6 0))),(7,.s (.one (.ref 7 0))),(8,.s (.one (.clo 267 [] [(6,0),(5,0),(7,0)]))),(10,.s (.one (.ref 10 0))),(12,C4 Change 4 changeC l),(13,B8 l.length),(14,B8 k)] [(5,.box [.buf 20 Span 2 spanC (out++M5 i j n)]),(6,E11 (i+n)),(7,E11 (j+n)),(20,.spare (out++M5 i j n).length 2 88),(10,.box [.p (.v (.int .i64 c.Old)),.p (.v (.int .i64 c.OldLen)),.p (.v (.int .i64 c.New)),.p (.v (.int .i64 c.NewLen))])] (J58 ⟨le1 rfl,le1 rfl,le1 rfl,le1 rfl,le1 rfl,le1 rfl,le1 rfl,le1 rfl,le1 rfl,trivial⟩ ⟨rfl,rfl,rfl,rfl,rfl,trivial⟩) ?_
  refine x5 [9,8] [[],[8],[9,8]] [(4,[8]),(5,[8]),(6,[8]),(7,[8])] (by kernel_rfl) (by kernel_rfl) (L8 Z (B2 Z Z Z) (L8 Z (A5 Z) (L8 Z (B2 Z Z Z) (L8 Z (L4 Z Z (by omega)) (L8 Z (B2 Z Z Z) (L8 Z (A5 Z) (L8 Z (B2 Z Z Z) (L8 Z (L4 Z Z (by omega)) (A85 (Y6 TySz.out Z Z Z Z Z Z) (A85 (Y6 TySz.out Z Z Z Z Z Z) ?_))))))))));refine G60 rfl ?_ ?_
  ·refine G3 Z Z (B2 Z Z Z) (G3 Z Z (A5 Z) (G3 Z Z (B2 Z Z Z) (G3 Z Z (L4 Z Z (by omega)) ?_)));exact G61
  refine k4 (k1 (A2 (C7 Z Z Z (A3 Z Z (A4 ?_)))));refine k1 ?_
  have hsl:=V1 i j n
  have h3:max i c.Old=i+n:=by omega
  rw [h3] at hp
  exact ⟨(k+1,i+n+c.OldLen,j+n+c.NewLen,out++M5 i j n),⟨by dsimp only;omega,by dsimp only;omega,by dsimp only;rw [J86,hsl];omega,by dsimp only;omega,by dsimp only;omega,by dsimp only;omega,by dsimp only;rw [K01];exact hp⟩,by dsimp only;omega,J58 ⟨le1 rfl,le1 rfl,le1 rfl,le1 rfl,le1 rfl,le1 rfl,le1 rfl,le1 rfl,trivial⟩ ⟨rfl,rfl,rfl,rfl,trivial⟩⟩
 ·have hk':k=l.length:=by have:=A1 ht;omega
  rw [hk',J94 (Nat.le_refl _),K2] at hp
  refine k6 (k2 (A2 (A3 Z Z (A3 Z Z (E48 (D74 m i j out (by omega) hj (by omega) ho Z Z Z Z) Z Z Z Z ?_)))));rintro _ _ ⟨rfl,rfl⟩;refine A4 ?_;refine k1 (k2 ?_)
  rw [hp]
  refine G4 (Sees.forget 20) ?_
  refine A2 (D3 Z Z Z Z (A7 Z Z (A4 ?_)));refine k1 (k10 ?_)
  exact B4 (F3 rfl rfl rfl) rfl
theorem C17 {l:List Change} {m n:Int} (hok:ScOk 0 0 l m n):∀c∈l,c.Old≤4096∧0≤c.OldLen∧c.OldLen≤4096∧0≤c.NewLen∧c.NewLen≤4096:=by
 intro c hc
 obtain ⟨k,hk,rfl⟩:=List.mem_iff_getElem.1 hc
 have:=hok.get k hk
 have e:cAt l k=l[k]:=by unfold cAt;simp [hk]
 rw [e] at this
 obtain ⟨⟨_,h1⟩,⟨h2,h3⟩,_,⟨h4,h5⟩,_⟩:=this
 exact ⟨h1,h2,h3,h4,h5⟩
theorem D75 {l:List Change} {m n:Int} (hm:m≤4096) (hok:ScOk 0 0 l m n):(M8 l m).length≤4096:=by
 have:=D51 l 0 0 m (by omega) 4096 (by omega) (fun c hc=>⟨by have:=(C17 hok c hc).1;omega,(C17 hok c hc).2.1⟩)
 unfold M8;omega
def G12 (a b:List Int) (p:Span):Prop:=0≤p.From∧0≤p.To∧∃v,a[p.From.toNat]?=some v∧b[p.To.toNat]?=some v
theorem J31 (l:List Change) (a b:List Int) (hl:l.length≤32768) (hc:T9 l a.length b.length=0) (hp:∀p∈M8 l a.length,G12 a b p) :
  FnOk Tryz.prog 237 [pChanges l,M1 a,M1 b] (fun rs=>rs=[I8 true]):=by
 obtain ⟨⟨_,ha⟩,⟨_,hb⟩,hok⟩:=B16 hc
 have hcs:=C17 hok
 have hpl:=D75 (by omega) hok
 obtain ⟨ps,hps⟩:∃ps,ps=M8 l a.length:=⟨_,rfl⟩
 rw [←hps] at hpl
 refine FnOk.intro Tryz.func237 (by decide) Z Z Z Z ?_
 refine k2 (A2 (A7 Z Z (A4 ?_)));refine k1 (k2 (k2 (A2 (A3 Z Z (A3 Z Z (D9 Z Z (A3 Z Z (D9 Z Z (C2 (F67 l a.length b.length (by omega)) Z Z Z ?_)))))))));rintro _ rfl;refine A6 (H9 Z Z) Z (A4 ?_)
 rw [hc]
 refine k1 ?_;refine B3 rfl (fun ht=>?_) (fun ht=>?_)
 ·cases ht
 refine k5 (k1 (k2 (k2 (A2 (A3 Z Z (A3 Z Z (D9 Z Z (C2 (I60 l a.length hl ha hcs) Z Z Z ?_))))))));rintro _ rfl;refine D9 Z Z (A3 Z Z (A4 ?_))
 rw [←hps] at hp ⊢
 refine k1 (k3 (D1 (X:=Nat) (fun k=>([(1,C4 Int 1 H4 a),(2,C4 Int 1 H4 b),(19,C4 Span 2 spanC ps),(20,B8 ps.length),(21,B8 k)],[])) (fun k=>k≤ps.length) (fun k=>ps.length - k) 0 (Nat.zero_le _) (J58 ⟨le1 rfl,le1 rfl,le1 rfl,le1 rfl,le1 rfl,trivial⟩ trivial) ?_))
 intro k hk
 dsimp only at hk ⊢
 refine k2 (A2 (E1 Z Z Z (A4 ?_)));refine k1 (k2 ?_);refine B3 rfl (fun ht=>?_) (fun ht=>?_)
 ·have hlt:k < ps.length:=by have:=A0 ht;omega
  obtain ⟨p,hpd⟩:∃p,p=ps[k]:=⟨_,rfl⟩
  have hv:ps[k]?=some p:=by rw [hpd];simp [hlt]
  obtain ⟨h1,h2,v,h3,h4⟩:=hp p (K02 hv)
  have h5:=(List.getElem?_eq_some_iff.1 h3).1
  have h6:=(List.getElem?_eq_some_iff.1 h4).1
  refine k5 (k1 (k2 (k3 (k2 (A2 (A6 (A8 Z (.pure _ _ _ _) Z (by omega) hv) Z (A6 (C8 Z Z) Z (C0 (F4 8 Z) Z (E2 (B6 TySz.out Z Z Z Z Z Z) (A4 ?_))))))))));refine k1 (k2 (C5 (by kernel_rfl) (by kernel_rfl) (C3 Z Z (A9 (A5 Z) Z Z (A9 (B2 Z Z Z) Z Z (A9 (A8 Z (.pure _ _ _ _) Z (by omega) h3) Z Z (A9 (B1 Z Z) Z Z (C3 Z Z (A9 (A5 Z) Z Z (A9 (B2 Z Z Z) Z Z (A9 (A8 Z (.pure _ _ _ _) Z (by omega) h4) Z Z (A9 (B1 Z Z) Z Z (A9 (H9 Z Z) Z Z (G5 ?_))))))))))))));refine k1 ?_;refine B3 rfl (fun ht=>?_) (fun ht=>?_)
  ·exact absurd (A0 ht) (by simp)
  refine k5 (k4 (k1 (A2 (C7 Z Z Z (A3 Z Z (A4 ?_))))));refine k1 ?_
  exact ⟨k+1,hlt,by omega,J58 ⟨le1 rfl,le1 rfl,le1 rfl,le1 rfl,le1 rfl,trivial⟩ trivial⟩
 ·refine k6 (k2 (A2 (A7 Z Z (A4 ?_))));refine k1 (k10 ?_)
  exact B4 (F3 rfl rfl rfl) rfl
theorem H59 (l:List Change) (m n:Int) (hl:l.length≤32768) (hc:T9 l m n=0) :
  FnOk Tryz.prog 227 [pChanges l,E5 m,E5 n] (fun rs=>rs=[pSpans (M8 l m),E5 0]):=by
 obtain ⟨⟨_,hm⟩,_,hok⟩:=B16 hc
 have hcs:∀c∈l,c.Old≤536870911∧0≤c.OldLen∧c.OldLen≤1048576∧0≤c.NewLen∧c.NewLen≤1048576:=by
  intro c hc
  have:=C17 hok c hc
  omega
 refine FnOk.intro Tryz.func227 (by decide) Z Z Z Z ?_
 refine k2 (A2 (A7 Z Z (A7 Z Z (A4 ?_))));refine k1 (k2 (k2 (A2 (A3 Z Z (A3 Z Z (A3 Z Z (C2 (D71 l m n (by omega)) Z Z Z ?_)))))));rintro _ rfl;refine A7 Z Z (A4 ?_)
 rw [hc]
 refine k1 (k2 (A2 (A3 Z Z (A6 (H9 Z Z) Z (A4 ?_)))));refine k1 ?_;refine B3 rfl (fun ht=>?_) (fun ht=>?_)
 ·cases ht
 refine k5 (k1 (k2 (A2 (A3 Z Z (A3 Z Z (C2 (C60 l m (by omega) (by omega) hcs) Z Z Z ?_))))));rintro _ rfl;refine A7 Z Z (A7 Z Z (A4 ?_));refine k1 (k10 ?_)
 exact B4 (U7 rfl rfl rfl rfl rfl) rfl
theorem I61 (l:List Change) (a b:List Int) (hl:l.length≤32768) (hc:T9 l a.length b.length=0) (hp:∀p∈M8 l a.length,G12 a b p) :
  FnOk Tryz.prog 182 [pChanges l,M1 a,M1 b] (fun rs=>rs=[I8 true]):=by
 obtain ⟨⟨_,ha⟩,⟨_,hb⟩,hok⟩:=B16 hc
 have hpl:=D75 (by omega) hok
 obtain ⟨ps,hps⟩:∃ps,ps=M8 l a.length:=⟨_,rfl⟩
 rw [←hps] at hpl
 refine FnOk.intro Tryz.func182 (by decide) Z Z Z Z ?_
 refine k2 (A2 (A7 Z Z (A4 ?_)));refine k1 (k2 (A2 (A3 Z Z (A3 Z Z (D9 Z Z (A3 Z Z (D9 Z Z (C2 (H59 l a.length b.length hl hc) Z Z Z ?_))))))));rintro _ rfl;refine A3 Z Z (F5 Z Z Z (F5 Z Z Z (A7 Z Z (A7 Z Z (A4 ?_)))))
 rw [←hps] at hp ⊢
 refine k1 (k2 (k2 (A2 (A3 Z Z (A6 (H9 Z Z) Z (A4 ?_))))));refine k1 ?_;refine B3 rfl (fun ht=>?_) (fun ht=>?_)
 ·cases ht
 refine k5 (k1 (k2 (k2 (A2 (A7 Z Z (A4 ?_))))));refine k1 (k3 (D1 (X:=Nat) (fun k=>([(1,C4 Int 1 H4 a),(2,C4 Int 1 H4 b),(7,C4 Span 2 spanC ps),(9,B8 k)],[])) (fun k=>k≤ps.length) (fun k=>ps.length - k) 0 (Nat.zero_le _) (J58 ⟨le1 rfl,le1 rfl,le1 rfl,le1 rfl,trivial⟩ trivial) ?_))
 intro k hk
 dsimp only at hk ⊢
 refine k2 (k2 (A2 (A3 Z Z (A3 Z Z (D9 Z Z (E1 Z Z Z (A4 ?_)))))));refine k1 ?_;refine B3 rfl (fun ht=>?_) (fun ht=>?_)
 ·have hlt:k < ps.length:=by have:=A0 ht;omega
  obtain ⟨p,hpd⟩:∃p,p=ps[k]:=⟨_,rfl⟩
  have hv:ps[k]?=some p:=by rw [hpd];simp [hlt]
  obtain ⟨h1,h2,v,h3,h4⟩:=hp p (K02 hv)
  have h5:=(List.getElem?_eq_some_iff.1 h3).1
  have h6:=(List.getElem?_eq_some_iff.1 h4).1
  refine k5 (k1 (k2 (k3 (k2 (C5 (by kernel_rfl) (by kernel_rfl) (C3 Z Z (C3 Z Z (C3 Z Z (A9 (A8 Z (.pure _ _ _ _) Z (by omega) hv) Z Z (A9 (C1 Z) Z Z (A9 (B1 Z Z) Z Z (A9 (A8 Z (.pure _ _ _ _) Z (by omega) h3) Z Z (A9 (B1 Z Z) Z Z (C3 Z Z (C3 Z Z (C3 Z Z (A9 (A8 Z (.pure _ _ _ _) Z (by omega) hv) Z Z (A9 (C1 Z) Z Z (A9 (B1 Z Z) Z Z (A9 (A8 Z (.pure _ _ _ _) Z (by omega) h4) Z Z (A9 (B1 Z Z) Z Z (A9 (H9 Z Z) Z Z (G5 ?_)))))))))))))))))))))));refine k1 ?_;refine B3 rfl (fun ht=>?_) (fun ht=>?_)
  ·exact absurd (A0 ht) (by simp)
  refine k5 (k4 (k1 (A2 (A3 Z Z (C7 Z Z Z (A7 Z Z (A4 ?_)))))));refine k1 ?_
  exact ⟨k+1,hlt,by omega,J58 ⟨le1 rfl,le1 rfl,le1 rfl,le1 rfl,trivial⟩ trivial⟩
 ·refine k6 (k2 (A2 (A7 Z Z (A4 ?_))));refine k1 (k10 ?_)
  exact B4 (F3 rfl rfl rfl) rfl
abbrev pChange (c:Change):PV:=.agg [.v (.int .i64 c.Old),.v (.int .i64 c.OldLen),.v (.int .i64 c.New),.v (.int .i64 c.NewLen)]
def B31 (c:Change) (a b:List Int):List PV:=if c.NewLen=0 then [M1 a,E5 c.Old,E5 c.OldLen,I8 true] else if c.OldLen=0 then [M1 b,E5 c.New,E5 c.NewLen,I8 true] else [.one (.v (.slice none 0 0)),E5 0,E5 0,I8 false]
theorem I62 (c:Change) (a b:List Int):FnOk Tryz.prog 228 [pChange c,M1 a,M1 b] (fun rs=>rs=B31 c a b):=by
 refine FnOk.intro Tryz.func228 (by decide) Z Z Z Z ?_
 refine k2 (A2 (C0 (M2 3 Z Z Z) Z (A7 Z Z (A7 Z Z (A7 Z Z (A7 Z Z (A4 ?_)))))));refine k1 (k2 (k3 (k2 (A2 (A6 (A5 Z) Z (D3 Z Z Z Z (A6 (J7 Z Z) Z (A7 Z Z (A4 ?_)))))))));refine k1 ?_;refine B3 rfl (fun ht=>?_) (fun ht=>?_)
 ·have h1:=A0 ht
  refine k2 (C5 (by kernel_rfl) (by kernel_rfl) (C3 Z Z (A9 (A5 Z) Z Z (A9 (B2 Z Z Z) Z Z (A9 (A5 Z) Z Z (A9 (B2 Z Z Z) Z Z (A9 (E0 Z Z) Z Z (A9 (E0 Z Z) Z Z (A9 (E0 Z Z) Z Z (A9 (E0 Z Z) Z Z (G5 ?_)))))))))));refine k1 (k10 (k12 (k11 ?_)))
  exact B4 (ret4 rfl rfl rfl rfl rfl rfl rfl rfl rfl) (by unfold B31;rw [if_pos h1])
 ·have h1:=A1 ht
  refine k2 (A2 (A6 (A5 Z) Z (D3 Z Z Z Z (A6 (J7 Z Z) Z (A7 Z Z (A4 ?_))))));refine k1 ?_;refine B3 rfl (fun ht=>?_) (fun ht=>?_)
  ·have h2:=A0 ht
   refine k2 (C5 (by kernel_rfl) (by kernel_rfl) (C3 Z Z (A9 (A5 Z) Z Z (A9 (B2 Z Z Z) Z Z (A9 (A5 Z) Z Z (A9 (B2 Z Z Z) Z Z (A9 (E0 Z Z) Z Z (A9 (E0 Z Z) Z Z (A9 (E0 Z Z) Z Z (A9 (E0 Z Z) Z Z (G5 ?_)))))))))));refine k1 (k10 (k12 (k11 ?_)))
   exact B4 (ret4 rfl rfl rfl rfl rfl rfl rfl rfl rfl) (by unfold B31;rw [if_neg h1,if_pos h2])
  ·have h2:=A1 ht
   refine k5 (k2 (A2 (A7 Z Z (A7 Z Z (A7 Z Z (A7 Z Z (A4 ?_)))))));refine k1 (k10 ?_)
   exact B4 (ret4 rfl rfl rfl rfl rfl rfl rfl rfl rfl) (by unfold B31;rw [if_neg h1,if_neg h2])
theorem I63 (l:List Change) (a b:List Int) (k:Nat) (hk:k < l.length) (hl:l.length≤32768) (ha:a.length≤4096) (hb:b.length≤4096) (hok:ScOk 0 0 l a.length b.length) :
  FnOk Tryz.prog 183 [pChanges l,M1 a,M1 b,E5 k] (fun rs=>rs=[I8 (P9 l a b k)]):=by
 obtain ⟨c,hc⟩:∃c,c=cAt l k:=⟨_,rfl⟩
 have hv:l[k]?=some c:=by rw [hc];exact X9 hk
 have hg:=hok.get k hk
 rw [←hc] at hg
 obtain ⟨⟨c1,_⟩,⟨c2,_⟩,⟨c3,_⟩,⟨c4,_⟩,c5,c6⟩:=hg
 have hnx:k+1 < l.length→l[k+1]?=some (cAt l (k+1))∧0≤(cAt l (k+1)).Old∧(cAt l (k+1)).Old≤4096:=fun h=>by
  have:=hok.get (k+1) h
  exact ⟨X9 h,this.1.1,this.1.2⟩
 have hnx':k+1 < l.length→l[((k:Int)+1).toNat]?=some (cAt l (k+1)):=fun h=>by
  rw [show ((k:Int)+1).toNat=k+1 by omega];exact X9 h
 have hcase:(∃(t:List Int) (f n:Int),B31 c a b=[M1 t,E5 f,E5 n,I8 true]∧P9 l a b k=decide (B62 l k t f n)∧t.length≤4096∧0≤f∧0≤n∧f+n≤t.length)∨(B31 c a b=[.one (.v (.slice none 0 0)),E5 0,E5 0,I8 false]∧P9 l a b k=false):=by
  unfold B31 P9
  rw [←hc]
  by_cases h1:c.NewLen=0
  ·rw [if_pos h1,if_pos h1];exact .inl ⟨_,_,_,rfl,rfl,ha,c1,c2,c5⟩
  ·rw [if_neg h1,if_neg h1]
   by_cases h2:c.OldLen=0
   ·rw [if_pos h2,if_pos h2];exact .inl ⟨_,_,_,rfl,rfl,hb,c3,c4,c6⟩
   ·rw [if_neg h2,if_neg h2];exact .inr ⟨rfl,rfl⟩
 have hs:=I62 c a b
 rcases hcase with ⟨t,f,n,hr,hcd,ht4,f0,n0,fn⟩ | ⟨hr,hcd⟩
 ·rw [hr] at hs
  refine FnOk.intro Tryz.func183 (by decide) Z Z Z Z ?_
  refine k2 (A2 (A7 Z Z (A4 ?_)));refine k1 (k2 (A2 (A3 Z Z (A3 Z Z (A6 (A8 Z (.pure _ _ _ _) Z (by omega) hv) Z (A6 (C8 Z Z) Z (A3 Z Z (A3 Z Z (C2 (hs) Z Z Z ?_)))))))));rintro _ rfl;refine A3 Z Z (F5 Z Z Z (F5 Z Z Z (F5 Z Z Z (F5 Z Z Z (A7 Z Z (A7 Z Z (A7 Z Z (A7 Z Z (A4 ?_)))))))));refine O9 [(0,C4 Change 4 changeC l),(3,B8 k),(9,C4 Int 1 H4 t),(10,B8 f),(11,B8 n),(12,K4 (.bool true))] [] (J58 ⟨le1 rfl,le1 rfl,le1 rfl,le1 rfl,le1 rfl,le1 rfl,trivial⟩ trivial) ?_
  have hat:∀i:Int,0≤i→i < t.length→t[i.toNat]?=some (atI t i):=fun i h0 h1=>by
   unfold atI;rw [J91,J88 (show i.toNat < t.length by omega)];rfl
  refine k2 (k2 (C5 (by kernel_rfl) (by kernel_rfl) (C3 Z Z (A9 (Y0 Z) Z Z (C3 Z Z (B9 Z Z (fun hg=>by rw [hg];exact B5 Z Z) Z Z ?_))))));refine B9 Z Z (fun hg=>by rw [hg];exact B5 Z Z) Z Z ?_;refine B9 Z Z (fun hg=>by have hq:=hg;(try simp at hq);rw [hg];exact L4 Z Z (by omega)) Z Z ?_;refine B9 Z Z (fun hg=>by rw [hg];exact B5 Z Z) Z Z ?_;refine B9 Z Z (fun hg=>by rw [hg];exact O8 Z (.pure _ _ _ _)) Z Z ?_;refine B9 Z Z (fun hg=>by rw [hg];exact i8 Z Z) Z Z ?_;refine A9 (G7 Z (fun h=>by first | rfl | (rw [h];rfl)) (fun h=>by first | rfl | (rw [h];rfl))) Z Z ?_;refine C3 Z Z (B9 Z Z (fun hg=>by rw [hg];exact B5 Z Z) Z Z ?_);refine B9 Z Z (fun hg=>by rw [hg];exact B5 Z Z) Z Z ?_;refine B9 Z Z (fun hg=>by have hq:=hg;(try simp at hq);rw [hg];exact A8 Z (.pure _ _ _ _) Z (by omega) (hat f f0 (by omega))) Z Z ?_;refine B9 Z Z (fun hg=>by rw [hg];exact B1 Z Z) Z Z ?_;refine B9 Z Z (fun hg=>by rw [hg];exact B5 Z Z) Z Z ?_;refine B9 Z Z (fun hg=>by rw [hg];exact B5 Z Z) Z Z ?_;refine B9 Z Z (fun hg=>by rw [hg];exact B5 Z Z) Z Z ?_;refine B9 Z Z (fun hg=>by have hq:=hg;(try simp at hq);rw [hg];exact L4 Z Z (by omega)) Z Z ?_;refine B9 Z Z (fun hg=>by have hq:=hg;(try simp at hq);rw [hg];exact A8 Z (.pure _ _ _ _) Z (by omega) (hat (f+n) (by omega) hq)) Z Z ?_;refine B9 Z Z (fun hg=>by rw [hg];exact B1 Z Z) Z Z ?_;refine B9 Z Z (fun hg=>by rw [hg];exact H9 Z Z) Z Z ?_;refine A9 (G7 Z (fun h=>by first | rfl | (rw [h];rfl)) (fun h=>by first | rfl | (rw [h];rfl))) Z Z ?_;refine G5 ?_;refine k1 ?_;refine B3 rfl (fun ht=>?_) (fun ht=>?_)
  ·have h1:¬((f+n < t.length∧atI t f=atI t (f+n))∧(k+1=l.length∨(cAt l k).Old+(cAt l k).OldLen+1 < (cAt l (k+1)).Old)):=by
    rintro ⟨⟨q1,q2⟩,_⟩
    simp [q2] at ht
    omega
   refine k2 (A2 (A7 Z Z (A4 ?_)));refine k1 (k10 (k11 ?_))
   exact B4 (F3 rfl rfl rfl) (by rw [hcd];unfold B62;rw [decide_eq_false h1])
  ·have h1:f+n < t.length:=Classical.byContradiction fun q=>by simp [show (t.length:Int)≤f+n by omega] at ht
   have h2:atI t f=atI t (f+n):=Classical.byContradiction fun q=>by simp [q] at ht
   refine k5 (k1 (k2 (C5 (by kernel_rfl) (by kernel_rfl) (C3 Z Z (A9 (L4 Z Z (by omega)) Z Z (C3 Z Z (A9 (O8 Z (.pure _ _ _ _)) Z Z (A9 (J7 Z Z) Z Z (C3 Z Z (B9 Z Z (fun hg=>by rw [hg];exact B5 Z Z) Z Z ?_))))))))));refine B9 Z Z (fun hg=>by rw [hg];exact B5 Z Z) Z Z ?_;refine B9 Z Z (fun hg=>by have hq:=hg;(try simp at hq);rw [hg];exact L4 Z Z (by omega)) Z Z ?_;refine B9 Z Z (fun hg=>by have hq:=hg;(try simp at hq);rw [hg];exact A8 Z (.pure _ _ _ _) Z (by omega) (hnx' (by omega))) Z Z ?_;refine B9 Z Z (fun hg=>by rw [hg];exact C1 Z) Z Z ?_;refine B9 Z Z (fun hg=>by rw [hg];exact B1 Z Z) Z Z ?_;refine B9 Z Z (fun hg=>by rw [hg];exact B5 Z Z) Z Z ?_;refine B9 Z Z (fun hg=>by rw [hg];exact B5 Z Z) Z Z ?_;refine B9 Z Z (fun hg=>by have hq:=hg;(try simp at hq);rw [hg];exact A8 Z (.pure _ _ _ _) Z (by omega) hv) Z Z ?_;refine B9 Z Z (fun hg=>by rw [hg];exact C1 Z) Z Z ?_;refine B9 Z Z (fun hg=>by rw [hg];exact B1 Z Z) Z Z ?_;refine B9 Z Z (fun hg=>by rw [hg];exact B5 Z Z) Z Z ?_;refine B9 Z Z (fun hg=>by rw [hg];exact B5 Z Z) Z Z ?_;refine B9 Z Z (fun hg=>by have hq:=hg;(try simp at hq);rw [hg];exact A8 Z (.pure _ _ _ _) Z (by omega) hv) Z Z ?_;refine B9 Z Z (fun hg=>by rw [hg];exact C1 Z) Z Z ?_;refine B9 Z Z (fun hg=>by rw [hg];exact B1 Z Z) Z Z ?_;refine B9 Z Z (fun hg=>by have hq:=hg;(try simp at hq);rw [hg];exact L4 Z Z (by omega)) Z Z ?_;refine B9 Z Z (fun hg=>by have hq:=hg;(try simp at hq);have hn2:=hnx (by omega);rw [hg];exact L4 Z Z (by omega)) Z Z ?_;refine B9 Z Z (fun hg=>by rw [hg];exact K9 Z Z) Z Z ?_;refine A9 (G7 Z (fun h=>by first | rfl | (rw [h];rfl)) (fun h=>by first | rfl | (rw [h];rfl))) Z Z ?_;refine A9 (E0 Z Z) Z Z (G5 ?_);refine k1 (k10 ?_)
   have h3:P9 l a b k=if decide ((k:Int)+1=l.length)=true then true else decide (c.Old+c.OldLen+1 < (cAt l (k+1)).Old):=by
    rw [hcd,hc]
    by_cases q:k+1=l.length
    ·have h4:B62 l k t f n:=⟨⟨h1,h2⟩,.inl q⟩
     simp [h4,show (k:Int)+1=l.length by omega]
    ·have q2:¬((k:Int)+1=l.length):=by omega
     have h4:B62 l k t f n↔(cAt l k).Old+(cAt l k).OldLen+1 < (cAt l (k+1)).Old:=⟨fun h=>h.2.resolve_left q,fun h=>⟨⟨h1,h2⟩,.inr h⟩⟩
     simp [h4,q2]
   exact B4 (F3 rfl rfl rfl) (by rw [h3])
 ·rw [hr] at hs
  refine FnOk.intro Tryz.func183 (by decide) Z Z Z Z ?_
  refine k2 (A2 (A7 Z Z (A4 ?_)));refine k1 (k2 (A2 (A3 Z Z (A3 Z Z (A6 (A8 Z (.pure _ _ _ _) Z (by omega) hv) Z (A6 (C8 Z Z) Z (A3 Z Z (A3 Z Z (C2 (hs) Z Z Z ?_)))))))));rintro _ rfl;refine A3 Z Z (F5 Z Z Z (F5 Z Z Z (F5 Z Z Z (F5 Z Z Z (A7 Z Z (A7 Z Z (A7 Z Z (A7 Z Z (A4 ?_)))))))));refine k1 (k2 (k2 (C5 (by kernel_rfl) (by kernel_rfl) (C3 Z Z (A9 (Y0 Z) Z Z (C3 Z Z (d7 Z Z (by decide) Z Z (d7 Z Z (by decide) Z Z (d7 Z Z (by decide) Z Z (d7 Z Z (by decide) Z Z (d7 Z Z (by decide) Z Z (d7 Z Z (by decide) Z Z (A9 (A67 Z (rfl) Z) Z Z (C3 Z Z (d7 Z Z (by decide) Z Z (d7 Z Z (by decide) Z Z (d7 Z Z (by decide) Z Z (d7 Z Z (by decide) Z Z (d7 Z Z (by decide) Z Z (d7 Z Z (by decide) Z Z (d7 Z Z (by decide) Z Z (d7 Z Z (by decide) Z Z (d7 Z Z (by decide) Z Z ?_)))))))))))))))))))))));refine d7 Z Z (by decide) Z Z (d7 Z Z (by decide) Z Z (A9 (A67 Z (rfl) Z) Z Z (G5 ?_)));refine k1 ?_;refine B3 rfl (fun ht=>?_) (fun ht=>?_)
  ·refine k2 (A2 (A7 Z Z (A4 ?_)));refine k1 (k10 (k11 ?_))
   exact B4 (F3 rfl rfl rfl) (by rw [hcd])
  ·cases ht
theorem H60 (l:List Change) (k:Nat) (hk:k < l.length) (hl:l.length≤32768) (h1:-4096≤(cAt l k).Old∧(cAt l k).Old≤4096) (h2:-4096≤(cAt l k).New∧(cAt l k).New≤4096) :
  FnOk Tryz.prog 184 [pChanges l,E5 k,E5 1] (fun rs=>rs=[pChanges (P8 l k)]):=by
 obtain ⟨c,hc⟩:∃c,c=cAt l k:=⟨_,rfl⟩
 have hv:l[k]?=some c:=by rw [hc];exact X9 hk
 rw [←hc] at h1 h2
 obtain ⟨c',hc'⟩:∃c':Change,c'={ c with Old:=c.Old+1 }:=⟨_,rfl⟩
 have hv':(l.set k c')[k]?=some c':=K29 hk
 have hfin:(l.set k c').set k ({ c' with New:=c'.New+1 }:Change)=P8 l k:=by
  rw [List.set_set];unfold P8;rw [←hc,hc'];rfl
 have hl':(l.set k c').length=l.length:=by simp
 refine FnOk.intro Tryz.func184 (by decide) Z Z Z Z ?_
 refine k2 (A2 (A7 Z Z (A4 ?_)));refine k1 (k2 (A2 (C0 (J19 5 _ changeC Z (by first | rfl | (simp [I1,J8,Ob.free,SV.free,S1.free,TC.free]<;>rfl))) Z ?_)));refine A3 Z Z (C0 (A65 Z Z Z (.pure _ _ _ _) (by (simp;omega)) Z) Z (A7 Z Z (A4 ?_)))
 simp only [K16]
 refine k1 (k2 (A2 (A3 Z Z (A3 Z Z (A3 Z Z (A3 Z Z (A6 (I3 Z Z Z (by omega) (by omega)) Z (A6 (I7 Z) Z (A6 (A29 Z Z hv Z) Z (A3 Z Z (C7 Z Z Z (A6 (I3 Z Z Z (by omega) (by omega)) Z (A6 (I7 Z) Z (E2 (d5 (({ c with Old:=c.Old+1 }:Change)) TySz.out Z Z hv Z Z Z Z (fun _ _ _ h=>l4 h) (by intro j h1 h2;rcases j with _ | _ | _ | _ | _ | _ | _ | j<;>first | rfl | omega)) ?_))))))))))))));refine A4 ?_
 rw [J97,←hc']
 refine k1 (k2 (A2 (A3 Z Z (A3 Z Z (A3 Z Z (A3 Z Z (A6 (I3 Z Z Z (by omega) (by (rw [hl'];omega))) Z ?_)))))));refine A6 (I7 Z) Z (A6 (A29 Z Z hv' Z) Z (A3 Z Z (A6 (L4 Z Z (by (rw [hc'];dsimp only;omega))) Z ?_)));refine A6 (I3 Z Z Z (by omega) (by (rw [hl'];omega))) Z ?_;refine A6 (I7 Z) Z (E2 (d5 (({ c' with New:=c'.New+1 }:Change)) TySz.out Z Z hv' Z Z Z Z (fun _ _ _ h=>l4 h) (by intro j h1 h2;rcases j with _ | _ | _ | _ | _ | _ | _ | j<;>first | rfl | omega)) ?_);refine A4 ?_
 rw [J97,hfin]
 refine k1 (k2 (G4 (J69 (t:=7) Z Z Z) ?_))
 refine A2 (A3 Z Z (A7 Z Z (A4 ?_)));refine k1 (k10 ?_)
 exact B4 (F3 rfl rfl rfl) rfl
theorem F68 {x y:List Str} {names:List Str} {l:List Change} (h:ScFit x y l):∀p∈M8 l ((F0 names x).length:Int),G12 (F0 names x) (F0 names y) p:=by
 intro p hp
 rw [show ((F0 names x).length:Int)=x.length by simp [F0]] at hp
 obtain ⟨h1,h2,v,h3,h4⟩:=h.pairs p hp
 refine ⟨h1,h2,J6 names v 0,?_,?_⟩
 ·unfold F0;rw [K15,h3];rfl
 ·unfold F0;rw [K15,h4];rfl
theorem H61 (x y names:List Str) (l:List Change) (h:ScFit x y l) (hl:l.length≤32768) (hx:∀s∈x,s∈names) (hy:∀s∈y,s∈names) :
  FnOk Tryz.prog 121 [pChanges l,M1 (F0 names x),M1 (F0 names y)] (fun rs=>rs=[pChanges (B52 l (F0 names x) (F0 names y)),E5 0]):=by
 obtain ⟨a,ha⟩:∃a,a=F0 names x:=⟨_,rfl⟩
 obtain ⟨b,hb⟩:∃b,b=F0 names y:=⟨_,rfl⟩
 have hpp:=F68 (names:=names) h
 have ia:IdsOf x a:=by rw [ha];exact A61 hx
 have ib:IdsOf y b:=by rw [hb];exact A61 hy
 rw [←ha,←hb] at hpp ⊢
 have hla:=ia.len
 have hlb:=ib.len
 have hxl:=h.lx
 have hyl:=h.ly
 have hck:=h.check
 rw [←hla,←hlb] at hck
 refine FnOk.intro Tryz.func121 (by decide) Z Z Z Z ?_
 refine k2 (A2 (A7 Z Z (A7 Z Z (A4 ?_))));refine k1 (k2 (k2 (A2 (A3 Z Z (A3 Z Z (A3 Z Z (C2 (I61 l a b hl hck hpp) Z Z Z ?_)))))));rintro _ rfl;refine L7 Z Z (A4 ?_);refine k1 ?_;refine B3 rfl (fun ht=>?_) (fun ht=>?_)
 ·cases ht
 refine k5 (k1 (k2 (k2 (A2 (A3 Z Z (D9 Z Z (A6 (I5 Z Z (by omega)) Z (A7 Z Z (A4 ?_)))))))));refine k1 (k3 (D1 (X:=Nat × List Change) (fun s=>([(0,C4 Change 4 changeC s.2),(1,C4 Int 1 H4 a),(2,C4 Int 1 H4 b),(8,B8 ((s.1:Int) - 1))],[])) (fun s=>s.1≤l.length∧s.2.length=l.length∧ScFit x y s.2∧y8 a b s.1 s.2=B52 l a b) (fun s=>s.1) (l.length,l) ⟨Nat.le_refl _,rfl,h,rfl⟩ (J58 ⟨le1 rfl,le1 rfl,le1 rfl,le1 rfl,trivial⟩ trivial) ?_))
 rintro ⟨n,l1⟩ ⟨hn,hl1,hf1,hs1⟩
 dsimp only at hn hl1 hf1 hs1 ⊢
 refine k2 (k2 (A2 (A3 Z Z (A6 (i8 Z Z) Z (A4 ?_)))));refine k1 ?_;refine B3 rfl (fun ht=>?_) (fun ht=>?_)
 ·have hn0:0 < n:=by have:=A0 ht;omega
  obtain ⟨k,rfl⟩:∃k,n=k+1:=⟨n - 1,by omega⟩
  rw [show ((k+1:Nat):Int) - 1=k by omega]
  refine k5 (k1 (k2 (k3 (k3 (D1 (X:=List Change) (fun l2=>([(0,C4 Change 4 changeC l2),(1,C4 Int 1 H4 a),(2,C4 Int 1 H4 b),(8,B8 k)],[])) (fun l2=>l2.length=l.length∧ScFit x y l2∧U1 a b l2 k=U1 a b l1 k) (fun l2=>A76 l2 a b k) l1 ⟨hl1,hf1,rfl⟩ (J58 ⟨le1 rfl,le1 rfl,le1 rfl,le1 rfl,trivial⟩ trivial) ?_)))))
  rintro l2 ⟨hl2,hf2,hs2⟩
  dsimp only at hl2 hf2 hs2 ⊢
  have hok2:=hf2.ok
  rw [←hla,←hlb] at hok2
  have hk2:k < l2.length:=by omega
  refine k2 (k2 (A2 (A3 Z Z (A3 Z Z (A3 Z Z (A3 Z Z (C2 (I63 l2 a b k hk2 (by omega) (by omega) (by omega) hok2) Z Z Z ?_)))))));rintro _ rfl;refine A4 ?_;refine k1 ?_;refine B3 rfl (fun ht=>?_) (fun ht=>?_)
  ·have hg:=hok2.get k hk2
   have hst:=C47 ia ib hf2 hk2 ht
   have hm:=A60 ia ib hf2 hk2 ht
   obtain ⟨⟨g1,g2⟩,_,⟨g3,g4⟩,_⟩:=hg
   refine k5 (k1 (k3 (A2 (A3 Z Z (A3 Z Z (C2 (H60 l2 k hk2 (by omega) ⟨by omega,g2⟩ ⟨by omega,g4⟩) Z Z Z ?_))))));rintro _ rfl;refine A7 Z Z (A4 ?_);refine k4 (k1 ?_)
   exact ⟨P8 l2 k,⟨by rw [O2];exact hl2,hf2.down ia ib hk2 ht,by rw [←hst];exact hs2⟩,hm,J58 ⟨le1 rfl,le1 rfl,le1 rfl,le1 rfl,trivial⟩ trivial⟩
  ·have hst:=C48 (a:=a) (b:=b) ht
   rw [hst] at hs2
   have hsl:y8 a b (k+1) l1=y8 a b k l2:=by rw [hs2];rfl
   rw [hsl] at hs1
   refine k6 (k7 (k7 (k8 Z (k4 (k1 (A2 (A3 Z Z (A6 (I5 Z Z (by omega)) Z (A7 Z Z (A4 ?_))))))))));refine k1 ?_
   exact ⟨(k,l2),⟨by dsimp only;omega,hl2,hf2,hs1⟩,by dsimp only;omega,J58 ⟨le1 rfl,le1 rfl,le1 rfl,le1 rfl,trivial⟩ trivial⟩
 ·have hn0:n=0:=by have:=A1 ht;omega
  subst hn0
  have hs1:l1=B52 l a b:=hs1
  refine k6 (k2 (A2 (C0 (s5 9 (c:=changeC) (ys:=[]) F1 Z Z Z (by first | rfl | (simp [I1,J8,Ob.free,SV.free,S1.free,TC.free]<;>rfl))) Z ?_)));refine A3 Z Z (C0 (F8 Z Z Z (.pure _ _ _ _) (by (simp;omega)) Z) Z (A7 Z Z (A7 Z Z (A4 ?_))))
  simp only [K16]
  refine k1 (k10 ?_)
  exact B4 (U7 rfl rfl rfl rfl rfl) (by rw [hs1])
abbrev tI (i:Int):S1:=.one (.p (.v (.int .i64 i)))
abbrev tIs (l:List Int):S1:=.one (.p (.list Int 1 H4 l))
abbrev tB (b:Bool):S1:=.one (.p (.v (.bool b)))
abbrev mvO (l:List Change) (a b:List Int):Obs:=[(700,.box [.mut 701,.p (.list Int 1 H4 a),.p (.list Int 1 H4 b)]),(701,.grow 146 Change 4 changeC l)]
def E67 (c:Change) (a b:List Int):List S1:=if c.NewLen=0 then [tIs a,tI c.Old,tI c.OldLen,tB true] else if c.OldLen=0 then [tIs b,tI c.New,tI c.NewLen,tB true] else [.one (.p (.v (.slice none 0 0))),tI 0,tI 0,tB false]
theorem E68 {gf:Fr} (l:List Change) (a b:List Int) (k:Nat) (c:Change) (hv:l[k]?=some c) :
  AL.Met Tryz.prog 239 [.one (.ref 700 0),tI k] gf (mvO l a b) [708] (fun rs ob'=>rs=E67 c a b∧ob'=mvO l a b):=by
 have hk:=(List.getElem?_eq_some_iff.1 hv).1
 refine AL.Met.intro Tryz.func239 (by decide) Z Z Z ?_
 refine k2 (A2 (A7 Z Z (A7 Z Z (A7 Z Z (A7 Z Z (A4 ?_))))));refine k1 (k2 (A2 (A3 Z Z (A6 (E8 Z) Z (A6 (A5 Z) Z (D3 Z Z Z Z (A3 Z Z (A6 (I3 Z Z Z (by omega) (by omega)) Z (A6 (I46 Z Z hv Z) Z (C0 (I06 708 Z (by decide)) Z (E2 (B6 TySz.out Z Z Z Z Z Z) (A4 ?_))))))))))));refine k1 (k2 (k3 (k2 (A2 (A6 (A5 Z) Z (D3 Z Z Z Z (A6 (J7 Z Z) Z (A7 Z Z (A4 ?_)))))))));refine k1 ?_;refine B3 rfl (fun ht=>?_) (fun ht=>?_)
 ·have h1:=A0 ht
  refine k2 (C5 (by kernel_rfl) (by kernel_rfl) (C3 Z Z (A9 (E8 Z) Z Z (A9 (A5 Z) Z Z (A9 (B2 Z Z Z) Z Z (A9 (A5 Z) Z Z (A9 (B2 Z Z Z) Z Z (A9 (A5 Z) Z Z (A9 (B2 Z Z Z) Z Z (A9 (E0 Z Z) Z Z (A9 (E0 Z Z) Z Z (A9 (E0 Z Z) Z Z (A9 (E0 Z Z) Z Z (G5 ?_))))))))))))));refine k1 (k10 (k12 (k11 ?_)))
  exact S7 (rets4 rfl rfl rfl rfl rfl) (by repeat (first | exact H2 | refine G8 rfl ?_ | refine J4 _ ?_)) (ObIn.spec (ob':=mvO l a b) ⟨rfl,rfl,trivial⟩) ⟨by unfold E67;rw [if_pos h1];rfl,rfl⟩
 ·have h1:=A1 ht
  refine k2 (A2 (A6 (A5 Z) Z (D3 Z Z Z Z (A6 (J7 Z Z) Z (A7 Z Z (A4 ?_))))));refine k1 ?_;refine B3 rfl (fun ht=>?_) (fun ht=>?_)
  ·have h2:=A0 ht
   refine k2 (C5 (by kernel_rfl) (by kernel_rfl) (C3 Z Z (A9 (E8 Z) Z Z (A9 (A5 Z) Z Z (A9 (B2 Z Z Z) Z Z (A9 (A5 Z) Z Z (A9 (B2 Z Z Z) Z Z (A9 (A5 Z) Z Z (A9 (B2 Z Z Z) Z Z (A9 (E0 Z Z) Z Z (A9 (E0 Z Z) Z Z (A9 (E0 Z Z) Z Z (A9 (E0 Z Z) Z Z (G5 ?_))))))))))))));refine k1 (k10 (k12 (k11 ?_)))
   exact S7 (rets4 rfl rfl rfl rfl rfl) (by repeat (first | exact H2 | refine G8 rfl ?_ | refine J4 _ ?_)) (ObIn.spec (ob':=mvO l a b) ⟨rfl,rfl,trivial⟩) ⟨by unfold E67;rw [if_neg h1,if_pos h2];rfl,rfl⟩
  ·have h2:=A1 ht
   refine k5 (k2 (A2 (A7 Z Z (A7 Z Z (A7 Z Z (A7 Z Z (A4 ?_)))))));refine k1 (k10 ?_)
   exact S7 (rets4 rfl rfl rfl rfl rfl) (by repeat (first | exact H2 | refine G8 rfl ?_ | refine J4 _ ?_)) (ObIn.spec (ob':=mvO l a b) ⟨rfl,rfl,trivial⟩) ⟨by unfold E67;rw [if_neg h1,if_neg h2],rfl⟩
theorem I22 {gf:Fr} (l:List Change) (a b:List Int) (k:Nat) (c:Change) (hv:l[k]?=some c) (h1:0≤c.Old∧c.Old≤4096) (h2:0≤c.OldLen∧c.OldLen≤4096) :
  AL.Met Tryz.prog 240 [.one (.ref 700 0),tI k] gf (mvO l a b) [] (fun rs ob'=>rs=[tI (c.Old+c.OldLen)]∧ob'=mvO l a b):=by
 have hk:=(List.getElem?_eq_some_iff.1 hv).1
 refine AL.Met.intro Tryz.func240 (by decide) Z Z Z ?_
 refine k2 (A2 (A7 Z Z (A4 ?_)));refine k1 (k2 (C5 (by kernel_rfl) (by kernel_rfl) (C3 Z Z (A9 (E8 Z) Z Z (A9 (A5 Z) Z Z (A9 (B2 Z Z Z) Z Z (C3 Z Z (A9 (I3 Z Z Z (by omega) (by omega)) Z Z (A9 (I7 Z) Z Z (A9 (A29 Z Z hv Z) Z Z (C3 Z Z (A9 (E8 Z) Z Z (A9 (A5 Z) Z Z (A9 (B2 Z Z Z) Z Z (C3 Z Z (A9 (I3 Z Z Z (by omega) (by omega)) Z Z (A9 (I7 Z) Z Z (A9 (A29 Z Z hv Z) Z Z (A9 (L4 Z Z (by omega)) Z Z (A9 (E0 Z Z) Z Z (G5 ?_)))))))))))))))))))));refine k1 (k10 ?_)
 exact S7 (A64 rfl rfl) (by repeat (first | exact H2 | refine G8 rfl ?_ | refine J4 _ ?_)) (ObIn.spec (ob':=mvO l a b) ⟨rfl,rfl,trivial⟩) ⟨rfl,rfl⟩
theorem I64 {gf:Fr} (l:List Change) (a b:List Int) (k:Nat) (hk:k < l.length) (hl:l.length≤32768) (ha:a.length≤4096) (hb:b.length≤4096) (hsc:K0 0 0 0 l a.length b.length=true) :
  AL.Met Tryz.prog 193 [.one (.ref 700 0),tI k] gf (mvO l a b) [708] (fun rs ob'=>rs=[tB (P9 l a b k)]∧ob'=mvO (if P9 l a b k=true then P8 l k else l) a b):=by
 have hok:=u9 _ _ _ _ _ _ hsc
 obtain ⟨c,hc⟩:∃c,c=cAt l k:=⟨_,rfl⟩
 have hv:l[k]?=some c:=by rw [hc];exact X9 hk
 have hg:=hok.get k hk
 rw [←hc] at hg
 obtain ⟨c1,c2,c3,c4,c5,c6⟩:=hg
 unfold H7 at c1 c2 c3 c4
 have hnx:k+1 < l.length→l[k+1]?=some (cAt l (k+1))∧0≤(cAt l (k+1)).Old∧(cAt l (k+1)).Old≤a.length:=fun h=>by
  have:=hok.get (k+1) h
  unfold H7 at this
  exact ⟨X9 h,this.1.1,by omega⟩
 have hnx':k+1 < l.length→l[((k:Int)+1).toNat]?=some (cAt l (k+1)):=fun h=>by
  rw [show ((k:Int)+1).toNat=k+1 by omega];exact X9 h
 obtain ⟨z,hz⟩:∃z:Int,z=if k+1 < l.length then (cAt l (k+1)).Old - (c.Old+c.OldLen) - 1 else a.length - (c.Old+c.OldLen):=⟨_,rfl⟩
 have hge:=E86 _ _ _ 0 0 0 hsc
 have hcase:(∃(t:List Int) (f n:Int),E67 c a b=[tIs t,tI f,tI n,tB true]∧P9 l a b k=decide (1≤z∧atI t f=atI t (f+n))∧t.length≤4096∧0≤f∧0≤n∧(1≤z→f+n < t.length))∨(E67 c a b=[.one (.p (.v (.slice none 0 0))),tI 0,tI 0,tB false]∧P9 l a b k=false):=by
  have hzr:(1≤z↔(k+1=l.length∨c.Old+c.OldLen+1 < (cAt l (k+1)).Old)∧c.Old+c.OldLen < a.length)∧(1≤z↔(k+1=l.length∨c.Old+c.OldLen+1 < (cAt l (k+1)).Old)∧c.New+c.NewLen < b.length):=by
   by_cases q:k+1 < l.length
   ·rw [if_pos q] at hz
    have g1:=hnx q
    have g2:=hok.get (k+1) q
    have g3:=A15 _ _ _ 0 0 0 hsc (k+1) q
    rw [A74,A75,←hc] at g3
    unfold H7 Z5 E85 at g3
    unfold H7 at g2
    omega
   ·rw [if_neg q] at hz
    have q2:l.length=k+1:=by omega
    rw [q2,A74,A75,←hc] at hge
    unfold Z5 E85 at hge
    omega
  unfold E67 P9
  rw [←hc]
  by_cases h1:c.NewLen=0
  ·rw [if_pos h1,if_pos h1]
   refine .inl ⟨_,_,_,rfl,?_,ha,c1.1,c2.1,fun h=>(hzr.1.1 h).2⟩
   have e:B62 l k a c.Old c.OldLen↔1≤z∧atI a c.Old=atI a (c.Old+c.OldLen):=by
    unfold B62
    rw [←hc,hzr.1]
    constructor
    ·rintro ⟨⟨q1,q2⟩,q3⟩;exact ⟨⟨q3,q1⟩,q2⟩
    ·rintro ⟨⟨q3,q1⟩,q2⟩;exact ⟨⟨q1,q2⟩,q3⟩
   simp only [e]
  ·rw [if_neg h1,if_neg h1]
   by_cases h2:c.OldLen=0
   ·rw [if_pos h2,if_pos h2]
    refine .inl ⟨_,_,_,rfl,?_,hb,c3.1,c4.1,fun h=>(hzr.2.1 h).2⟩
    have e:B62 l k b c.New c.NewLen↔1≤z∧atI b c.New=atI b (c.New+c.NewLen):=by
     unfold B62
     rw [←hc,hzr.2]
     constructor
     ·rintro ⟨⟨q1,q2⟩,q3⟩;exact ⟨⟨q3,q1⟩,q2⟩
     ·rintro ⟨⟨q3,q1⟩,q2⟩;exact ⟨⟨q1,q2⟩,q3⟩
    simp only [e]
   ·rw [if_neg h2,if_neg h2];exact .inr ⟨rfl,rfl⟩
 rcases hcase with ⟨t,f,n,hr,hcd,ht4,f0,n0,fn⟩ | ⟨hr,hcd⟩
 ·have hrm:=fun gf=>E68 (gf:=gf) l a b k c hv
  rw [hr] at hrm
  have hat:∀i:Int,0≤i→i < t.length→t[i.toNat]?=some (atI t i):=fun i h0 h1=>by
   unfold atI;rw [J91,J88 (show i.toNat < t.length by omega)];rfl
  refine AL.Met.introH Tryz.func193 (by decide) rfl rfl rfl (fun hH=>?_)
  refine k2 (A2 (A7 Z Z (A4 ?_)));refine k1 (k2 (A2 (A3 Z Z (A3 Z Z (A47 (hrm _) Z Z Z ?_)))));rintro _ _ ⟨rfl,rfl⟩;refine A3 Z Z (F5 Z Z Z (F5 Z Z Z (F5 Z Z Z (F5 Z Z Z (A7 Z Z (A7 Z Z (A7 Z Z (A7 Z Z (A4 ?_)))))))));refine k1 (k2 (k2 (A2 (A3 Z Z (L7 Z Z (A4 ?_))))));refine k1 ?_;refine B3 rfl (fun ht=>?_) (fun ht=>?_)
  ·cases ht
  refine k5 (k1 (k2 ?_));refine O9 ([(0,.s (.one (.ref 700 0))),(1,B8 k),(5,C4 Int 1 H4 t),(6,B8 f),(7,B8 n)]++Fr.forget 708 gf) (mvO l a b) (J63 ⟨le1 rfl,le1 rfl,le1 rfl,le1 rfl,le1 rfl,trivial⟩ (W6 hH) (by repeat (first | exact H2 | refine tail_drop rfl ?_ | refine G8 rfl ?_ | refine R9 _ ?_)) (ObIn.spec (ob':=mvO l a b) ⟨rfl,rfl,trivial⟩)) ?_
  refine x6 [7] [[],[7]] [(7,([],[]))] [(0,[]),(1,[]),(2,[]),(3,[]),(4,[]),(5,[]),(6,[]),(7,[]),(8,[7]),(9,[7])] [(0,[7]),(1,[7]),(2,[7]),(3,[7]),(4,[7])] (by kernel_rfl) (by kernel_rfl) (L1 Z Z (by kernel_rfl) Z Z (B5 Z Z) (L1 Z Z (by kernel_rfl) Z Z (E8 Z) (L1 Z Z (by kernel_rfl) Z Z (A5 Z) (L1 Z Z (by kernel_rfl) Z Z (B2 Z Z Z) (L1 Z Z (by kernel_rfl) Z Z (O8 Z (.pure _ _ _ _)) (L1 Z Z (by kernel_rfl) Z Z (B5 Z Z) (L1 Z Z (by kernel_rfl) Z Z (B5 Z Z) (B83 Z Z (by kernel_rfl) Z Z (I13 (fun gf=>I22 l a b k c hv c1 c2) Z Z) Z (L1 Z Z (by kernel_rfl) Z Z (I5 Z Z (by omega)) (L1 Z Z (by kernel_rfl) Z Z (E0 Z Z) ?_))))))))));refine G64 (by kernel_rfl) rfl ?_ ?_
  ·refine N6 Z Z (by kernel_rfl) Z Z (B5 Z Z) (N6 Z Z (by kernel_rfl) Z Z (E8 Z) (N6 Z Z (by kernel_rfl) Z Z (A5 Z) (N6 Z Z (by kernel_rfl) Z Z (B2 Z Z Z) (N6 Z Z (by kernel_rfl) Z Z (O8 Z (.pure _ _ _ _)) ?_))));exact G65
  refine J3 ?_
  refine O9 ([(0,.s (.one (.ref 700 0))),(1,B8 k),(5,C4 Int 1 H4 t),(6,B8 f),(7,B8 n),(9,B8 ((a.length:Int) - (c.Old+c.OldLen)))]++Fr.forget 708 gf) (mvO l a b) (J63 ⟨le1 rfl,le1 rfl,le1 rfl,le1 rfl,le1 rfl,le1 rfl,trivial⟩ (W6 hH) (by repeat (first | exact H2 | refine tail_drop rfl ?_ | refine G8 rfl ?_ | refine R9 _ ?_)) (ObIn.spec (ob':=mvO l a b) ⟨rfl,rfl,trivial⟩)) ?_
  refine n9 ([(0,.s (.one (.ref 700 0))),(1,B8 k),(5,C4 Int 1 H4 t),(6,B8 f),(7,B8 n),(9,B8 z)]++Fr.forget 708 gf) (mvO l a b) ?_ ?_
  ·refine k2 (A2 (A3 Z Z (C7 Z Z Z (A3 Z Z (A6 (E8 Z) Z (A6 (A5 Z) Z (D3 Z Z Z Z (A6 (C95 Z Z) Z (E1 Z Z Z (A4 ?_))))))))));refine k1 ?_;refine B3 rfl (fun ht=>?_) (fun ht=>?_)
   ·have h1:k+1 < l.length:=by have:=A0 ht;omega
    have hn1:=hnx h1
    rw [if_pos h1] at hz
    skip
    refine x6 [11] [[],[11]] [(11,([],[]))] [(0,[]),(1,[]),(2,[]),(3,[]),(4,[]),(5,[]),(6,[]),(7,[]),(8,[]),(9,[]),(10,[]),(11,[]),(12,[11]),(13,[11]),(14,[11])] [(0,[11]),(1,[11]),(2,[11]),(3,[11]),(4,[11]),(5,[11]),(6,[11]),(7,[11]),(8,[11])] (by kernel_rfl) (by kernel_rfl) (L1 Z Z (by kernel_rfl) Z Z (B5 Z Z) (L1 Z Z (by kernel_rfl) Z Z (E8 Z) (L1 Z Z (by kernel_rfl) Z Z (A5 Z) (L1 Z Z (by kernel_rfl) Z Z (B2 Z Z Z) (L1 Z Z (by kernel_rfl) Z Z (B5 Z Z) (L1 Z Z (by kernel_rfl) Z Z (L4 Z Z (by omega)) (L1 Z Z (by kernel_rfl) Z Z (I3 Z Z Z (by omega) (by omega)) (L1 Z Z (by kernel_rfl) Z Z (I7 Z) (L1 Z Z (by kernel_rfl) Z Z (A29 Z Z (hnx' h1) Z) (L1 Z Z (by kernel_rfl) Z Z (B5 Z Z) (L1 Z Z (by kernel_rfl) Z Z (B5 Z Z) (B83 Z Z (by kernel_rfl) Z Z (I13 (fun gf=>I22 l a b k c hv c1 c2) Z Z) Z (L1 Z Z (by kernel_rfl) Z Z (I5 Z Z (by omega)) (L1 Z Z (by kernel_rfl) Z Z (I5 Z Z (by omega)) (L1 Z Z (by kernel_rfl) Z Z (E0 Z Z) ?_)))))))))))))));refine G64 (by kernel_rfl) rfl ?_ ?_
    ·refine N6 Z Z (by kernel_rfl) Z Z (B5 Z Z) (N6 Z Z (by kernel_rfl) Z Z (E8 Z) (N6 Z Z (by kernel_rfl) Z Z (A5 Z) (N6 Z Z (by kernel_rfl) Z Z (B2 Z Z Z) (N6 Z Z (by kernel_rfl) Z Z (B5 Z Z) (N6 Z Z (by kernel_rfl) Z Z (L4 Z Z (by omega)) (N6 Z Z (by kernel_rfl) Z Z (I3 Z Z Z (by omega) (by omega)) (N6 Z Z (by kernel_rfl) Z Z (I7 Z) (N6 Z Z (by kernel_rfl) Z Z (A29 Z Z (hnx' h1) Z) ?_))))))));exact G65
    refine k1 ?_
    rw [hz]
    exact (J63 ⟨le1 rfl,le1 rfl,le1 rfl,le1 rfl,le1 rfl,le1 rfl,trivial⟩ (W6 hH) (by repeat (first | exact H2 | refine tail_drop rfl ?_ | refine G8 rfl ?_ | refine R9 _ ?_)) (ObIn.spec (ob':=mvO l a b) ⟨rfl,rfl,trivial⟩))
   ·have h1:¬k+1 < l.length:=by have:=A1 ht;omega
    rw [if_neg h1] at hz
    refine k5 (k1 ?_)
    rw [hz]
    exact (J63 ⟨le1 rfl,le1 rfl,le1 rfl,le1 rfl,le1 rfl,le1 rfl,trivial⟩ (W6 hH) (by repeat (first | exact H2 | refine tail_drop rfl ?_ | refine G8 rfl ?_ | refine R9 _ ?_)) (ObIn.spec (ob':=mvO l a b) ⟨rfl,rfl,trivial⟩))
  ·refine k2 (k2 (C5 (by kernel_rfl) (by kernel_rfl) (C3 Z Z (A9 (Y4 Z Z) Z Z (C3 Z Z (B9 Z Z (fun hg=>by rw [hg];exact B5 Z Z) Z Z ?_))))));refine B9 Z Z (fun hg=>by rw [hg];exact B5 Z Z) Z Z ?_;refine B9 Z Z (fun hg=>by have hq:=hg;(try simp at hq);rw [hg];exact A8 Z (.pure _ _ _ _) Z (by omega) (hat f f0 (by have:=fn (by omega);omega))) Z Z ?_;refine B9 Z Z (fun hg=>by rw [hg];exact B1 Z Z) Z Z ?_;refine B9 Z Z (fun hg=>by rw [hg];exact B5 Z Z) Z Z ?_;refine B9 Z Z (fun hg=>by rw [hg];exact B5 Z Z) Z Z ?_;refine B9 Z Z (fun hg=>by rw [hg];exact B5 Z Z) Z Z ?_;refine B9 Z Z (fun hg=>by have hq:=hg;(try simp at hq);rw [hg];exact L4 Z Z (by omega)) Z Z ?_;refine B9 Z Z (fun hg=>by have hq:=hg;(try simp at hq);rw [hg];exact A8 Z (.pure _ _ _ _) Z (by omega) (hat (f+n) (by omega) (by have:=fn (by omega);omega))) Z Z ?_;refine B9 Z Z (fun hg=>by rw [hg];exact B1 Z Z) Z Z ?_;refine B9 Z Z (fun hg=>by rw [hg];exact H9 Z Z) Z Z ?_;refine A9 (G7 Z (fun h=>by first | rfl | (rw [h];rfl)) (fun h=>by first | rfl | (rw [h];rfl))) Z Z ?_;refine G5 ?_;refine k1 ?_;refine B3 rfl (fun ht=>?_) (fun ht=>?_)
   ·have h1:¬(1≤z∧atI t f=atI t (f+n)):=by
     rintro ⟨q1,q2⟩
     simp [q2] at ht
     omega
    rw [hcd,decide_eq_false h1]
    refine k2 (A2 (A7 Z Z (A4 ?_)));refine k1 (k10 (k11 ?_))
    exact S7 (A64 rfl rfl) (by repeat (first | exact H2 | refine G8 rfl ?_ | refine J4 _ ?_)) (ObIn.spec (ob':=mvO l a b) ⟨rfl,rfl,trivial⟩) ⟨rfl,rfl⟩
   ·have h1:1≤z:=Classical.byContradiction fun q=>by simp [show z < 1 by omega] at ht
    have h2:atI t f=atI t (f+n):=Classical.byContradiction fun q=>by simp [q] at ht
    rw [hcd,decide_eq_true (show 1≤z∧atI t f=atI t (f+n) from ⟨h1,h2⟩)]
    rw [if_pos rfl]
    obtain ⟨c',hc'⟩:∃c':Change,c'={ c with Old:=c.Old+1 }:=⟨_,rfl⟩
    have hv':(l.set k c')[k]?=some c':=K29 hk
    have hfin:(l.set k c').set k ({ c' with New:=c'.New+1 }:Change)=P8 l k:=by
     rw [List.set_set];unfold P8;rw [←hc,hc'];rfl
    have hl':(l.set k c').length=l.length:=by simp
    refine k5 (k1 (k2 (A2 (A3 Z Z (A6 (E8 Z) Z (A6 (A5 Z) Z (D3 Z Z Z Z (A3 Z Z (A6 (I3 Z Z Z (by omega) (by omega)) Z (A6 (I7 Z) Z (A6 (A29 Z Z hv Z) Z (C7 Z Z Z (A6 (I3 Z Z Z (by omega) (by omega)) Z (A6 (I7 Z) Z (E2 (d5 (({ c with Old:=c.Old+1 }:Change)) TySz.out Z Z hv Z Z Z Z (fun _ _ _ h=>l4 h) (by intro j h1 h2;rcases j with _ | _ | _ | _ | _ | _ | _ | j<;>first | rfl | omega)) ?_)))))))))))))));refine A4 ?_
    rw [J97,←hc']
    refine k1 (k2 (A2 (A3 Z Z (A6 (E8 Z) Z (A6 (A5 Z) Z (D3 Z Z Z Z (A3 Z Z (A6 (I3 Z Z Z (by omega) (by (rw [hl'];omega))) Z ?_))))))));refine A6 (I7 Z) Z (A6 (A29 Z Z hv' Z) Z (A6 (L4 Z Z (by (rw [hc'];dsimp only;omega))) Z ?_));refine A6 (I3 Z Z Z (by omega) (by (rw [hl'];omega))) Z ?_;refine A6 (I7 Z) Z (E2 (d5 (({ c' with New:=c'.New+1 }:Change)) TySz.out Z Z hv' Z Z Z Z (fun _ _ _ h=>l4 h) (by intro j h1 h2;rcases j with _ | _ | _ | _ | _ | _ | _ | j<;>first | rfl | omega)) ?_);refine A4 ?_
    rw [J97,hfin]
    refine k1 (k2 (A2 (A7 Z Z (A4 ?_))));refine k1 (k10 ?_)
    exact S7 (A64 rfl rfl) (by repeat (first | exact H2 | refine G8 rfl ?_ | refine J4 _ ?_)) (ObIn.spec (ob':=mvO (P8 l k) a b) ⟨rfl,rfl,trivial⟩) ⟨rfl,rfl⟩
 ·have hrm:=fun gf=>E68 (gf:=gf) l a b k c hv
  rw [hr] at hrm
  rw [hcd]
  refine AL.Met.intro Tryz.func193 (by decide) Z Z Z ?_
  refine k2 (A2 (A7 Z Z (A4 ?_)));refine k1 (k2 (A2 (A3 Z Z (A3 Z Z (A47 (hrm _) Z Z Z ?_)))));rintro _ _ ⟨rfl,rfl⟩;refine A3 Z Z (F5 Z Z Z (F5 Z Z Z (F5 Z Z Z (F5 Z Z Z (A7 Z Z (A7 Z Z (A7 Z Z (A7 Z Z (A4 ?_)))))))));refine k1 (k2 (k2 (A2 (A3 Z Z (L7 Z Z (A4 ?_))))));refine k1 ?_;refine B3 rfl (fun ht=>?_) (fun ht=>?_)
  ·refine k2 (A2 (A7 Z Z (A4 ?_)));refine k1 (k10 (k11 ?_))
   exact S7 (A64 rfl rfl) (by repeat (first | exact H2 | refine G8 rfl ?_ | refine J4 _ ?_)) (ObIn.spec (ob':=mvO l a b) ⟨rfl,rfl,trivial⟩) ⟨rfl,rfl⟩
  ·cases ht
theorem I65 {gf:Fr} {x y:List Str} {a b:List Int} (ia:IdsOf x a) (ib:IdsOf y b) (l:List Change) (k:Nat) (hk:k < l.length) (hl:l.length≤32768) (h:ScFit x y l) :
  AL.Met Tryz.prog 192 [.one (.clo 193 [(700,0)] []),tI k] gf (mvO l a b) [708] (fun rs ob'=>(∃n:Int,rs=[tI n])∧ob'=mvO (U1 a b l k) a b):=by
 have hla:=ia.len
 have hlb:=ib.len
 have hxl:=h.lx
 have hyl:=h.ly
 refine AL.Met.introH Tryz.func192 (by decide) rfl rfl rfl (fun hH=>?_)
 refine k2 (A2 (A7 Z Z (A4 ?_)));refine k1 (k2 (A2 (A7 Z Z (A4 ?_))));refine k1 (k2 (k3 ?_));refine G4 (J78 708 (l:=[(0,.s (.one (.clo 193 [(700,0)] []))),(1,B8 k),(5,B8 0)]) (L:=mvO l a b) ⟨le1 rfl,le1 rfl,le1 rfl,trivial⟩ hH (by repeat (first | exact H2 | refine G8 rfl ?_)) ⟨rfl,rfl,trivial⟩) ?_
 refine D1 (X:=Nat × List Change) (fun s=>([(0,.s (.one (.clo 193 [(700,0)] []))),(1,B8 k),(5,B8 s.1)]++Fr.forget 708 gf,mvO s.2 a b)) (fun s=>s.2.length=l.length∧ScFit x y s.2∧U1 a b s.2 k=U1 a b l k∧s.1+A76 s.2 a b k≤A76 l a b k) (fun s=>A76 s.2 a b k) (0,l) ⟨rfl,h,rfl,by dsimp only;omega⟩ (J63 ⟨le1 rfl,le1 rfl,le1 rfl,trivial⟩ (W6 hH) (by repeat (first | exact H2 | refine G8 rfl ?_)) (ObIn.spec (ob':=mvO l a b) ⟨rfl,rfl,trivial⟩)) ?_
 rintro ⟨n,l2⟩ ⟨hl2,hf2,hs2,hn⟩
 dsimp only at hl2 hf2 hs2 hn ⊢
 have hsc:=hf2.sc
 rw [←hla,←hlb] at hsc
 have hml:A76 l a b k≤16384:=by
  have:=(u9 _ _ _ _ _ _ h.sc).get k hk
  unfold A76
  obtain ⟨⟨q1,_⟩,_,⟨q2,_⟩,_⟩:=this
  omega
 refine k2 (k2 (A2 (A3 Z Z (A3 Z Z (E48 (I64 l2 a b k (by omega) (by omega) (by omega) (by omega) hsc) Z Z Z Z ?_)))));rintro _ _ ⟨rfl,rfl⟩;refine A4 ?_;refine k1 ?_;refine B3 rfl (fun ht=>?_) (fun ht=>?_)
 ·have hm:=A60 ia ib hf2 (by omega) ht
  have hst:=C47 ia ib hf2 (by omega) ht
  rw [if_pos ht]
  refine k5 (k1 (k3 (A2 (A3 Z Z (C7 Z Z Z (A7 Z Z (A4 ?_)))))));refine k4 (k1 ?_);refine ⟨(n+1,P8 l2 k),⟨by dsimp only;rw [O2];exact hl2,hf2.down ia ib (by omega) ht,by dsimp only;rw [←hst];exact hs2,by dsimp only;omega⟩,hm,?_⟩
  exact J63 ⟨le1 rfl,le1 rfl,le1 rfl,trivial⟩ (W6 hH) (by repeat (first | exact H2 | refine tail_drop rfl ?_ | refine G8 rfl ?_ | refine R9 _ ?_)) (ObIn.spec (ob':=mvO (P8 l2 k) a b) ⟨rfl,rfl,trivial⟩)
 ·have hst:=C48 (a:=a) (b:=b) ht
  rw [hst] at hs2
  have hif:(if P9 l2 a b k=true then P8 l2 k else l2)=U1 a b l k:=by rw [←hs2,if_neg (by rw [ht];decide)]
  rw [hif]
  refine k6 (k2 (A2 (A3 Z Z (A7 Z Z (A4 ?_)))));refine k1 (k10 ?_)
  exact S7 (A64 rfl rfl) (by repeat (first | exact H2 | refine G8 rfl ?_ | refine R9 _ ?_)) (ObIn.spec (ob':=mvO (U1 a b l k) a b) ⟨rfl,rfl,trivial⟩) ⟨⟨_,rfl⟩,rfl⟩
theorem I66 {gf:Fr} (l:List Change) (hl:l.length≤1073741824) :
  AL.Met Tryz.prog 238 [.one (.p (.list Change 4 changeC l))] gf [] [701] (fun rs ob'=>rs=[.one (.mut 701)]∧ob'=[(701,.grow 146 Change 4 changeC l)]):=by
 refine AL.Met.intro Tryz.func238 (by decide) Z Z Z ?_
 refine k2 (A2 (A7 Z Z (A4 ?_)));refine k1 (k2 (k2 (A2 (A3 Z Z ?_))));(first | (refine D35 (C13 rfl (.pure _ _ _ _)) rfl ?_) | (refine D35 (C13 rfl (.buf _ _ _ _ _)) rfl ?_));rintro _ ⟨b1,rfl,hnil⟩;refine A4 ?_;refine k1 ?_;refine B3 rfl (fun ht=>?_) (fun ht=>?_)
 ·rw [hnil ht]
  refine k2 (A2 (C0 (J20 701 _ changeC Z Z) Z (A4 ?_)));refine k1 (k10 (k11 ?_))
  exact S7 (A64 rfl rfl) (by repeat (first | exact H2 | refine G8 rfl ?_ | refine J4 _ ?_)) (fun _ _ h=>h) ⟨rfl,rfl⟩
 ·refine k5 (k1 (k2 (A2 (C0 (J21 701 _ changeC Z Z Z) Z (A3 Z Z (C0 (A65 Z Z Z (.pure _ _ _ _) (by (simp;omega)) Z) Z (A7 Z Z (A4 ?_))))))))
  simp only [K16]
  refine k1 (k10 ?_)
  exact S7 (A64 rfl rfl) (by (repeat refine G8 rfl ?_);refine R9 _ ?_;(repeat refine G8 rfl ?_);refine J4 _ ?_;(repeat (first | exact H2 | refine G8 rfl ?_))) (ObIn.spec (ob':=[(701,.grow 146 Change 4 changeC l)]) ⟨rfl,trivial⟩) ⟨rfl,rfl⟩
theorem I67 {gf:Fr} (l:List Change) (a b:List Int) (hl:l.length≤32768) (hc:T9 l a.length b.length=0) (hp:∀p∈M8 l a.length,G12 a b p) :
  AL.Met Tryz.prog 191 [.one (.p (.list Change 4 changeC l)),tIs a,tIs b] gf [] [701,700] (fun rs ob'=>rs=[.one (.ref 700 0),tI 0]∧ob'=mvO l a b):=by
 refine AL.Met.intro Tryz.func191 (by decide) Z Z Z ?_
 refine k2 (A2 (A7 Z Z (A7 Z Z (A4 ?_))));refine k1 (k2 (k2 (A2 (A3 Z Z (A3 Z Z (A3 Z Z (C2 (J31 l a b hl hc hp) Z Z Z ?_)))))));rintro _ rfl;refine L7 Z Z (A4 ?_);refine k1 ?_;refine B3 rfl (fun ht=>?_) (fun ht=>?_)
 ·cases ht
 refine k5 (k1 (k2 (A2 (A3 Z Z (A47 (I66 l (by omega)) Z Z Z ?_)))));rintro _ _ ⟨rfl,rfl⟩;refine A3 Z Z (A3 Z Z (A6 (E6 Z) Z (C0 (e_box 700 Z Z Z (by decide)) Z (A7 Z Z (A7 Z Z (A4 ?_))))));refine k1 (k10 ?_)
 exact S7 (rets2 rfl rfl rfl) (by repeat (first | exact H2 | refine G8 rfl ?_ | refine J4 _ ?_)) (ObIn.spec (ob':=mvO l a b) ⟨rfl,rfl,trivial⟩) ⟨rfl,rfl⟩
theorem J32 (x y names:List Str) (l:List Change) (h:ScFit x y l) (hl:l.length≤32768) (hx:∀s∈x,s∈names) (hy:∀s∈y,s∈names) :
  FnOk Tryz.prog 131 [pChanges l,M1 (F0 names x),M1 (F0 names y)] (fun rs=>rs=[pChanges (B52 l (F0 names x) (F0 names y)),E5 0]):=by
 obtain ⟨a,ha⟩:∃a,a=F0 names x:=⟨_,rfl⟩
 obtain ⟨b,hb⟩:∃b,b=F0 names y:=⟨_,rfl⟩
 have hpp:=F68 (names:=names) h
 have ia:IdsOf x a:=by rw [ha];exact A61 hx
 have ib:IdsOf y b:=by rw [hb];exact A61 hy
 rw [←ha,←hb] at hpp ⊢
 have hla:=ia.len
 have hlb:=ib.len
 have hck:=h.check
 rw [←hla,←hlb] at hck
 refine FnOk.intro Tryz.func131 (by decide) Z Z Z Z ?_
 refine k2 (A2 (A7 Z Z (A7 Z Z (A4 ?_))));refine k1 (k2 (A2 (A3 Z Z (A3 Z Z (A3 Z Z (A47 (I67 l a b hl hck hpp) Z Z Z ?_))))));rintro _ _ ⟨rfl,rfl⟩;refine A3 Z Z (F5 Z Z Z (F5 Z Z Z (A7 Z Z (A7 Z Z (A4 ?_)))));refine k1 (k2 (k2 (A2 (A3 Z Z (A6 (H9 Z Z) Z (A4 ?_))))));refine k1 ?_;refine B3 rfl (fun ht=>?_) (fun ht=>?_)
 ·cases ht
 refine k5 (k1 (k2 (k2 (A2 (A3 Z Z (D9 Z Z (A6 (I5 Z Z (by omega)) Z (A7 Z Z (A4 ?_)))))))));refine k1 (k3 (D1 (X:=Nat × List Change) (fun s=>([(8,.s (.one (.ref 700 0))),(10,B8 ((s.1:Int) - 1))],mvO s.2 a b)) (fun s=>s.1≤l.length∧s.2.length=l.length∧ScFit x y s.2∧y8 a b s.1 s.2=B52 l a b) (fun s=>s.1) (l.length,l) ⟨Nat.le_refl _,rfl,h,rfl⟩ (J58 ⟨le1 rfl,le1 rfl,trivial⟩ ⟨rfl,rfl,trivial⟩) ?_))
 rintro ⟨n,l1⟩ ⟨hn,hl1,hf1,hs1⟩
 dsimp only at hn hl1 hf1 hs1 ⊢
 refine k2 (k2 (A2 (A3 Z Z (A6 (i8 Z Z) Z (A4 ?_)))));refine k1 ?_;refine B3 rfl (fun ht=>?_) (fun ht=>?_)
 ·have hn0:0 < n:=by have:=A0 ht;omega
  obtain ⟨k,rfl⟩:∃k,n=k+1:=⟨n - 1,by omega⟩
  rw [show ((k+1:Nat):Int) - 1=k by omega]
  have hfit:=D27 ia ib hf1 (k:=k) (by omega)
  have hlen:=F01 hfit.2
  refine k5 (k1 (k2 (k3 (A2 (A3 Z Z (A6 (C56 Z Z) Z (A3 Z Z (A47 (I65 ia ib l1 k (by omega) (by omega) hf1) Z Z Z ?_))))))));rintro _ _ ⟨⟨cnt,rfl⟩,rfl⟩;refine A4 ?_;refine k4 (k1 (A2 (A3 Z Z (A6 (I5 Z Z (by omega)) Z (A7 Z Z (A4 ?_))))));refine k1 ?_
  exact ⟨(k,U1 a b l1 k),⟨by dsimp only;omega,by dsimp only;omega,hfit.1,hs1⟩,by dsimp only;omega,J58 ⟨le1 rfl,le1 rfl,trivial⟩ ⟨rfl,rfl,trivial⟩⟩
 ·have hn0:n=0:=by have:=A1 ht;omega
  subst hn0
  have hs1:l1=B52 l a b:=hs1
  refine k6 (k2 (A2 (A3 Z Z (A6 (E8 Z) Z (A6 (A5 Z) Z (D3 Z Z Z Z (A7 Z Z (A7 Z Z (A4 ?_)))))))));refine k1 (G4 (J69 (t:=6) Z Z Z) ?_)
  refine k10 ?_
  exact B4 (U7 rfl rfl rfl rfl rfl) (by rw [hs1])
set_option maxHeartbeats 1000000
theorem I68 (on nn a b:Str) (ctx:Int) (d:Bool) (ha:Few a) (hb:Few b) :
  FnOk Tryz.prog 75 [L6 on,L6 nn,L6 a,L6 b,E5 ctx,I8 d] (fun rs=>rs=[pPatch (A77 on nn a b ctx d).1,E5 (A77 on nn a b ctx d).2]):=by
 obtain ⟨x,hx⟩:∃x,x=D5 a:=⟨_,rfl⟩
 obtain ⟨y,hy⟩:∃y,y=D5 b:=⟨_,rfl⟩
 obtain ⟨f1,f2⟩:=A16 a
 obtain ⟨f3,f4⟩:=A16 b
 rw [←hx] at f1 f2
 rw [←hy] at f3 f4
 have hsa:=A92 ha
 have hsb:=A92 hb
 have ha0:=ha
 have hb0:=hb
 obtain ⟨ha,ha2⟩:=ha
 obtain ⟨hb,hb2⟩:=hb
 rw [←hx] at hsa ha2
 rw [←hy] at hsb hb2
 have hxm:∀s∈x,s∈D2 [x,y]:=fun s hs=>W8 _ _ x (by simp) hs
 have hym:∀s∈y,s∈D2 [x,y]:=fun s hs=>W8 _ _ y (by simp) hs
 have i1:(F0 (D2 [x,y]) x).length=x.length:=by simp [F0]
 have i2:(F0 (D2 [x,y]) y).length=y.length:=by simp [F0]
 have hs0:=C76 x y (by omega) (by omega)
 have hs0l:=B44 x y
 have hdf:=(A91 x y d (by omega) (by omega)).1
 have hdl:=E01 x y d (by omega) (by omega)
 obtain ⟨l,hl⟩:∃l,l=B53 x y d:=⟨_,rfl⟩
 rw [←hl] at hdf hdl
 have hmk:A77 on nn a b ctx d=if J1 on=false∨J1 nn=false then (O7,120) else if ctx < 0∨1048576 < ctx then (O7,3) else (⟨on,nn,Q6 l x y ctx⟩,0):=by rw [hl,hx,hy];rfl
 refine FnOk.intro Tryz.func75 (by decide) Z Z Z Z ?_
 refine k2 (A2 (C0 (F4 12 Z) Z (A7 Z Z (A4 ?_))));refine k1 (k2 (k2 (A2 (A3 Z Z (C2 (F66 on) Z Z Z ?_)))));rintro _ rfl;refine L7 Z Z (A3 Z Z (B0 Z Z Z Z (fun hg=>by rw [hg];exact B5 Z Z) ?_));refine B0 Z Z Z Z (fun hg=>by have hq:=hg;(try simp at hq);rw [hg];exact E3 (F66 nn) Z Z) ?_;refine B0 Z Z Z Z (fun hg=>by rw [hg];exact Y0 Z) ?_;refine F2 Z Z ?_;refine A4 ?_;refine k1 ?_;refine B3 rfl (fun ht=>?_) (fun ht=>?_)
 ·simp only [F25,or_pick] at ht
  have h:=A0 ht
  refine k2 (A2 (A6 (E6 Z) Z (E2 (B6 TySz.out Z Z Z Z Z Z) (A7 Z Z (A4 ?_)))));refine k1 (G4 (J59 PatchHunk 3 phunkC 12 2 Z Z) ?_)
  refine k10 (k11 ?_)
  exact B4 (rs:=[pPatch O7,E5 120]) (O5 rfl rfl rfl rfl rfl rfl rfl) (by rw [hmk,if_pos h])
 simp only [F25,or_pick] at ht
 have h:=A1 ht
 rw [if_neg h] at hmk
 have hn1:J1 on=true:=by cases q:J1 on<;>simp [q] at h ⊢
 have hn2:J1 nn=true:=by cases q:J1 nn<;>simp [q] at h ⊢
 refine k5 (k1 (k2 (A2 (A3 Z Z (C2 (F64 a (by omega)) Z Z Z ?_)))));rintro _ rfl;refine A3 Z Z (F5 Z Z Z (F5 Z Z Z (A7 Z Z (A7 Z Z (A4 ?_)))))
 rw [hsa]
 refine k1 (k2 (k2 (A2 (A3 Z Z (A6 (H9 Z Z) Z (A4 ?_))))));refine k1 ?_;refine B3 rfl (fun ht=>?_) (fun ht=>?_)
 ·cases ht
 refine k5 (k1 (k2 (A2 (A3 Z Z (C2 (F64 b (by omega)) Z Z Z ?_)))));rintro _ rfl;refine A3 Z Z (F5 Z Z Z (F5 Z Z Z (A7 Z Z (A7 Z Z (A4 ?_)))))
 rw [hsb]
 refine k1 (k2 (k2 (A2 (A3 Z Z (A6 (H9 Z Z) Z (A4 ?_))))));refine k1 ?_;refine B3 rfl (fun ht=>?_) (fun ht=>?_)
 ·cases ht
 refine k5 (k1 (k2 (A2 (A3 Z Z (A3 Z Z (A6 (C9 (c:=strsC) (ys:=[x,y]) (D8 Z Z Z Z (D8 Z Z Z Z F1)) Z Z Z) Z (C2 (G11 [x,y] (by simp) (by simp;omega)) Z Z Z ?_)))))));rintro _ rfl;refine A7 Z Z (A4 ?_);refine k1 (k2 (C5 (by kernel_rfl) (by kernel_rfl) (C3 Z Z (A9 (A8 Z (.pure _ _ _ _) Z (by omega) (show ([x,y].map (F0 (D2 [x,y])))[(0:Int).toNat]?=some (F0 (D2 [x,y]) x) from Z)) Z Z (A9 (B1 Z Z) Z Z (C3 Z Z (A9 (A8 Z (.pure _ _ _ _) Z (by omega) (show ([x,y].map (F0 (D2 [x,y])))[(1:Int).toNat]?=some (F0 (D2 [x,y]) y) from Z)) Z Z (A9 (B1 Z Z) Z Z (A9 (E3 (H55 (F0 (D2 [x,y]) x) (F0 (D2 [x,y]) y) (by omega) (by omega)) Z Z) Z Z (C3 Z Z (A9 (O4 Z Z) Z Z (A9 (O4 Z Z) Z Z (A9 (E0 Z Z) Z Z (A9 (E0 Z Z) Z Z (G5 ?_)))))))))))))))
 rw [show V7 (F0 (D2 [x,y]) x) (F0 (D2 [x,y]) y)=Q8 x y from rfl]
 refine J3 ?_
 refine O9 [(0,U3 on),(1,U3 nn),(4,B8 ctx),(5,K4 (.bool d)),(12,.s (.one (.ref 12 0))),(14,C4 Str 1 I0 x),(16,C4 Str 1 I0 y),(17,C4 (List Int) 1 intsC ([x,y].map (F0 (D2 [x,y])))),(18,C4 Change 4 changeC (Q8 x y))] [(12,.box [.p (.v (.string ⟨#[]⟩)),.p (.v (.string ⟨#[]⟩)),.p (.v (.slice none 0 0))])] (J58 ⟨le1 rfl,le1 rfl,le1 rfl,le1 rfl,le1 rfl,le1 rfl,le1 rfl,le1 rfl,le1 rfl,trivial⟩ ⟨rfl,trivial⟩) ?_
 refine n9 [(0,U3 on),(1,U3 nn),(4,B8 ctx),(12,.s (.one (.ref 12 0))),(14,C4 Str 1 I0 x),(16,C4 Str 1 I0 y),(18,C4 Change 4 changeC l)] [(12,.box [.p (.v (.string ⟨#[]⟩)),.p (.v (.string ⟨#[]⟩)),.p (.v (.slice none 0 0))])] ?_ ?_
 ·refine k2 (A2 (A3 Z Z (A4 ?_)));refine k1 ?_;refine B3 rfl (fun ht=>?_) (fun ht=>?_)
  ·have hd:d=true:=ht
   have hl2:l=B52 (Q8 x y) (F0 (D2 [x,y]) x) (F0 (D2 [x,y]) y):=by rw [hl,hd];rfl
   skip
   refine C5 (by kernel_rfl) (by kernel_rfl) (C3 Z Z (C3 Z Z (A9 (A8 Z (.pure _ _ _ _) Z (by omega) (show ([x,y].map (F0 (D2 [x,y])))[(0:Int).toNat]?=some (F0 (D2 [x,y]) x) from Z)) Z Z (A9 (B1 Z Z) Z Z (C3 Z Z (A9 (A8 Z (.pure _ _ _ _) Z (by omega) (show ([x,y].map (F0 (D2 [x,y])))[(1:Int).toNat]?=some (F0 (D2 [x,y]) y) from Z)) Z Z (A9 (B1 Z Z) Z Z (A9 (E3 (J32 x y (D2 [x,y]) (Q8 x y) hs0 (by omega) hxm hym) Z Z) Z Z (C3 Z Z (A9 (O4 Z Z) Z Z (A9 (O4 Z Z) Z Z (A9 (E0 Z Z) Z Z (G5 ?_)))))))))))))
   rw [←hl2]
   refine k1 ?_
   exact J58 ⟨le1 rfl,le1 rfl,le1 rfl,le1 rfl,le1 rfl,le1 rfl,le1 rfl,trivial⟩ ⟨rfl,trivial⟩
  ·have hd:d=false:=ht
   have hl2:l=Q8 x y:=by rw [hl,hd];rfl
   rw [←hl2]
   refine k5 (k1 ?_)
   exact J58 ⟨le1 rfl,le1 rfl,le1 rfl,le1 rfl,le1 rfl,le1 rfl,le1 rfl,trivial⟩ ⟨rfl,trivial⟩
 refine k2 (A2 (A3 Z Z (A3 Z Z (D9 Z Z (A3 Z Z (D9 Z Z (A3 Z Z (C2 (I56 l x.length y.length ctx (by omega)) Z Z Z ?_))))))));rintro _ rfl;refine A3 Z Z (F5 Z Z Z (F5 Z Z Z (A7 Z Z (A7 Z Z (A4 ?_)))));refine k1 (k2 (k2 ?_))
 by_cases hcx:ctx < 0∨1048576 < ctx
 ·rw [F85 hcx]
  refine A2 (A3 Z Z (A6 (H9 Z Z) Z (A4 ?_)));refine k1 ?_;refine B3 rfl (fun ht=>?_) (fun ht=>?_)
  ·refine k2 (A2 (A6 (E6 Z) Z (A3 Z Z (E2 (B6 TySz.out Z Z Z Z Z Z) (A7 Z Z (A4 ?_))))));refine k1 (G4 (J59 PatchHunk 3 phunkC 12 2 Z Z) ?_)
   refine k10 (k11 ?_)
   exact B4 (rs:=[pPatch O7,E5 3]) (O5 rfl rfl rfl rfl rfl rfl rfl) (by rw [hmk,if_pos hcx])
  ·cases ht
 rw [F86 hdf hcx]
 rw [if_neg hcx] at hmk
 have hmd:=C78 on nn a b l ctx hn1 hn2 hcx ha0 hb0 (by rw [←hx,←hy];exact hdf)
 have hgo:=C74 hdf.ok (by omega) (ctx:=ctx) l.length (Nat.le_refl _)
 have hgl:=(m6 l x.length ctx l.length).1
 have hho:Q6 l x y ctx=(H5 l x.length ctx l.length).map (K1 l x y):=rfl
 obtain ⟨g,hg⟩:∃g,g=H5 l x.length ctx l.length:=⟨_,rfl⟩
 rw [←hg] at hgo hgl hho ⊢
 refine A2 (A3 Z Z (A6 (H9 Z Z) Z (A4 ?_)));refine k1 ?_;refine B3 rfl (fun ht=>?_) (fun ht=>?_)
 ·cases ht
 refine k5 (k1 (k2 (A2 (A3 Z Z (A3 Z Z (A6 (E6 Z) Z (C0 (F4 21 Z) Z (E2 (B6 TySz.out Z Z Z Z Z Z) (A4 ?_)))))))));refine O9 [(12,.s (.one (.ref 12 0))),(14,C4 Str 1 I0 x),(16,C4 Str 1 I0 y),(18,C4 Change 4 changeC l),(20,C4 Hunk 6 hunkC g),(21,.s (.one (.ref 21 0)))] [(12,.box [.p (.v (.string ⟨#[]⟩)),.p (.v (.string ⟨#[]⟩)),.p (.v (.slice none 0 0))]),(21,.box [.p (.v (.string ⟨on.toArray⟩)),.p (.v (.string ⟨nn.toArray⟩)),.p (.v (.slice none 0 0))])] (J58 ⟨le1 rfl,le1 rfl,le1 rfl,le1 rfl,le1 rfl,le1 rfl,trivial⟩ ⟨rfl,rfl,trivial⟩) ?_
 refine G4 (J61 702 PatchHunk 3 phunkC 29 (kb:=21) (o:=2) Z Z Z) ?_
 refine k2 (k2 (A2 (A3 Z Z (D9 Z Z (A3 Z Z (A4 ?_))))));refine k1 (k3 (D1 (X:=Nat) (fun k=>([(12,.s (.one (.ref 12 0))),(14,C4 Str 1 I0 x),(16,C4 Str 1 I0 y),(18,C4 Change 4 changeC l),(21,.s (.one (.ref 21 0))),(94,C4 Hunk 6 hunkC g),(95,B8 g.length),(96,B8 k)],[(12,.box [.p (.v (.string ⟨#[]⟩)),.p (.v (.string ⟨#[]⟩)),.p (.v (.slice none 0 0))]),(21,.box [.p (.v (.string ⟨on.toArray⟩)),.p (.v (.string ⟨nn.toArray⟩)),.buf 702 PatchHunk 3 phunkC ((g.take k).map (K1 l x y))]),(702,.spare ((g.take k).map (K1 l x y)).length 3 29)])) (fun k=>k≤g.length) (fun k=>g.length - k) 0 (Nat.zero_le _) (J58 ⟨le1 rfl,le1 rfl,le1 rfl,le1 rfl,le1 rfl,le1 rfl,le1 rfl,le1 rfl,trivial⟩ ⟨rfl,rfl,rfl,trivial⟩) ?_))
 intro k hk
 dsimp only at hk ⊢
 refine k2 (A2 (E1 Z Z Z (A4 ?_)));refine k1 (k2 ?_);refine B3 rfl (fun ht=>?_) (fun ht=>?_)
 ·have hlt:k < g.length:=by have:=A0 ht;omega
  obtain ⟨q,hqe⟩:∃q,q=g[k]:=⟨_,rfl⟩
  have hv:g[k]?=some q:=by rw [hqe];simp [hlt]
  have hq:=hgo _ (K02 hv)
  have htk:(g.take (k+1)).map (K1 l x y)=(g.take k).map (K1 l x y)++[K1 l x y q]:=by rw [J93 hlt,K00,hqe];rfl
  obtain ⟨hs,hhs⟩:∃hs,hs=(g.take k).map (K1 l x y):=⟨_,rfl⟩
  have hhl:hs.length=k:=by rw [hhs,K13,K03];omega
  rw [←hhs] at htk ⊢
  obtain ⟨z,hz⟩:∃z,z=K1 l x y q:=⟨_,rfl⟩
  refine k5 (k1 (k2 (k3 (k2 (A2 (A6 (A8 Z (.pure _ _ _ _) Z (by omega) hv) Z (A6 (C8 Z Z) Z (C0 (F4 23 Z) Z (E2 (B6 TySz.out Z Z Z Z Z Z) (A4 ?_))))))))));refine k1 (C5 (by kernel_rfl) (by kernel_rfl) (A9 (A5 Z) Z Z (A9 (B2 Z Z Z) Z Z (A9 (C6 Z Z Z) Z Z (C3 Z Z (C3 Z Z (C3 Z Z (A9 (E3 (I57 l x y q hdf.ok hq (by omega) (by omega) (by omega)) Z Z) Z Z (A9 (C9 (c:=phunkC) (ys:=[K1 l x y q]) (D8 Z Z Z Z F1) Z Z Z) Z Z (A96 (F8 Z Z Z (.pure _ _ _ _) (by (simp only [J87,J89];omega)) Z) Z Z (A9 (A5 Z) Z Z (o6 (B6 TySz.out Z Z Z Z Z Z) Z (G5 ?_)))))))))))))
  rw [←htk]
  refine k4 (k1 (A2 (C7 Z Z Z (A3 Z Z (A4 ?_)))));refine k1 ?_
  exact ⟨k+1,hlt,by omega,J58 ⟨le1 rfl,le1 rfl,le1 rfl,le1 rfl,le1 rfl,le1 rfl,le1 rfl,le1 rfl,trivial⟩ ⟨rfl,rfl,rfl,trivial⟩⟩
 ·have hk':k=g.length:=by have:=A1 ht;omega
  subst hk'
  rw [J98,←hho]
  have hfit:=hmd.fit
  have hrg:=hmd.rg
  have hwr:=hmd.wr
  rw [←hx,←hy] at hfit hrg hwr
  refine k6 (k2 (k2 (A2 (A6 (C6 Z Z Z) Z (C2 (J28 ⟨on,nn,Q6 l x y ctx⟩ hfit hrg) Z Z Z ?_)))));rintro _ rfl;refine A6 (K9 Z Z) Z (A4 ?_);refine k1 ?_;refine B3 rfl (fun ht=>?_) (fun ht=>?_)
  ·have h4:=A0 ht
   exact absurd h4 (by omega)
  ·refine k5 (k1 (k2 (A2 (A6 (C6 Z Z Z) Z (E2 (B6 TySz.out Z Z Z Z Z Z) (A7 Z Z (A4 ?_)))))));refine k1 (k10 ?_)
   exact B4 (rs:=[pPatch ⟨on,nn,Q6 l x y ctx⟩,E5 0]) (O5 rfl rfl rfl rfl rfl rfl rfl) (by rw [hmk])
set_option maxHeartbeats 1000000
theorem H62 (on nn a b:Str) (ctx:Int) (d:Bool) (ha:Few a) (hb:Few b) :
  FnOk Tryz.prog 63 [L6 on,L6 nn,L6 a,L6 b,E5 ctx,I8 d] (fun rs=>rs=[pPatch (A77 on nn a b ctx d).1,E5 (A77 on nn a b ctx d).2]):=by
 obtain ⟨x,hx⟩:∃x,x=D5 a:=⟨_,rfl⟩
 obtain ⟨y,hy⟩:∃y,y=D5 b:=⟨_,rfl⟩
 obtain ⟨f1,f2⟩:=A16 a
 obtain ⟨f3,f4⟩:=A16 b
 rw [←hx] at f1 f2
 rw [←hy] at f3 f4
 have hsa:=A92 ha
 have hsb:=A92 hb
 have ha0:=ha
 have hb0:=hb
 obtain ⟨ha,ha2⟩:=ha
 obtain ⟨hb,hb2⟩:=hb
 rw [←hx] at hsa ha2
 rw [←hy] at hsb hb2
 have hxm:∀s∈x,s∈D2 [x,y]:=fun s hs=>W8 _ _ x (by simp) hs
 have hym:∀s∈y,s∈D2 [x,y]:=fun s hs=>W8 _ _ y (by simp) hs
 have i1:(F0 (D2 [x,y]) x).length=x.length:=by simp [F0]
 have i2:(F0 (D2 [x,y]) y).length=y.length:=by simp [F0]
 have hs0:=C76 x y (by omega) (by omega)
 have hs0l:=B44 x y
 have hdf:=(A91 x y d (by omega) (by omega)).1
 have hdl:=E01 x y d (by omega) (by omega)
 obtain ⟨l,hl⟩:∃l,l=B53 x y d:=⟨_,rfl⟩
 rw [←hl] at hdf hdl
 have hmk:A77 on nn a b ctx d=if J1 on=false∨J1 nn=false then (O7,120) else if ctx < 0∨1048576 < ctx then (O7,3) else (⟨on,nn,Q6 l x y ctx⟩,0):=by rw [hl,hx,hy];rfl
 have hxl:x.length≤4096:=by omega
 have hyl:y.length≤4096:=by omega
 refine FnOk.intro Tryz.func63 (by decide) Z Z Z Z ?_
 refine k2 (A2 (C0 (F4 12 Z) Z (A7 Z Z (A4 ?_))));refine k1 (k2 (k2 (A2 (A3 Z Z (C2 (A31 on) Z Z Z ?_)))));rintro _ rfl;refine L7 Z Z (A3 Z Z (B0 Z Z Z Z (fun hg=>by rw [hg];exact B5 Z Z) ?_));refine B0 Z Z Z Z (fun hg=>by have hq:=hg;(try simp at hq);rw [hg];exact E3 (A31 nn) Z Z) ?_;refine B0 Z Z Z Z (fun hg=>by rw [hg];exact Y0 Z) ?_;refine F2 Z Z ?_;refine A4 ?_;refine k1 ?_;refine B3 rfl (fun ht=>?_) (fun ht=>?_)
 ·simp only [F25,or_pick] at ht
  have h:=A0 ht
  refine k2 (A2 (A6 (E6 Z) Z (E2 (B6 TySz.out Z Z Z Z Z Z) (A7 Z Z (A4 ?_)))));refine k1 (G4 (J59 PatchHunk 3 phunkC 12 2 Z Z) ?_)
  refine k10 (k11 ?_)
  exact B4 (rs:=[pPatch O7,E5 120]) (O5 rfl rfl rfl rfl rfl rfl rfl) (by rw [hmk,if_pos h])
 simp only [F25,or_pick] at ht
 have h:=A1 ht
 rw [if_neg h] at hmk
 have hn1:J1 on=true:=by cases q:J1 on<;>simp [q] at h ⊢
 have hn2:J1 nn=true:=by cases q:J1 nn<;>simp [q] at h ⊢
 refine k5 (k1 (k2 (A2 (A3 Z Z (C2 (F65 a (by omega)) Z Z Z ?_)))));rintro _ rfl;refine A3 Z Z (F5 Z Z Z (F5 Z Z Z (A7 Z Z (A7 Z Z (A4 ?_)))))
 rw [hsa]
 refine k1 (k2 (k2 (A2 (A3 Z Z (A6 (H9 Z Z) Z (A4 ?_))))));refine k1 ?_;refine B3 rfl (fun ht=>?_) (fun ht=>?_)
 ·cases ht
 refine k5 (k1 (k2 (A2 (A3 Z Z (C2 (F65 b (by omega)) Z Z Z ?_)))));rintro _ rfl;refine A3 Z Z (F5 Z Z Z (F5 Z Z Z (A7 Z Z (A7 Z Z (A4 ?_)))))
 rw [hsb]
 refine k1 (k2 (k2 (A2 (A3 Z Z (A6 (H9 Z Z) Z (A4 ?_))))));refine k1 ?_;refine B3 rfl (fun ht=>?_) (fun ht=>?_)
 ·cases ht
 refine k5 (k1 (k2 (A2 (A3 Z Z (A3 Z Z (C2 (H54 x y hxl hyl) Z Z Z ?_))))));rintro _ rfl;refine A7 Z Z (A4 ?_)
 rw [show V7 (F0 (D2 [x,y]) x) (F0 (D2 [x,y]) y)=Q8 x y from rfl]
 refine J3 ?_
 refine O9 [(0,U3 on),(1,U3 nn),(4,B8 ctx),(5,K4 (.bool d)),(12,.s (.one (.ref 12 0))),(14,C4 Str 1 I0 x),(16,C4 Str 1 I0 y),(17,C4 Change 4 changeC (Q8 x y))] [(12,.box [.p (.v (.string ⟨#[]⟩)),.p (.v (.string ⟨#[]⟩)),.p (.v (.slice none 0 0))])] (J58 ⟨le1 rfl,le1 rfl,le1 rfl,le1 rfl,le1 rfl,le1 rfl,le1 rfl,le1 rfl,trivial⟩ ⟨rfl,trivial⟩) ?_
 refine n9 [(0,U3 on),(1,U3 nn),(4,B8 ctx),(12,.s (.one (.ref 12 0))),(14,C4 Str 1 I0 x),(16,C4 Str 1 I0 y),(17,C4 Change 4 changeC l)] [(12,.box [.p (.v (.string ⟨#[]⟩)),.p (.v (.string ⟨#[]⟩)),.p (.v (.slice none 0 0))])] ?_ ?_
 ·refine k2 (A2 (A3 Z Z (A4 ?_)));refine k1 ?_;refine B3 rfl (fun ht=>?_) (fun ht=>?_)
  ·have hd:d=true:=ht
   have hl2:l=B52 (Q8 x y) (F0 (D2 [x,y]) x) (F0 (D2 [x,y]) y):=by rw [hl,hd];rfl
   refine k2 (A2 (A3 Z Z (A3 Z Z (A6 (C9 (c:=strsC) (ys:=[x,y]) (D8 Z Z Z Z (D8 Z Z Z Z F1)) Z Z Z) Z (C2 (H51 [x,y] (by simp;omega) (by simp)) Z Z Z ?_)))));rintro _ rfl;refine A7 Z Z (A4 ?_);refine k1 (C5 (by kernel_rfl) (by kernel_rfl) (C3 Z Z (C3 Z Z (A9 (A8 Z (.pure _ _ _ _) Z (by omega) (show ([x,y].map (F0 (D2 [x,y])))[(0:Int).toNat]?=some (F0 (D2 [x,y]) x) from Z)) Z Z (A9 (B1 Z Z) Z Z (C3 Z Z (A9 (A8 Z (.pure _ _ _ _) Z (by omega) (show ([x,y].map (F0 (D2 [x,y])))[(1:Int).toNat]?=some (F0 (D2 [x,y]) y) from Z)) Z Z (A9 (B1 Z Z) Z Z (A9 (E3 (H61 x y (D2 [x,y]) (Q8 x y) hs0 (by omega) hxm hym) Z Z) Z Z (C3 Z Z (A9 (O4 Z Z) Z Z (A9 (O4 Z Z) Z Z (A9 (E0 Z Z) Z Z (G5 ?_))))))))))))))
   rw [←hl2]
   refine k1 ?_
   exact J58 ⟨le1 rfl,le1 rfl,le1 rfl,le1 rfl,le1 rfl,le1 rfl,le1 rfl,trivial⟩ ⟨rfl,trivial⟩
  ·have hd:d=false:=ht
   have hl2:l=Q8 x y:=by rw [hl,hd];rfl
   rw [←hl2]
   refine k5 (k1 ?_)
   exact J58 ⟨le1 rfl,le1 rfl,le1 rfl,le1 rfl,le1 rfl,le1 rfl,le1 rfl,trivial⟩ ⟨rfl,trivial⟩
 refine k2 (A2 (A3 Z Z (A3 Z Z (D9 Z Z (A3 Z Z (D9 Z Z (A3 Z Z (C2 (H53 l x.length y.length ctx (by omega)) Z Z Z ?_))))))));rintro _ rfl;refine A3 Z Z (F5 Z Z Z (F5 Z Z Z (A7 Z Z (A7 Z Z (A4 ?_)))));refine k1 (k2 (k2 ?_))
 by_cases hcx:ctx < 0∨1048576 < ctx
 ·rw [F85 hcx]
  refine A2 (A3 Z Z (A6 (H9 Z Z) Z (A4 ?_)));refine k1 ?_;refine B3 rfl (fun ht=>?_) (fun ht=>?_)
  ·refine k2 (A2 (A6 (E6 Z) Z (A3 Z Z (E2 (B6 TySz.out Z Z Z Z Z Z) (A7 Z Z (A4 ?_))))));refine k1 (G4 (J59 PatchHunk 3 phunkC 12 2 Z Z) ?_)
   refine k10 (k11 ?_)
   exact B4 (rs:=[pPatch O7,E5 3]) (O5 rfl rfl rfl rfl rfl rfl rfl) (by rw [hmk,if_pos hcx])
  ·cases ht
 rw [F86 hdf hcx]
 rw [if_neg hcx] at hmk
 have hmd:=C78 on nn a b l ctx hn1 hn2 hcx ha0 hb0 (by rw [←hx,←hy];exact hdf)
 have hsc:=hdf.ok
 have hgo:=C74 hdf.ok (by omega) (ctx:=ctx) l.length (Nat.le_refl _)
 have hgl:=(m6 l x.length ctx l.length).1
 have hho:Q6 l x y ctx=(H5 l x.length ctx l.length).map (K1 l x y):=rfl
 obtain ⟨g,hg⟩:∃g,g=H5 l x.length ctx l.length:=⟨_,rfl⟩
 have hscl:=hdl
 rw [←hg] at hgo hgl hho ⊢
 refine A2 (A3 Z Z (A6 (H9 Z Z) Z (A4 ?_)));refine k1 ?_;refine B3 rfl (fun ht=>?_) (fun ht=>?_)
 ·cases ht
 refine O9 [(0,U3 on),(1,U3 nn),(12,.s (.one (.ref 12 0))),(14,C4 Str 1 I0 x),(16,C4 Str 1 I0 y),(17,C4 Change 4 changeC l),(19,C4 Hunk 6 hunkC g)] [(12,.box [.p (.v (.string ⟨#[]⟩)),.p (.v (.string ⟨#[]⟩)),.p (.v (.slice none 0 0))])] (J58 ⟨le1 rfl,le1 rfl,le1 rfl,le1 rfl,le1 rfl,le1 rfl,le1 rfl,trivial⟩ ⟨rfl,trivial⟩) ?_
 refine k5 (k1 (k2 (A2 (A3 Z Z (A3 Z Z (A6 (E6 Z) Z (C0 (F4 20 Z) Z (E2 (B6 TySz.out Z Z Z Z Z Z) (A4 ?_)))))))));refine k1 (k2 (k2 (G4 (J61 702 PatchHunk 3 phunkC 29 (kb:=20) (o:=2) Z Z Z) ?_)))
 skip
 refine A2 (A7 Z Z (A4 ?_));refine k1 (k3 (D1 (X:=Nat) (fun k=>([(12,.s (.one (.ref 12 0))),(14,C4 Str 1 I0 x),(16,C4 Str 1 I0 y),(17,C4 Change 4 changeC l),(19,C4 Hunk 6 hunkC g),(20,.s (.one (.ref 20 0))),(21,B8 k)],[(12,.box [.p (.v (.string ⟨#[]⟩)),.p (.v (.string ⟨#[]⟩)),.p (.v (.slice none 0 0))]),(20,.box [.p (.v (.string ⟨on.toArray⟩)),.p (.v (.string ⟨nn.toArray⟩)),.buf 702 PatchHunk 3 phunkC ((g.take k).map (K1 l x y))]),(702,.spare (((g.take k).map (K1 l x y))).length 3 29)])) (fun k=>k≤g.length) (fun k=>g.length - k) 0 (Nat.zero_le _) (J58 ⟨le1 rfl,le1 rfl,le1 rfl,le1 rfl,le1 rfl,le1 rfl,le1 rfl,trivial⟩ ⟨rfl,rfl,rfl,trivial⟩) ?_))
 intro k hk
 dsimp only at hk ⊢
 refine k2 (k2 (A2 (A3 Z Z (A3 Z Z (D9 Z Z (E1 Z Z Z (A4 ?_)))))));refine k1 ?_;refine B3 rfl (fun ht=>?_) (fun ht=>?_)
 ·have hlt:k < g.length:=by have:=A0 ht;omega
  have hv:g[k]?=some g[k]:=by simp [hlt]
  have hq:=hgo _ (J96 hlt)
  have htk:(g.take (k+1)).map (K1 l x y)=(g.take k).map (K1 l x y)++[K1 l x y g[k]]:=by rw [J93 hlt,K00];rfl
  obtain ⟨q,hqe⟩:∃q,q=g[k]:=⟨_,rfl⟩
  rw [←hqe] at hv hq htk
  obtain ⟨hs,hhs⟩:∃hs,hs=(g.take k).map (K1 l x y):=⟨_,rfl⟩
  have hhl:hs.length=k:=by rw [hhs,K13,K03];omega
  rw [←hhs] at htk ⊢
  obtain ⟨a,b,q1,q2,q3,q4,q5,q6,q7,q8,q9,q10⟩:=hq
  have hgb:=hsc.get b q4
  refine k5 (k1 (k2 (k3 (k2 (E42 13 22 (by kernel_rfl) (by kernel_rfl) Z Z Z (B11 (B5 Z Z) Z (B5 Z Z) (B11 (B5 Z Z) Z (B5 Z Z) (B11 (A8 Z (.pure _ _ _ _) Z (by omega) hv) Z (A8 Z (.pure _ _ _ _) Z (by omega) hv) (B11 (C1 Z) Z (C1 Z) (B11 (C1 Z) Z (C1 Z) (B11 (B1 Z Z) Z (B1 Z Z) (B11 (B5 Z Z) Z (B5 Z Z) (B11 (B5 Z Z) Z (B5 Z Z) (B11 (A8 Z (.pure _ _ _ _) Z (by omega) hv) Z (A8 Z (.pure _ _ _ _) Z (by omega) hv) (B11 (C1 Z) Z (C1 Z) (B11 (C1 Z) Z (C1 Z) (B11 (B1 Z Z) Z (B1 Z Z) (B11 (E6 Z) Z (E6 Z) (b_nil Z (o6 (B6 TySz.out Z Z Z Z Z Z) Z (G5 ?_)))))))))))))))))))));refine k1 (k2 (G4 (J61 701 PatchLine 2 plineC 36 (kb:=22) (o:=2) Z Z Z) ?_))
  refine A2 (A6 (A5 Z) Z (D3 Z Z Z Z (A7 Z Z (A4 ?_))));refine k1 (k2 (k2 (A2 (A3 Z Z (A3 Z Z (A6 (A8 Z (.pure _ _ _ _) Z (by omega) hv) Z (A6 (C1 Z) Z (A6 (B1 Z Z) Z (A7 Z Z (A4 ?_))))))))));refine k1 (k3 ?_);refine D1 (X:=Nat) (fun t=>([(12,.s (.one (.ref 12 0))),(14,C4 Str 1 I0 x),(16,C4 Str 1 I0 y),(17,C4 Change 4 changeC l),(19,C4 Hunk 6 hunkC g),(20,.s (.one (.ref 20 0))),(21,B8 k),(22,.s (.one (.ref 22 0))),(23,B8 (W9 l q.Old.From a t)),(24,B8 ((a+t:Nat):Int))],[(12,.box [.p (.v (.string ⟨#[]⟩)),.p (.v (.string ⟨#[]⟩)),.p (.v (.slice none 0 0))]),(20,.box [.p (.v (.string ⟨on.toArray⟩)),.p (.v (.string ⟨nn.toArray⟩)),.buf 702 PatchHunk 3 phunkC hs]),(702,.spare (hs).length 3 29),(22,.box [.p (.v (.int .i64 q.Old.From)),.p (.v (.int .i64 q.New.From)),.buf 701 PatchLine 2 plineC (R5 l x y q.Old.From a t)]),(701,.spare (R5 l x y q.Old.From a t).length 2 36)])) (fun t=>a+t≤b+1) (fun t=>b+1 - (a+t)) 0 (by omega) ?_ ?_
  ·have e1:W9 l q.Old.From a 0=q.Old.From:=if_pos rfl
   rw [e1,show ((a+0:Nat):Int)=q.First by rw [q1];simp]
   exact J58 ⟨le1 rfl,le1 rfl,le1 rfl,le1 rfl,le1 rfl,le1 rfl,le1 rfl,le1 rfl,le1 rfl,le1 rfl,trivial⟩ ⟨rfl,rfl,rfl,rfl,rfl,trivial⟩
  intro t hat
  dsimp only at hat ⊢
  have hml:=E84 l x y q.Old.From a t
  have hml2:(R5 l x y q.Old.From a t).length≤4097*12288:=Nat.le_trans hml (Nat.mul_le_mul (by omega) (by omega))
  refine k2 (k2 (A2 (A3 Z Z (A3 Z Z (A3 Z Z (A6 (A8 Z (.pure _ _ _ _) Z (by omega) hv) Z (A6 (C1 Z) Z (A6 (B1 Z Z) Z (E1 Z Z Z (A4 ?_))))))))));refine k1 ?_;refine B3 rfl (fun ht=>?_) (fun ht=>?_)
  ·have hlt2:a+t≤b:=by have:((a+t:Nat):Int) < q.Last:=A0 ht;omega
   obtain ⟨c,hc⟩:∃c,c=cAt l (a+t):=⟨_,rfl⟩
   have hcv:l[((a+t:Nat):Int).toNat]?=some c:=by rw [hc];exact X9 (by omega)
   have hgc:=hsc.get (a+t) (by omega)
   rw [←hc] at hgc
   obtain ⟨⟨g1,g2⟩,⟨g3,g4⟩,⟨g5,g6⟩,⟨g7,g8⟩,g9,g10⟩:=hgc
   obtain ⟨i0,hi0⟩:∃i0,i0=W9 l q.Old.From a t:=⟨_,rfl⟩
   have hpos:0≤i0∧i0≤c.Old:=by
    rw [hi0,hc];unfold W9 Z5
    split
    ·rename_i h0;subst h0;exact ⟨q5,q6⟩
    ·have h4:=hsc.next (a+t - 1) (by omega)
     have h5:=hsc.get (a+t - 1) (by omega)
     rw [show a+t - 1+1=a+t by omega] at h4
     unfold H7 at h5;omega
   obtain ⟨ls,hls⟩:∃ls,ls=R5 l x y q.Old.From a t:=⟨_,rfl⟩
   obtain ⟨p1,hp1⟩:∃p1,p1=P0 32 (sub x i0 c.Old):=⟨_,rfl⟩
   obtain ⟨p2,hp2⟩:∃p2,p2=P0 45 (sub x c.Old (Z5 c)):=⟨_,rfl⟩
   obtain ⟨p3,hp3⟩:∃p3,p3=P0 43 (sub y c.New (c.New+c.NewLen)):=⟨_,rfl⟩
   have hsucc:R5 l x y q.Old.From a (t+1)=ls++p1++p2++p3:=by rw [hls,hp1,hp2,hp3,hi0,hc];rfl
   have hps:W9 l q.Old.From a (t+1)=Z5 c:=by rw [C75,hc]
   have l1:=y7 x i0 c.Old
   have l2:=y7 x c.Old (Z5 c)
   have l3:=y7 y c.New (c.New+c.NewLen)
   have m1:p1.length=(sub x i0 c.Old).length:=by rw [hp1,A14]
   have m2:p2.length=(sub x c.Old (Z5 c)).length:=by rw [hp2,A14]
   have hend:Z5 c=c.Old+c.OldLen:=rfl
   rw [←hls] at hml2 ⊢
   rw [←hi0]
   refine k5 (k1 (k2 (k3 (k2 (M3 10 (by kernel_rfl) (by kernel_rfl) Z (A9 (A5 Z) Z Z (A9 (B2 Z Z Z) Z Z (C3 Z Z (C3 Z Z (C3 Z Z (C3 Z Z (A9 (A8 Z (.pure _ _ _ _) Z (by omega) hcv) Z Z (A9 (C1 Z) Z Z (A9 (B1 Z Z) Z Z (A9 (T6 Z (.pure _ _ _ _) Z Z (by omega) (by omega) (by omega)) Z Z (G5 ?_))))))))))))))));refine j9 (D04 ls 32 (sub x i0 c.Old) Z (by omega)) Z Z Z ?_;rintro _ _ ⟨rfl,rfl⟩;refine ⟨_,rfl,?_⟩;refine A9 (A5 Z) Z Z (o6 (B6 TySz.out Z Z Z Z Z Z) Z (G5 ?_))
   rw [←hp1]
   refine k1 (k2 (C5 (by kernel_rfl) (by kernel_rfl) (C3 Z Z (C3 Z Z (A9 (A8 Z (.pure _ _ _ _) Z (by omega) hcv) Z Z (A9 (C1 Z) Z Z (A9 (B1 Z Z) Z Z (C3 Z Z (C3 Z Z (A9 (A8 Z (.pure _ _ _ _) Z (by omega) hcv) Z Z (A9 (C1 Z) Z Z (A9 (B1 Z Z) Z Z (A9 (L4 Z Z (by omega)) Z Z (A9 (E0 Z Z) Z Z (G5 ?_)))))))))))))))
   rw [show c.Old+c.OldLen=Z5 c from rfl]
   refine k1 (k2 (M3 10 (by kernel_rfl) (by kernel_rfl) Z (A9 (A5 Z) Z Z (A9 (B2 Z Z Z) Z Z (C3 Z Z (C3 Z Z (C3 Z Z (A9 (A8 Z (.pure _ _ _ _) Z (by omega) hcv) Z Z (A9 (C1 Z) Z Z (A9 (B1 Z Z) Z Z (C3 Z Z (A9 (T6 Z (.pure _ _ _ _) Z Z (by omega) (by omega) (by omega)) Z Z (G5 ?_)))))))))))));refine j9 (D04 (ls++p1) 45 (sub x c.Old (Z5 c)) Z (by simp only [J86];omega)) Z Z Z ?_;rintro _ _ ⟨rfl,rfl⟩;refine ⟨_,rfl,?_⟩;refine A9 (A5 Z) Z Z (o6 (B6 TySz.out Z Z Z Z Z Z) Z (G5 ?_))
   rw [←hp2]
   refine k1 (M3 20 (by kernel_rfl) (by kernel_rfl) Z (A9 (A5 Z) Z Z (A9 (B2 Z Z Z) Z Z (C3 Z Z (C3 Z Z (C3 Z Z (A9 (A8 Z (.pure _ _ _ _) Z (by omega) hcv) Z Z (A9 (C1 Z) Z Z (A9 (B1 Z Z) Z Z (C3 Z Z (C3 Z Z (A9 (A8 Z (.pure _ _ _ _) Z (by omega) hcv) Z Z (A9 (C1 Z) Z Z (A9 (B1 Z Z) Z Z (C3 Z Z (C3 Z Z (A9 (A8 Z (.pure _ _ _ _) Z (by omega) hcv) Z Z (A9 (C1 Z) Z Z (A9 (B1 Z Z) Z Z (A9 (L4 Z Z (by omega)) Z Z (A9 (T6 Z (.pure _ _ _ _) Z Z (by omega) (by omega) (by omega)) Z Z (G5 ?_))))))))))))))))))))));refine j9 (D04 (ls++p1++p2) 43 (sub y c.New (c.New+c.NewLen)) Z (by simp only [J86];omega)) Z Z Z ?_;rintro _ _ ⟨rfl,rfl⟩;refine ⟨_,rfl,?_⟩;refine A9 (A5 Z) Z Z (o6 (B6 TySz.out Z Z Z Z Z Z) Z (G5 ?_))
   rw [←hp3]
   refine k4 (k1 (A2 (A3 Z Z (C7 Z Z Z (A7 Z Z (A4 ?_))))));refine k1 ?_;refine ⟨t+1,by omega,by omega,?_⟩
   rw [hsucc,hps,show ((a+(t+1):Nat):Int)=((a+t:Nat):Int)+1 by omega]
   exact J58 ⟨le1 rfl,le1 rfl,le1 rfl,le1 rfl,le1 rfl,le1 rfl,le1 rfl,le1 rfl,le1 rfl,le1 rfl,trivial⟩ ⟨rfl,rfl,rfl,rfl,rfl,trivial⟩
  ·have htb:a+t=b+1:=by
    have h0:¬((a+t:Nat):Int) < q.Last:=A1 ht
    omega
   obtain ⟨i0,hi0⟩:∃i0,i0=W9 l q.Old.From a t:=⟨_,rfl⟩
   have hib:i0=(cAt l b).Old+(cAt l b).OldLen:=by
    rw [hi0];unfold W9 Z5
    rw [if_neg (by omega),show a+t - 1=b by omega]
   unfold H7 at hgb
   obtain ⟨ls,hls⟩:∃ls,ls=R5 l x y q.Old.From a t:=⟨_,rfl⟩
   have hG:K1 l x y q=⟨q.Old.From,q.New.From,ls++P0 32 (sub x i0 q.Old.To)⟩:=by
    rw [K1,q1,q2,show ((a:Nat):Int).toNat=a by omega,show ((b:Int)+1).toNat - a=t by omega,←hls,←hi0]
   have l1:=y7 x i0 q.Old.To
   have hgn:g.length≤l.length:=hgl
   rw [←hls] at hml2 ⊢
   rw [←hi0]
   refine k6 (k2 (M3 11 (by kernel_rfl) (by kernel_rfl) Z (A9 (A5 Z) Z Z (A9 (B2 Z Z Z) Z Z (C3 Z Z (C3 Z Z (C3 Z Z (C3 Z Z (A9 (A8 Z (.pure _ _ _ _) Z (by omega) hv) Z Z (A9 (C1 Z) Z Z (A9 (C1 Z) Z Z (A9 (B1 Z Z) Z Z (A9 (T6 Z (.pure _ _ _ _) Z Z (by omega) (by omega) (by omega)) Z Z (G5 ?_))))))))))))));refine j9 (D04 ls 32 (sub x i0 q.Old.To) Z (by omega)) Z Z Z ?_;rintro _ _ ⟨rfl,rfl⟩;refine ⟨_,rfl,?_⟩;refine A9 (A5 Z) Z Z (o6 (B6 TySz.out Z Z Z Z Z Z) Z (G5 ?_));refine k1 (A2 (A6 (A5 Z) Z (D3 Z Z Z Z (A6 (C6 Z Z Z) Z (A6 (C9 (c:=phunkC) (ys:=[⟨q.Old.From,q.New.From,ls++P0 32 (sub x i0 q.Old.To)⟩]) (D8 Z Z Z Z F1) Z Z Z) Z (C0 (F8 Z Z Z (.pure _ _ _ _) (by (simp only [J87,J89];omega)) Z) Z (A6 (A5 Z) Z (E2 (B6 TySz.out Z Z Z Z Z Z) (A4 ?_)))))))))
   rw [←hG,←htk]
   refine k4 (k1 (A2 (A3 Z Z (C7 Z Z Z (A7 Z Z (A4 ?_))))));refine k1 ?_
   exact ⟨k+1,by omega,by omega,J58 ⟨le1 rfl,le1 rfl,le1 rfl,le1 rfl,le1 rfl,le1 rfl,le1 rfl,trivial⟩ ⟨rfl,rfl,rfl,trivial⟩⟩
 ·have hk':k=g.length:=by have:=A1 ht;omega
  subst hk'
  rw [J98,←hho]
  have hsz:=hmd.sz
  have hch:=hmd.chk
  rw [←hx,←hy] at hsz hch
  refine k6 (k2 (k2 (A2 (A6 (C6 Z Z Z) Z (C2 (G76 ⟨on,nn,Q6 l x y ctx⟩ hsz) Z Z Z ?_)))));rintro _ rfl;refine A7 Z Z (A4 ?_)
  rw [hch]
  refine k1 (k2 (A2 (A3 Z Z (A6 (H9 Z Z) Z (A4 ?_)))));refine k1 ?_;refine B3 rfl (fun ht=>?_) (fun ht=>?_)
  ·cases ht
  ·refine k5 (k1 (k2 (A2 (A6 (C6 Z Z Z) Z (E2 (B6 TySz.out Z Z Z Z Z Z) (A7 Z Z (A4 ?_)))))));refine k1 (k10 ?_)
   exact B4 (rs:=[pPatch ⟨on,nn,Q6 l x y ctx⟩,E5 0]) (O5 rfl rfl rfl rfl rfl rfl rfl) (by rw [hmk])
end Go.Proofs.YtbiadkkamhpdnaaGreatDoor
namespace Go.Proofs.YtbiadkkamhpdnaaGreatDoor
open Go Go.AL
set_option maxRecDepth 100000
section
variable {P:Program} {nt:Nat} {fr:Fr} {o n:Str} {hs:List PatchHunk}
end
set_option maxHeartbeats 2000000
end Go.Proofs.YtbiadkkamhpdnaaGreatDoor
