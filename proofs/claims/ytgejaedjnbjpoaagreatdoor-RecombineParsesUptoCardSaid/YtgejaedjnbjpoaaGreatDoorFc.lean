/- Walks of the program's functions. -/
import Derived.Test.YtgejaedjnbjpoaaGreatDoorFb
import Derived.Test.YtgejaedjnbjpoaaGreatDoorFs
namespace Go.Proofs.YtgejaedjnbjpoaaGreatDoor
open Go Go.AL
set_option maxRecDepth 100000
theorem E40 {l pre:Str} {i:Nat} (hi:i≤l.length) (h:(l.drop i).take pre.length=pre):i+pre.length≤l.length:=by
 have:=congrArg List.length h
 rw [J90,J88] at this;omega
theorem F52 {s:Str} {a c e:Nat} {r:Int × Int × Nat} (h:A07 s a c e=some r):r.2.2=e:=by
 unfold A07 at h
 obtain ⟨st,hst⟩:∃st:Int,st=if 0 < c then (a:Int) - 1 else a:=⟨_,rfl⟩
 rw [←hst] at h
 by_cases hc:G4 st c=s.take e
 ·rw [if_pos hc] at h;cases h;rfl
 ·rw [if_neg hc] at h;cases h
theorem J10 {s:Str} {a n:Int} {e:Nat} (h:P2 s=some (a,n,e)):e≤s.length:=by
 unfold P2 at h
 cases h1:Q0 s with
 | none=>rw [h1] at h;cases h
 | some p =>
  obtain ⟨v,k⟩:=p
  rw [h1] at h
  dsimp only at h
  obtain ⟨_,_,_,hk,_⟩:=x2 h1
  split at h
  ·rename_i h44
   have hlt:=(List.getElem?_eq_some_iff.1 h44).1
   cases h2:Q0 (s.drop (k+1)) with
   | none=>rw [h2] at h;cases h
   | some q =>
    obtain ⟨c,k'⟩:=q
    rw [h2] at h
    dsimp only at h
    obtain ⟨_,_,_,hk',_⟩:=x2 h2
    rw [J88] at hk'
    have:=F52 h
    dsimp only at this;omega
  ·have:=F52 h
   dsimp only at this;omega
theorem D29 {l pre:Str} {i:Nat} {a n:Int} {e:Nat} (hi:i≤l.length) (h:T6 l i pre=some (a,n,e)):e≤l.length:=by
 unfold T6 at h
 split at h
 ·rename_i h1
  have h2:=E40 hi h1
  cases h3:P2 (l.drop (i+pre.length)) with
  | none=>rw [h3] at h;cases h
  | some q =>
   obtain ⟨x,y,z⟩:=q
   rw [h3] at h
   have h4:=J10 h3
   rw [J88] at h4
   simp at h;omega
 ·cases h
end Go.Proofs.YtgejaedjnbjpoaaGreatDoor
namespace Go.Proofs.YtgejaedjnbjpoaaGreatDoor
open Go Go.AL
set_option maxRecDepth 100000
theorem E41 (s:Str):FnOk Tryz.prog 80 [F5 s] (fun rs=>rs=[D3 (V9 s)]):=by
 refine FnOk.intro Tryz.func80 (by decide) Z Z Z Z ?_
 refine k2 ?_
 refine A3 (A2 (A5 Z Z) Z (A6 ?_))
 refine k1 (k2 ?_)
 refine A3 (A2 (A4 Z Z) Z (A2 (D5 Z) Z (A2 (Z1 Z Z) Z (A2 (A4 Z Z) Z (A9 Z Z Z Z (fun hg=>by rw [hg];exact A4 Z Z) ?_)))));refine A9 Z Z Z Z (fun hg=>by rw [hg];exact D5 Z) ?_;refine A9 Z Z Z Z (fun hg=>by rw [hg];exact m8 Z Z) ?_;refine A2 (B4 Z (fun h=>by first | rfl | (rw [h];rfl)) (fun h=>by first | rfl | (rw [h];rfl))) Z ?_;refine A2 (A5 Z Z) Z (A6 ?_)
 refine k1 (k10 ?_)
 refine B5 (F8 Z Z Z) ?_
 simp only [I3]
 congr 4
 unfold V9
 congr 1
 apply propext
 omega
theorem notB (b:Bool):(!b)=decide (b=false):=by cases b<;>rfl
end Go.Proofs.YtgejaedjnbjpoaaGreatDoor
namespace Go.Proofs.YtgejaedjnbjpoaaGreatDoor
open Go Go.AL
set_option maxRecDepth 100000
set_option maxHeartbeats 1000000
end Go.Proofs.YtgejaedjnbjpoaaGreatDoor
namespace Go.Proofs.YtgejaedjnbjpoaaGreatDoor
open Go Go.AL
set_option maxRecDepth 100000
end Go.Proofs.YtgejaedjnbjpoaaGreatDoor
namespace Go.Proofs.YtgejaedjnbjpoaaGreatDoor
open Go Go.AL
set_option maxRecDepth 100000
end Go.Proofs.YtgejaedjnbjpoaaGreatDoor
namespace Go.Proofs.YtgejaedjnbjpoaaGreatDoor
open Go Go.AL
set_option maxRecDepth 100000
end Go.Proofs.YtgejaedjnbjpoaaGreatDoor
