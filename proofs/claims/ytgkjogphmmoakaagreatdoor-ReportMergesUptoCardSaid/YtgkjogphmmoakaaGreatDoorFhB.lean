/- Walks of the program's functions. -/
import Derived.Test.YtgkjogphmmoakaaGreatDoorFhA
set_option linter.all false
namespace Go.Proofs.YtgkjogphmmoakaaGreatDoor
open Go Go.AL
set_option maxRecDepth 100000
set_option maxHeartbeats 4000000
theorem getO_mapO(f:Ob->Ob):∀(ob:Obs) (j:Nat),B4 (B94 f ob) j=(B4 ob j).map f
 | [],_=>rfl
 | (i,o)::r,j=>by
  show B4 ((i,f o)::B94 f r) j=_;by_cases e:i=j
  ·subst e;rw[C4,C4];rfl
  ·rw[B0 e,B0 e,getO_mapO f r j]
abbrev auto5:AL.Auto:=⟨[qAcc,qEnd,qSp,qSet,qSet,qSta],5⟩
abbrev aa:Str:=[97,97]
structure AS where
 opn:List Int
 th:List AL.Thread
 sn:List Bool
def topI(x:AS):Int:=N4 x.opn (x.opn.length-1)
def addStep(a:Nat)(fr:Int)(x:AS):AS :=
 if F9 x.sn (topI x).toNat=true then ⟨x.opn.take (x.opn.length-1),x.th,x.sn⟩
 else ⟨x.opn.take (x.opn.length-1)++ZX (auto5.States.getD (topI x).toNat kW) (decide ((a:Int)=0)) (decide ((a:Int)=(aa.length:Int))),x.th++[⟨topI x,fr⟩],x.sn.set (topI x).toNat true⟩
def addIt(a:Nat)(fr:Int)(x:AS):Nat->AS
 | 0=>x
 | n+1=>addStep a fr (addIt a fr x n)
def WH(y:AS):Prop:=0<y.opn.length/\y.opn.length<=10/\0<=topI y/\topI y<6/\y.sn.length=6/\y.th.length<=10
instance (y:AS):Decidable (WH y):=by unfold WH;infer_instance
def addOk(a:Nat)(fr:Int)(x:AS)(n:Nat):Bool:=(List.range n).all (fun k=>decide (WH (addIt a fr x k)))
end Go.Proofs.YtgkjogphmmoakaaGreatDoor
