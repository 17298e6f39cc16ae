/- From contracts to statements; no project text. -/
import Derived.Test.YtjmoigcpoopjhaaGreatDoorRows
import Derived.Test.YtjmoigcpoopjhaaGreatDoorAm
import Derived.ProofKit
import Derived.OpenShut
import Derived.JoinedCond
import Derived.Below
import Derived.DataShut
import Derived.ChangeSame
import Derived.Deep.DeepHandedRow
import Derived.Deep.DeepLaidRun
import Derived.Lib.LaidU8
import Derived.Lib.TrailingZeros
import Derived.Test.YtjmoigcpoopjhaaGreatDoorFa
set_option linter.unusedSimpArgs false
namespace Go.Proofs.YtjmoigcpoopjhaaGreatDoor
open Go Go.AL Go.ChangeShapes Go.WideShapes Go.RowKit
abbrev rd0 (W:World):Rd:=F0 (fun _ _=>False) W
theorem rd0_mk {W:World} {b i:Nat} {z:Value} (h:W.cell? ⟨b,i,none⟩=some z):rd0 W b i z:=⟨h,fun f=>f⟩
structure Reads (P:Program) (t:TypeId) (α:Type) (ec:Nat) (c:α→Nat→Cell) (good:α→Prop) (m:α→Nat):Prop where
 cells:P.cellsOf t=ec
 read:∀{H:Type} {enc:TypeId × Value→H} {W:World} {fuel:Nat} {cs:List Value} {x:DataW H × List MemPlace},DataW.trod enc P W 0 (fun _=>true) true fuel t cs=some x→Rows.uptoBulk x.1≤1048576 →
  cs.length=ec∧∃a,good a∧m a≤Rows.uptoBulk x.1∧∀j,j < ec→∃z,cs[j]?=some z∧(c a j).rep (rd0 W) z
 again:∀{H:Type} {enc:TypeId × Value→H} {W:World} {fuel:Nat} {cs:List Value} {x:DataW H × List MemPlace} {sp:Nat→Bool},DataW.trod enc P W 0 (fun _=>true) true fuel t cs=some x→(∀p∈x.2,sp p.block=true) →
  DataW.trod enc P W 0 sp true fuel t cs=some x
theorem K26 {H:Type} {d:DataW H} {l:List (DataW H)} (h:d∈l):Rows.uptoBulk d≤Rows.uptoBulkAll l:=by
 induction l with
 | nil=>cases h
 | cons x r ih =>
  simp only [Rows.uptoBulkAll]
  cases List.mem_cons.1 h with
  | inl e=>subst e;omega
  | inr e=>have:=ih e;omega
section
variable {P:Program}
theorem C55 {t:TypeId} {k:IntKind} (ht:P.underlying t=some (.int k)) (hc:P.cellsOf t=1):Reads P t Int 1 (fun n _=>.v (.int k n)) (fun n=>(Lit.int k n).wf=true) (fun _=>1) where
 cells:=hc
 read:=fun h _=>by
  obtain ⟨n,rfl,rfl,hw⟩:=DataW.trod_int ht h
  exact ⟨rfl,n,hw,by simp [Rows.uptoBulk],fun j hj=>by (have e:j=0:=by omega);subst e;exact ⟨_,rfl,rfl,rfl⟩⟩
 again:=fun {H enc W fuel cs x sp} h _=>by
  obtain ⟨n,rfl,rfl,hw⟩:=DataW.trod_int ht h
  cases fuel with
  | zero=>simp [DataW.trod] at h
  | succ n=>simpa [DataW.trod,ht] using h
theorem D74 {t:TypeId} (ht:P.underlying t=some .string) (hc:P.cellsOf t=1):Reads P t (List UInt8) 1 X2 (fun _=>True) (fun s=>s.length+1) where
 cells:=hc
 read:=fun h _=>by
  obtain ⟨s,rfl,rfl,hw⟩:=DataW.trod_string ht h
  exact ⟨rfl,s.data.toList,trivial,by simp [Rows.uptoBulk],fun j hj=>by (have e:j=0:=by omega);subst e;exact ⟨_,rfl,by simp,rfl⟩⟩
 again:=fun {H enc W fuel cs x sp} h _=>by
  obtain ⟨s,rfl,rfl,hw⟩:=DataW.trod_string ht h
  cases fuel with
  | zero=>simp [DataW.trod] at h
  | succ n=>simp [DataW.trod,ht,hw]
theorem D75 {β:Type} {R:Nat→β→Prop}:∀(n:Nat),(∀j,j < n→∃z,R j z)→∃vs:List β,vs.length=n∧∀j z,vs[j]?=some z→R j z
 | 0,_=>⟨[],rfl,by simp⟩
 | n+1,h=>by
  obtain ⟨vs,h1,h2⟩:=D75 n (fun j hj=>h j (by omega))
  obtain ⟨z,hz⟩:=h n (by omega)
  refine ⟨vs++[z],by simp [h1],fun j y hy=>?_⟩
  by_cases hj:j < n
  ·exact h2 j y (by rwa [L19 (by omega)] at hy)
  ·rw [L17 (by omega)] at hy
   have h3:j - vs.length=0:=by
    cases hk:j - vs.length with
    | zero=>rfl
    | succ k=>rw [hk] at hy;simp at hy
   rw [h3] at hy
   have e1:z=y:=by simpa using hy
   have e2:j=n:=by omega
   rw [e2,←e1];exact hz
theorem J20 {H:Type} {α:Type} {m:α→Nat}:∀{xs:List α} {ys:List (DataW H × List MemPlace)},xs.length=ys.length→(∀(i:Nat) a y,xs[i]?=some a→ys[i]?=some y→m a≤Rows.uptoBulk y.1)→(xs.map m).sum≤Rows.uptoBulkAll (ys.map (·.1))
 | [],[],_,_=>by simp [Rows.uptoBulkAll]
 | [],_::_,h,_=>by simp at h
 | _::_,[],h,_=>by simp at h
 | a::xs,y::ys,h,hm=>by
  have h1:=hm 0 a y rfl rfl
  have h2:=J20 (xs:=xs) (ys:=ys) (by simpa using h) (fun i a' y' h3 h4=>hm (i+1) a' y' h3 h4)
  simp only [L16,L53,Rows.uptoBulkAll]
  omega
theorem I34 {a:Addr} (h:a.spot=none) (i:Nat):a.add i=⟨a.block,a.off+i,none⟩:=by
 obtain ⟨b,o,s⟩:=a
 simp only at h
 subst h
 unfold Addr.add
 split
 ·rename_i h0;subst h0;rfl
 ·rfl
theorem H34 {W:World} {a:Addr} {v:Value} (h:W.cell? a=some v):a.spot=none:=by
 unfold World.cell? at h
 split at h
 ·split at h
  ·cases h
  ·rename_i hs
   cases hsp:a.spot with
   | none=>rfl
   | some _=>simp [hsp] at hs
 ·cases h
theorem C32 {t e:TypeId} {α:Type} {ec:Nat} {c:α→Nat→Cell} {good:α→Prop} {m:α→Nat} (R:Reads P e α ec c good m) (hec:0 < ec) (ht:P.underlying t=some (.slice e)) (hc:P.cellsOf t=1) :
  Reads P t (List α) 1 (fun l _=>.list α ec c l) (fun l=>∀a∈l,good a) (fun l=>1+(l.map m).sum) where
 cells:=hc
 read := fun {H enc W fuel cs x} h hB=>by
  rcases DataW.trod_slice ht h with ⟨rfl,rfl⟩ | ⟨a,len,cap,elems,rest,n,rfl,rfl,rfl,hb,hl,hm,hlen,hel,hsp,hns⟩
  ·exact ⟨rfl,[],by simp,by simp [Rows.uptoBulk],fun j hj=>by (have e:j=0:=by omega);subst e;exact ⟨_,rfl,I4 _ _ _⟩⟩
  ·have hall:Rows.uptoBulkAll (elems.map (·.1))+Rows.uptoBulkAll (rest.map (·.1))+1≤1048576:=hB
   have hEach:∀i,i < len→∃(cs':List Value) (y:DataW H × List MemPlace),elems[i]?=some y∧W.cells? 0 (a.add (i*P.cellsOf e)) (P.cellsOf e)=some cs'∧DataW.trod enc P W 0 (fun _=>true) true n e cs'=some y:=by
    intro i hi
    have h1:=hel i hi
    have hy:elems[i]?=some (elems[i]'(by omega)):=L01 (by omega)
    rw [hy] at h1
    obtain ⟨cs',h2,h3⟩:=Option.bind_eq_some_iff.1 h1
    exact ⟨cs',_,hy,h2,h3⟩
   have hR:∀i,i < len→∃v:α,∃(y:DataW H × List MemPlace),elems[i]?=some y∧good v∧m v≤Rows.uptoBulk y.1∧1≤Rows.uptoBulk y.1∧∀j,j < ec→∃z,W.cell? ((a.add (i*ec)).add j)=some z∧(c v j).rep (rd0 W) z:=by
    intro i hi
    obtain ⟨cs',y,hy,h2,h3⟩:=hEach i hi
    have hyB:=K26 (d:=y.1) (l:=elems.map (·.1)) (List.mem_map.2 ⟨y,L14 hy,rfl⟩)
    obtain ⟨h4,v,hg,hmv,hz⟩:=R.read h3 (by omega)
    obtain ⟨_,h5,h6⟩:=World.cells?_some h2
    refine ⟨v,y,hy,hg,hmv,?_,fun j hj=>?_⟩
    ·cases y.1 with
     | lit l=>cases l<;>simp [Rows.uptoBulk]
     | _=>simp [Rows.uptoBulk]
    ·obtain ⟨z,hz1,hz2⟩:=hz j hj
     rw [R.cells] at h6
     exact ⟨z,by rw [h6 j hj];exact hz1,hz2⟩
   obtain ⟨xs,hxl,hxs⟩:=D75 len hR
   have hsum:(xs.map m).sum≤Rows.uptoBulkAll (elems.map (·.1)):=by
    refine J20 (by omega) fun i v y h1 h2=>?_
    obtain ⟨y',h3,_,h4,_⟩:=hxs i v h1
    rw [h2] at h3;cases h3;exact h4
   have hcnt:elems.length≤Rows.uptoBulkAll (elems.map (·.1)):=by
    have:((List.range len).map fun _=>1).sum≤Rows.uptoBulkAll (elems.map (·.1)):=by
     refine J20 (m:=fun _=>1) (xs:=List.range len) (by simp [hlen]) fun i v y h1 h2=>?_
     have hi:i < len:=by have:=(List.getElem?_eq_some_iff.1 h1).1;simpa using this
     obtain ⟨y',h3,_,_,h4,_⟩:=(hR i hi).choose_spec
     rw [h2] at h3;cases h3;exact h4
    have e:((List.range len).map fun _=>1).sum=len:=by rw [List.map_const',L39,List.sum_replicate_nat];omega
    omega
   refine ⟨rfl,xs,fun v hv=>?_,?_,fun j hj=>?_⟩
   ·obtain ⟨i,hi,rfl⟩:=List.mem_iff_getElem.1 hv
    obtain ⟨_,_,h1,_⟩:=hxs i _ (L01 hi)
    exact h1
   ·show 1+_≤Rows.uptoBulkAll (elems.map (·.1))+Rows.uptoBulkAll (rest.map (·.1))+1
    omega
   ·obtain rfl:j=0:=by omega
    refine ⟨_,rfl,?_⟩
    show SliceAt (rd0 W) ec xs.length (fun i j z=>∃h:i < xs.length,(c xs[i] j).rep (rd0 W) z) _
    refine ⟨some a,cap,by rw [hxl],⟨by omega,by simp⟩,by omega,?_⟩
    by_cases h0:xs.length=0
    ·exact .inl h0
    ·right
     have hsp0:a.spot=none:=by
      obtain ⟨_,_,_,_,_,h1⟩:=hxs 0 xs[0] (L01 (by omega))
      obtain ⟨z,h2,_⟩:=h1 0 hec
      have:=H34 h2
      simpa [Addr.add] using this
     refine ⟨a.block,a.off,?_,fun i hi j hj=>?_⟩
     ·cases a;simp only at hsp0;subst hsp0;rfl
     ·obtain ⟨_,_,_,_,_,h1⟩:=hxs i xs[i] (L01 hi)
      obtain ⟨z,h2,h3⟩:=h1 j hj
      rw [I34 hsp0,I34 rfl] at h2
      exact ⟨z,rd0_mk h2,hi,h3⟩
 again:=fun {H enc W fuel cs x sp} h hs=>by
  rcases DataW.trod_slice ht h with ⟨rfl,rfl⟩ | ⟨a,len,cap,elems,rest,n,rfl,rfl,rfl,hb,hl,hm,hlen,hel,hsp,hns⟩
  ·cases fuel with
   | zero=>simp [DataW.trod] at h
   | succ n=>simp [DataW.trod,ht]
  ·obtain ⟨hrl,hrest⟩:=hsp rfl
   have hin:∀y∈elems++rest,∀p∈y.2,sp p.block=true:=fun y hy p hp=>hs p (List.mem_append_right _ (List.mem_flatMap.2 ⟨y,hy,hp⟩))
   have step:∀(k:Nat) (y:DataW H × List MemPlace),y∈elems++rest→(W.cells? 0 (a.add (k*P.cellsOf e)) (P.cellsOf e)).bind (DataW.trod enc P W 0 (fun _=>true) true n e)=some y→(W.cells? 0 (a.add (k*P.cellsOf e)) (P.cellsOf e)).bind (DataW.trod enc P W 0 sp true n e)=some y:=by
    intro k y hy h1
    obtain ⟨cs',h2,h3⟩:=Option.bind_eq_some_iff.1 h1
    exact Option.bind_eq_some_iff.2 ⟨cs',h2,R.again h3 (hin y hy)⟩
   have he1:(List.range len).mapM (fun i=>(W.cells? 0 (a.add (i*P.cellsOf e)) (P.cellsOf e)).bind (DataW.trod enc P W 0 sp true n e))=some elems:=by
    refine mapM_some_of_get _ _ (by simp [hlen]) fun i x hx=>?_
    have hi:i < len:=by have:=(List.getElem?_eq_some_iff.1 hx).1;simpa using this
    obtain rfl:i=x:=by rw [List.getElem?_range hi] at hx;exact Option.some.inj hx
    have hy:elems[i]?=some (elems[i]'(by omega)):=L01 (by omega)
    rw [hy]
    exact step i _ (by simp) (by rw [hel i hi,hy])
   have he2:(if sp a.block=true then (List.range (cap - len)).mapM (fun j=>(W.cells? 0 (a.add ((len+j)*P.cellsOf e)) (P.cellsOf e)).bind (DataW.trod enc P W 0 sp true n e)) else some [])=some rest:=by
    by_cases hcap:cap - len=0
    ·have:rest=[]:=List.eq_nil_of_length_eq_zero (by omega)
     rw [this,hcap];split<;>rfl
    ·have hsa:sp a.block=true:=by
      refine hs (.cell a.block (a.off+0)) (List.mem_append_left _ (List.mem_map.2 ⟨0,List.mem_range.2 ?_,rfl⟩))
      have:0 < elems.length+rest.length:=by omega
      rw [R.cells];exact Nat.mul_pos this hec
     rw [if_pos hsa]
     refine mapM_some_of_get _ _ (by simp [hrl]) fun i x hx=>?_
     have hi:i < cap - len:=by have:=(List.getElem?_eq_some_iff.1 hx).1;simpa using this
     obtain rfl:i=x:=by rw [List.getElem?_range hi] at hx;exact Option.some.inj hx
     have hy:rest[i]?=some (rest[i]'(by omega)):=L01 (by omega)
     rw [hy]
     exact step (len+i) _ (by simp) (by rw [hrest i hi,hy])
   unfold DataW.trod
   rw [ht]
   simp only
   rw [if_pos ⟨hb,hl,hm⟩,he1,Option.bind_some,he2]
   rfl
theorem G01 {t:TypeId} {f0 f1:Field} {β:Type} {α0:Type} {e0:Nat} {c0:α0→Nat→Cell} {g0:α0→Prop} {m0:α0→Nat} {α1:Type} {e1:Nat} {c1:α1→Nat→Cell} {g1:α1→Prop} {m1:α1→Nat} (R0:Reads P f0.type α0 e0 c0 g0 m0) (R1:Reads P f1.type α1 e1 c1 g1 m1) (ht:P.underlying t=some (.struct #[f0,f1])) (hc:P.cellsOf t=e0+e1) (ho0:f0.offset=0) (ho1:f1.offset=e0) (mk:α0→α1→β) (c:β→Nat→Cell) (hcell:∀a0 a1,(∀j,j < e0→c (mk a0 a1) (j)=c0 a0 j)∧(∀j,j < e1→c (mk a0 a1) (e0+j)=c1 a1 j)) (good:β→Prop) (hg:∀a0 a1,g0 a0→g1 a1→good (mk a0 a1)) (m:β→Nat) (hm:∀a0 a1,m (mk a0 a1)≤1+m0 a0+m1 a1) :
  Reads P t β (e0+e1) c good m where
 cells:=hc
 read:=fun {H enc W fuel cs x} h hB=>by
  obtain ⟨xs,n,rfl,rfl,hl,hxl,hf⟩:=DataW.trod_struct ht h
  have hB':Rows.uptoBulkAll (xs.map (·.1))+1≤1048576:=hB
  obtain ⟨y0,y1,rfl⟩:∃y0 y1,xs=[y0,y1]:=by
   match xs,hxl with
   | [y0,y1],_=>exact ⟨y0,y1,rfl⟩
  simp only [L16,L54,Rows.uptoBulkAll] at hB'
  have t0:=hf 0 f0 rfl
  rw [ho0,R0.cells] at t0
  obtain ⟨l0,a0,ga0,ma0,za0⟩:=R0.read t0 (by omega)
  have t1:=hf 1 f1 rfl
  rw [ho1,R1.cells] at t1
  obtain ⟨l1,a1,ga1,ma1,za1⟩:=R1.read t1 (by omega)
  rw [hc] at hl
  refine ⟨hl,mk a0 a1,hg a0 a1 ga0 ga1,?_,fun j hj=>?_⟩
  ·have:=hm a0 a1
   show _≤Rows.uptoBulkAll (List.map (·.1) [y0,y1])+1
   simp only [L16,L54,Rows.uptoBulkAll]
   omega
  ·obtain ⟨h0,h1⟩:=hcell a0 a1
   by_cases b0:j < e0
   ·obtain ⟨z,hz1,hz2⟩:=za0 j (by omega)
    refine ⟨z,?_,by rw [h0 j (by omega)];exact hz2⟩
    rw [L27 (by omega),L28] at hz1
    simpa using hz1
   obtain ⟨q,rfl⟩:∃q,j=e0+q:=⟨j - (e0),by omega⟩
   obtain ⟨z,hz1,hz2⟩:=za1 q (by omega)
   refine ⟨z,?_,by rw [h1 q (by omega)];exact hz2⟩
   rw [L27 (by omega),L28] at hz1
   simpa using hz1
 again:=fun {H enc W fuel cs x sp} h hs=>by
  obtain ⟨xs,n,rfl,rfl,hl,hxl,hf⟩:=DataW.trod_struct ht h
  unfold DataW.trod
  rw [ht]
  simp only
  rw [if_pos hl]
  have hmp:(#[f0,f1]:Array Field).toList.mapM (fun f=>DataW.trod enc P W 0 sp true n f.type ((cs.drop f.offset).take (P.cellsOf f.type)))=some xs:=by
   refine mapM_some_of_get _ _ (by simpa using hxl) fun i f hi=>?_
   have hi':(#[f0,f1]:Array Field)[i]?=some f:=by simpa using hi
   have h1:=hf i f hi'
   have hil:i < xs.length:=by rw [hxl];exact (Array.getElem?_eq_some_iff.1 hi').1
   have hy:xs[i]?=some xs[i]:=L01 hil
   have hp:∀p∈xs[i].2,sp p.block=true:=fun p hp=>hs p (List.mem_flatMap.2 ⟨xs[i],L05 hil,hp⟩)
   rw [hy] at h1 ⊢
   have hlt:i < 2:=(Array.getElem?_eq_some_iff.1 hi').1
   by_cases i0:i=0
   ·subst i0;obtain rfl:f0=f:=Option.some.inj hi';exact R0.again h1 hp
   by_cases i1:i=1
   ·subst i1;obtain rfl:f1=f:=Option.some.inj hi';exact R1.again h1 hp
   omega
  rw [hmp]
  rfl
theorem G02 {t:TypeId} {f0 f1 f2:Field} {β:Type} {α0:Type} {e0:Nat} {c0:α0→Nat→Cell} {g0:α0→Prop} {m0:α0→Nat} {α1:Type} {e1:Nat} {c1:α1→Nat→Cell} {g1:α1→Prop} {m1:α1→Nat} {α2:Type} {e2:Nat} {c2:α2→Nat→Cell} {g2:α2→Prop} {m2:α2→Nat} (R0:Reads P f0.type α0 e0 c0 g0 m0) (R1:Reads P f1.type α1 e1 c1 g1 m1) (R2:Reads P f2.type α2 e2 c2 g2 m2) (ht:P.underlying t=some (.struct #[f0,f1,f2])) (hc:P.cellsOf t=e0+e1+e2) (ho0:f0.offset=0) (ho1:f1.offset=e0) (ho2:f2.offset=e0+e1) (mk:α0→α1→α2→β) (c:β→Nat→Cell) (hcell:∀a0 a1 a2,(∀j,j < e0→c (mk a0 a1 a2) (j)=c0 a0 j)∧(∀j,j < e1→c (mk a0 a1 a2) (e0+j)=c1 a1 j)∧(∀j,j < e2→c (mk a0 a1 a2) (e0+e1+j)=c2 a2 j)) (good:β→Prop) (hg:∀a0 a1 a2,g0 a0→g1 a1→g2 a2→good (mk a0 a1 a2)) (m:β→Nat) (hm:∀a0 a1 a2,m (mk a0 a1 a2)≤1+m0 a0+m1 a1+m2 a2) :
  Reads P t β (e0+e1+e2) c good m where
 cells:=hc
 read:=fun {H enc W fuel cs x} h hB=>by
  obtain ⟨xs,n,rfl,rfl,hl,hxl,hf⟩:=DataW.trod_struct ht h
  have hB':Rows.uptoBulkAll (xs.map (·.1))+1≤1048576:=hB
  obtain ⟨y0,y1,y2,rfl⟩:∃y0 y1 y2,xs=[y0,y1,y2]:=by
   match xs,hxl with
   | [y0,y1,y2],_=>exact ⟨y0,y1,y2,rfl⟩
  simp only [L16,L54,Rows.uptoBulkAll] at hB'
  have t0:=hf 0 f0 rfl
  rw [ho0,R0.cells] at t0
  obtain ⟨l0,a0,ga0,ma0,za0⟩:=R0.read t0 (by omega)
  have t1:=hf 1 f1 rfl
  rw [ho1,R1.cells] at t1
  obtain ⟨l1,a1,ga1,ma1,za1⟩:=R1.read t1 (by omega)
  have t2:=hf 2 f2 rfl
  rw [ho2,R2.cells] at t2
  obtain ⟨l2,a2,ga2,ma2,za2⟩:=R2.read t2 (by omega)
  rw [hc] at hl
  refine ⟨hl,mk a0 a1 a2,hg a0 a1 a2 ga0 ga1 ga2,?_,fun j hj=>?_⟩
  ·have:=hm a0 a1 a2
   show _≤Rows.uptoBulkAll (List.map (·.1) [y0,y1,y2])+1
   simp only [L16,L54,Rows.uptoBulkAll]
   omega
  ·obtain ⟨h0,h1,h2⟩:=hcell a0 a1 a2
   by_cases b0:j < e0
   ·obtain ⟨z,hz1,hz2⟩:=za0 j (by omega)
    refine ⟨z,?_,by rw [h0 j (by omega)];exact hz2⟩
    rw [L27 (by omega),L28] at hz1
    simpa using hz1
   by_cases b1:j < e0+e1
   ·obtain ⟨q,rfl⟩:∃q,j=e0+q:=⟨j - (e0),by omega⟩
    obtain ⟨z,hz1,hz2⟩:=za1 q (by omega)
    refine ⟨z,?_,by rw [h1 q (by omega)];exact hz2⟩
    rw [L27 (by omega),L28] at hz1
    simpa using hz1
   obtain ⟨q,rfl⟩:∃q,j=e0+e1+q:=⟨j - (e0+e1),by omega⟩
   obtain ⟨z,hz1,hz2⟩:=za2 q (by omega)
   refine ⟨z,?_,by rw [h2 q (by omega)];exact hz2⟩
   rw [L27 (by omega),L28] at hz1
   simpa using hz1
 again:=fun {H enc W fuel cs x sp} h hs=>by
  obtain ⟨xs,n,rfl,rfl,hl,hxl,hf⟩:=DataW.trod_struct ht h
  unfold DataW.trod
  rw [ht]
  simp only
  rw [if_pos hl]
  have hmp:(#[f0,f1,f2]:Array Field).toList.mapM (fun f=>DataW.trod enc P W 0 sp true n f.type ((cs.drop f.offset).take (P.cellsOf f.type)))=some xs:=by
   refine mapM_some_of_get _ _ (by simpa using hxl) fun i f hi=>?_
   have hi':(#[f0,f1,f2]:Array Field)[i]?=some f:=by simpa using hi
   have h1:=hf i f hi'
   have hil:i < xs.length:=by rw [hxl];exact (Array.getElem?_eq_some_iff.1 hi').1
   have hy:xs[i]?=some xs[i]:=L01 hil
   have hp:∀p∈xs[i].2,sp p.block=true:=fun p hp=>hs p (List.mem_flatMap.2 ⟨xs[i],L05 hil,hp⟩)
   rw [hy] at h1 ⊢
   have hlt:i < 3:=(Array.getElem?_eq_some_iff.1 hi').1
   by_cases i0:i=0
   ·subst i0;obtain rfl:f0=f:=Option.some.inj hi';exact R0.again h1 hp
   by_cases i1:i=1
   ·subst i1;obtain rfl:f1=f:=Option.some.inj hi';exact R1.again h1 hp
   by_cases i2:i=2
   ·subst i2;obtain rfl:f2=f:=Option.some.inj hi';exact R2.again h1 hp
   omega
  rw [hmp]
  rfl
section
variable {H:Type} {enc:TypeId × Value→H} {W:World} {r:Reach} {b0:Nat} {t:TypeId} {v:Value} {d:DataW H} {ps:List MemPlace}
def J66 (P:Program) (W:World) (enc:TypeId × Value→H) (t:TypeId) (v:Value) (d:DataW H) (ps:List MemPlace) (p:PV):Prop :=
 p.rep (rd0 W) v∧∀sp:Nat→Bool,(∀p∈ps,sp p.block=true)→DataW.Trod enc P W 0 sp true t v d ps
theorem J67 {α:Type} {c:α→Nat→Cell} {good:α→Prop} {m:α→Nat} (R:Reads P t α 1 c good m) (hone:v.cells=#[v]) (h:DataW.Trod enc P W 0 (fun _=>true) true t v d ps) (hB:Rows.uptoBulk d≤1048576) :
  ∃a,good a∧m a≤Rows.uptoBulk d∧J66 P W enc t v d ps (.one (c a 0)):=by
 obtain ⟨fuel,h⟩:=h
 obtain ⟨_,a,hg,hm,hz⟩:=R.read h hB
 obtain ⟨z,hz1,hz2⟩:=hz 0 (by omega)
 refine ⟨a,hg,hm,?_,fun sp hsp=>⟨fuel,R.again h hsp⟩⟩
 rw [hone] at hz1
 have:v=z:=by simpa using hz1
 rw [←this] at hz2
 exact hz2
theorem K27 {e:TypeId} {α:Type} {c:α→Nat→Cell} {good:α→Prop} {m:α→Nat} (R:Reads P t α 1 c good m) (ht:P.underlying t=some (.slice e)) (hv:Value.okWide P W r b0 t v) (h:DataW.Trod enc P W 0 (fun _=>true) true t v d ps) (hB:Rows.uptoBulk d≤1048576) :
  ∃a,good a∧m a≤Rows.uptoBulk d∧J66 P W enc t v d ps (.one (c a 0)):=by
 obtain ⟨a,len,cap,rfl⟩:=okWide_slice ht hv
 exact J67 R rfl h hB
theorem J68 {k:IntKind} {α:Type} {c:α→Nat→Cell} {good:α→Prop} {m:α→Nat} (R:Reads P t α 1 c good m) (ht:P.underlying t=some (.int k)) (hv:Value.okWide P W r b0 t v) (h:DataW.Trod enc P W 0 (fun _=>true) true t v d ps) (hB:Rows.uptoBulk d≤1048576) :
  ∃a,good a∧m a≤Rows.uptoBulk d∧J66 P W enc t v d ps (.one (c a 0)):=by
 obtain ⟨n,rfl⟩:=okWide_int ht hv
 exact J67 R rfl h hB
end
end
section
variable {H:Type} {enc:TypeId × Value→H} {P:Program}
theorem F71 {W W':World} {sp:Nat→Bool} (hb:Below W.heap.size W W'):∀{ts:List TypeId} {vs:List Value} {ds:List (DataW H)} {ps:List MemPlace},DataW.TrodAll enc P W 0 sp true ts vs ds ps→DataW.TrodAll enc P W' 0 sp true ts vs ds ps
 | [],[],[],_,h=>h
 | t::ts,v::vs,d::ds,ps,h=>by
  obtain ⟨p,q,⟨fuel,h1⟩,h2,h3⟩:=h
  have hlt:∀x∈p,x.block < W.heap.size:=by
   have:=DataW.TrodAll.lt (enc:=enc) (P:=P) (w:=W) (base:=0) (spare:=sp) (held:=true) (ts:=[t]) (vs:=[v]) (ds:=[d]) (ps:=p) ⟨p,[],⟨fuel,h1⟩,rfl,by simp⟩
   exact this
  exact ⟨p,q,⟨fuel,DataW.trod_carry _ _ _ _ h1 fun x hx=>hb.same (hlt x hx)⟩,F71 hb h2,h3⟩
end
end Go.Proofs.YtjmoigcpoopjhaaGreatDoor
namespace Go.Proofs.YtjmoigcpoopjhaaGreatDoor
open Go Go.AL Go.ChangeShapes Go.WideShapes Go.RowKit
section
variable {H:Type} {enc:TypeId × Value→H}
theorem K28 {P:Program} {W:World} (h:W.ShapedOpen P) (hz:J24 P W):Grd P (fun _=>False) W:=⟨W,⟨h,hz⟩,Nat.le_refl _,fun _ _=>⟨rfl,id⟩⟩
def ArgsAre (P:Program) (W:World) (enc:TypeId × Value→H):List TypeId→List Value→List (DataW H)→List MemPlace→List PV→Prop
 | [],[],[],ps,[]=>ps=[]
 | t::ts,v::vs,d::ds,ps,p::pvs=>∃q r,J66 P W enc t v d q p∧ArgsAre P W enc ts vs ds r pvs∧ps=q++r
 | _,_,_,_,_=>False
theorem ArgsAre.rep {P:Program} {W:World}:∀{ts:List TypeId} {vs:List Value} {ds:List (DataW H)} {ps:List MemPlace} {pvs:List PV},ArgsAre P W enc ts vs ds ps pvs→All2 (PV.rep (rd0 W)) pvs vs
 | [],[],[],_,[],_=>trivial
 | _::_,_::_,_::_,_,_::_,h=>by obtain ⟨q,r,h1,h2,_⟩:=h;exact ⟨h1.1,h2.rep⟩
theorem ArgsAre.trod {P:Program} {W:World} {sp:Nat→Bool}:∀{ts:List TypeId} {vs:List Value} {ds:List (DataW H)} {ps:List MemPlace} {pvs:List PV},ArgsAre P W enc ts vs ds ps pvs→(∀p∈ps,sp p.block=true)→DataW.TrodAll enc P W 0 sp true ts vs ds ps
 | [],[],[],_,[],h,_=>h
 | _::_,_::_,_::_,_,_::_,h,hs=>by
  obtain ⟨q,r,h1,h2,rfl⟩:=h
  exact ⟨q,r,h1.2 sp (fun p hp=>hs p (by simp [hp])),h2.trod (fun p hp=>hs p (by simp [hp])),rfl⟩
theorem K74 {P:Program} {f:FuncId} {fn:Func} {s:ChangeSpec} {apart fresh handsOn again:Bool} {W:World} {args:Array Value} {ds:List (DataW H)} {before p:List MemPlace} {pvs:List PV} {tb:TypeId}
  (hsh:W.ShapedOpen P) (hz:J24 P W) (hvars:s.vars=[]) (hrt:fn.resultTypes=#[tb]) (hb:P.underlying tb=some .bool)
  (hW:DataW.Whole enc P fn.params.toList s.vars apart W args.toList ds [] before) (hbef:before=p) (hA:ArgsAre P W enc fn.params.toList args.toList ds p pvs)
  (hsr:(s.fn H (ds++[])).results=[.lit (.bool true)]) (hsa:(s.fn H (ds++[])).args=ds) (hsv:(s.fn H (ds++[])).vars=[])
  (hf:FnOk P f pvs (fun rs=>rs=[H1 true])):Calls P f args W fun e W'=>∃v,e=.returned v∧s.post enc P fn apart fresh handsOn again W args v W':=by
 subst hbef
 unfold FnOk at hf
 have hc:=hf.2 W (fun _ _=>False) args.toList (K28 hsh hz) (fun _ _ h=>h.elim) hA.rep
 rw [Array.toArray_toList] at hc
 refine hc.mono fun e W' h=>?_
 obtain ⟨v,rs,rfl,rfl,hr,hbl⟩:=h
 obtain ⟨rfl,_⟩:v=.bool true∧_:=hr
 have hlt:∀q∈before,q.block < W.heap.size:=fun q hq=>hW.lt q hq
 have hold:∀q∈before,(fun b=>decide (b < W.heap.size)) q.block=true:=fun q hq=>by simpa using hlt q hq
 have hres:∀(b:Nat) (sp:Nat→Bool) (hd:Bool),DataW.TrodAll enc P W' b sp hd fn.resultTypes.toList ((Value.bool true).resultList fn.resultTypes.size) (s.fn H (ds++[])).results []:=by
  intro b sp hd
  rw [hrt,hsr]
  exact trodAll_cons_mk (shut_bool hb _) trodAll_mk0
 have hargs:∀sp:Nat→Bool,(∀q∈before,sp q.block=true)→DataW.TrodAll enc P W' 0 sp true fn.params.toList args.toList (s.fn H (ds++[])).args before:=by
  intro sp hsp
  rw [hsa]
  exact F71 hbl (hA.trod hsp)
 have hvs:∀sp:Nat→Bool,DataW.TrodVars enc P W' sp s.vars (s.fn H (ds++[])).vars []:=by
  intro sp;rw [hvars,hsv];rfl
 have hok:∀(j:Nat) (t:TypeId) (r:Value),fn.resultTypes[j]?=some t→((Value.bool true).resultList fn.resultTypes.size)[j]?=some r→Value.okWide P W' .any 0 t r:=by
  exact ok_one hrt rfl (okWide_bool_mk hb _)
 refine ⟨_,rfl,ds,[],before,[],before,[],hW,hres _ _ _,hargs _ hold,hvs _,World.keptBut_mono (fun q hq=>⟨hq,.inr (.inl hq)⟩) (hbl.frame (·∈before)),fun _=>?_⟩
 obtain ⟨_,_,_,_,_,hz,hn⟩:=hW
 refine ⟨hok,_,_,([]++before)++[],⟨[]++before,[],trodAll_append (hargs _ (fun _ _=>rfl)) (hres _ _ _),hvs _,rfl,?_,?_⟩,?_⟩
 ·intro b off hp
  have hin:MemPlace.cell b off∈before:=by simpa using hp
  rw [hbl.frozen (hlt _ hin)]
  exact hz b off hin
 ·intro ha
  simpa using hn ha
 ·intro q hq _
  simpa using hq
end
end Go.Proofs.YtjmoigcpoopjhaaGreatDoor
namespace Go.Proofs.YtjmoigcpoopjhaaGreatDoor
open Go Go.AL Go.ChangeShapes Go.WideShapes Go.RowKit
theorem J21 {P:Program} {W:World} (h:P.globalNamed "internal/strconv.uint64pow10"=none):J24 P W:=fun g hg=>by rw [h] at hg;cases hg
end Go.Proofs.YtjmoigcpoopjhaaGreatDoor
namespace Go.Proofs.YtjmoigcpoopjhaaGreatDoor
open Go Go.AL Go.ChangeShapes Go.WideShapes Go.RowKit
set_option maxRecDepth 100000
def D76 (f:File):Nat:=f.Path.length+f.Blob.length
def B04 (c:Commit):Nat:=c.Parents.length+(c.Files.map D76).sum+c.Files.length
theorem I35 {α:Type}:∀l:List α,(l.map fun _=>1).sum=l.length
 | []=>rfl
 | x::r=>by simp only [L16,L53,L04,I35 r];omega
theorem I36 {α:Type} (f:α→Nat):∀l:List α,(l.map fun x=>1+f x).sum=(l.map f).sum+l.length
 | []=>rfl
 | x::r=>by simp only [L16,L53,L04,I36 f r];omega
theorem J22 {α:Type} (f:α→Nat):∀{l:List α} {x:α},x∈l→f x≤(l.map f).sum
 | y::r,x,h=>by
  simp only [L16,L53]
  rcases List.mem_cons.1 h with rfl | h
  ·omega
  ·have:=J22 f h;omega
theorem I37:Reads Tryz.prog 26 (List Int) 1 intsC (fun l=>∀a∈l,(Lit.int .i64 a).wf=true) (fun l=>1+(l.map fun _=>1).sum) :=
 C32 (C55 Tryz.underlying3 (by kernel_rfl)) (by omega) Tryz.underlying26 (by kernel_rfl)
theorem J23:Reads Tryz.prog 36 File 2 d8 (fun _=>True) (fun f=>1+D76 f) :=
 G01 (e0:=1) (e1:=1) (D74 Tryz.underlying9 (by kernel_rfl)) (D74 Tryz.underlying9 (by kernel_rfl)) Tryz.underlying36 (by kernel_rfl) rfl rfl
  (fun a b=>⟨a,b⟩) d8 (fun a b=>⟨fun j hj=>by (have e:j=0:=by omega);subst e;rfl,fun j hj=>by (have e:j=0:=by omega);subst e;rfl⟩)
  _ (fun a b _ _=>trivial) _ (fun a b=>by simp only [D76];omega)
theorem I38:Reads Tryz.prog 27 (List File) 1 B61 (fun l=>∀a∈l,True) (fun l=>1+(l.map fun f=>1+D76 f).sum) :=
 C32 J23 (by omega) Tryz.underlying27 (by kernel_rfl)
theorem H35:Reads Tryz.prog 29 Commit 3 H2 (fun _=>True) B04 :=
 G02 (e0:=1) (e1:=1) (e2:=1) I37 (C55 Tryz.underlying3 (by kernel_rfl)) I38 Tryz.underlying29 (by kernel_rfl) rfl rfl rfl
  (fun a b s=>⟨a,b,s⟩) H2 (fun a b s=>⟨fun j hj=>by (have e:j=0:=by omega);subst e;rfl,fun j hj=>by (have e:j=0:=by omega);subst e;rfl,fun j hj=>by (have e:j=0:=by omega);subst e;rfl⟩)
  _ (fun a b s _ _ _=>trivial) _ (fun a b s=>by
   have h1:=I35 a
   have h2:=I36 D76 s
   simp only [B04];omega)
theorem G03:Reads Tryz.prog 22 (List Commit) 1 (fun l _=>.list Commit 3 H2 l) (fun l=>∀a∈l,True) (fun l=>1+(l.map B04).sum) :=
 C32 H35 (by omega) Tryz.underlying22 (by kernel_rfl)
theorem few_of {g:Graph} (hl:g.length≤1000) (h:(g.map B04).sum≤1048576):FewT g:=by
 have h1:∀c∈g,B04 c≤1048576:=fun c hc=>Nat.le_trans (J22 B04 hc) h
 refine ⟨⟨hl,fun c hc=>by have:=h1 c hc;unfold B04 at this;omega⟩,fun c hc=>?_⟩
 have h2:=h1 c hc
 unfold B04 at h2
 have h3:∀f∈c.Files,D76 f≤1048576:=fun f hf=>by have:=J22 D76 hf;omega
 exact ⟨by omega,fun f hf=>by have:=h3 f hf;unfold D76 at this;omega,fun f hf=>by have:=h3 f hf;unfold D76 at this;omega⟩
end Go.Proofs.YtjmoigcpoopjhaaGreatDoor
