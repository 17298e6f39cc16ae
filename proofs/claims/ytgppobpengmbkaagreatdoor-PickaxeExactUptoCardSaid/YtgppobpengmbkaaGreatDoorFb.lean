/- Walks of the program's functions. -/
import Derived.Test.YtgppobpengmbkaaGreatDoorFa
import Derived.Test.YtgppobpengmbkaaGreatDoorFs
import Derived.Lib.Bytealg
set_option linter.unusedSimpArgs false
namespace Go.Proofs.YtgppobpengmbkaaGreatDoor
open Go Go.AL
set_option maxRecDepth 100000
set_option maxHeartbeats 1000000
def B30 (f x:File):Bool:=ltS f.Path x.Path&&!above f.Path x.Path
theorem C36:∀(l:List File) (x:File),M2 (l++[x])=(M2 l&&l.all fun f=>B30 f x)
 | [],x=>rfl
 | f::r,x=>by
  rw [J37,M2,M2,C36 r x,J58,List.all_cons,List.all_cons,List.all_nil]
  unfold B30
  cases (r.all fun x=>ltS f.Path x.Path&&!above f.Path x.Path)<;>cases ltS f.Path x.Path<;>cases above f.Path x.Path<;>cases M2 r<;>simp
theorem F31:∀(l:List File) (i:Nat),M2 l=true→M2 (l.take i)=true:=by
 intro l
 induction l with
 | nil=>intro i h;simpa using h
 | cons f r ih =>
  intro i h
  cases i with
  | zero=>rfl
  | succ i =>
   unfold M2 at h
   rw [J16,List.all_eq_true] at h
   rw [List.take_succ_cons]
   unfold M2
   rw [J16,List.all_eq_true]
   exact ⟨fun x hx=>h.1 x (List.mem_of_mem_take hx),ih i h.2⟩
theorem E45 (l:List File) (h:FewF l):FnOk Tryz.prog 39 [T9 l] (fun rs=>rs=[F2 (F5 l)]):=by
 have hl:=h.len
 refine FnOk.intro Tryz.func39 (by decide) V V V V ?_
 refine k2 (A2 (A6 V V (A4 ?_)));refine k1 (k2 (k2 (A2 (A3 V V (E0 V V (A5 (M5 V V) V (A4 ?_)))))));refine k1 ?_;refine B0 rfl (fun ht=>?_) (fun ht=>?_)
 ·have h1:(200:Int) < l.length:=A0 ht
  refine k2 (A2 (A6 V V (A4 ?_)));refine k1 (k10 (k11 ?_))
  exact B6 (rs:=[F2 1]) (G7 rfl rfl rfl) (by unfold F5;rw [if_pos (by omega)])
 have h1:¬(200:Int) < l.length:=A1 ht
 refine k5 (k1 (k2 (k2 (A2 (A6 V V (A4 ?_))))));refine k1 (k3 (C5 (X:=Nat) (fun i=>([(0,C6 File 2 R9 l),(3,C0 i)],[])) (fun i=>i≤l.length∧((l.take i).any fun f=>decide (L4 f.Path≠0))=false) (fun i=>l.length - i) 0 ⟨Nat.zero_le _,rfl⟩ (I90 ⟨le1 rfl,le1 rfl,trivial⟩ trivial) ?_))
 rintro i ⟨hi,hn⟩
 dsimp only at hi hn ⊢
 refine k2 (k2 (A2 (A3 V V (A3 V V (E0 V V (E8 V V V (A4 ?_)))))));refine k1 ?_;refine B0 rfl (fun ht=>?_) (fun ht=>?_)
 ·have hlt:i < l.length:=by have h1:=A0 ht;(try dsimp only at h1);omega
  obtain ⟨f,hf⟩:∃f,f=l[i]:=⟨_,rfl⟩
  have hv:l[i]?=some f:=by rw [hf];simp [hlt]
  have hm:f∈l:=by rw [hf];exact J18 hlt
  refine k5 (k1 (k2 (k3 (k2 (A2 (A3 V V (A3 V V (A5 (A9 V (.pure _ _ _ _) V (by omega) hv) V (A5 (B8 V) V (A5 (A8 V V) V (D3 (E40 f.Path (h.path f hm)) V V V ?_)))))))))));rintro _ rfl;refine A5 (Q8 V V) V (A4 ?_);refine k1 ?_;refine B0 rfl (fun ht=>?_) (fun ht=>?_)
  ·have h2:L4 f.Path≠0:=A0 ht
   refine k2 (A2 (A6 V V (A4 ?_)));refine k1 (k10 (k12 (k11 (k11 (k12 (k11 ?_))))))
   exact B6 (rs:=[F2 210]) (G7 rfl rfl rfl) (by unfold F5;rw [if_neg (by omega),if_pos (List.any_eq_true.2 ⟨f,hm,decide_eq_true h2⟩)])
  ·have h2:¬L4 f.Path≠0:=A1 ht
   refine k5 (k4 (k1 (A2 (A3 V V (D2 V V V (A6 V V (A4 ?_)))))));refine k1 ?_;refine ⟨i+1,⟨hlt,?_⟩,by omega,(I90 ⟨le1 rfl,le1 rfl,trivial⟩ trivial)⟩
   rw [List.take_add_one,hv,Option.toList_some,J60,hn,Bool.false_or,List.any_cons,List.any_nil,Bool.or_false,decide_eq_false h2]
 have hie:i=l.length:=by have h1:=A1 ht;(try dsimp only at h1);omega
 rw [hie,J23] at hn
 have hpa:=hn
 have hbad:M2 l=false→[F2 211]=[F2 (F5 l)]:=fun e=>by unfold F5;rw [if_neg (by omega),if_neg (by rw [hpa];decide),if_pos e]
 refine k6 (k2 (k2 (A2 (A6 V V (A4 ?_)))));refine k1 (k3 (C5 (X:=Nat) (fun i=>([(0,C6 File 2 R9 l),(4,C0 i)],[])) (fun i=>i≤l.length∧M2 (l.take i)=true) (fun i=>l.length - i) 0 ⟨Nat.zero_le _,rfl⟩ (I90 ⟨le1 rfl,le1 rfl,trivial⟩ trivial) ?_))
 rintro i ⟨hi,ho⟩
 dsimp only at hi ho ⊢
 refine k2 (k2 (A2 (A3 V V (A3 V V (E0 V V (E8 V V V (A4 ?_)))))));refine k1 ?_;refine B0 rfl (fun ht=>?_) (fun ht=>?_)
 ·have hlt:i < l.length:=by have h1:=A0 ht;(try dsimp only at h1);omega
  obtain ⟨f,hf⟩:∃f,f=l[i]:=⟨_,rfl⟩
  have hv:l[i]?=some f:=by rw [hf];simp [hlt]
  have hm:f∈l:=by rw [hf];exact J18 hlt
  have hfp:=h.path f hm
  have hsn:M2 (l.take (i+1))=(l.take i).all fun g=>B30 g f:=by
   rw [List.take_add_one,hv,Option.toList_some,C36,ho,Bool.true_and]
  refine k5 (k1 (k2 (k3 (k2 (A2 (A6 V V (A4 ?_)))))));refine k1 (k3 (C5 (X:=Nat) (fun k=>([(0,C6 File 2 R9 l),(4,C0 i),(5,C0 k)],[])) (fun k=>k≤i∧((l.take k).all fun g=>B30 g f)=true) (fun k=>i - k) 0 ⟨Nat.zero_le _,rfl⟩ (I90 ⟨le1 rfl,le1 rfl,le1 rfl,trivial⟩ trivial) ?_))
  rintro k ⟨hk,hak⟩
  dsimp only at hk hak ⊢
  refine k2 (k2 (A2 (A3 V V (A3 V V (E8 V V V (A4 ?_))))));refine k1 ?_;refine B0 rfl (fun ht=>?_) (fun ht=>?_)
  ·have hklt:k < i:=by have h1:=A0 ht;(try dsimp only at h1);omega
   obtain ⟨g,hg⟩:∃g,g=l[k]:=⟨_,rfl⟩
   have hvg:l[k]?=some g:=by rw [hg];simp [show k < l.length by omega]
   have hmg:g∈l.take i:=by
    rw [hg]
    have:(l.take i)[k]'(by rw [J25];omega)=l[k]:=List.getElem_take
    rw [←this];exact J18 _
   have hgp:=h.path g (List.mem_of_mem_take hmg)
   refine k5 (k1 (k2 (k3 (k2 (E6 (by kernel_rfl) (by kernel_rfl) (E5 V V (E5 V V (B5 (A9 V (.pure _ _ _ _) V (by omega) hvg) V V (B5 (B8 V) V V (B5 (A8 V V) V V (E5 V V (E5 V V (B5 (A9 V (.pure _ _ _ _) V (by omega) hv) V V (B5 (B8 V) V V (B5 (A8 V V) V V (B5 (F20 V V) V V (E5 V V (E7 V V (fun hg=>by rw [hg];exact B7 V V) V V ?_))))))))))))))))));refine E7 V V (fun hg=>by rw [hg];exact B7 V V) V V ?_;refine E7 V V (fun hg=>by have hq:=hg;(try simp at hq);rw [hg];exact A9 V (.pure _ _ _ _) V (by omega) hvg) V V ?_;refine E7 V V (fun hg=>by rw [hg];exact B8 V) V V ?_;refine E7 V V (fun hg=>by rw [hg];exact A8 V V) V V ?_;refine E7 V V (fun hg=>by rw [hg];exact B7 V V) V V ?_;refine E7 V V (fun hg=>by rw [hg];exact B7 V V) V V ?_;refine E7 V V (fun hg=>by have hq:=hg;(try simp at hq);rw [hg];exact A9 V (.pure _ _ _ _) V (by omega) hv) V V ?_;refine E7 V V (fun hg=>by rw [hg];exact B8 V) V V ?_;refine E7 V V (fun hg=>by rw [hg];exact A8 V V) V V ?_;refine E7 V V (fun hg=>by have hq:=hg;(try simp at hq);rw [hg];exact N4 (H88 g.Path f.Path hgp hfp) V V) V V ?_;refine B5 (K7 V (fun h=>by first | rfl | (rw [h];rfl)) (fun h=>by first | rfl | (rw [h];rfl))) V V ?_;refine P0 ?_;refine k1 ?_
   rw [F46]
   refine B0 rfl (fun ht=>?_) (fun ht=>?_)
   ·have hpo:B30 g f=false:=by
     unfold B30
     rw [J35,Bool.not_eq_true'] at ht
     rcases ht with h2 | h2
     ·have h2:ltS g.Path f.Path=false:=h2
      rw [h2];rfl
     ·rw [h2];simp
    refine k2 (A2 (A6 V V (A4 ?_)));refine k1 (k10 (k12 (k11 (k11 (k12 (k12 (k11 (k11 (k12 (k11 ?_))))))))));refine B6 (rs:=[F2 211]) (G7 rfl rfl rfl) (hbad ?_)
    cases hq:M2 l
    ·rfl
    ·have h3:=F31 l (i+1) hq
     rw [hsn,List.all_eq_true] at h3
     rw [h3 g hmg] at hpo;cases hpo
   ·have hpo:B30 g f=true:=by
     unfold B30
     rw [J45,Bool.not_eq_false'] at ht
     have h2:ltS g.Path f.Path=true:=ht.1
     rw [h2,ht.2];rfl
    refine k5 (k4 (k1 (A2 (A3 V V (D2 V V V (A6 V V (A4 ?_)))))));refine k1 ?_;refine ⟨k+1,⟨hklt,?_⟩,by omega,(I90 ⟨le1 rfl,le1 rfl,le1 rfl,trivial⟩ trivial)⟩
    rw [List.take_add_one,hvg,Option.toList_some,J58,hak,Bool.true_and,List.all_cons,List.all_nil,hpo];rfl
  ·have hke:k=i:=by have h1:=A1 ht;(try dsimp only at h1);omega
   rw [hke] at hak
   refine k6 (k7 (k7 (k8 V (k4 (k1 (A2 (A3 V V (D2 V V V (A6 V V (A4 ?_))))))))));refine k1 ?_
   exact ⟨i+1,⟨hlt,by rw [hsn];exact hak⟩,by omega,(I90 ⟨le1 rfl,le1 rfl,trivial⟩ trivial)⟩
 have hie:i=l.length:=by have h1:=A1 ht;(try dsimp only at h1);omega
 rw [hie,J23] at ho
 refine k6 (k2 (k2 (A2 (A6 V V (A4 ?_)))));refine k1 (k3 (C5 (X:=Nat) (fun i=>([(0,C6 File 2 R9 l),(6,C0 i)],[])) (fun i=>i≤l.length∧((l.take i).any fun f=>decide (Q6 f.Blob≠0))=false) (fun i=>l.length - i) 0 ⟨Nat.zero_le _,rfl⟩ (I90 ⟨le1 rfl,le1 rfl,trivial⟩ trivial) ?_))
 rintro i ⟨hi,hn⟩
 dsimp only at hi hn ⊢
 refine k2 (k2 (A2 (A3 V V (A3 V V (E0 V V (E8 V V V (A4 ?_)))))));refine k1 ?_;refine B0 rfl (fun ht=>?_) (fun ht=>?_)
 ·have hlt:i < l.length:=by have h1:=A0 ht;(try dsimp only at h1);omega
  obtain ⟨f,hf⟩:∃f,f=l[i]:=⟨_,rfl⟩
  have hv:l[i]?=some f:=by rw [hf];simp [hlt]
  have hm:f∈l:=by rw [hf];exact J18 hlt
  have hfb:=h.blob f hm
  refine k5 (k1 (k2 (k3 (k2 (A2 (A3 V V (A3 V V (A5 (A9 V (.pure _ _ _ _) V (by omega) hv) V (A5 (B8 V) V (A5 (A8 V V) V (D3 (I53 f.Blob (by omega)) V V V ?_)))))))))));rintro _ rfl;refine A5 (Q8 V V) V (A4 ?_);refine k1 ?_;refine B0 rfl (fun ht=>?_) (fun ht=>?_)
  ·have h2:Q6 f.Blob≠0:=A0 ht
   refine k2 (A2 (A6 V V (A4 ?_)));refine k1 (k10 (k12 (k11 (k11 (k12 (k11 ?_))))))
   exact B6 (rs:=[F2 1]) (G7 rfl rfl rfl) (by unfold F5;rw [if_neg (by omega),if_neg (by rw [hpa];decide),if_neg (by rw [ho];decide),if_pos (List.any_eq_true.2 ⟨f,hm,decide_eq_true h2⟩)])
  ·have h2:¬Q6 f.Blob≠0:=A1 ht
   refine k5 (k4 (k1 (A2 (A3 V V (D2 V V V (A6 V V (A4 ?_)))))));refine k1 ?_;refine ⟨i+1,⟨hlt,?_⟩,by omega,(I90 ⟨le1 rfl,le1 rfl,trivial⟩ trivial)⟩
   rw [List.take_add_one,hv,Option.toList_some,J60,hn,Bool.false_or,List.any_cons,List.any_nil,Bool.or_false,decide_eq_false h2]
 have hie:i=l.length:=by have h1:=A1 ht;(try dsimp only at h1);omega
 rw [hie,J23] at hn
 refine k6 (k2 (A2 (A6 V V (A4 ?_))));refine k1 (k10 ?_)
 exact B6 (rs:=[F2 0]) (G7 rfl rfl rfl) (by unfold F5;rw [if_neg (by omega),if_neg (by rw [hpa];decide),if_neg (by rw [ho];decide),if_neg (by rw [hn];decide)])
structure FewT (g:Graph):Prop where
 few:FewG g
 tree:∀c∈g,FewF c.Files
theorem FewT.files {g:Graph} (h:FewT g) (c:Nat):FewF (K5 g c):=by
 unfold K5
 by_cases hc:c < g.length
 ·rw [J15 hc];exact h.tree _ (J18 hc)
 ·rw [J34 (by omega)];exact ⟨by simp,(fun _ h=>by cases h),(fun _ h=>by cases h)⟩
theorem A42:∀{g:List Commit} {i:Nat},(∀k,k < i→∀h:k < g.length,F5 g[k].Files=0)→U7 g=U7 (g.drop i)
 | g,0,_=>rfl
 | [],i+1,_=>by simp
 | c::r,i+1,h=>by
  have h0:=h 0 (by omega) (by simp)
  rw [U7,if_neg (by simpa using h0),List.drop_succ_cons]
  exact A42 fun k hk hl=>h (k+1) (by omega) (by simpa using hl)
theorem H94 {g:Graph} {c:Nat} (hc:c < g.length) (h0:D9 g c≠[]) (h:K0 (M9 g (D9 g c)) c=true):cyclic g=true:=by
 unfold cyclic
 rw [List.any_eq_true]
 exact ⟨c,List.mem_range.2 hc,by rw [h,Bool.and_true];exact decide_eq_true h0⟩
theorem rdag_ok (g:Graph) (h:FewT g):FnOk Tryz.prog 23 [I7 g] (fun rs=>rs=[F2 (J1 g)]):=by
 have hg:=h.few.len
 refine FnOk.intro Tryz.func23 (by decide) V V V V ?_
 refine k2 (A2 (A6 V V (A4 ?_)));refine k1 (k2 (k2 (A2 (A3 V V (E0 V V (A5 (M5 V V) V (A4 ?_)))))));refine k1 ?_;refine B0 rfl (fun ht=>?_) (fun ht=>?_)
 ·have h1:(300:Int) < g.length:=A0 ht
  refine k2 (A2 (A6 V V (A4 ?_)));refine k1 (k10 (k11 ?_))
  exact B6 (rs:=[F2 1]) (G7 rfl rfl rfl) (by unfold J1 U8;rw [if_pos (by rw [decide_eq_false (by omega)];rfl)])
 have h1:¬(300:Int) < g.length:=A1 ht
 refine k5 (k1 (k2 (k2 (A2 (A6 V V (A4 ?_))))));refine k1 (k3 (C5 (X:=Nat) (fun i=>([(0,C6 Commit 3 G1 g),(3,C0 i)],[])) (fun i=>i≤g.length∧((g.take i).any fun c=>decide (c.Parents.length > 32))=false) (fun i=>g.length - i) 0 ⟨Nat.zero_le _,rfl⟩ (I90 ⟨le1 rfl,le1 rfl,trivial⟩ trivial) ?_))
 rintro i ⟨hi,hn⟩
 dsimp only at hi hn ⊢
 refine k2 (k2 (A2 (A3 V V (A3 V V (E0 V V (E8 V V V (A4 ?_)))))));refine k1 ?_;refine B0 rfl (fun ht=>?_) (fun ht=>?_)
 ·have hlt:i < g.length:=by have h1:=A0 ht;(try dsimp only at h1);omega
  obtain ⟨c,hc⟩:∃c,c=g[i]:=⟨_,rfl⟩
  have hv:g[i]?=some c:=by rw [hc];simp [hlt]
  have hm:c∈g:=by rw [hc];exact J18 hlt
  refine k5 (k1 (k2 (k3 (k2 (A2 (A3 V V (A3 V V (A5 (A9 V (.pure _ _ _ _) V (by omega) hv) V (A5 (B8 V) V (A5 (A8 V V) V (E0 V V (A5 (M5 V V) V (A4 ?_)))))))))))));refine k1 ?_;refine B0 rfl (fun ht=>?_) (fun ht=>?_)
  ·have h2:(32:Int) < c.Parents.length:=A0 ht
   refine k2 (A2 (A6 V V (A4 ?_)));refine k1 (k10 (k12 (k11 (k11 (k12 (k11 ?_))))))
   exact B6 (rs:=[F2 1]) (G7 rfl rfl rfl) (by unfold J1 U8;rw [if_pos (by rw [List.any_eq_true.2 ⟨c,hm,decide_eq_true (show c.Parents.length > 32 by omega)⟩];simp)])
  ·have h2:¬(32:Int) < c.Parents.length:=A1 ht
   refine k5 (k4 (k1 (A2 (A3 V V (D2 V V V (A6 V V (A4 ?_)))))));refine k1 ?_;refine ⟨i+1,⟨hlt,?_⟩,by omega,(I90 ⟨le1 rfl,le1 rfl,trivial⟩ trivial)⟩
   rw [List.take_add_one,hv,Option.toList_some,J60,hn,Bool.false_or,List.any_cons,List.any_nil,Bool.or_false,decide_eq_false (show ¬c.Parents.length > 32 by omega)]
 have hie:i=g.length:=by have h1:=A1 ht;(try dsimp only at h1);omega
 rw [hie,J23] at hn
 have hlim:U8 g=true:=by unfold U8;rw [hn,decide_eq_true (show g.length≤300 by omega)];rfl
 refine k6 (k2 (k2 (A2 (A6 V V (A4 ?_)))));refine k1 (k3 (C5 (X:=Nat) (fun i=>([(0,C6 Commit 3 G1 g),(4,C0 i)],[])) (fun i=>i≤g.length∧((g.take i).all fun c=>x7 g.length [] c.Parents)=true) (fun i=>g.length - i) 0 ⟨Nat.zero_le _,rfl⟩ (I90 ⟨le1 rfl,le1 rfl,trivial⟩ trivial) ?_))
 rintro i ⟨hi,ha⟩
 dsimp only at hi ha ⊢
 refine k2 (k2 (A2 (A3 V V (A3 V V (E0 V V (E8 V V V (A4 ?_)))))));refine k1 ?_;refine B0 rfl (fun ht=>?_) (fun ht=>?_)
 ·have hlt:i < g.length:=by have h1:=A0 ht;(try dsimp only at h1);omega
  obtain ⟨c,hc⟩:∃c,c=g[i]:=⟨_,rfl⟩
  have hv:g[i]?=some c:=by rw [hc];simp [hlt]
  have hm:c∈g:=by rw [hc];exact J18 hlt
  have hpl:=h.few.pars c hm
  have hbad:x7 g.length [] c.Parents=false→[F2 230]=[F2 (J1 g)]:=fun hr=>by
   have:related g=false:=by
    unfold related
    rw [List.all_eq_false]
    exact ⟨c,hm,by rw [hr];decide⟩
   unfold J1;rw [if_neg (by rw [hlim];decide),if_pos this]
  refine k5 (k1 (k2 (k3 (k2 (A2 (A6 V V (A4 ?_)))))));refine k1 (k3 (C5 (X:=Nat) (fun k=>([(0,C6 Commit 3 G1 g),(4,C0 i),(5,C0 k)],[])) (fun k=>k≤c.Parents.length∧x7 g.length [] c.Parents=x7 g.length (c.Parents.take k) (c.Parents.drop k)) (fun k=>c.Parents.length - k) 0 ⟨Nat.zero_le _,rfl⟩ (I90 ⟨le1 rfl,le1 rfl,le1 rfl,trivial⟩ trivial) ?_))
  rintro k ⟨hk,hr⟩
  dsimp only at hk hr ⊢
  refine k2 (k2 (A2 (A3 V V (A3 V V (A3 V V (A5 (A9 V (.pure _ _ _ _) V (by omega) hv) V (A5 (B8 V) V (A5 (A8 V V) V (E0 V V (E8 V V V (A4 ?_)))))))))));refine k1 ?_;refine B0 rfl (fun ht=>?_) (fun ht=>?_)
  ·have hklt:k < c.Parents.length:=by have h1:=A0 ht;(try dsimp only at h1);omega
   have hvp:c.Parents[k]?=some c.Parents[k]:=by simp [hklt]
   rw [J24 hklt] at hr
   obtain ⟨p,hp⟩:∃p,p=c.Parents[k]:=⟨_,rfl⟩
   rw [←hp] at hvp hr
   have htk:c.Parents.take (k+1)=c.Parents.take k++[p]:=by rw [List.take_add_one,hvp,Option.toList_some]
   rw [x7,←htk] at hr
   refine k5 (k1 (k2 (k3 (k2 (A2 (A3 V V (A3 V V (A5 (A9 V (.pure _ _ _ _) V (by omega) hv) V (A5 (B8 V) V (A5 (A8 V V) V (A3 V V (A5 (A9 V (.pure _ _ _ _) V (by omega) hvp) V (A5 (A8 V V) V (A6 V V (A4 ?_)))))))))))))));refine k1 (k2 (A2 (A3 V V (E8 V V V (A3 V V (B1 V V V V (fun hg=>by rw [hg];exact B7 V V) ?_))))));refine B1 V V V V (fun hg=>by rw [hg];exact B7 V V) ?_;refine B1 V V V V (fun hg=>by rw [hg];exact X7 V (.pure _ _ _ _)) ?_;refine B1 V V V V (fun hg=>by rw [hg];exact W5 V V) ?_;refine I6 V V ?_;refine A3 V V (B1 V V V V (fun hg=>by rw [hg];exact B7 V V) ?_);refine B1 V V V V (fun hg=>by rw [hg];exact B7 V V) ?_;refine B1 V V V V (fun hg=>by have hq:=hg;(try simp at hq);rw [hg];exact A9 V (.pure _ _ _ _) V (by omega) hv) ?_;refine B1 V V V V (fun hg=>by rw [hg];exact B8 V) ?_;refine B1 V V V V (fun hg=>by rw [hg];exact A8 V V) ?_;refine B1 V V V V (fun hg=>by rw [hg];exact B7 V V) ?_;refine B1 V V V V (fun hg=>by have hq:=hg;(try simp at hq);rw [hg];exact B56 V (.pure _ _ _ _) V (by omega) (by omega)) ?_;refine B1 V V V V (fun hg=>by rw [hg];exact B7 V V) ?_;refine B1 V V V V (fun hg=>by have hq:=hg;(try simp at hq);rw [hg];exact N4 (H51 (c.Parents.take ((k:Nat):Int).toNat) p (by rw [J25];omega)) V V) ?_;refine I6 V V ?_;refine A4 ?_;refine k1 ?_
   rw [J17,F46,F46]
   refine B0 rfl (fun ht=>?_) (fun ht=>?_)
   ·rw [J35,J35,decide_eq_true_eq,decide_eq_true_eq,decide_eq_true_eq] at ht
    have h1:decide (0≤p∧p < (g.length:Int)∧p∉c.Parents.take k)=false:=by
     rw [decide_eq_false_iff_not]
     rintro ⟨a1,a2,a3⟩
     rcases ht with (h | h) | h
     ·omega
     ·omega
     ·exact a3 h
    rw [h1,Bool.false_and] at hr
    refine k2 (A2 (A6 V V (A4 ?_)));refine k1 (k10 (k12 (k11 (k11 (k12 (k12 (k11 (k11 (k12 (k11 ?_))))))))))
    exact B6 (rs:=[F2 230]) (G7 rfl rfl rfl) (hbad hr)
   ·rw [J45,J45,decide_eq_false_iff_not,decide_eq_false_iff_not,decide_eq_false_iff_not] at ht
    have h1:decide (0≤p∧p < (g.length:Int)∧p∉c.Parents.take k)=true:=decide_eq_true ⟨by omega,by omega,ht.2⟩
    rw [h1,Bool.true_and] at hr
    refine k5 (k4 (k1 (A2 (A3 V V (D2 V V V (A6 V V (A4 ?_)))))));refine k1 ?_
    exact ⟨k+1,⟨hklt,hr⟩,by omega,(I90 ⟨le1 rfl,le1 rfl,le1 rfl,trivial⟩ trivial)⟩
  ·have h1:k=c.Parents.length:=by have h1:=A1 ht;(try dsimp only at h1);omega
   rw [h1,List.drop_length] at hr
   refine k6 (k7 (k7 (k8 V (k4 (k1 (A2 (A3 V V (D2 V V V (A6 V V (A4 ?_))))))))));refine k1 ?_;refine ⟨i+1,⟨hlt,?_⟩,by omega,(I90 ⟨le1 rfl,le1 rfl,trivial⟩ trivial)⟩
   rw [List.take_add_one,hv,Option.toList_some,J58,ha,Bool.true_and,List.all_cons,List.all_nil,Bool.and_true,hr]
   rfl
 have hie:i=g.length:=by have h1:=A1 ht;(try dsimp only at h1);omega
 rw [hie,J23] at ha
 have hrel:related g=true:=ha
 have hres:J1 g=if cyclic g=true then 231 else if A32 g=true then 3 else U7 g:=by unfold J1;rw [if_neg (by rw [hlim];decide),if_neg (by rw [hrel];decide)]
 rw [hres]
 refine k6 (k2 (k2 (A2 (A6 V V (A4 ?_)))));refine k1 (k3 (C5 (X:=Nat) (fun i=>([(0,C6 Commit 3 G1 g),(7,C0 i)],[])) (fun i=>i≤g.length∧∀c,c < i→(decide (D9 g c≠[])&&K0 (M9 g (D9 g c)) c)=false) (fun i=>g.length - i) 0 ⟨Nat.zero_le _,fun c h=>by omega⟩ (I90 ⟨le1 rfl,le1 rfl,trivial⟩ trivial) ?_))
 rintro i ⟨hi,hcy⟩
 dsimp only at hi hcy ⊢
 refine k2 (k2 (A2 (A3 V V (A3 V V (E0 V V (E8 V V V (A4 ?_)))))));refine k1 ?_;refine B0 rfl (fun ht=>?_) (fun ht=>?_)
 ·have hlt:i < g.length:=by have h1:=A0 ht;(try dsimp only at h1);omega
  obtain ⟨c,hc⟩:∃c,c=g[i]:=⟨_,rfl⟩
  have hv:g[i]?=some c:=by rw [hc];simp [hlt]
  have hm:c∈g:=by rw [hc];exact J18 hlt
  have hpl:=h.few.pars c hm
  have hps:D9 g i=c.Parents:=by rw [S0 hlt,hc]
  have hpr:=(J0 hrel i).1
  have hne:c.Parents≠[]↔(0:Int) < c.Parents.length:=by
   constructor
   ·intro h;have:=List.length_pos_iff.2 h;omega
   ·intro h e;rw [e] at h;simp at h
  have hvr:(M9 g c.Parents)[((i:Nat):Int).toNat]?=some (K0 (M9 g c.Parents) i):=by rw [J17];exact A68 (by rw [B44];exact hlt)
  rw [hps] at hpr
  refine k5 (k1 (k2 (k3 (k2 (A2 (A3 V V (A3 V V (A5 (A9 V (.pure _ _ _ _) V (by omega) hv) V (A5 (B8 V) V (A5 (A8 V V) V (E0 V V (A5 (M5 V V) V (A3 V V (B1 V V V V (fun hg=>by rw [hg];exact B7 V V) ?_))))))))))))));refine B1 V V V V (fun hg=>by rw [hg];exact B7 V V) ?_;refine B1 V V V V (fun hg=>by rw [hg];exact B7 V V) ?_;refine B1 V V V V (fun hg=>by have hq:=hg;(try simp at hq);rw [hg];exact A9 V (.pure _ _ _ _) V (by omega) hv) ?_;refine B1 V V V V (fun hg=>by rw [hg];exact B8 V) ?_;refine B1 V V V V (fun hg=>by rw [hg];exact A8 V V) ?_;refine B1 V V V V (fun hg=>by have hq:=hg;(try simp at hq);rw [hg];exact N4 (E74 g c.Parents h.few.len h.few.pars hrel hpr hpl) V V) ?_;refine B1 V V V V (fun hg=>by rw [hg];exact B7 V V) ?_;refine B1 V V V V (fun hg=>by have hq:=hg;(try simp at hq);rw [hg];exact A9 V (.pure _ _ _ _) V (by omega) hvr) ?_;refine B1 V V V V (fun hg=>by rw [hg];exact A8 V V) ?_;refine I6 V V ?_;refine A4 ?_;refine k1 ?_
  rw [n6]
  refine B0 rfl (fun ht=>?_) (fun ht=>?_)
  ·rw [J16,decide_eq_true_eq] at ht
   have:=H94 hlt (by rw [hps];exact hne.2 ht.1) (by rw [hps];exact ht.2)
   rw [if_pos this]
   refine k2 (A2 (A6 V V (A4 ?_)));refine k1 (k10 (k12 (k11 (k11 (k12 (k11 ?_))))))
   exact B6 (rs:=[F2 231]) (G7 rfl rfl rfl) rfl
  ·refine k5 (k4 (k1 (A2 (A3 V V (D2 V V V (A6 V V (A4 ?_)))))));refine k1 ?_;refine ⟨i+1,⟨hlt,fun d hd=>?_⟩,by omega,(I90 ⟨le1 rfl,le1 rfl,trivial⟩ trivial)⟩
   by_cases e:d=i
   ·subst e
    rw [hps,decide_eq_decide.2 hne];exact ht
   ·exact hcy d (by omega)
 have hie:i=g.length:=by have h1:=A1 ht;(try dsimp only at h1);omega
 have hcyc:cyclic g=false:=by
  unfold cyclic
  rw [List.any_eq_false]
  intro c hc
  rw [hcy c (by rw [hie];exact List.mem_range.1 hc)];decide
 rw [hcyc,if_neg (by decide)]
 refine k6 (k2 (k2 (A2 (A6 V V (A4 ?_)))));refine k1 (k3 (C5 (X:=Nat) (fun i=>([(0,C6 Commit 3 G1 g),(8,C0 i)],[])) (fun i=>i≤g.length∧((g.take i).any fun c=>decide (c.Date < 0∨c.Date > 2147483647))=false) (fun i=>g.length - i) 0 ⟨Nat.zero_le _,rfl⟩ (I90 ⟨le1 rfl,le1 rfl,trivial⟩ trivial) ?_))
 rintro i ⟨hi,hn⟩
 dsimp only at hi hn ⊢
 refine k2 (k2 (A2 (A3 V V (A3 V V (E0 V V (E8 V V V (A4 ?_)))))));refine k1 ?_;refine B0 rfl (fun ht=>?_) (fun ht=>?_)
 ·have hlt:i < g.length:=by have h1:=A0 ht;(try dsimp only at h1);omega
  obtain ⟨c,hc⟩:∃c,c=g[i]:=⟨_,rfl⟩
  have hv:g[i]?=some c:=by rw [hc];simp [hlt]
  have hm:c∈g:=by rw [hc];exact J18 hlt
  refine k5 (k1 (k2 (k3 (k2 (A2 (A3 V V (A3 V V (A5 (A9 V (.pure _ _ _ _) V (by omega) hv) V (A5 (B8 V) V (A5 (A8 V V) V (E8 V V V (A3 V V (B1 V V V V (fun hg=>by rw [hg];exact B7 V V) ?_)))))))))))));refine B1 V V V V (fun hg=>by rw [hg];exact B7 V V) ?_;refine B1 V V V V (fun hg=>by have hq:=hg;(try simp at hq);rw [hg];exact A9 V (.pure _ _ _ _) V (by omega) hv) ?_;refine B1 V V V V (fun hg=>by rw [hg];exact B8 V) ?_;refine B1 V V V V (fun hg=>by rw [hg];exact A8 V V) ?_;refine B1 V V V V (fun hg=>by rw [hg];exact M5 V V) ?_;refine I6 V V ?_;refine A4 ?_;refine k1 ?_;refine B0 rfl (fun ht=>?_) (fun ht=>?_)
  ·have h2:c.Date < 0∨c.Date > 2147483647:=A0 (or_pick.symm.trans ht)
   have:A32 g=true:=List.any_eq_true.2 ⟨c,hm,decide_eq_true h2⟩
   rw [if_pos this]
   refine k2 (A2 (A6 V V (A4 ?_)));refine k1 (k10 (k12 (k11 (k11 (k12 (k11 ?_))))))
   exact B6 (rs:=[F2 3]) (G7 rfl rfl rfl) rfl
  ·have h2:¬(c.Date < 0∨c.Date > 2147483647):=A1 (or_pick.symm.trans ht)
   refine k5 (k4 (k1 (A2 (A3 V V (D2 V V V (A6 V V (A4 ?_)))))));refine k1 ?_;refine ⟨i+1,⟨hlt,?_⟩,by omega,(I90 ⟨le1 rfl,le1 rfl,trivial⟩ trivial)⟩
   rw [List.take_add_one,hv,Option.toList_some,J60,hn,Bool.false_or,List.any_cons,List.any_nil,Bool.or_false,decide_eq_false h2]
 have hie:i=g.length:=by have h1:=A1 ht;(try dsimp only at h1);omega
 rw [hie,J23] at hn
 have hbd:A32 g=false:=hn
 rw [hbd,if_neg (by decide)]
 refine k6 (k2 (k2 (A2 (A6 V V (A4 ?_)))));refine k1 (k3 (C5 (X:=Nat) (fun i=>([(0,C6 Commit 3 G1 g),(9,C0 i)],[])) (fun i=>i≤g.length∧∀k,k < i→∀h:k < g.length,F5 g[k].Files=0) (fun i=>g.length - i) 0 ⟨Nat.zero_le _,fun c h=>by omega⟩ (I90 ⟨le1 rfl,le1 rfl,trivial⟩ trivial) ?_))
 rintro i ⟨hi,hz⟩
 dsimp only at hi hz ⊢
 have hfe:=A42 hz
 refine k2 (k2 (A2 (A3 V V (A3 V V (E0 V V (E8 V V V (A4 ?_)))))));refine k1 ?_;refine B0 rfl (fun ht=>?_) (fun ht=>?_)
 ·have hlt:i < g.length:=by have h1:=A0 ht;(try dsimp only at h1);omega
  obtain ⟨c,hc⟩:∃c,c=g[i]:=⟨_,rfl⟩
  have hv:g[i]?=some c:=by rw [hc];simp [hlt]
  have hm:c∈g:=by rw [hc];exact J18 hlt
  rw [J24 hlt,←hc,U7] at hfe
  refine k5 (k1 (k2 (k3 (k2 (A2 (A3 V V (A3 V V (A5 (A9 V (.pure _ _ _ _) V (by omega) hv) V (A5 (B8 V) V (A5 (A8 V V) V (D3 (E45 c.Files (h.tree c hm)) V V V ?_)))))))))));rintro _ rfl;refine A6 V V (A4 ?_);refine k1 (k2 (A2 (A3 V V (A5 (Q8 V V) V (A4 ?_)))));refine k1 ?_;refine B0 rfl (fun ht=>?_) (fun ht=>?_)
  ·have h2:F5 c.Files≠0:=A0 ht
   rw [if_pos h2] at hfe
   rw [hfe]
   refine k2 (A2 (A3 V V (A6 V V (A4 ?_))));refine k1 (k10 (k12 (k11 (k11 (k12 (k11 ?_))))))
   exact B6 (rs:=[F2 (F5 c.Files)]) (G7 rfl rfl rfl) rfl
  ·have h2:¬F5 c.Files≠0:=A1 ht
   refine k5 (k4 (k1 (A2 (A3 V V (D2 V V V (A6 V V (A4 ?_)))))));refine k1 ?_;refine ⟨i+1,⟨hlt,fun k hk hkl=>?_⟩,by omega,(I90 ⟨le1 rfl,le1 rfl,trivial⟩ trivial)⟩
   by_cases e:k=i
   ·subst e;rw [←hc];exact Decidable.not_not.1 h2
   ·exact hz k (by omega) hkl
 have hie:i=g.length:=by have h1:=A1 ht;(try dsimp only at h1);omega
 rw [hie,List.drop_length] at hfe
 rw [hfe]
 refine k6 (k2 (A2 (A6 V V (A4 ?_))));refine k1 (k10 ?_)
 exact B6 (rs:=[F2 0]) (G7 rfl rfl rfl) rfl
theorem H53 (g:Graph) (h:FewT g):FnOk Tryz.prog 56 [I7 g] (fun rs=>rs=[F2 (J1 g)]):=by
 have hg:=h.few.len
 refine FnOk.intro Tryz.func56 (by decide) V V V V ?_
 refine k2 (A2 (A6 V V (A4 ?_)));refine k1 (k2 (k3 (k2 (A2 (A3 V V (D3 (F91 g h.few (by omega)) V V V ?_))))));rintro _ rfl;refine A5 (U2 V) V (A6 V V (A4 ?_));refine k1 ?_;refine B0 rfl (fun ht=>?_) (fun ht=>?_)
 ·have h1:U8 g=false:=by simpa using ht
  refine k2 (A2 (A6 V V (A4 ?_)));refine k1 (k10 (k12 (k11 ?_)))
  exact B6 (rs:=[F2 1]) (G7 rfl rfl rfl) (by unfold J1;rw [if_pos h1])
 have hlim:U8 g=true:=by simpa using ht
 refine k2 (A2 (A3 V V (D3 (F92 g h.few (by omega)) V V V ?_)));rintro _ rfl;refine A5 (U2 V) V (A6 V V (A4 ?_));refine k1 ?_;refine B0 rfl (fun ht=>?_) (fun ht=>?_)
 ·have h1:related g=false:=by simpa using ht
  refine k2 (A2 (A6 V V (A4 ?_)));refine k1 (k10 (k12 (k11 ?_)))
  exact B6 (rs:=[F2 230]) (G7 rfl rfl rfl) (by unfold J1;rw [if_neg (by rw [hlim];decide),if_pos h1])
 have hrel:related g=true:=by simpa using ht
 have hres:J1 g=if cyclic g=true then 231 else if A32 g=true then 3 else U7 g:=by unfold J1;rw [if_neg (by rw [hlim];decide),if_neg (by rw [hrel];decide)]
 rw [hres]
 refine k2 (A2 (A3 V V (D3 (G72 g h.few hrel) V V V ?_)));rintro _ ⟨ch,out,rfl,hK⟩;refine E0 V V (A3 V V (E0 V V (E8 V V V (A6 V V (A4 ?_)))))
 have hcy:=hK.done hrel
 have hcy:decide ((out.length:Int) < g.length)=cyclic g:=by rw [←hcy,decide_eq_decide];omega
 refine k1 ?_
 rw [hcy]
 refine B0 rfl (fun ht=>?_) (fun ht=>?_)
 ·rw [if_pos ht]
  refine k2 (A2 (A6 V V (A4 ?_)));refine k1 (k10 (k12 (k11 ?_)))
  exact B6 (rs:=[F2 231]) (G7 rfl rfl rfl) rfl
 rw [ht,if_neg (by decide)]
 refine k2 (A2 (A3 V V (D3 (A26 90 (fun c=>decide (c.Date < 0∨c.Date > 2147483647)) g (by omega) (fun c _=>G70 c)) V V V ?_)));rintro _ rfl;refine A6 V V (A4 ?_);refine k1 ?_;refine B0 rfl (fun ht=>?_) (fun ht=>?_)
 ·have h1:A32 g=true:=ht
  rw [if_pos h1]
  refine k2 (A2 (A6 V V (A4 ?_)));refine k1 (k10 (k12 (k11 ?_)))
  exact B6 (rs:=[F2 3]) (G7 rfl rfl rfl) rfl
 have hbd:A32 g=false:=ht
 rw [hbd,if_neg (by decide)]
 refine k5 (k2 (k2 (A2 (A3 V V (E0 V V (A3 V V (A4 ?_)))))));refine k1 (k3 (C5 (X:=Nat) (fun i=>([(24,C6 Commit 3 G1 g),(25,C0 g.length),(26,C0 i)],[])) (fun i=>i≤g.length∧∀k,k < i→∀h:k < g.length,F5 g[k].Files=0) (fun i=>g.length - i) 0 ⟨Nat.zero_le _,fun c h=>by omega⟩ (I90 ⟨le1 rfl,le1 rfl,le1 rfl,trivial⟩ trivial) ?_))
 rintro i ⟨hi,hz⟩
 dsimp only at hi hz ⊢
 have hfe:=A42 hz
 refine k2 (A2 (E8 V V V (A4 ?_)));refine k1 (k2 ?_);refine B0 rfl (fun ht=>?_) (fun ht=>?_)
 ·have hlt:i < g.length:=by have h1:=A0 ht;(try dsimp only at h1);omega
  obtain ⟨c,hc⟩:∃c,c=g[i]:=⟨_,rfl⟩
  have hv:g[i]?=some c:=by rw [hc];simp [hlt]
  have hm:c∈g:=by rw [hc];exact J18 hlt
  rw [J24 hlt,←hc,U7] at hfe
  refine k5 (k1 (k2 (k3 (k2 (A2 (A5 (A9 V (.pure _ _ _ _) V (by omega) hv) V (A5 (D7 V V) V (C9 (J4 4 V) V (G8 (C1 TySz.out V V V V V V) (A4 ?_))))))))));refine k1 (k2 (A2 (A5 (A7 V) V (G4 V V V V (D3 (C09 c.Files (h.tree c hm)) V V V ?_)))));rintro _ rfl;refine A6 V V (A4 ?_);refine k1 (k2 (A2 (A3 V V (A5 (Q8 V V) V (A4 ?_)))));refine k1 ?_;refine B0 rfl (fun ht=>?_) (fun ht=>?_)
  ·have h2:F5 c.Files≠0:=A0 ht
   rw [if_pos h2] at hfe
   rw [hfe]
   refine k2 (A2 (A3 V V (A6 V V (A4 ?_))));refine k1 (k10 (k12 (k11 (k11 (k12 (k11 ?_))))))
   exact B6 (rs:=[F2 (F5 c.Files)]) (G7 rfl rfl rfl) rfl
  ·have h2:¬F5 c.Files≠0:=A1 ht
   refine k5 (k4 (k1 (A2 (D2 V V V (A3 V V (A4 ?_))))));refine k1 ?_;refine ⟨i+1,⟨hlt,fun k hk hkl=>?_⟩,by omega,(I90 ⟨le1 rfl,le1 rfl,le1 rfl,trivial⟩ trivial)⟩
   by_cases e:k=i
   ·subst e;rw [←hc];exact Decidable.not_not.1 h2
   ·exact hz k (by omega) hkl
 have hie:i=g.length:=by have h1:=A1 ht;(try dsimp only at h1);omega
 rw [hie,List.drop_length] at hfe
 rw [hfe]
 refine k6 (k2 (A2 (A6 V V (A4 ?_))));refine k1 (k10 ?_)
 exact B6 (rs:=[F2 0]) (G7 rfl rfl rfl) rfl
set_option maxHeartbeats 1000000
def V6 (L:List Int) (n:Nat):List Bool:=(List.range n).map fun c:Nat=>decide ((c:Int)∈L)
theorem E79 {L:List Int} {n c:Nat} (h:c < n):K0 (V6 L n) c=decide ((c:Int)∈L):=by
 unfold K0 V6
 rw [J52,J65 h];rfl
theorem D89 (L:List Int) (n:Nat):(V6 L n).length=n:=by simp [V6]
theorem G76 (n:Nat):V6 [] n=List.replicate n false:=by
 refine List.ext_getElem (by simp [V6]) fun i h1 h2=>?_
 simp [V6]
theorem G05 {L:List Int} {n b:Nat} (h:b < n):(V6 L n).set b true=V6 (L++[(b:Int)]) n:=by
 refine List.ext_getElem? fun i=>?_
 unfold V6
 rw [List.getElem?_set,J52,J52,J38,J46,if_pos h]
 by_cases hi:i < n
 ·rw [J65 hi]
  by_cases e:b=i
  ·rw [if_pos e,←e];simp
  ·have e2:¬(i:Int)=b:=by omega
   rw [if_neg e];simp [e2]
 ·have e:¬b=i:=by omega
  rw [if_neg e,J34 (by rw [J46];omega)];rfl
def bigK (inn:List Bool) (L:List Int) (ks:List Int):Bool:=ks.all fun k=>!(K0 inn k.toNat&&decide (k∉L))
theorem H95 (g:Graph) (inn:List Bool) (L:List Int) (c:Nat):W4 g inn L c=(bigK inn L (l5 g c g.length)&&(K0 inn c&&decide ((c:Int)∉L))):=by
 unfold W4 bigK l5
 rw [Bool.and_comm]
 congr 1
 rw [List.all_map,List.all_filter]
 congr 1
 funext k
 simp only [Function.comp_def,J17]
 cases h:decide ((c:Int)∈D9 g k)<;>simp
theorem H96 (g:Graph) (inn:List Bool) (L:List Int) (c:Nat) (hf:FewG g) (hi:inn.length=g.length) (hc:c < g.length) :
  FnOk Tryz.prog 25 [I7 g,F61 inn,F61 (V6 L g.length),F2 c] (fun rs=>rs=[H5 (W4 g inn L c)]):=by
 have hml:=D89 L g.length
 obtain ⟨ks,hks⟩:∃ks,ks=l5 g c g.length:=⟨_,rfl⟩
 have hkl:=D86 g c g.length
 have hkr:∀k∈ks,0≤k∧k < g.length:=fun k hk=>by
  rw [hks] at hk
  unfold l5 at hk
  obtain ⟨i,hi,rfl⟩:=List.mem_map.1 hk
  have:=List.mem_range.1 (List.mem_filter.1 hi).1
  omega
 rw [H95,←hks]
 rw [←hks] at hkl
 have hlen:=hf.len
 refine FnOk.intro Tryz.func25 (by decide) V V V V ?_
 refine k2 (A2 (A6 V V (A4 ?_)));refine k1 (k2 (A2 (A3 V V (A3 V V (D3 (I54 g c hf.len hf.pars) V V V ?_)))));rintro _ rfl;refine A6 V V (A4 ?_)
 rw [←hks]
 refine k1 (k2 (k2 (A2 (A6 V V (A4 ?_)))));refine k1 (k3 (C5 (X:=Nat) (fun k=>([(1,C6 Bool 1 v6 inn),(2,C6 Bool 1 v6 (V6 L g.length)),(3,C0 c),(9,C6 Int 1 E3 ks),(10,C0 k)],[])) (fun k=>k≤ks.length∧bigK inn L (ks.take k)=true) (fun k=>ks.length - k) 0 ⟨Nat.zero_le _,rfl⟩ (I90 ⟨le1 rfl,le1 rfl,le1 rfl,le1 rfl,le1 rfl,trivial⟩ trivial) ?_))
 rintro k ⟨hk,hb⟩
 dsimp only at hk hb ⊢
 refine k2 (k2 (A2 (A3 V V (A3 V V (E0 V V (E8 V V V (A4 ?_)))))));refine k1 ?_;refine B0 rfl (fun ht=>?_) (fun ht=>?_)
 rotate_left
 ·have hke:k=ks.length:=by have h1:=A1 ht;(try dsimp only at h1);omega
  rw [hke,J23] at hb
  have hv1:inn[((c:Nat):Int).toNat]?=some (K0 inn c):=by rw [J17,A68 (by omega)]
  have hv2:(V6 L g.length)[((c:Nat):Int).toNat]?=some (K0 (V6 L g.length) c):=by rw [J17,A68 (by omega)]
  refine k6 (k2 (A2 (A3 V V (A3 V V (A5 (A9 V (.pure _ _ _ _) V (by omega) hv1) V (A5 (A8 V V) V (A3 V V (B1 V V V V (fun hg=>by rw [hg];exact B7 V V) ?_))))))));refine B1 V V V V (fun hg=>by rw [hg];exact B7 V V) ?_;refine B1 V V V V (fun hg=>by have hq:=hg;(try simp at hq);rw [hg];exact A9 V (.pure _ _ _ _) V (by omega) hv2) ?_;refine B1 V V V V (fun hg=>by rw [hg];exact A8 V V) ?_;refine B1 V V V V (fun hg=>by rw [hg];exact U2 V) ?_;refine I6 V V ?_;refine A6 V V (A4 ?_);refine k1 (k10 (B6 (G7 V V V) ?_))
  rw [hb,E79 hc,n6,Bool.true_and,decide_not]
 have hlt:k < ks.length:=by have h1:=A0 ht;(try dsimp only at h1);omega
 obtain ⟨d,hd⟩:∃d,d=ks[k]:=⟨_,rfl⟩
 have hv:ks[k]?=some d:=by rw [hd];simp [hlt]
 have hdr:=hkr d (by rw [hd];exact J18 hlt)
 have hv1:inn[d.toNat]?=some (K0 inn d.toNat):=A68 (by omega)
 have hv2:(V6 L g.length)[d.toNat]?=some (K0 (V6 L g.length) d.toNat):=A68 (by omega)
 have hon:K0 (V6 L g.length) d.toNat=decide (d∈L):=by rw [E79 (by omega),Int.toNat_of_nonneg hdr.1]
 have hall:bigK inn L ks=true→(K0 inn d.toNat&&decide (d∉L))=false:=fun h=>by
  have:=List.all_eq_true.1 h d (by rw [hd];exact J18 hlt)
  have h2:K0 inn d.toNat=false∨d∈L:=by simpa using this
  rcases h2 with h2 | h2<;>simp [h2]
 refine k5 (k1 (k2 (k3 (k2 (A2 (A3 V V (A3 V V (A3 V V (A5 (A9 V (.pure _ _ _ _) V (by omega) hv) V (A5 (A8 V V) V (A5 (A9 V (.pure _ _ _ _) V (by omega) hv1) V (A5 (A8 V V) V (A3 V V (B1 V V V V (fun hg=>by rw [hg];exact B7 V V) ?_))))))))))))));refine B1 V V V V (fun hg=>by rw [hg];exact B7 V V) ?_;refine B1 V V V V (fun hg=>by rw [hg];exact B7 V V) ?_;refine B1 V V V V (fun hg=>by have hq:=hg;(try simp at hq);rw [hg];exact A9 V (.pure _ _ _ _) V (by omega) hv) ?_;refine B1 V V V V (fun hg=>by rw [hg];exact A8 V V) ?_;refine B1 V V V V (fun hg=>by have hq:=hg;(try simp at hq);rw [hg];exact A9 V (.pure _ _ _ _) V (by omega) hv2) ?_;refine B1 V V V V (fun hg=>by rw [hg];exact A8 V V) ?_;refine B1 V V V V (fun hg=>by rw [hg];exact U2 V) ?_;refine I6 V V ?_;refine A4 ?_
 rw [hon]
 refine k1 ?_;refine B0 rfl (fun ht=>?_) (fun ht=>?_)
 ·rw [n6] at ht
  have hne:bigK inn L ks=false:=by
   cases hq:bigK inn L ks
   ·rfl
   ·have:=hall hq
    rw [decide_not] at this
    rw [this] at ht;cases ht
  rw [hne]
  refine k2 (A2 (A6 V V (A4 ?_)));refine k1 (k10 (k12 (k11 (k11 (k12 (k11 ?_))))))
  exact B6 (rs:=[H5 false]) (G7 rfl rfl rfl) rfl
 ·rw [n6] at ht
  refine k5 (k4 (k1 (A2 (A3 V V (D2 V V V (A6 V V (A4 ?_)))))));refine k1 ?_;refine ⟨k+1,⟨hlt,?_⟩,by omega,(I90 ⟨le1 rfl,le1 rfl,le1 rfl,le1 rfl,le1 rfl,trivial⟩ trivial)⟩
  unfold bigK at hb ⊢
  rw [List.take_add_one,hv,Option.toList_some,J58,hb,Bool.true_and,List.all_cons,List.all_nil,Bool.and_true,decide_not,ht]
  rfl
theorem H97 (g:Graph) (inn:List Bool) (L:List Int) (m:Nat):-1≤m8 g inn L m∧m8 g inn L m < m∨m8 g inn L m = -1:=by
 rcases A74 g inn L m with ⟨h,_⟩ | ⟨b,h1,h2,_⟩
 ·exact .inr h
 ·left;omega
theorem G06 {g:Graph} {c:Nat} {cm:Commit} (h:g[c]?=some cm):U9 g c=cm.Date:=by unfold U9;rw [h];rfl
theorem H98 (g:Graph) (s:Int) (hf:FewG g) (hcheck:FnOk Tryz.prog 23 [I7 g] (fun rs=>rs=[F2 (J1 g)])) :
  FnOk Tryz.prog 9 [I7 g,I5 [s]] (fun rs=>rs=[I5 (P6 g s).1,F2 (P6 g s).2]):=by
 have hlen:=hf.len
 refine FnOk.intro Tryz.func9 (by decide) V V V V ?_
 refine k2 (A2 (A6 V V (A6 V V (A4 ?_))));refine k1 (k2 (k2 (A2 (A3 V V (D3 (hcheck) V V V ?_)))));rintro _ rfl;refine A6 V V (A4 ?_);refine k1 (k2 (A2 (A3 V V (A5 (Q8 V V) V (A4 ?_)))));refine k1 ?_;refine B0 rfl (fun ht=>?_) (fun ht=>?_)
 ·have h1:J1 g≠0:=A0 ht
  refine k2 (A2 (A3 V V (A5 (I0 _ 1 E3) V (A6 V V (A4 ?_)))));refine k1 (k10 (k11 ?_))
  exact B6 (X8 rfl rfl rfl rfl rfl) (by unfold P6;rw [if_pos h1])
 have h1:¬J1 g≠0:=A1 ht
 have hvg:=Y7 (Decidable.not_not.1 h1)
 refine k5 (k1 (k2 (k2 (A2 (A6 V V (A4 ?_))))));refine k1 (k3 (C5 (X:=Nat) (fun i=>([(0,C6 Commit 3 G1 g),(1,C6 Int 1 E3 [s]),(7,C0 i)],[])) (fun i=>i≤1∧(i=1→T6 g s)) (fun i=>1 - i) 0 ⟨Nat.zero_le _,fun h=>by cases h⟩ (I90 ⟨le1 rfl,le1 rfl,le1 rfl,trivial⟩ trivial) ?_))
 rintro i ⟨hi,hs⟩
 dsimp only at hi hs ⊢
 refine k2 (k2 (A2 (A3 V V (A3 V V (E0 V V (E8 V V V (A4 ?_)))))));refine k1 ?_;refine B0 rfl (fun ht=>?_) (fun ht=>?_)
 ·have hlt:i=0:=by have h1:=A0 ht;simp only [J19,J22] at h1;omega
  subst hlt
  have hv:[s][((0:Nat):Int).toNat]?=some s:=rfl
  refine k5 (k1 (k2 (k3 (k2 (A2 (A3 V V (A3 V V (A5 (A9 V (.pure _ _ _ _) V (by omega) hv) V (A5 (A8 V V) V (E8 V V V (A3 V V (B1 V V V V (fun hg=>by rw [hg];exact B7 V V) ?_))))))))))));refine B1 V V V V (fun hg=>by rw [hg];exact B7 V V) ?_;refine B1 V V V V (fun hg=>by have hq:=hg;(try simp at hq);rw [hg];exact A9 V (.pure _ _ _ _) V (by omega) hv) ?_;refine B1 V V V V (fun hg=>by rw [hg];exact A8 V V) ?_;refine B1 V V V V (fun hg=>by rw [hg];exact B7 V V) ?_;refine B1 V V V V (fun hg=>by rw [hg];exact X7 V (.pure _ _ _ _)) ?_;refine B1 V V V V (fun hg=>by rw [hg];exact W5 V V) ?_;refine I6 V V ?_;refine A4 ?_;refine k1 ?_;refine B0 rfl (fun ht=>?_) (fun ht=>?_)
  ·rw [or_pick] at ht
   have h2:=A0 ht
   refine k2 (A2 (A5 (I0 _ 1 E3) V (A6 V V (A4 ?_))));refine k1 (k10 (k12 (k11 (k11 (k12 (k11 ?_))))))
   exact B6 (rs:=[I5 [],F2 5]) (X8 rfl rfl rfl rfl rfl) (by unfold P6;rw [if_neg h1,if_neg (fun h=>by unfold T6 at h;omega)])
  ·rw [or_pick] at ht
   have h2:=A1 ht
   refine k5 (k4 (k1 (A2 (A3 V V (D2 V V V (A6 V V (A4 ?_)))))));refine k1 ?_
   exact ⟨1,⟨Nat.le_refl _,fun _=>by unfold T6;omega⟩,by omega,(I90 ⟨le1 rfl,le1 rfl,le1 rfl,trivial⟩ trivial)⟩
 have hi1:i=1:=by have h1:=A1 ht;simp only [J19,J22] at h1;omega
 have hs:=hs hi1
 have hres:P6 g s=(r7 g [s],0):=by unfold P6;rw [if_neg h1,if_pos hs]
 rw [hres]
 have hsr:∀f∈[s],0≤f∧f < g.length:=fun f hf=>by rw [List.mem_singleton.1 hf];exact hs
 refine k6 (k2 (A2 (A3 V V (A3 V V (D3 (E74 g [s] hf.len hf.pars hvg.rel hsr (by simp)) V V V ?_)))));rintro _ rfl;refine A6 V V (A4 ?_)
 obtain ⟨inn,hinn⟩:∃inn,inn=M9 g [s]:=⟨_,rfl⟩
 have hil:inn.length=g.length:=by rw [hinn];exact B44 g _
 have hord:r7 g [s]=B81 g inn (g.length+1) []:=by rw [hinn];rfl
 rw [←hinn,hord]
 refine k1 (k2 (A2 (A3 V V (E0 V V (C9 (c8 754 Bool v6 false V V (by omega) (by omega) (fun _=>by first | exact ⟨⟨rfl,rfl⟩,trivial⟩ | exact ⟨G9 _ _ _,trivial⟩ | exact ⟨G9 _ _ _,⟨rfl,rfl⟩,G9 _ _ _,trivial⟩) (by first | rfl | (simp [K2,J2,Ob.free,SV.free,S1.free,TC.free]<;>rfl))) V ?_)))));refine A6 V V (A4 ?_);refine k1 (k2 (A2 (C9 (Q4 10 _ E3 V) V (A4 ?_))));refine k1 (k3 ?_)
 rw [J17,←G76]
 refine C5 (X:=List Int) (fun out=>([(0,C6 Commit 3 G1 g),(8,C6 Bool 1 v6 inn),(9,.s (.one (.mut 754))),(10,.s (.one (.buf 10 Int 1 E3 out)))],[(10,.spare out.length 1 3),(754,.arr Bool 1 v6 (V6 out g.length))])) (fun out=>out.Nodup∧(∀x∈out,0≤x∧x < g.length)∧B81 g inn (g.length+1 - out.length) out=B81 g inn (g.length+1) []) (fun out=>g.length+1 - out.length) [] ⟨List.nodup_nil,(fun _ h=>by cases h),rfl⟩ (I90 ⟨le1 rfl,le1 rfl,le1 rfl,le1 rfl,trivial⟩ ⟨rfl,rfl,trivial⟩) ?_
 rintro out ⟨hnd,hrg,hro⟩
 dsimp only at hnd hrg hro ⊢
 have hol:=Y6 hnd hrg
 have hml:=D89 out g.length
 refine k3 (k2 (A2 (A6 V V (A4 ?_))));refine k1 (k2 (k2 (A2 (A6 V V (A4 ?_)))));refine k1 (k3 (C5 (X:=Nat) (fun m=>([(0,C6 Commit 3 G1 g),(8,C6 Bool 1 v6 inn),(9,.s (.one (.mut 754))),(10,.s (.one (.buf 10 Int 1 E3 out))),(11,C0 (m8 g inn out m)),(12,C0 m)],[(10,.spare out.length 1 3),(754,.arr Bool 1 v6 (V6 out g.length))])) (fun m=>m≤g.length) (fun m=>g.length - m) 0 (Nat.zero_le _) (I90 ⟨le1 rfl,le1 rfl,le1 rfl,le1 rfl,le1 rfl,le1 rfl,trivial⟩ ⟨rfl,rfl,trivial⟩) ?_))
 intro m hm
 dsimp only at hm ⊢
 have hbr:=H97 g inn out m
 obtain ⟨b,hb⟩:∃b,b=m8 g inn out m:=⟨_,rfl⟩
 rw [←hb] at hbr ⊢
 refine k2 (k2 (A2 (A3 V V (A3 V V (E0 V V (E8 V V V (A4 ?_)))))));refine k1 ?_;refine B0 rfl (fun ht=>?_) (fun ht=>?_)
 ·have hlt:m < g.length:=by have h1:=A0 ht;(try dsimp only at h1);omega
  have hvm:g[((m:Nat):Int).toNat]?=some g[m]:=by simp [hlt]
  have hvb:0≤b→g[b.toNat]?=some (g[b.toNat]?.getD ⟨[],0,[]⟩):=fun h0=>by
   rw [J15 (by omega)];rfl
  have hdm:U9 g m=g[m].Date:=G06 (by simp [hlt])
  have hdb:0≤b→U9 g b.toNat=(g[b.toNat]?.getD ⟨[],0,[]⟩).Date:=fun h0=>G06 (hvb h0)
  have hsuc:m8 g inn out (m+1)=if W4 g inn out m=true∧(b < 0∨U9 g m > U9 g b.toNat) then (m:Int) else b:=by rw [m8,←hb]
  refine k5 (k1 (k2 (k3 (k2 (E6 (by kernel_rfl) (by kernel_rfl) (E5 V V (E5 V V (E5 V V (E5 V V (B5 (H86 (fun _=>Sees.freeze (k:=754) V) (H96 g inn out m hf hil hlt) V V V) V V (E5 V V (E7 V V (fun hg=>by rw [hg];exact B7 V V) V V ?_))))))))))));refine E7 V V (fun hg=>by rw [hg];exact A60 V V) V V ?_;refine E7 V V (fun hg=>by rw [hg];exact B7 V V) V V ?_;refine X9 V V (.gd (.val _)) (fun hg=>by obtain ⟨hg1,hg2⟩:=N7 hg;(try rw [hg1]);(try rw [hg2]);exact B7 V V) V V ?_;refine X9 V V (.gd (.val _)) (fun hg=>by obtain ⟨hg1,hg2⟩:=N7 hg;(try rw [hg1]);(try rw [hg2]);exact B7 V V) V V ?_;refine X9 V V (.gd (.val _)) (fun hg=>by have hq:=hg;(try simp at hq);obtain ⟨hg1,hg2⟩:=N7 hg;(try rw [hg1]);(try rw [hg2]);exact A9 V (.pure _ _ _ _) V (by omega) hvm) V V ?_;refine X9 V V (.gd (.val _)) (fun hg=>by obtain ⟨hg1,hg2⟩:=N7 hg;(try rw [hg1]);(try rw [hg2]);exact B8 V) V V ?_;refine X9 V V (.gd (.val _)) (fun hg=>by obtain ⟨hg1,hg2⟩:=N7 hg;(try rw [hg1]);(try rw [hg2]);exact A8 V V) V V ?_;refine X9 V V (.gd (.val _)) (fun hg=>by obtain ⟨hg1,hg2⟩:=N7 hg;(try rw [hg1]);(try rw [hg2]);exact B7 V V) V V ?_;refine X9 V V (.gd (.val _)) (fun hg=>by obtain ⟨hg1,hg2⟩:=N7 hg;(try rw [hg1]);(try rw [hg2]);exact B7 V V) V V ?_;refine X9 V V (.gd (.val _)) (fun hg=>by have hq:=hg;(try simp at hq);obtain ⟨hg1,hg2⟩:=N7 hg;(try rw [hg1]);(try rw [hg2]);exact A9 V (.pure _ _ _ _) V (by omega) (hvb (by omega))) V V ?_;refine X9 V V (.gd (.val _)) (fun hg=>by obtain ⟨hg1,hg2⟩:=N7 hg;(try rw [hg1]);(try rw [hg2]);exact B8 V) V V ?_;refine X9 V V (.gd (.val _)) (fun hg=>by obtain ⟨hg1,hg2⟩:=N7 hg;(try rw [hg1]);(try rw [hg2]);exact A8 V V) V V ?_;refine X9 V V (.gd (.val _)) (fun hg=>by obtain ⟨hg1,hg2⟩:=N7 hg;(try rw [hg1]);(try rw [hg2]);exact M5 V V) V V ?_;refine E7 V V (fun hg=>by rw [hg];exact K7 V (fun h=>by first | rfl | (rw [h];rfl)) (fun h=>by first | rfl | (rw [h];rfl))) V V ?_;refine B5 (K7 V (fun h=>by first | rfl | (rw [h];rfl)) (fun h=>by first | rfl | (rw [h];rfl))) V V ?_;refine P0 ?_;refine k1 ?_
  have hcond:(if W4 g inn out m=true then (if decide (b < 0)=true then true else decide ((g[b.toNat]?.getD ⟨[],0,[]⟩).Date < g[m].Date)) else false)=decide (W4 g inn out m=true∧(b < 0∨U9 g m > U9 g b.toNat)):=by
   cases hr:W4 g inn out m
   ·simp
   ·by_cases hb0:b < 0
    ·simp [hb0]
    ·rw [hdm,hdb (by omega)];simp [hb0]
  rw [hcond]
  refine B0 rfl (fun ht=>?_) (fun ht=>?_)
  ·rw [if_pos (A0 ht)] at hsuc
   skip
   refine A2 (A3 V V (A6 V V (A4 ?_)));refine k4 (k1 (A2 (A3 V V (D2 V V V (A6 V V (A4 ?_))))));refine k1 ?_;refine ⟨m+1,by omega,by omega,?_⟩
   rw [hsuc]
   exact (I90 ⟨le1 rfl,le1 rfl,le1 rfl,le1 rfl,le1 rfl,le1 rfl,trivial⟩ ⟨rfl,rfl,trivial⟩)
  ·rw [if_neg (A1 ht)] at hsuc
   refine k5 (k4 (k1 (A2 (A3 V V (D2 V V V (A6 V V (A4 ?_)))))));refine k1 ?_;refine ⟨m+1,by omega,by omega,?_⟩
   rw [hsuc]
   exact (I90 ⟨le1 rfl,le1 rfl,le1 rfl,le1 rfl,le1 rfl,le1 rfl,trivial⟩ ⟨rfl,rfl,trivial⟩)
 have hme:m=g.length:=by have h1:=A1 ht;(try dsimp only at h1);omega
 have hbl:b=A15 g inn out:=by rw [hb,hme];rfl
 refine k6 (k2 (k2 (A2 (A3 V V (E8 V V V (A4 ?_))))));refine k1 ?_;refine B0 rfl (fun ht=>?_) (fun ht=>?_)
 ·have h3:b < 0:=A0 ht
  rw [G48 (by omega)] at hro
  rw [←hro]
  refine k2 (A2 (A3 V V (A6 V V (A6 V V (A4 ?_)))));refine k1 (k10 (k11 (k12 (k11 (k12 ?_)))))
  exact B6 (rs:=[I5 out,F2 0]) (X8 rfl rfl rfl rfl rfl) rfl
 ·have h3:¬b < 0:=A1 ht
  obtain ⟨c,hc1,hc2,hc3,hc4⟩:=F00 (g:=g) (inn:=inn) (L:=out) (by omega)
  rw [hbl,hc2]
  rw [F01 (by omega) (by omega),hc2] at hro
  refine k5 (k1 (k2 (A2 (A3 V V (A3 V V (A5 (F1 V V V (by omega) (by (rw [hml];omega))) V ?_))))));refine G8 (I1 TySz.out V V (by (rw [hml];omega)) V V) ?_;refine A4 ?_;refine k1 (A2 (A3 V V (A3 V V (A5 (C3 (c:=E3) (ys:=[(c:Int)]) (D4 V V V V F9) V V V) V (C9 (I9 V V V (.pure _ _ _ _) (by (simp only [J19,J22];omega)) V) V (A6 V V (A4 ?_)))))));refine k4 (k1 ?_);refine ⟨out++[(c:Int)],⟨List.nodup_append.2 ⟨hnd,by simp,fun x hx y hy e=>by rw [List.mem_singleton.1 hy] at e;exact hc4 (e ▸ hx)⟩,fun x hx=>?_,?_⟩,by rw [J20,List.length_singleton];omega,?_⟩
  ·rcases List.mem_append.1 hx with hx | hx
   ·exact hrg x hx
   ·rw [List.mem_singleton.1 hx];omega
  ·rw [←hro,J20,List.length_singleton]
   congr 1<;>omega
  ·rw [←G05 hc1]
   exact (I90 ⟨le1 rfl,le1 rfl,le1 rfl,le1 rfl,trivial⟩ ⟨rfl,rfl,trivial⟩)
set_option maxHeartbeats 1000000
theorem rat_ok (nd s:Str) (i:Nat) (hn:nd.length≤1073741824) (hs:s.length≤1073741824) (hi:i≤s.length):FnOk Tryz.prog 41 [M3 nd,M3 s,F2 i] (fun rs=>rs=[H5 (A35 nd s i)]):=by
 refine FnOk.intro Tryz.func41 (by decide) V V V V ?_
 refine k2 (A2 (A6 V V (A4 ?_)));refine k1 (k2 (A2 (A3 V V (A5 (F08 V V) V (A3 V V (B1 V V V V (fun hg=>by rw [hg];exact B7 V V) ?_))))));refine B1 V V V V (fun hg=>by rw [hg];exact J3 V) ?_;refine B1 V V V V (fun hg=>by rw [hg];exact B7 V V) ?_;refine B1 V V V V (fun hg=>by rw [hg];exact J3 V) ?_;refine B1 V V V V (fun hg=>by rw [hg];exact B7 V V) ?_;refine B1 V V V V (fun hg=>by have hq:=hg;(try simp at hq);rw [hg];exact K8 V V (by omega)) ?_;refine B1 V V V V (fun hg=>by rw [hg];exact B03 V V) ?_;refine I6 V V ?_;refine A3 V V (B1 V V V V (fun hg=>by rw [hg];exact B7 V V) ?_);refine B1 V V V V (fun hg=>by rw [hg];exact B7 V V) ?_;refine B1 V V V V (fun hg=>by rw [hg];exact B7 V V) ?_;refine B1 V V V V (fun hg=>by rw [hg];exact B7 V V) ?_;refine B1 V V V V (fun hg=>by rw [hg];exact J3 V) ?_;refine B1 V V V V (fun hg=>by have hq:=hg;(try simp at hq);rw [hg];exact Z9 V V (by omega)) ?_;refine B1 V V V V (fun hg=>by have hq:=hg;(try simp at hq);rw [hg];exact D55 V V V (by omega) (by omega) (by omega)) ?_;refine B1 V V V V (fun hg=>by rw [hg];exact B7 V V) ?_;refine B1 V V V V (fun hg=>by rw [hg];exact j7 V V) ?_;refine I6 V V ?_;refine A6 V V (A4 ?_);refine k1 (k10 (B6 (G7 V V V) ?_))
 refine congrArg (fun b=>[H5 b]) ?_
 rw [n6,n6,show ((i:Int)+nd.length).toNat - (i:Int).toNat=nd.length by omega,J17,←Bool.decide_and,←Bool.decide_and]
 unfold A35
 rw [decide_eq_decide]
 constructor
 ·rintro ⟨⟨a,b⟩,c⟩;exact ⟨a,by omega,c⟩
 ·rintro ⟨a,b,c⟩;exact ⟨⟨a,by omega⟩,c⟩
theorem I57 (nd s:Str) (p:Nat) (hn:nd.length≤1073741824) (hs:s.length≤1073741824) (hp:p≤s.length):FnOk Tryz.prog 26 [M3 nd,M3 s,F2 p] (fun rs=>rs=[F2 ((O5 nd s p).getD 0:Nat),H5 (O5 nd s p).isSome]):=by
 refine FnOk.intro Tryz.func26 (by decide) V V V V ?_
 refine k2 (A2 (A6 V V (A6 V V (A4 ?_))));refine k1 (k2 (k2 (A2 (A3 V V (A6 V V (A4 ?_))))));refine k1 (k3 (C5 (X:=Nat) (fun i=>([(0,T7 nd),(1,T7 s),(8,C0 i)],[])) (fun i=>p≤i∧i≤s.length+1∧∀j,p≤j→j < i→A35 nd s j=false) (fun i=>s.length+1 - i) p ⟨Nat.le_refl _,by omega,fun j h1 h2=>by omega⟩ (I90 ⟨le1 rfl,le1 rfl,le1 rfl,trivial⟩ trivial) ?_))
 rintro i ⟨h1,h2,h3⟩
 dsimp only at h1 h2 h3 ⊢
 refine k2 (k2 (A2 (A3 V V (A5 (W5 V V) V (A3 V V (B1 V V V V (fun hg=>by rw [hg];exact B7 V V) ?_))))));refine B1 V V V V (fun hg=>by rw [hg];exact B7 V V) ?_;refine B1 V V V V (fun hg=>by rw [hg];exact J3 V) ?_;refine B1 V V V V (fun hg=>by rw [hg];exact B03 V V) ?_;refine I6 V V ?_;refine A4 ?_;refine k1 ?_
 rw [and_pick]
 refine B0 rfl (fun ht=>?_) (fun ht=>?_)
 rotate_left
 ·have h4:=A1 ht
  have hno:O5 nd s p=none:=G51 fun j hj hjl=>h3 j hj (by omega)
  rw [hno]
  refine k6 (k2 (A2 (A6 V V (A6 V V (A4 ?_)))));refine k1 (k10 ?_)
  exact B6 (rs:=[F2 0,H5 false]) (X8 rfl rfl rfl rfl rfl) rfl
 have h4:=A0 ht
 refine k5 (k1 (k2 (k3 (k2 (A2 (A3 V V (A3 V V (A3 V V (D3 (rat_ok nd s i hn hs (by omega)) V V V ?_)))))))));rintro _ rfl;refine A4 ?_;refine k1 ?_;refine B0 rfl (fun ht=>?_) (fun ht=>?_)
 ·have hso:O5 nd s p=some i:=G52 h1 ht h3
  rw [hso]
  refine k2 (A2 (A3 V V (A6 V V (A6 V V (A4 ?_)))));refine k1 (k10 (k12 (k11 (k11 (k12 (k11 ?_))))))
  exact B6 (rs:=[F2 i,H5 true]) (X8 rfl rfl rfl rfl rfl) rfl
 ·refine k5 (k4 (k1 (A2 (A3 V V (D2 V V V (A6 V V (A4 ?_)))))));refine k1 ?_;refine ⟨i+1,⟨by omega,by omega,fun j hj hjl=>?_⟩,by omega,(I90 ⟨le1 rfl,le1 rfl,le1 rfl,trivial⟩ trivial)⟩
  by_cases e:j=i
  ·rw [e];exact ht
  ·exact h3 j hj (by omega)
theorem D08 {nd s:Str} {p:Nat} {out:List Int} {f:Nat} (h:x8 nd s f p out=T5 nd s):out.length≤(T5 nd s).length:=by
 have key:∀(f p:Nat) (out:List Int),out.length≤(x8 nd s f p out).length:=by
  intro f
  induction f with
  | zero=>intro p out;exact Nat.le_refl _
  | succ f ih =>
   intro p out
   rw [x8]
   split
   ·exact Nat.le_refl _
   ·rename_i i _
    have:=ih (i+nd.length) (out++[(i:Int)])
    rw [J20] at this
    omega
 rw [←h];exact key f p out
theorem B89 (nd s:Str) (hn:nd.length≤1073741824) (hs:s.length≤16777216):FnOk Tryz.prog 12 [M3 nd,M3 s] (fun rs=>rs=[I5 (T5 nd s)]):=by
 have hpl:=X1 nd s
 refine FnOk.intro Tryz.func12 (by decide) V V V V ?_
 refine k2 (A2 (A6 V V (A4 ?_)));refine k1 (k2 (A2 (C9 (Q4 5 _ E3 V) V (A4 ?_))));refine k1 (k2 (A2 (A6 V V (A4 ?_))));refine k1 (k3 (C5 (X:=Nat × List Int) (fun x=>([(0,T7 nd),(1,T7 s),(5,.s (.one (.buf 5 Int 1 E3 x.2))),(6,C0 x.1)],[(5,.spare x.2.length 1 3)])) (fun x=>x.1≤s.length∧x8 nd s (s.length+2 - x.1) x.1 x.2=T5 nd s) (fun x=>s.length+1 - x.1) (0,[]) ⟨Nat.zero_le _,rfl⟩ (I90 ⟨le1 rfl,le1 rfl,le1 rfl,le1 rfl,trivial⟩ ⟨rfl,trivial⟩) ?_))
 rintro ⟨p,out⟩ ⟨hp,hg⟩
 dsimp only at hp hg ⊢
 have hob:=D08 hg
 refine k3 (k2 (A2 (A3 V V (A3 V V (A3 V V (D3 (I57 nd s p hn (by omega) hp) V V V ?_))))));rintro _ rfl;refine A3 V V (H6 V V V (H6 V V V (A6 V V (A6 V V (A4 ?_)))))
 cases hnx:O5 nd s p with
 | none =>
  rw [A00 hnx] at hg
  refine k1 (k2 (k2 (A2 (A3 V V (A5 (U2 V) V (A4 ?_))))));refine k1 ?_;refine B0 rfl (fun ht=>?_) (fun ht=>?_)
  ·refine k2 (A2 (A3 V V (A6 V V (A4 ?_))));refine k1 (k10 (k11 (k12 (k11 (k12 ?_)))))
   exact B6 (rs:=[I5 out]) (G7 rfl rfl rfl) (by rw [hg])
  ·cases ht
 | some i =>
  have hro:=v7 hnx
  have hnp:0 < nd.length:=List.length_pos_iff.2 hro.1
  rw [B02 (by omega) hnx] at hg
  refine k1 (k2 (k2 (A2 (A3 V V (A5 (U2 V) V (A4 ?_))))));refine k1 ?_;refine B0 rfl (fun ht=>?_) (fun ht=>?_)
  ·cases ht
  ·refine k5 (k1 (k2 (A2 (A3 V V (A3 V V (A5 (C3 (c:=E3) (ys:=[(i:Int)]) (D4 V V V V F9) V V V) V (C9 (I9 V V V (.pure _ _ _ _) (by (simp only [J19,J22];omega)) V) V (A6 V V (A4 ?_)))))))));refine k1 (A2 (A3 V V (A3 V V (A5 (J3 V) V (A5 (Z9 V V (by (dsimp only [Option.getD];omega))) V ?_)))));refine A6 V V (A4 ?_);refine k4 (k1 ?_);refine ⟨(i+nd.length,out++[(i:Int)]),⟨by dsimp only;omega,?_⟩,by dsimp only;omega,(I90 ⟨le1 rfl,le1 rfl,le1 rfl,le1 rfl,trivial⟩ ⟨rfl,trivial⟩)⟩
   dsimp only
   rw [←hg]
   exact C20 _ _ _ _ (by omega) (by omega)
theorem G07 {w:World} (h:Grd Tryz.prog (fun _=>False) w):∃m,w.cell? ⟨0,0,none⟩=some (.int .i64 m):=by
 obtain ⟨wg,⟨hsh,_⟩,hle,hk⟩:=h
 obtain ⟨m,hm⟩:=Tryz.laysM143.s1_3 wg hsh
 refine ⟨m,?_⟩
 have hlt:0 < wg.heap.size:=World.block_lt_of_cell? wg _ hm
 rw [World.cell?_of_block (w:=wg) (a:=⟨0,0,none⟩) (hk _ hlt).1]
 exact hm
theorem I58 (s nd:Str) (hs:s.length < 4294967281):FnOk Tryz.prog 95 [M3 s,M3 nd] (fun rs=>rs=[F2 (Lib.index s nd)]) :=
 J03 (xs:=[.string ⟨s.toArray⟩,.string ⟨nd.toArray⟩]) ⟨_,rfl,rfl,rfl⟩ rfl fun w hg=>by
  obtain ⟨m,hm⟩:=G07 hg
  refine (Tryz.strings_Index ⟨s.toArray⟩ ⟨nd.toArray⟩ m w hs hm).mono ?_
  rintro e w' ⟨rfl,rfl⟩
  exact ⟨by simp,rfl,rfl,rfl,Nat.le_refl _,fun _ _=>rfl⟩
theorem G08 (nd s:Str) (p:Nat) (hn:nd.length≤1073741824) (hs:s.length≤1073741824):FnOk Tryz.prog 65 [M3 nd,M3 s,F2 p] (fun rs=>rs=[F2 ((O5 nd s p).getD 0:Nat),H5 (O5 nd s p).isSome]):=by
 refine FnOk.intro Tryz.func65 (by decide) V V V V ?_
 refine k2 (A2 (A6 V V (A6 V V (A4 ?_))));refine k1 (k2 (k2 (A2 (A3 V V (A5 (j7 V V) V (A3 V V (B1 V V V V (fun hg=>by rw [hg];exact B7 V V) ?_)))))));refine B1 V V V V (fun hg=>by rw [hg];exact A60 V V) ?_;refine I6 V V ?_;refine A3 V V (B1 V V V V (fun hg=>by rw [hg];exact B7 V V) ?_);refine B1 V V V V (fun hg=>by rw [hg];exact B7 V V) ?_;refine B1 V V V V (fun hg=>by rw [hg];exact J3 V) ?_;refine B1 V V V V (fun hg=>by rw [hg];exact M5 V V) ?_;refine I6 V V ?_;refine A4 ?_;refine k1 ?_;refine B0 rfl (fun ht=>?_) (fun ht=>?_)
 ·simp only [or_pick] at ht
  have h:=A0 ht
  have hno:O5 nd s p=none:=by
   unfold O5
   rw [if_pos (by rcases h with (h | h) | h<;>first | exact .inl h | exact absurd h (by omega) | exact .inr (.inl (by omega)))]
  rw [hno]
  refine k2 (A2 (A6 V V (A6 V V (A4 ?_))));refine k1 (k10 (k11 ?_))
  exact B6 (rs:=[F2 0,H5 false]) (X8 rfl rfl rfl rfl rfl) rfl
 simp only [or_pick] at ht
 have h:=A1 ht
 have hne:nd≠[]:=fun e=>h (.inl (.inl e))
 have hpl:p≤s.length:=by
  apply Classical.byContradiction
  intro e;exact h (.inr (by omega))
 have hdl:(s.drop p).length≤s.length:=by rw [J29];omega
 have hlo:=Lib.index_ge (s.drop p) nd
 have hhi:=Lib.index_room (s.drop p) nd
 rw [J29] at hhi
 have hnx:O5 nd s p=if Lib.index (s.drop p) nd < 0 then none else some (p+(Lib.index (s.drop p) nd).toNat):=by
  unfold O5
  by_cases h0:Lib.index (s.drop p) nd < 0
  ·rw [if_pos (.inr (.inr h0)),if_pos h0]
  ·rw [if_neg (by simp only [not_or];exact ⟨hne,by omega,h0⟩),if_neg h0]
 obtain ⟨i,hi⟩:∃i,i=Lib.index (s.drop p) nd:=⟨_,rfl⟩
 refine k5 (k1 (k2 (A2 (A3 V V (A3 V V (A5 (H42 V V (by omega) (by omega)) V (A3 V V (D3 (I58 (s.drop p) nd (by omega)) V V V ?_))))))));rintro _ rfl;refine A6 V V (A4 ?_)
 rw [J17,←hi]
 rw [←hi] at hnx hlo hhi
 refine k1 (k2 (k2 (A2 (A3 V V (E8 V V V (A4 ?_))))));refine k1 ?_;refine B0 rfl (fun ht=>?_) (fun ht=>?_)
 ·have h1:i < 0:=A0 ht
  rw [hnx,if_pos h1]
  refine k2 (A2 (A6 V V (A6 V V (A4 ?_))));refine k1 (k10 (k11 ?_))
  exact B6 (rs:=[F2 0,H5 false]) (X8 rfl rfl rfl rfl rfl) rfl
 ·have h1:¬i < 0:=A1 ht
  rw [hnx,if_neg h1]
  refine k5 (k1 (k2 (A2 (A3 V V (A3 V V (D2 V V V (A6 V V (A6 V V (A4 ?_)))))))));refine k1 (k10 (B6 (X8 V V V V V) ?_))
  dsimp only [Option.getD,Option.isSome]
  rw [show (p:Int)+i=((p+i.toNat:Nat):Int) by omega]
theorem E46 (nd s:Str) (hn:nd.length≤1073741824) (hs:s.length≤16777216):FnOk Tryz.prog 37 [M3 nd,M3 s] (fun rs=>rs=[I5 (T5 nd s)]):=by
 have hpl:=X1 nd s
 refine FnOk.intro Tryz.func37 (by decide) V V V V ?_
 refine k2 (A2 (A6 V V (A4 ?_)));refine k1 (k2 (A2 (C9 (Q4 5 _ E3 V) V (A4 ?_))));refine k1 (k2 (A2 (A3 V V (A3 V V (D3 (G08 nd s 0 hn (by omega)) V V V ?_)))));rintro _ rfl;refine A3 V V (H6 V V V (H6 V V V (A6 V V (A6 V V (A4 ?_)))));refine k1 (k2 (k3 (C5 (X:=Nat × List Int) (fun x=>([(0,T7 nd),(1,T7 s),(5,.s (.one (.buf 5 Int 1 E3 x.2))),(6,C0 ((O5 nd s x.1).getD 0:Nat)),(7,P2 (O5 nd s x.1).isSome)],[(5,.spare x.2.length 1 3)])) (fun x=>x.1≤s.length∧x8 nd s (s.length+2 - x.1) x.1 x.2=T5 nd s) (fun x=>s.length+1 - x.1) (0,[]) ⟨Nat.zero_le _,rfl⟩ (I90 ⟨le1 rfl,le1 rfl,le1 rfl,le1 rfl,le1 rfl,trivial⟩ ⟨rfl,trivial⟩) ?_)))
 rintro ⟨p,out⟩ ⟨hp,hg⟩
 dsimp only at hp hg ⊢
 have hob:=D08 hg
 refine k2 (k2 (A2 (A3 V V (A4 ?_))));refine k1 ?_
 cases hnx:O5 nd s p with
 | none =>
  rw [A00 hnx] at hg
  refine B0 rfl (fun ht=>?_) (fun ht=>?_)
  ·cases ht
  ·refine k6 (k2 (A2 (A3 V V (A6 V V (A4 ?_)))));refine k1 (k10 ?_)
   exact B6 (rs:=[I5 out]) (G7 rfl rfl rfl) (by rw [hg])
 | some i =>
  have hro:=v7 hnx
  have hnp:0 < nd.length:=List.length_pos_iff.2 hro.1
  rw [B02 (by omega) hnx] at hg
  refine B0 rfl (fun ht=>?_) (fun ht=>?_)
  ·refine k5 (k1 (k3 (k2 (A2 (A3 V V (A3 V V (A5 (C3 (c:=E3) (ys:=[(i:Int)]) (D4 V V V V F9) V V V) V (C9 (I9 V V V (.pure _ _ _ _) (by (simp only [J19,J22];omega)) V) V (A6 V V (A4 ?_))))))))));refine k1 ?_
   dsimp only [Option.getD]
   refine A2 (A3 V V (A3 V V (A3 V V (A3 V V (A5 (J3 V) V (D2 V V V (D3 ((show FnOk Tryz.prog 65 [M3 nd,M3 s,F2 ((i:Int)+(nd.length:Int))] (fun rs=>rs=[F2 ((O5 nd s (i+nd.length)).getD 0:Nat),H5 (O5 nd s (i+nd.length)).isSome]) from by rw [show (i:Int)+(nd.length:Int)=((i+nd.length:Nat):Int) by omega];exact G08 nd s (i+nd.length) hn (by omega))) V V V ?_)))))));rintro _ rfl;refine A3 V V (H6 V V V (H6 V V V (A6 V V (A6 V V (A4 ?_)))));refine k4 (k1 ?_);refine ⟨(i+nd.length,out++[(i:Int)]),⟨by dsimp only;omega,?_⟩,by dsimp only;omega,(I90 ⟨le1 rfl,le1 rfl,le1 rfl,le1 rfl,le1 rfl,trivial⟩ ⟨rfl,trivial⟩)⟩
   dsimp only
   rw [←hg]
   exact C20 _ _ _ _ (by omega) (by omega)
  ·cases ht
theorem B63 (nd s:Str) (hn:nd.length≤1073741824) (hs:s.length≤16777216):FnOk Tryz.prog 22 [M3 nd,M3 s] (fun rs=>rs=[F2 (X5 nd s)]):=by
 have hpl:=X1 nd s
 refine FnOk.intro Tryz.func22 (by decide) V V V V ?_
 refine k2 (A2 (A6 V V (A4 ?_)));refine k1 (k2 (A2 (A3 V V (A3 V V (D3 (E46 nd s hn hs) V V V ?_)))));rintro _ rfl;refine E0 V V (A6 V V (A4 ?_));refine k1 (k10 ?_)
 exact B6 (G7 rfl rfl rfl) rfl
set_option maxHeartbeats 1000000
theorem B64 {g:Graph} {c:Nat} {cm:Commit} (h:g[c]?=some cm):K5 g c=cm.Files:=by unfold K5;rw [h];rfl
def V7 (g:Graph) (ps:List Int) (i:Nat):List (List File):=(ps.take i).map fun p=>K5 g p.toNat
theorem C37 {g:Graph} {ps:List Int} {i:Nat} (h:i < ps.length):V7 g ps (i+1)=V7 g ps i++[K5 g ps[i].toNat]:=by
 unfold V7
 rw [List.take_add_one,J15 h,Option.toList_some,J42];rfl
theorem D09 (g:Graph) (ps:List Int) (i:Nat):(V7 g ps i).length≤i:=by
 unfold V7;rw [J38,J25];omega
theorem H99 (g:Graph) (c:Nat) (hf:FewG g) (hr:related g=true) (hc:c < g.length):FnOk Tryz.prog 10 [I7 g,F2 c] (fun rs=>rs=[B66 (K9 g c)]):=by
 obtain ⟨cm,hcm⟩:∃cm,cm=g[c]:=⟨_,rfl⟩
 have hv:g[((c:Nat):Int).toNat]?=some cm:=by rw [hcm];simp [hc]
 have hps:D9 g c=cm.Parents:=by rw [S0 hc,hcm]
 have hpr:=(J0 hr c).1
 have hpl:=hf.pars cm (by rw [hcm];exact J18 hc)
 have htr:K9 g c=if cm.Parents=[] then [[]] else V7 g cm.Parents cm.Parents.length:=by unfold K9 V7;rw [hps,J23]
 rw [hps] at hpr
 rw [htr]
 refine FnOk.intro Tryz.func10 (by decide) V V V V ?_
 refine k2 (A2 (A6 V V (A4 ?_)));refine k1 (k2 (k2 (A2 (A3 V V (A3 V V (A5 (A9 V (.pure _ _ _ _) V (by omega) hv) V (A5 (B8 V) V (A5 (A8 V V) V (E0 V V (A5 (F7 V V) V (A4 ?_)))))))))));refine k1 ?_;refine B0 rfl (fun ht=>?_) (fun ht=>?_)
 ·have h1:cm.Parents=[]:=by
   have h1:=A0 ht
   exact List.length_eq_zero_iff.1 (by omega)
  rw [if_pos h1]
  refine k2 (A2 (A5 (C3 (c:=l8) (ys:=[[]]) (F86 V V F9) V V V) V (A6 V V (A4 ?_))));refine k1 (k10 (k11 ?_))
  exact B6 (rs:=[B66 [[]]]) (G7 rfl rfl rfl) rfl
 have h1:¬cm.Parents=[]:=fun e=>by
  have h1:=A1 ht
  rw [e] at h1;exact h1 rfl
 rw [if_neg h1]
 refine k5 (k1 (k2 (A2 (C9 (Q4 5 _ l8 V) V (A4 ?_)))));refine k1 (k2 (k2 (A2 (A6 V V (A4 ?_)))));refine k1 (k3 (C5 (X:=Nat) (fun i=>([(0,C6 Commit 3 G1 g),(1,C0 c),(5,.s (.one (.buf 5 (List File) 1 l8 (V7 g cm.Parents i)))),(6,C0 i)],[(5,.spare (V7 g cm.Parents i).length 1 37)])) (fun i=>i≤cm.Parents.length) (fun i=>cm.Parents.length - i) 0 (Nat.zero_le _) (I90 ⟨le1 rfl,le1 rfl,le1 rfl,le1 rfl,trivial⟩ ⟨rfl,trivial⟩) ?_))
 intro i hi
 dsimp only at hi ⊢
 have hul:=D09 g cm.Parents i
 refine k2 (k2 (A2 (A3 V V (A3 V V (A3 V V (A5 (A9 V (.pure _ _ _ _) V (by omega) hv) V (A5 (B8 V) V (A5 (A8 V V) V (E0 V V (E8 V V V (A4 ?_)))))))))));refine k1 ?_;refine B0 rfl (fun ht=>?_) (fun ht=>?_)
 ·have hlt:i < cm.Parents.length:=by have h1:=A0 ht;(try dsimp only at h1);omega
  have hpb:=hpr _ (J18 hlt)
  obtain ⟨p,hp⟩:∃p:Nat,cm.Parents[i]=(p:Int):=⟨cm.Parents[i].toNat,by omega⟩
  have hvp:cm.Parents[i]?=some (p:Int):=by rw [J15 hlt,hp]
  obtain ⟨pm,hpm⟩:∃pm,pm=g[p]:=⟨_,rfl⟩
  have hvpm:g[((p:Nat):Int).toNat]?=some pm:=by rw [hpm,J17];simp [show p < g.length by omega]
  have hs:=C37 (g:=g) hlt
  rw [hp,J17,B64 (by rw [J17] at hvpm;exact hvpm)] at hs
  refine k5 (k1 (k2 (k3 (A2 (A3 V V (A3 V V (A3 V V (A3 V V (A5 (A9 V (.pure _ _ _ _) V (by omega) hv) V (A5 (B8 V) V (A5 (A8 V V) V (A3 V V (A5 (A9 V (.pure _ _ _ _) V (by omega) hvp) V (A5 (A8 V V) V (A5 (A9 V (.pure _ _ _ _) V (by omega) hvpm) V (A5 (B8 V) V (A5 (A8 V V) V (A5 (C3 (c:=l8) (ys:=[pm.Files]) (D4 V V V V F9) V V V) V (C9 (I9 V V V (.pure _ _ _ _) (by (simp only [J19,J22];omega)) V) V (A6 V V (A4 ?_)))))))))))))))))))));refine k4 (k1 (A2 (A3 V V (D2 V V V (A6 V V (A4 ?_))))));refine k1 ?_;refine ⟨i+1,by omega,by omega,?_⟩
  rw [hs]
  exact (I90 ⟨le1 rfl,le1 rfl,le1 rfl,le1 rfl,trivial⟩ ⟨rfl,trivial⟩)
 ·have hie:i=cm.Parents.length:=by have h1:=A1 ht;(try dsimp only at h1);omega
  rw [hie]
  refine k6 (k2 (A2 (A3 V V (A6 V V (A4 ?_)))));refine k1 (k10 ?_)
  exact B6 (rs:=[B66 (V7 g cm.Parents cm.Parents.length)]) (G7 rfl rfl rfl) rfl
set_option maxHeartbeats 1000000
theorem I00 (xs bs:List Str):(x1 xs bs).length≤xs.length+bs.length:=by
 have key:∀(xs:List Str),∀bs,(x1 xs bs).length≤xs.length+bs.length:=by
  intro xs
  induction xs with
  | nil=>intro bs;simp [x1]
  | cons a xs ih =>
   intro bs
   rw [x1]
   induction bs with
   | nil=>rw [q9];have:=ih [];simp only [J22,J19] at this ⊢;omega
   | cons b bs ihb =>
    rw [q9]
    split
    ·have:=ih (b::bs);simp only [J19] at this ⊢;omega
    ·split
     ·simp only [J19] at ihb ⊢;omega
     ·have:=ih bs;simp only [J19] at this ⊢;omega
 exact key xs bs
set_option maxHeartbeats 1000000
theorem D90 (a b:List File):(T0 a b).length≤a.length+b.length:=by
 unfold T0
 have h1:=List.length_filterMap_le (y7 a b) (x1 (a.map (·.Path)) (b.map (·.Path)))
 have h2:=I00 (a.map (·.Path)) (b.map (·.Path))
 rw [J38,J38] at h2
 omega
theorem Valid.files {g:Graph} (h:Valid g) (c:Nat):(K5 g c).length≤200:=by
 unfold K5
 by_cases hc:c < g.length
 ·rw [J15 hc]
  exact (A52 (h.tree _ (J18 hc))).2.1
 ·rw [J34 (by omega)];simp
theorem Valid.trees {g:Graph} (h:Valid g) (c:Nat):∀t∈K9 g c,t.length≤200:=by
 intro t ht
 unfold K9 at ht
 split at ht
 ·rw [List.mem_singleton.1 ht];simp
 ·obtain ⟨p,_,rfl⟩:=List.mem_map.1 ht
  exact Valid.files h _
theorem B31 {g:Graph} (h:Valid g) (c:Nat):(K9 g c).length≤33:=by
 unfold K9
 split
 ·simp
 ·rw [J38]
  by_cases hc:c < g.length
  ·rw [S0 hc];have:=h.pars _ (J18 hc);omega
  ·rw [A71 hc];simp
theorem G09 {l:List File} (h:FewF l) (p:Str):(L0 l p).length≤16777216:=by
 unfold L0
 cases hf:H8 l p with
 | none=>simp
 | some x =>
  obtain ⟨f,hm,_,rfl⟩:=A12 hf
  exact h.blob f hm
structure FewB (B:List (List (Str × Str))):Prop where
 len:B.length≤33
 lens:∀l∈B,l.length≤400
 strs:∀l∈B,∀x∈l,x.1.length≤16777216∧x.2.length≤16777216
theorem C81 {g:Graph} (h:FewT g) (hv:Valid g) (c:Nat):FewB (O7 g c) where
 len:=by unfold O7;rw [J38];exact B31 hv c
 lens:=fun l hl=>by
  unfold O7 at hl
  obtain ⟨t,ht,rfl⟩:=List.mem_map.1 hl
  unfold A36
  rw [J38]
  have h1:=D90 t (K5 g c)
  have h2:=Valid.trees hv c t ht
  have h3:=Valid.files hv c
  omega
 strs:=fun l hl x hx=>by
  unfold O7 at hl
  obtain ⟨t,ht,rfl⟩:=List.mem_map.1 hl
  unfold A36 at hx
  obtain ⟨d,_,rfl⟩:=List.mem_map.1 hx
  refine ⟨G09 ?_ _,G09 (h.files c) _⟩
  unfold K9 at ht
  split at ht
  ·rw [List.mem_singleton.1 ht];exact ⟨by simp,(fun _ h=>by cases h),(fun _ h=>by cases h)⟩
  ·obtain ⟨p,_,rfl⟩:=List.mem_map.1 ht
   exact h.files _
def c9 (ts:List (List File)) (u:List File) (i:Nat):List (List (Str × Str)):=(ts.take i).map fun t=>A36 t u
theorem F32 {ts:List (List File)} {u:List File} {i:Nat} (h:i < ts.length):c9 ts u (i+1)=c9 ts u i++[A36 ts[i] u]:=by
 unfold c9
 rw [List.take_add_one,J15 h,Option.toList_some,J42];rfl
theorem G10 (ts:List (List File)) (u:List File) (i:Nat):(c9 ts u i).length≤ts.length:=by
 unfold c9;rw [J38,J25];omega
def q8 (t u:List File) (ds:List Delta) (i:Nat):List (Str × Str):=(ds.take i).map (F63 t u)
theorem F33 {t u:List File} {ds:List Delta} {i:Nat} (h:i < ds.length):q8 t u ds (i+1)=q8 t u ds i++[F63 t u ds[i]]:=by
 unfold q8
 rw [List.take_add_one,J15 h,Option.toList_some,J42];rfl
theorem D10 (t u:List File) (ds:List Delta) (i:Nat):(q8 t u ds i).length≤ds.length:=by
 unfold q8;rw [J38,J25];omega
theorem C38 (nd s:Str) (hs:s.length≤16777216):0≤X5 nd s∧X5 nd s≤16777218:=by
 have:=X1 nd s
 unfold X5;omega
set_option maxHeartbeats 1000000
theorem cmp_lt:∀(a b:Str),decide (Lib.compareBytes a b < 0)=ltS a b
 | [],[]=>rfl
 | [],_::_=>rfl
 | _::_,[]=>rfl
 | a::x,b::y=>by
  rw [Lib.compareBytes,A70]
  have ih:=cmp_lt x y
  by_cases h1:a < b
  ·simp [h1]
  ·by_cases h2:b < a
   ·have:¬a=b:=fun e=>by subst e;exact h1 h2
    simp [h1,h2,this]
   ·have:a=b:=UInt8.toNat_inj.1 (by rw [UInt8.lt_iff_toNat_lt] at h1 h2;omega)
    subst this
    simpa [h1] using ih
theorem G77 (a b:Str):FnOk Tryz.prog 123 [M3 a,M3 b] (fun rs=>rs=[F2 (Lib.compareBytes a b)]) :=
 I95 (xs:=[.string ⟨a.toArray⟩,.string ⟨b.toArray⟩]) ⟨_,rfl,rfl,rfl⟩ rfl fun w=>by simpa using Tryz.strings_Compare ⟨a.toArray⟩ ⟨b.toArray⟩ w
theorem I01 (x y:Delta):FnOk Tryz.prog 122 [pDelta x,pDelta y] (fun rs=>rs=[F2 (Lib.compareBytes x.Path y.Path)]):=by
 refine FnOk.intro Tryz.func122 (by decide) V V V V ?_
 refine k2 (A2 (C9 (x4 2 V V V) V (C9 (x4 3 V V V) V (A6 V V (A4 ?_)))));refine k1 (k2 (A2 (A5 (A7 V) V (G4 V V V V (A5 (A7 V) V (G4 V V V V (D3 (G77 x.Path y.Path) V V V ?_)))))));rintro _ rfl;refine A6 V V (A4 ?_);refine k1 (k10 ?_)
 exact B6 (G7 rfl rfl rfl) rfl
def n5 (rev:List Delta) (x:Delta) (m:Nat) (rest:List Delta):List Delta:=(rev.drop m).reverse++x::((rev.take m).reverse++rest)
theorem I02 {rev:List Delta} {x:Delta} {m:Nat} {rest:List Delta} (hm:m≤rev.length):(n5 rev x m rest).length=rev.length+1+rest.length:=by
 unfold n5
 simp only [J20,J68,J29,J19,J25]
 omega
theorem insAt_x {rev:List Delta} {x:Delta} {m:Nat} {rest:List Delta} (_hm:m≤rev.length):(n5 rev x m rest)[rev.length - m]?=some x:=by
 unfold n5
 rw [J30 (by simp),J68,J29,J61];rfl
theorem insAt_p {rev:List Delta} {x:Delta} {m:Nat} {rest:List Delta} (hm:m < rev.length):(n5 rev x m rest)[rev.length - m - 1]?=some rev[m]:=by
 unfold n5
 rw [J27 (by simp;omega),List.getElem?_reverse (by simp;omega),J29,J55]
 rw [show m+(rev.length - m - 1 - (rev.length - m - 1))=m by omega,J15 hm]
theorem G78 {rev:List Delta} {x:Delta} {m:Nat} {rest:List Delta} (hm:m < rev.length):((n5 rev x m rest).set (rev.length - m) rev[m]).set (rev.length - m - 1) x=n5 rev x (m+1) rest:=by
 have e1:(rev.drop m).reverse=(rev.drop (m+1)).reverse++[rev[m]]:=by rw [J24 hm,List.reverse_cons]
 have e2:(rev.take (m+1)).reverse=rev[m]::(rev.take m).reverse:=by rw [List.take_add_one,J15 hm,Option.toList_some,List.reverse_append];rfl
 have hl:(rev.drop (m+1)).reverse.length=rev.length - m - 1:=by rw [J68,J29];omega
 unfold n5
 rw [e1,e2,J28,J37,J54]
 generalize (rev.drop (m+1)).reverse=P at hl ⊢
 rw [←hl,show rev.length - m=P.length+1 by omega]
 rw [List.set_append_right _ _ (by omega),show P.length+1 - P.length=1 by omega]
 rw [List.set_append_right _ _ (by omega),J61]
 rfl
theorem insR_at {rev:List Delta} {x:Delta}:∀{m:Nat},m≤rev.length→(∀k,(h:k < m)→(h2:k < rev.length)→ltS x.Path rev[k].Path=true)→(∀h:m < rev.length,ltS x.Path rev[m].Path=false)→B78 x rev=rev.take m++x::rev.drop m:=by
 induction rev with
 | nil=>intro m _ _ _;rw [List.take_nil,List.drop_nil];rfl
 | cons y r ih =>
  intro m hm h1 h2
  cases m with
  | zero =>
   have:=h2 (by simp)
   unfold B78
   rw [if_neg (by rw [show y.Path=((y::r)[0]).Path from rfl,this];decide)];rfl
  | succ m =>
   have h3:ltS x.Path y.Path=true:=h1 0 (by omega) (by simp)
   unfold B78
   rw [if_pos h3,ih (m:=m) (by simpa using hm) (fun k hk hk2=>h1 (k+1) (by omega) (by simpa using hk2)) (fun h=>h2 (by simpa using h))]
   rfl
theorem G79 {rev:List Delta} {x:Delta} {m:Nat} {rest:List Delta} (hm:m≤rev.length) (h1:∀k,(h:k < m)→(h2:k < rev.length)→ltS x.Path rev[k].Path=true) (h2:∀h:m < rev.length,ltS x.Path rev[m].Path=false):n5 rev x m rest=(B78 x rev).reverse++rest:=by
 rw [insR_at hm h1 h2]
 unfold n5
 rw [List.reverse_append,List.reverse_cons]
 simp only [J28,List.singleton_append,J37,J54]
theorem E80 (l acc:List Delta):(n7 acc l).length=acc.length+l.length:=by
 induction l generalizing acc with
 | nil=>rfl
 | cons x r ih=>rw [n7,ih,D18,J19];omega
theorem G80 (l:List Delta) (i:Nat) (h:i < l.length):n7 [] (l.take (i+1))=B78 l[i] (n7 [] (l.take i)):=by
 have key:∀(a b acc:List Delta),n7 acc (a++b)=n7 (n7 acc a) b:=by
  intro a
  induction a with
  | nil=>intro b acc;rfl
  | cons x r ih=>intro b acc;exact ih b _
 rw [List.take_add_one,J15 h,Option.toList_some,key];rfl
def A11 (l:List Delta) (i:Nat):List Delta:=(n7 [] (l.take i)).reverse++l.drop i
theorem G81 (l:List Delta) (i:Nat):(A11 l i).length=l.length:=by
 unfold A11
 rw [J20,J68,E80,J25,J29,J22];omega
theorem G82 (l:List Delta):A11 l 1=l:=by
 cases l with
 | nil=>rfl
 | cons x r=>rfl
theorem G83 {l:List Delta} {i:Nat} (h:i < l.length):n5 (n7 [] (l.take i)) l[i] 0 (l.drop (i+1))=A11 l i:=by
 unfold n5 A11
 rw [List.drop_zero,List.take_zero,J24 h];rfl
theorem G11 {l:List Delta} {i:Nat} (h:i < l.length):A11 l (i+1)=(B78 l[i] (n7 [] (l.take i))).reverse++l.drop (i+1):=by
 unfold A11;rw [G80 l i h]
abbrev B90 (l:List Delta):Ob:=.grow 104 Delta 2 A89 l
theorem G12 {gf:Fr} {ob:Obs} (l:List Delta) (hl:l.length≤1048576) (h0:B9 ob 802=some (B90 l)) :
  AL.Met Tryz.prog 161 [.one (.mut 802),.one (.p (.v (.int .i64 0))),.one (.p (.v (.int .i64 l.length))),.one (.p (.v (.func (.func 122) #[] #[])))] gf ob []
   (fun rs ob'=>rs=[]∧ob'=(802,B90 (B93 l))::ob):=by
 refine AL.Met.introH Tryz.func161 (by decide) rfl rfl rfl (fun hH=>?_)
 refine k2 (A2 (A3 V V (D2 V V V (A6 V V (A4 ?_)))));refine k1 (k3 ?_);refine C5 (X:=Nat) (fun i=>([(0,.s (.one (.mut 802))),(1,C0 0),(2,C0 l.length),(3,I2 (.func (.func 122) #[] #[])),(8,C0 i)]++gf,(802,B90 (A11 l i))::ob)) (fun i=>1≤i∧(i≤l.length∨(i=1∧l=[]))) (fun i=>l.length - i) 1 ⟨Nat.le_refl _,by cases l;exact .inr ⟨rfl,rfl⟩;left;simp⟩ ?_ ?_
 ·rw [G82]
  exact I91 ⟨le1 rfl,le1 rfl,le1 rfl,le1 rfl,le1 rfl,trivial⟩ hH (by repeat (first | exact B2 | refine B3 rfl ?_)) (E2 (L:=[(802,_)]) ⟨h0,trivial⟩ D5)
 rintro i ⟨hi1,hi2⟩
 dsimp only at hi1 hi2 ⊢
 have hdl:=G81 l i
 refine k2 (k2 (A2 (A3 V V (A3 V V (E8 V V V (A4 ?_))))));refine k1 ?_;refine B0 rfl (fun ht=>?_) (fun ht=>?_)
 rotate_left
 ·have h1:=A1 ht
  have he:A11 l i=B93 l:=by
   rcases hi2 with h2 | ⟨h2,h3⟩
   ·have:i=l.length:=by omega
    rw [this];unfold A11 B93;rw [J23,List.drop_length,J47]
   ·rw [h2,h3];rfl
  rw [he]
  refine k6 (k7 (k7 (k8 V ?_)))
  exact R7 (A63 rfl) (by repeat (first | exact B2 | refine B3 rfl ?_ | refine D1 _ ?_)) (fun _ _ h=>h) ⟨rfl,rfl⟩
 have hlt:i < l.length:=by have h1:=A0 ht;omega
 obtain ⟨x,hx⟩:∃x,x=l[i]:=⟨_,rfl⟩
 obtain ⟨rev,hrev⟩:∃rev,rev=n7 [] (l.take i):=⟨_,rfl⟩
 obtain ⟨rest,hrest⟩:∃rest,rest=l.drop (i+1):=⟨_,rfl⟩
 have hrl:rev.length=i:=by rw [hrev,E80,J25,J22];omega
 have hrestl:rest.length=l.length - (i+1):=by rw [hrest,J29]
 have e0:=G83 hlt
 have e1:=G11 hlt
 rw [←hx,←hrev,←hrest] at e0 e1
 rw [←e0]
 refine k5 (k1 (k2 (k3 (k2 (A2 (A3 V V (A6 V V (A4 ?_))))))));refine k1 (k3 ?_);refine C5 (X:=Nat) (fun m=>([(0,.s (.one (.mut 802))),(1,C0 0),(2,C0 l.length),(3,I2 (.func (.func 122) #[] #[])),(8,C0 i),(9,C0 ((i - m:Nat):Int))]++gf,(802,B90 (n5 rev x m rest))::ob)) (fun m=>m≤i∧∀k,(h:k < m)→(h2:k < rev.length)→ltS x.Path rev[k].Path=true) (fun m=>i - m) 0 ⟨Nat.zero_le _,fun k h=>by omega⟩ ?_ ?_
 ·exact I91 ⟨le1 rfl,le1 rfl,le1 rfl,le1 rfl,le1 rfl,le1 rfl,trivial⟩ hH (by repeat (first | exact B2 | refine B3 rfl ?_)) (E2 (L:=[(802,_)]) ⟨rfl,trivial⟩ (by repeat (first | exact D5 | refine D6 rfl ?_)))
 rintro m ⟨hm,hall⟩
 dsimp only at hm hall ⊢
 have hil:=I02 (x:=x) (rest:=rest) (show m≤rev.length by omega)
 have hvx:=insAt_x (x:=x) (rest:=rest) (show m≤rev.length by omega)
 rw [hrl] at hil hvx
 have hvx:(n5 rev x m rest)[((i - m:Nat):Int).toNat]?=some x:=by rw [J17];exact hvx
 have hvp:(0:Int) < ((i - m:Nat):Int)→(n5 rev x m rest)[(((i - m:Nat):Int) - 1).toNat]?=some (rev.getD m ⟨[],0⟩):=fun h=>by
  have:=insAt_p (x:=x) (rest:=rest) (show m < rev.length by omega)
  rw [show (((i - m:Nat):Int) - 1).toNat=rev.length - m - 1 by omega,this,J21,J15 (by omega)];rfl
 obtain ⟨y,hy⟩:∃y,y=rev.getD m ⟨[],0⟩:=⟨_,rfl⟩
 rw [←hy] at hvp
 have hcmp:=cmp_lt x.Path y.Path
 refine k2 (k2 (E6 (by kernel_rfl) (by kernel_rfl) (E5 V V (E5 V V (B5 (M5 V V) V V (E5 V V (E7 V V (fun hg=>by rw [hg];exact B7 V V) V V ?_)))))));refine E7 V V (fun hg=>by rw [hg];exact B7 V V) V V ?_;refine E7 V V (fun hg=>by rw [hg];exact B7 V V) V V ?_;refine E7 V V (fun hg=>by have hq:=hg;(try simp at hq);rw [hg];exact H7 V V V (by omega) (by (rw [hil];omega))) V V ?_;refine E7 V V (fun hg=>by rw [hg];exact z7 V V hvx V) V V ?_;refine E7 V V (fun hg=>by rw [hg];exact B7 V V) V V ?_;refine E7 V V (fun hg=>by rw [hg];exact B7 V V) V V ?_;refine E7 V V (fun hg=>by have hq:=hg;(try simp at hq);rw [hg];exact K8 V V (by omega)) V V ?_;refine E7 V V (fun hg=>by have hq:=hg;(try simp at hq);rw [hg];exact H7 V V V (by omega) (by (rw [hil];omega))) V V ?_;refine E7 V V (fun hg=>by have hq:=hg;(try simp at hq);rw [hg];exact z7 V V (hvp (by omega)) V) V V ?_;refine E7 V V (fun hg=>by rw [hg];exact F21 (I01 x y) V V V) V V ?_;refine E7 V V (fun hg=>by rw [hg];exact A60 V V) V V ?_;refine B5 (K7 V (fun h=>by first | rfl | (rw [h];rfl)) (fun h=>by first | rfl | (rw [h];rfl))) V V ?_;refine P0 ?_;refine k1 ?_;refine B0 rfl (fun ht=>?_) (fun ht=>?_)
 ·rw [n6,J16,decide_eq_true_eq,hcmp] at ht
  have hml:m < rev.length:=by omega
  have hym:y=rev[m]:=by rw [hy,J21,J15 hml];rfl
  have hsw:=G78 (x:=x) (rest:=rest) hml
  rw [hrl,←hym] at hsw
  have hvp:=hvp ht.1
  have hvp2:((n5 rev x m rest).set ((i - m:Nat):Int).toNat y)[(((i - m:Nat):Int) - 1).toNat]?=some y:=by
   rw [List.getElem?_set_ne (by omega)];exact hvp
  refine k5 (k1 (k2 (k3 (O0 [17,15] [[],[15],[17,15]] [(15,([],[])),(17,([],[]))] [(0,[]),(1,[]),(2,[]),(3,[]),(4,[]),(5,[]),(6,[]),(7,[]),(8,[]),(9,[]),(10,[]),(11,[]),(12,[]),(13,[]),(14,[]),(15,[]),(16,[15]),(17,[15])] [(2,[15]),(3,[15]),(4,[15])] (by kernel_rfl) (by kernel_rfl) (E1 V V (by kernel_rfl) V V (B7 V V) (E1 V V (by kernel_rfl) V V (B7 V V) (E1 V V (by kernel_rfl) V V (B7 V V) (E1 V V (by kernel_rfl) V V (B7 V V) (E1 V V (by kernel_rfl) V V (K8 V V (by omega)) (E1 V V (by kernel_rfl) V V (B7 V V) (E1 V V (by kernel_rfl) V V (B7 V V) (E1 V V (by kernel_rfl) V V (K8 V V (by omega)) (E1 V V (by kernel_rfl) V V (H7 V V V (by omega) (by (rw [hil];omega))) ?_)))))))))))));refine E1 V V (by kernel_rfl) V V (z7 V V hvp V) (E1 V V (by kernel_rfl) V V (B7 V V) (E1 V V (by kernel_rfl) V V (B7 V V) (E1 V V (by kernel_rfl) V V (H7 V V V (by omega) (by (first | (rw [hil];omega) | (rw [J41,hil];omega)))) ?_)));refine E1 V V (by kernel_rfl) V V (z7 V V hvx V) (E1 V V (by kernel_rfl) V V (H7 V V V (by omega) (by (rw [hil];omega))) ?_);refine W6 V V (by kernel_rfl) V V (A23 (fun frc hU=>A64 (y) TySz.out (R4 hU V) V hvx (R4 hU V) V V V (fun _ _ _ h=>A07 h) (by intro j h1 h2;rcases j with _ | _ | _ | _ | _ | _ | _ | j<;>first | rfl | omega))) V ?_;refine E1 V V (by kernel_rfl) V V (H7 V V V (by omega) (by (rw [J41,hil];omega))) ?_;refine W6 V V (by kernel_rfl) V V (A23 (fun frc hU=>A64 (x) TySz.out (R4 hU V) V hvp2 (R4 hU V) V V V (fun _ _ _ h=>A07 h) (by intro j h1 h2;rcases j with _ | _ | _ | _ | _ | _ | _ | j<;>first | rfl | omega))) V ?_;refine E67 (by kernel_rfl) rfl ?_ ?_
  ·refine M6 V V (by kernel_rfl) V V (B7 V V) (M6 V V (by kernel_rfl) V V (B7 V V) (M6 V V (by kernel_rfl) V V (K8 V V (by omega)) ?_));exact B24
  refine k4 (k1 (A2 (A3 V V (A5 (K8 V V (by omega)) V (A6 V V (A4 ?_))))));refine k1 ?_;refine ⟨m+1,⟨by omega,fun k hk hk2=>?_⟩,by omega,?_⟩
  ·by_cases e:k=m
   ·subst e;rw [←hym];exact ht.2
   ·exact hall k (by omega) hk2
  ·rw [J17,show (((i - m:Nat):Int) - 1).toNat=i - m - 1 by omega,hsw,show ((i - (m+1):Nat):Int)=((i - m:Nat):Int) - 1 by omega]
   exact I91 ⟨le1 rfl,le1 rfl,le1 rfl,le1 rfl,le1 rfl,le1 rfl,trivial⟩ hH (by repeat (first | exact B2 | refine tail_drop rfl ?_ | refine B3 rfl ?_)) (E2 (L:=[(802,_)]) ⟨rfl,trivial⟩ (by repeat (first | exact D5 | refine D6 rfl ?_)))
 ·rw [n6,Bool.and_eq_false_iff,decide_eq_false_iff_not,hcmp] at ht
  have hd:n5 rev x m rest=A11 l (i+1):=by
   rw [e1]
   refine G79 (by omega) hall fun hml=>?_
   rcases ht with h | h
   ·omega
   ·rw [hy,J21,J15 hml] at h;exact h
  rw [hd]
  refine k6 (k7 (k7 (k8 V (k4 (k1 (A2 (A3 V V (D2 V V V (A6 V V (A4 ?_))))))))));refine k1 ?_;refine ⟨i+1,⟨by omega,.inl (by omega)⟩,by omega,?_⟩
  exact I91 ⟨le1 rfl,le1 rfl,le1 rfl,le1 rfl,le1 rfl,trivial⟩ hH (by repeat (first | exact B2 | refine B3 rfl ?_)) (E2 (L:=[(802,_)]) ⟨rfl,trivial⟩ (by repeat (first | exact D5 | refine D6 rfl ?_)))
theorem pdq_met {gf:Fr} {ob:Obs} (l:List Delta) (n:Int) (hl:l.length≤12) (h0:B9 ob 802=some (B90 l)) :
  AL.Met Tryz.prog 144 [.one (.mut 802),.one (.p (.v (.int .i64 0))),.one (.p (.v (.int .i64 l.length))),.one (.p (.v (.int .i64 n))),.one (.p (.v (.func (.func 122) #[] #[])))] gf ob []
   (fun rs ob'=>rs=[]∧ob'=(802,B90 (B93 l))::ob):=by
 refine AL.Met.introH Tryz.func144 (by decide) rfl rfl rfl (fun hH=>?_)
 refine k2 (A2 (A6 V V (A4 ?_)));refine k1 (k2 (A2 (A6 V V (A4 ?_))));refine k1 (k3 ?_);refine C5 (X:=Nat) (fun _=>([(0,.s (.one (.mut 802))),(1,C0 0),(2,C0 l.length),(3,C0 n),(4,I2 (.func (.func 122) #[] #[])),(10,P2 true),(11,P2 true)]++gf,ob)) (fun _=>True) (fun _=>0) 0 trivial ?_ ?_
 ·exact I91 ⟨le1 rfl,le1 rfl,le1 rfl,le1 rfl,le1 rfl,le1 rfl,le1 rfl,trivial⟩ hH (by repeat (first | exact B2 | refine B3 rfl ?_)) (fun _ _ h=>h)
 intro _ _
 dsimp only
 refine k3 (k2 (A2 (A3 V V (A3 V V (A5 (K8 V V (by omega)) V (A6 V V (A4 ?_)))))));refine k1 (k2 (k2 (A2 (A3 V V (A5 (B03 V V) V (A4 ?_))))));refine k1 ?_;refine B0 rfl (fun ht=>?_) (fun ht=>?_)
 ·refine k2 (A2 (A3 V V (A3 V V (A3 V V (A3 V V (L1 (G12 l (by omega) h0) V V V ?_))))));rintro _ _ ⟨rfl,rfl⟩;refine A4 ?_;refine k1 (k10 (k11 (k12 (k11 (k12 ?_)))))
  exact G5 (A63 rfl) (by repeat (first | exact B2 | refine B3 rfl ?_ | refine D1 _ ?_)) (fun _ _ h=>h) ⟨rfl,rfl⟩
 ·have h1:=A1 ht
  omega
set_option maxHeartbeats 1000000
theorem I59 (n:Nat) (hn:n < 256):FnOk Tryz.prog 170 [.one (.v (.int .u64 n))] (fun rs=>rs=[F2 (Lib.bitLen n:Nat)]) :=
 I95 (xs:=[.int .u64 n]) ⟨_,rfl,rfl,rfl⟩ rfl fun w=>by simpa using Tryz.bits_Len64 (n:Int) w (by omega) (by omega)
theorem G84 (n:Nat) (hn:n < 256):FnOk Tryz.prog 145 [.one (.v (.int .u64 n))] (fun rs=>∃r:Int,rs=[F2 r]):=by
 refine FnOk.intro Tryz.func145 (by decide) V V V V ?_
 refine k2 (A2 (A6 V V (A4 ?_)));refine k1 (k2 (c_condF ?_))
 refine k5 (k1 (k2 (A2 (A3 V V (D3 (I59 n hn) V V V ?_)))));rintro _ rfl;refine A6 V V (A4 ?_);refine k1 (k10 ?_)
 exact B6 (G7 rfl rfl rfl) ⟨_,rfl⟩
theorem F34 {gf:Fr} {ob:Obs} (l:List Delta) (hl:l.length≤12) (h0:B9 ob 802=some (B90 l)) :
  AL.Met Tryz.prog 121 [.one (.mut 802),.one (.p (.v (.func (.func 122) #[] #[])))] gf ob []
   (fun rs ob'=>rs=[]∧ob'=(802,B90 (B93 l))::ob):=by
 have hw:IntKind.u64.wrap (l.length:Int)=(l.length:Nat):=by unfold IntKind.wrap;simp [IntKind.signed,IntKind.bits];omega
 refine AL.Met.intro Tryz.func121 (by decide) V V V ?_
 refine k2 (A2 (A3 V V (A5 (V5 V h0) V (A6 V V (A4 ?_)))));refine k1 (A2 (A3 V V (A3 V V (A3 V V (A5 (X0 V) V (D3 ((by rw [hw];exact G84 l.length (by omega))) V V V ?_))))));rintro _ ⟨r,rfl⟩;refine A3 V V (L1 (pdq_met l r hl h0) V V V ?_);rintro _ _ ⟨rfl,rfl⟩;refine A4 ?_
 skip
 exact R7 (A63 rfl) (by repeat (first | exact B2 | refine B3 rfl ?_ | refine D1 _ ?_)) (fun _ _ h=>h) ⟨rfl,rfl⟩
def B32 (b:List File) (a:List File) (i:Nat):List Delta:=(a.take i).filterMap (A51 b)
theorem G13 {b a:List File} {i:Nat} (h:i < a.length):B32 b a (i+1)=B32 b a i++(A51 b a[i]).toList:=by
 have e:[a[i]].filterMap (A51 b)=(A51 b a[i]).toList:=by
  cases hd:A51 b a[i] with
  | none=>rw [List.filterMap_cons_none hd];rfl
  | some d=>rw [List.filterMap_cons_some hd];rfl
 unfold B32
 rw [List.take_add_one,J15 h,Option.toList_some,List.filterMap_append,e]
def A43 (a:List File) (b:List File) (i:Nat):List Delta:=(b.take i).filterMap (B77 a)
theorem G14 {a b:List File} {i:Nat} (h:i < b.length):A43 a b (i+1)=A43 a b i++(B77 a b[i]).toList:=by
 have e:[b[i]].filterMap (B77 a)=(B77 a b[i]).toList:=by
  cases hd:B77 a b[i] with
  | none=>rw [List.filterMap_cons_none hd];rfl
  | some d=>rw [List.filterMap_cons_some hd];rfl
 unfold A43
 rw [List.take_add_one,J15 h,Option.toList_some,List.filterMap_append,e]
theorem G85 (b a:List File) (i:Nat):(B32 b a i).length≤a.length:=by
 unfold B32
 have:=List.length_filterMap_le (A51 b) (a.take i)
 rw [J25] at this;omega
theorem G86 (a b:List File) (i:Nat):(A43 a b i).length≤b.length:=by
 unfold A43
 have:=List.length_filterMap_le (B77 a) (b.take i)
 rw [J25] at this;omega
def B33 (a b:List File):Int:=if F5 a≠0 then F5 a else F5 b
theorem I60 (a b:List File) (ha:FewF a) (hb:FewF b) (hab:B33 a b=0→a.length+b.length≤12):FnOk Tryz.prog 85 [T9 a,T9 b] (fun rs=>rs=[F45 (if B33 a b≠0 then [] else T0 a b),F2 (B33 a b)]):=by
 have hal:=ha.len
 have hbl:=hb.len
 refine FnOk.intro Tryz.func85 (by decide) V V V V ?_
 refine k2 (A2 (A6 V V (A6 V V (A4 ?_))));refine k1 (k2 (k2 (A2 (A3 V V (A3 V V (D3 (I56 a b ha hb) V V V ?_))))));rintro _ rfl;refine A6 V V (A4 ?_);refine k1 (k2 (A2 (A3 V V (A5 (Q8 V V) V (A4 ?_)))));refine k1 ?_;refine B0 rfl (fun ht=>?_) (fun ht=>?_)
 ·have h1:B33 a b≠0:=A0 ht
  refine k2 (A2 (A3 V V (A5 (I0 _ 2 A89) V (A6 V V (A4 ?_)))));refine k1 (k10 (k11 ?_))
  exact B6 (rs:=[F45 [],F2 (B33 a b)]) (X8 rfl rfl rfl rfl rfl) (by rw [if_pos h1])
 have h1:¬B33 a b≠0:=A1 ht
 have h0:B33 a b=0:=Decidable.not_not.1 h1
 have hlen:=hab h0
 have ha0:F5 a=0:=by
  apply Classical.byContradiction
  intro h;unfold B33 at h0;rw [if_pos h] at h0;exact h h0
 have hb0:F5 b=0:=by unfold B33 at h0;rw [if_neg (fun h=>h ha0)] at h0;exact h0
 have hda:=(A52 ha0).1
 have hdb:=(A52 hb0).1
 have hfa:=C34 hda
 have hfb:=C34 hdb
 rw [h0,if_neg (show ¬(0:Int)≠0 from fun h=>h rfl),←I31 hda hdb]
 refine k5 (k1 (k2 (A2 (A3 V V (B26 (F94 a hal) V V V V ?_)))));rintro _ _ ⟨rfl,rfl⟩;refine ⟨rfl,?_⟩;refine A3 V V (B26 (D88 b hbl) V V V V ?_);rintro _ _ ⟨rfl,rfl⟩;refine ⟨rfl,?_⟩;refine A6 V V (A6 V V (A4 ?_));refine k1 (k2 (A2 (C9 (I48 802 _ A89 V) V (A4 ?_))));refine k1 (k2 (k2 (A2 (A3 V V (E0 V V (A3 V V (A4 ?_)))))));refine k1 (k3 (C5 (X:=Nat) (fun i=>([(1,C6 File 2 R9 b),(7,.s (.one (.mut 801))),(8,.s (.one (.mut 800))),(9,.s (.one (.mut 802))),(28,C6 File 2 R9 a),(29,C0 a.length),(30,C0 i)],[(800,.map Str l4 (S7 b)),(801,.map Str l4 (S7 a)),(802,B90 (B32 b a i))])) (fun i=>i≤a.length) (fun i=>a.length - i) 0 (Nat.zero_le _) (I90 ⟨le1 rfl,le1 rfl,le1 rfl,le1 rfl,le1 rfl,le1 rfl,le1 rfl,trivial⟩ ⟨rfl,rfl,rfl,trivial⟩) ?_))
 intro i hi
 dsimp only at hi ⊢
 have hrl:=G85 b a i
 refine k2 (A2 (E8 V V V (A4 ?_)));refine k1 (k2 ?_);refine B0 rfl (fun ht=>?_) (fun ht=>?_)
 ·have hlt:i < a.length:=by have h1:=A0 ht;(try dsimp only at h1);omega
  obtain ⟨f,hf⟩:∃f,f=a[i]:=⟨_,rfl⟩
  have hv:a[i]?=some f:=by rw [hf];simp [hlt]
  have hs:=G13 (b:=b) hlt
  rw [←hf] at hs
  refine k5 (k1 (k2 (k3 (k2 (A2 (A5 (A9 V (.pure _ _ _ _) V (by omega) hv) V (A5 (D7 V V) V (C9 (J4 11 V) V (G8 (C1 TySz.out V V V V V V) (A4 ?_))))))))));refine k1 (k2 (A2 (A3 V V (A5 (A7 V) V (G4 V V V V (A5 (B23 (f.Path) (r:=((H8 b f.Path).map E41)) V V V s8 s9 (hfb f.Path)) V (A3 V V (H6 V V V (H6 V V V (A6 V V (A6 V V (A4 ?_))))))))))));refine k1 (k2 (A2 (A3 V V (A5 (U2 V) V (A4 ?_)))));refine k1 ?_
  cases hfo:H8 b f.Path with
  | none =>
   have hra:A51 b f=some ⟨f.Path,2⟩:=by unfold A51;rw [hfo]
   rw [hra] at hs
   refine B0 rfl (fun ht=>?_) (fun ht=>?_)
   ·skip
    refine A2 (A3 V V (A5 (A7 V) V (G4 V V V V (A5 (K1 V) V (A5 (C3 (c:=A89) (ys:=[⟨f.Path,2⟩]) (D4 V V V V F9) V V V) V (C9 (R8 V V V (.pure _ _ _ _) (by (simp only [J19,J22];omega)) V) V (A6 V V (A4 ?_))))))));refine k4 (k1 (A2 (D2 V V V (A3 V V (A4 ?_)))));refine k1 ?_;refine ⟨i+1,by omega,by omega,?_⟩
    rw [hs]
    exact (I90 ⟨le1 rfl,le1 rfl,le1 rfl,le1 rfl,le1 rfl,le1 rfl,le1 rfl,trivial⟩ ⟨rfl,rfl,rfl,trivial⟩)
   ·cases ht
  | some y =>
   refine B0 rfl (fun ht=>?_) (fun ht=>?_)
   ·cases ht
   refine k2 (A2 (A3 V V (A5 (A7 V) V (G4 V V V V (A5 (F08 V V) V (A4 ?_))))));refine k1 ?_;refine B0 rfl (fun ht=>?_) (fun ht=>?_)
   ·have h2:y≠f.Blob:=A0 ht
    have hra:A51 b f=some ⟨f.Path,3⟩:=by unfold A51;rw [hfo];dsimp only;rw [if_pos h2]
    rw [hra] at hs
    skip
    refine A2 (A3 V V (A5 (A7 V) V (G4 V V V V (A5 (K1 V) V (A5 (C3 (c:=A89) (ys:=[⟨f.Path,3⟩]) (D4 V V V V F9) V V V) V (C9 (R8 V V V (.pure _ _ _ _) (by (simp only [J19,J22];omega)) V) V (A6 V V (A4 ?_))))))));refine k4 (k1 (A2 (D2 V V V (A3 V V (A4 ?_)))));refine k1 ?_;refine ⟨i+1,by omega,by omega,?_⟩
    rw [hs]
    exact (I90 ⟨le1 rfl,le1 rfl,le1 rfl,le1 rfl,le1 rfl,le1 rfl,le1 rfl,trivial⟩ ⟨rfl,rfl,rfl,trivial⟩)
   ·have h2:¬y≠f.Blob:=A1 ht
    have hra:A51 b f=none:=by unfold A51;rw [hfo];dsimp only;rw [if_neg h2]
    rw [hra] at hs
    refine k5 (k4 (k1 (A2 (D2 V V V (A3 V V (A4 ?_))))));refine k1 ?_;refine ⟨i+1,by omega,by omega,?_⟩
    rw [hs]
    simp only [Option.toList_none,J47]
    exact (I90 ⟨le1 rfl,le1 rfl,le1 rfl,le1 rfl,le1 rfl,le1 rfl,le1 rfl,trivial⟩ ⟨rfl,rfl,rfl,trivial⟩)
 have hie:i=a.length:=by have h1:=A1 ht;(try dsimp only at h1);omega
 have hA:B32 b a a.length=a.filterMap (A51 b):=by unfold B32;rw [J23]
 obtain ⟨A,hAd⟩:∃A,A=a.filterMap (A51 b):=⟨_,rfl⟩
 have hAl:A.length≤a.length:=by rw [hAd];exact List.length_filterMap_le _ _
 rw [hie,hA,←hAd]
 refine k6 (k2 (k2 (A2 (A3 V V (E0 V V (A3 V V (A4 ?_)))))));refine k1 (k3 (C5 (X:=Nat) (fun i=>([(7,.s (.one (.mut 801))),(9,.s (.one (.mut 802))),(60,C6 File 2 R9 b),(61,C0 b.length),(62,C0 i)],[(801,.map Str l4 (S7 a)),(802,B90 (A++A43 a b i))])) (fun i=>i≤b.length) (fun i=>b.length - i) 0 (Nat.zero_le _) (by rw [show A++A43 a b 0=A by unfold A43;simp];exact (I90 ⟨le1 rfl,le1 rfl,le1 rfl,le1 rfl,le1 rfl,trivial⟩ ⟨rfl,rfl,trivial⟩)) ?_))
 intro i hi
 dsimp only at hi ⊢
 have hrl2:=G86 a b i
 refine k2 (A2 (E8 V V V (A4 ?_)));refine k1 (k2 ?_);refine B0 rfl (fun ht=>?_) (fun ht=>?_)
 ·have hlt:i < b.length:=by have h1:=A0 ht;(try dsimp only at h1);omega
  obtain ⟨f,hf⟩:∃f,f=b[i]:=⟨_,rfl⟩
  have hv:b[i]?=some f:=by rw [hf];simp [hlt]
  have hs:=G14 (a:=a) hlt
  rw [←hf] at hs
  refine k5 (k1 (k2 (k3 (k2 (A2 (A5 (A9 V (.pure _ _ _ _) V (by omega) hv) V (A5 (D7 V V) V (C9 (J4 15 V) V (G8 (C1 TySz.out V V V V V V) (A4 ?_))))))))));refine k1 (k2 (A2 (A3 V V (A5 (A7 V) V (G4 V V V V (A5 (B23 (f.Path) (r:=((H8 a f.Path).map E41)) V V V s8 s9 (hfa f.Path)) V (A3 V V (H6 V V V (H6 V V V (A6 V V (A6 V V (A4 ?_))))))))))));refine k1 (k2 (A2 (A3 V V (A5 (U2 V) V (A4 ?_)))));refine k1 ?_
  cases hfo:H8 a f.Path with
  | none =>
   have hra:B77 a f=some ⟨f.Path,1⟩:=by unfold B77;rw [hfo]
   rw [hra] at hs
   refine B0 rfl (fun ht=>?_) (fun ht=>?_)
   ·skip
    refine A2 (A3 V V (A5 (A7 V) V (G4 V V V V (A5 (K1 V) V (A5 (C3 (c:=A89) (ys:=[⟨f.Path,1⟩]) (D4 V V V V F9) V V V) V (C9 (R8 V V V (.pure _ _ _ _) (by (simp only [J20,J19,J22];omega)) V) V (A6 V V (A4 ?_))))))));refine k4 (k1 (A2 (D2 V V V (A3 V V (A4 ?_)))));refine k1 ?_;refine ⟨i+1,by omega,by omega,?_⟩
    rw [hs,←J28]
    exact (I90 ⟨le1 rfl,le1 rfl,le1 rfl,le1 rfl,le1 rfl,trivial⟩ ⟨rfl,rfl,trivial⟩)
   ·cases ht
  | some y =>
   have hra:B77 a f=none:=by unfold B77;rw [hfo]
   rw [hra] at hs
   refine B0 rfl (fun ht=>?_) (fun ht=>?_)
   ·cases ht
   ·refine k5 (k4 (k1 (A2 (D2 V V V (A3 V V (A4 ?_))))));refine k1 ?_;refine ⟨i+1,by omega,by omega,?_⟩
    rw [hs]
    simp only [Option.toList_none,J47]
    exact (I90 ⟨le1 rfl,le1 rfl,le1 rfl,le1 rfl,le1 rfl,trivial⟩ ⟨rfl,rfl,trivial⟩)
 have hie:i=b.length:=by have h1:=A1 ht;(try dsimp only at h1);omega
 have hB:A++A43 a b b.length=r5 a b:=by unfold A43 r5;rw [J23,hAd]
 have hdl:=H22 a b
 rw [hie,hB]
 refine k6 (k2 (A2 (A3 V V (L1 (F34 (r5 a b) (by omega) V) V V V ?_))));rintro _ _ ⟨rfl,rfl⟩;refine A4 ?_;refine k1 (k2 (D8 (Sees.freezeG (k:=802) V V) ?_))
 refine A2 (A3 V V (A6 V V (A6 V V (A4 ?_))));refine k1 (k10 ?_)
 exact B6 (rs:=[F45 (diffOf a b),F2 0]) (X8 rfl rfl rfl rfl rfl) rfl
set_option maxHeartbeats 1000000
theorem D91 {nd:Str}:∀{l:List (Str × Str)},(∀x∈l,x.1.length≤16777216∧x.2.length≤16777216) → -(16777218*(l.length:Int))≤Z0 nd l∧Z0 nd l≤16777218*(l.length:Int)
 | [],_=>⟨by simp [Z0],by simp [Z0]⟩
 | x::r,h=>by
  have ih:=D91 (nd:=nd) fun y hy=>h y (List.mem_cons_of_mem _ hy)
  have h1:=C38 nd x.1 (h x List.mem_cons_self).1
  have h2:=C38 nd x.2 (h x List.mem_cons_self).2
  have e:Z0 nd (x::r)=X5 nd x.2 - X5 nd x.1+Z0 nd r:=by unfold Z0;rw [J33,List.sum_cons]
  rw [e,J19]
  constructor<;>omega
theorem I61 {nd:Str} {l:List (Str × Str)} {i:Nat} (h:i < l.length):Z0 nd (l.take (i+1))=Z0 nd (l.take i)+(X5 nd l[i].2 - X5 nd l[i].1):=by
 unfold Z0
 rw [List.take_add_one,J15 h,Option.toList_some,J42,List.sum_append];simp
theorem G15 {nd:Str} {B:List (List (Str × Str))} {p:Nat} (h:p < B.length):(B.take (p+1)).map (Z0 nd)=(B.take p).map (Z0 nd)++[Z0 nd B[p]]:=by
 rw [List.take_add_one,J15 h,Option.toList_some,J42];rfl
theorem D11 {g:Graph} {c:Int} (h:i6 g c=0):Valid g∧0≤c∧c < g.length:=by
 unfold i6 at h
 split at h
 ·rename_i hd;exact absurd h hd
 ·rename_i hd
  split at h
  ·rename_i hc;exact ⟨Y7 (Decidable.not_not.1 hd),hc⟩
  ·cases h
theorem G87 (g:Graph) (c:Int) (h:FewT g):FnOk Tryz.prog 52 [I7 g,F2 c] (fun rs=>rs=[F2 (i6 g c)]):=by
 refine FnOk.intro Tryz.func52 (by decide) V V V V ?_
 refine k2 (A2 (A6 V V (A4 ?_)));refine k1 (k2 (k2 (A2 (A3 V V (D3 (H53 g h) V V V ?_)))));rintro _ rfl;refine A6 V V (A4 ?_);refine k1 (k2 (A2 (A3 V V (A5 (Q8 V V) V (A4 ?_)))));refine k1 ?_;refine B0 rfl (fun ht=>?_) (fun ht=>?_)
 ·have h1:J1 g≠0:=A0 ht
  refine k2 (A2 (A3 V V (A6 V V (A4 ?_))));refine k1 (k10 (k11 ?_))
  exact B6 (rs:=[F2 (J1 g)]) (G7 rfl rfl rfl) (by unfold i6;rw [if_pos h1])
 have h1:¬J1 g≠0:=A1 ht
 refine k5 (k1 (k2 (k2 (A2 (A3 V V (A3 V V (D3 (dis_ok g c) V V V ?_)))))));rintro _ rfl;refine A5 (U2 V) V (A4 ?_);refine k1 ?_;refine B0 rfl (fun ht=>?_) (fun ht=>?_)
 ·have h2:¬T6 g c:=by simpa using ht
  refine k2 (A2 (A6 V V (A4 ?_)));refine k1 (k10 (k11 ?_))
  exact B6 (rs:=[F2 5]) (G7 rfl rfl rfl) (by unfold i6;rw [if_neg h1,if_neg h2])
 ·have h2:T6 g c:=by simpa using ht
  refine k5 (k1 (k2 (A2 (A6 V V (A4 ?_)))));refine k1 (k10 ?_)
  exact B6 (rs:=[F2 0]) (G7 rfl rfl rfl) (by unfold i6;rw [if_neg h1,if_pos h2])
theorem D12 (g:Graph) (c:Nat) (hf:FewG g) (hr:related g=true) (hc:c < g.length):FnOk Tryz.prog 54 [I7 g,F2 c] (fun rs=>rs=[B66 (K9 g c)]):=by
 obtain ⟨cm,hcm⟩:∃cm,cm=g[c]:=⟨_,rfl⟩
 have hv:g[((c:Nat):Int).toNat]?=some cm:=by rw [hcm];simp [hc]
 have hps:D9 g c=cm.Parents:=by rw [S0 hc,hcm]
 have hpr:=(J0 hr c).1
 have hpl:=hf.pars cm (by rw [hcm];exact J18 hc)
 have htr:K9 g c=if cm.Parents=[] then [[]] else V7 g cm.Parents cm.Parents.length:=by unfold K9 V7;rw [hps,J23]
 rw [hps] at hpr
 rw [htr]
 refine FnOk.intro Tryz.func54 (by decide) V V V V ?_
 refine k2 (A2 (A6 V V (A4 ?_)));refine k1 (k2 (k2 (A2 (A3 V V (A3 V V (A5 (A9 V (.pure _ _ _ _) V (by omega) hv) V (A5 (B8 V) V (A5 (A8 V V) V (E0 V V (A5 (F7 V V) V (A4 ?_)))))))))));refine k1 ?_;refine B0 rfl (fun ht=>?_) (fun ht=>?_)
 ·have h1:cm.Parents=[]:=by
   have h1:=A0 ht
   exact List.length_eq_zero_iff.1 (by omega)
  rw [if_pos h1]
  refine k2 (A2 (A5 (C3 (c:=l8) (ys:=[[]]) (F86 V V F9) V V V) V (A6 V V (A4 ?_))));refine k1 (k10 (k11 ?_))
  exact B6 (rs:=[B66 [[]]]) (G7 rfl rfl rfl) rfl
 have h1:¬cm.Parents=[]:=fun e=>by
  have h1:=A1 ht
  rw [e] at h1;exact h1 rfl
 rw [if_neg h1]
 refine k5 (k1 (k2 (A2 (C9 (Q4 5 _ l8 V) V (A4 ?_)))));refine k1 (k2 (k2 (A2 (A3 V V (A3 V V (A5 (A9 V (.pure _ _ _ _) V (by omega) hv) V (A5 (B8 V) V (A5 (A8 V V) V (E0 V V (A3 V V (A4 ?_)))))))))));refine k1 (k3 (C5 (X:=Nat) (fun i=>([(0,C6 Commit 3 G1 g),(5,.s (.one (.buf 5 (List File) 1 l8 (V7 g cm.Parents i)))),(20,C6 Int 1 E3 cm.Parents),(21,C0 cm.Parents.length),(22,C0 i)],[(5,.spare (V7 g cm.Parents i).length 1 37)])) (fun i=>i≤cm.Parents.length) (fun i=>cm.Parents.length - i) 0 (Nat.zero_le _) (I90 ⟨le1 rfl,le1 rfl,le1 rfl,le1 rfl,le1 rfl,trivial⟩ ⟨rfl,trivial⟩) ?_))
 intro i hi
 dsimp only at hi ⊢
 have hul:=D09 g cm.Parents i
 refine k2 (A2 (E8 V V V (A4 ?_)));refine k1 (k2 ?_);refine B0 rfl (fun ht=>?_) (fun ht=>?_)
 ·have hlt:i < cm.Parents.length:=by have h1:=A0 ht;(try dsimp only at h1);omega
  have hpb:=hpr _ (J18 hlt)
  obtain ⟨p,hp⟩:∃p:Nat,cm.Parents[i]=(p:Int):=⟨cm.Parents[i].toNat,by omega⟩
  have hvp:cm.Parents[i]?=some (p:Int):=by rw [J15 hlt,hp]
  obtain ⟨pm,hpm⟩:∃pm,pm=g[p]:=⟨_,rfl⟩
  have hvpm:g[((p:Nat):Int).toNat]?=some pm:=by rw [hpm,J17];simp [show p < g.length by omega]
  have hs:=C37 (g:=g) hlt
  rw [hp,J17,B64 (by rw [J17] at hvpm;exact hvpm)] at hs
  refine k5 (k1 (k2 (k3 (k2 (A2 (A5 (A9 V (.pure _ _ _ _) V (by omega) hvp) V (A5 (A8 V V) V (A6 V V (A4 ?_)))))))));refine k1 (A2 (A3 V V (A3 V V (A3 V V (A5 (A9 V (.pure _ _ _ _) V (by omega) hvpm) V (A5 (B8 V) V (A5 (A8 V V) V (A5 (C3 (c:=l8) (ys:=[pm.Files]) (D4 V V V V F9) V V V) V (C9 (I9 V V V (.pure _ _ _ _) (by (simp only [J19,J22];omega)) V) V (A6 V V (A4 ?_)))))))))));refine k4 (k1 (A2 (D2 V V V (A3 V V (A4 ?_)))));refine k1 ?_;refine ⟨i+1,by omega,by omega,?_⟩
  rw [hs]
  exact (I90 ⟨le1 rfl,le1 rfl,le1 rfl,le1 rfl,le1 rfl,trivial⟩ ⟨rfl,trivial⟩)
 ·have hie:i=cm.Parents.length:=by have h1:=A1 ht;(try dsimp only at h1);omega
  rw [hie]
  refine k6 (k2 (A2 (A3 V V (A6 V V (A4 ?_)))));refine k1 (k10 ?_)
  exact B6 (rs:=[B66 (V7 g cm.Parents cm.Parents.length)]) (G7 rfl rfl rfl) rfl
def Short (g:Graph):Prop:=∀c:Nat,(K5 g c).length≤6
theorem Short.tree {g:Graph} (h:Short g) {c:Nat} {t:List File} (ht:t∈K9 g c):t.length≤6:=by
 unfold K9 at ht
 split at ht
 ·rw [List.mem_singleton.1 ht];simp
 ·obtain ⟨p,_,rfl⟩:=List.mem_map.1 ht
  exact h _
theorem I03 {g:Graph} (h:FewT g) {c:Nat} {t:List File} (ht:t∈K9 g c):FewF t:=by
 unfold K9 at ht
 split at ht
 ·rw [List.mem_singleton.1 ht];exact ⟨by simp,(fun _ h=>by cases h),(fun _ h=>by cases h)⟩
 ·obtain ⟨p,_,rfl⟩:=List.mem_map.1 ht
  exact h.files _
theorem Valid.check {g:Graph} (h:Valid g) (c:Nat):F5 (K5 g c)=0:=by
 unfold K5
 by_cases hc:c < g.length
 ·rw [J15 hc]
  exact h.tree _ (J18 hc)
 ·rw [J34 (by omega)];decide
theorem Valid.checks {g:Graph} (h:Valid g) {c:Nat} {t:List File} (ht:t∈K9 g c):F5 t=0:=by
 unfold K9 at ht
 split at ht
 ·rw [List.mem_singleton.1 ht];decide
 ·obtain ⟨p,_,rfl⟩:=List.mem_map.1 ht
  exact Valid.check h _
def z8 (g:Graph) (c:Nat):List (List Delta):=(K9 g c).map fun t=>T0 t (K5 g c)
def O8 (ts:List (List File)) (u:List File) (i:Nat):List (List Delta):=(ts.take i).map fun t=>T0 t u
theorem D92 {ts:List (List File)} {u:List File} {i:Nat} (h:i < ts.length):O8 ts u (i+1)=O8 ts u i++[T0 ts[i] u]:=by
 unfold O8
 rw [List.take_add_one,J15 h,Option.toList_some,J42];rfl
theorem E47 (ts:List (List File)) (u:List File) (i:Nat):(O8 ts u i).length≤ts.length:=by
 unfold O8;rw [J38,J25];omega
theorem cof_ok (g:Graph) (c:Nat) (h:FewT g) (hv:Valid g) (hs6:Short g) (hc:c < g.length):FnOk Tryz.prog 53 [I7 g,F2 c] (fun rs=>rs=[.one (.list (List Delta) 1 l9 (z8 g c))]):=by
 obtain ⟨cm,hcm⟩:∃cm,cm=g[c]:=⟨_,rfl⟩
 have hvc:g[((c:Nat):Int).toNat]?=some cm:=by rw [hcm];simp [hc]
 have hfc:K5 g c=cm.Files:=B64 (by rw [J17] at hvc;exact hvc)
 have htl:=B31 hv c
 have htf:∀t∈K9 g c,FewF t∧F5 t=0∧t.length≤6:=fun t ht=>⟨I03 h ht,Valid.checks hv ht,hs6.tree ht⟩
 have huf:=h.files c
 have hu0:=Valid.check hv c
 have hu6:=hs6 c
 obtain ⟨ts,hts⟩:∃ts,ts=K9 g c:=⟨_,rfl⟩
 obtain ⟨u,hu⟩:∃u,u=cm.Files:=⟨_,rfl⟩
 have hres:z8 g c=O8 ts u ts.length:=by unfold z8 O8;rw [J23,hfc,hts,hu]
 rw [hfc,←hu] at huf hu0 hu6
 rw [←hts] at htl htf
 rw [hres]
 refine FnOk.intro Tryz.func53 (by decide) V V V V ?_
 refine k2 (A2 (A6 V V (A4 ?_)));refine k1 (k2 (A2 (C9 (Q4 5 _ l9 V) V (A4 ?_))));refine k1 (k2 (k2 (A2 (A3 V V (A3 V V (D3 (D12 g c h.few hv.rel hc) V V V ?_))))));rintro _ rfl;refine E0 V V (A3 V V (A4 ?_))
 rw [←hts]
 refine k1 (k3 (C5 (X:=Nat) (fun p=>([(0,C6 Commit 3 G1 g),(1,C0 c),(5,.s (.one (.buf 5 (List Delta) 1 l9 (O8 ts u p)))),(12,C6 (List File) 1 l8 ts),(13,C0 ts.length),(14,C0 p)],[(5,.spare (O8 ts u p).length 1 102)])) (fun p=>p≤ts.length) (fun p=>ts.length - p) 0 (Nat.zero_le _) (I90 ⟨le1 rfl,le1 rfl,le1 rfl,le1 rfl,le1 rfl,le1 rfl,trivial⟩ ⟨rfl,trivial⟩) ?_))
 intro p hp
 dsimp only at hp ⊢
 have hbl:=E47 ts u p
 refine k2 (A2 (E8 V V V (A4 ?_)));refine k1 (k2 ?_);refine B0 rfl (fun ht=>?_) (fun ht=>?_)
 ·have hplt:p < ts.length:=by have h1:=A0 ht;(try dsimp only at h1);omega
  have hs:=D92 (u:=u) hplt
  obtain ⟨t,ht0⟩:∃t,t=ts[p]:=⟨_,rfl⟩
  have hvt:ts[p]?=some t:=by rw [ht0];simp [hplt]
  obtain ⟨htf1,ht1,ht6⟩:=htf t (by rw [ht0];exact J18 hplt)
  rw [←ht0] at hs
  have hte:B33 t u=0:=by unfold B33;rw [ht1,if_neg (fun h=>h rfl),hu0]
  have hdiff:=I60 t u htf1 huf (fun _=>by omega)
  rw [hte,if_neg (fun h=>h rfl),show T9 u=T9 cm.Files by rw [hu]] at hdiff
  refine k5 (k1 (k2 (k3 (k2 (A2 (A5 (A9 V (.pure _ _ _ _) V (by omega) hvt) V (A5 (A8 V V) V (A6 V V (A4 ?_)))))))));refine k1 (k2 (A2 (A3 V V (A3 V V (A3 V V (A5 (A9 V (.pure _ _ _ _) V (by omega) hvc) V (A5 (B8 V) V (A5 (A8 V V) V (D3 (hdiff) V V V ?_)))))))));rintro _ rfl;refine A3 V V (H6 V V V (H6 V V V (A6 V V (A6 V V (A4 ?_)))));refine k1 (A2 (A3 V V (A3 V V (A5 (C3 (c:=l9) (ys:=[T0 t u]) (D4 V V V V F9) V V V) V (C9 (I9 V V V (.pure _ _ _ _) (by (simp only [J19,J22];omega)) V) V (A6 V V (A4 ?_)))))));refine k4 (k1 (A2 (D2 V V V (A3 V V (A4 ?_)))));refine k1 ?_;refine ⟨p+1,by omega,by omega,?_⟩
  rw [hs]
  exact (I90 ⟨le1 rfl,le1 rfl,le1 rfl,le1 rfl,le1 rfl,le1 rfl,trivial⟩ ⟨rfl,trivial⟩)
 ·have hpe:p=ts.length:=by have h1:=A1 ht;(try dsimp only at h1);omega
  rw [hpe]
  refine k6 (k2 (A2 (A3 V V (A6 V V (A4 ?_)))));refine k1 (k10 ?_)
  exact B6 (rs:=[.one (.list (List Delta) 1 l9 (O8 ts u ts.length))]) (G7 rfl rfl rfl) rfl
theorem I04 (g:Graph) (c:Int) (h:FewT g) (hs6:Short g):FnOk Tryz.prog 32 [I7 g,F2 c] (fun rs=>∃l,rs=[.one (.list (List Delta) 1 l9 l),F2 (i6 g c)]):=by
 refine FnOk.intro Tryz.func32 (by decide) V V V V ?_
 refine k2 (A2 (A6 V V (A6 V V (A4 ?_))));refine k1 (k2 (k2 (A2 (A3 V V (A3 V V (D3 (G87 g c h) V V V ?_))))));rintro _ rfl;refine A6 V V (A4 ?_);refine k1 (k2 (A2 (A3 V V (A5 (Q8 V V) V (A4 ?_)))));refine k1 ?_;refine B0 rfl (fun ht=>?_) (fun ht=>?_)
 ·refine k2 (A2 (A3 V V (A5 (I0 _ 1 l9) V (A6 V V (A4 ?_)))));refine k1 (k10 (k11 ?_))
  exact B6 (rs:=[.one (.list (List Delta) 1 l9 []),F2 (i6 g c)]) (X8 rfl rfl rfl rfl rfl) ⟨_,rfl⟩
 have h1:¬i6 g c≠0:=A1 ht
 have h0:i6 g c=0:=Decidable.not_not.1 h1
 obtain ⟨hv,hc0,hc1⟩:=D11 h0
 obtain ⟨k,rfl⟩:∃k:Nat,c=(k:Int):=⟨c.toNat,by omega⟩
 rw [h0]
 refine k5 (k1 (k2 (A2 (A3 V V (A3 V V (D3 (cof_ok g k h hv hs6 (by omega)) V V V ?_))))));rintro _ rfl;refine A6 V V (A6 V V (A4 ?_));refine k1 (k10 ?_)
 exact B6 (rs:=[.one (.list (List Delta) 1 l9 (z8 g k)),F2 0]) (X8 rfl rfl rfl rfl rfl) ⟨_,rfl⟩
set_option maxHeartbeats 1000000
theorem E81 (g:Graph) (c:Nat) (h:FewT g) (hv:Valid g) (hs6:Short g) (hc:c < g.length):FnOk Tryz.prog 33 [I7 g,F2 c] (fun rs=>rs=[F64 (O7 g c)]):=by
 obtain ⟨cm,hcm⟩:∃cm,cm=g[c]:=⟨_,rfl⟩
 have hvc:g[((c:Nat):Int).toNat]?=some cm:=by rw [hcm];simp [hc]
 have hfc:K5 g c=cm.Files:=B64 (by rw [J17] at hvc;exact hvc)
 have htl:=B31 hv c
 have htm:∀t∈K9 g c,t.length≤6:=fun t ht=>hs6.tree ht
 have hul:=hs6 c
 rw [hfc] at hul
 obtain ⟨ts,hts⟩:∃ts,ts=K9 g c:=⟨_,rfl⟩
 obtain ⟨u,hu⟩:∃u,u=cm.Files:=⟨_,rfl⟩
 have hres:O7 g c=c9 ts u ts.length:=by unfold O7 c9;rw [J23,hfc,hts,hu]
 have hds:z8 g c=O8 ts u ts.length:=by unfold z8 O8;rw [J23,hfc,hts,hu]
 rw [←hu] at hul
 rw [←hts] at htl htm
 rw [hres]
 obtain ⟨DS,hDS⟩:∃DS,DS=O8 ts u ts.length:=⟨_,rfl⟩
 have hDl:DS.length=ts.length:=by rw [hDS];unfold O8;rw [J38,J23]
 refine FnOk.intro Tryz.func33 (by decide) V V V V ?_
 refine k2 (A2 (A6 V V (A4 ?_)));refine k1 (k2 (A2 (C9 (Q4 5 _ A55 V) V (A4 ?_))));refine k1 (k2 (A2 (A3 V V (A3 V V (D3 (D12 g c h.few hv.rel hc) V V V ?_)))));rintro _ rfl;refine A6 V V (A4 ?_)
 rw [←hts]
 refine k1 (k2 (k2 (A2 (A3 V V (A3 V V (D3 (cof_ok g c h hv hs6 hc) V V V ?_))))));rintro _ rfl;refine E0 V V (A3 V V (A4 ?_))
 rw [hds,←hDS]
 refine k1 (k3 (C5 (X:=Nat) (fun p=>([(0,C6 Commit 3 G1 g),(1,C0 c),(5,.s (.one (.buf 5 (List (Str × Str)) 1 A55 (c9 ts u p)))),(6,C6 (List File) 1 l8 ts),(21,.s (.one (.p (.list (List Delta) 1 l9 DS)))),(22,C0 DS.length),(23,C0 p)],[(5,.spare (c9 ts u p).length 1 75)])) (fun p=>p≤ts.length) (fun p=>ts.length - p) 0 (Nat.zero_le _) (I90 ⟨le1 rfl,le1 rfl,le1 rfl,le1 rfl,le1 rfl,le1 rfl,le1 rfl,trivial⟩ ⟨rfl,trivial⟩) ?_))
 intro p hp
 dsimp only at hp ⊢
 have hbl:=G10 ts u p
 refine k2 (A2 (E8 V V V (A4 ?_)));refine k1 (k2 ?_);refine B0 rfl (fun ht=>?_) (fun ht=>?_)
 rotate_left
 ·have hpe:p=ts.length:=by have h1:=A1 ht;(try dsimp only at h1);omega
  rw [hpe]
  refine k6 (k2 (A2 (A3 V V (A6 V V (A4 ?_)))));refine k1 (k10 ?_)
  exact B6 (rs:=[F64 (c9 ts u ts.length)]) (G7 rfl rfl rfl) rfl
 have hplt:p < ts.length:=by have h1:=A0 ht;(try dsimp only at h1);omega
 have hs:=F32 (u:=u) hplt
 obtain ⟨t,ht0⟩:∃t,t=ts[p]:=⟨_,rfl⟩
 have hvt:ts[p]?=some t:=by rw [ht0];simp [hplt]
 have htl2:=htm t (by rw [ht0];exact J18 hplt)
 rw [←ht0] at hs
 have hdl:=D90 t u
 obtain ⟨ds,hdsd⟩:∃ds,ds=T0 t u:=⟨_,rfl⟩
 have hvd:DS[p]?=some ds:=by
  rw [hDS,hdsd,ht0];unfold O8
  rw [J23,J52,J15 hplt];rfl
 have hpo:A36 t u=q8 t u ds ds.length:=by unfold A36 q8;rw [J23,hdsd]
 rw [hpo] at hs
 rw [←hdsd] at hdl
 refine k5 (k1 (k2 (k3 (k2 (A2 (A3 V V (A5 (A9 V (.pure _ _ _ _) V (by omega) hvd) V (A5 (A8 V V) V (A6 V V (A6 V V (A4 ?_)))))))))));refine k1 (k2 (A2 (C9 (Q4 9 _ A16 V) V (A4 ?_))));refine k1 (k2 (k2 (A2 (A3 V V (E0 V V (A3 V V (A4 ?_)))))));refine k1 (k3 (C5 (X:=Nat) (fun i=>([(0,C6 Commit 3 G1 g),(1,C0 c),(5,.s (.one (.buf 5 (List (Str × Str)) 1 A55 (c9 ts u p)))),(6,C6 (List File) 1 l8 ts),(7,C0 p),(9,.s (.one (.buf 9 (Str × Str) 2 A16 (q8 t u ds i)))),(21,.s (.one (.p (.list (List Delta) 1 l9 DS)))),(22,C0 DS.length),(23,C0 p),(28,C6 Delta 2 A89 ds),(29,C0 ds.length),(30,C0 i)],[(5,.spare (c9 ts u p).length 1 75),(9,.spare (q8 t u ds i).length 2 51)])) (fun i=>i≤ds.length) (fun i=>ds.length - i) 0 (Nat.zero_le _) (I90 ⟨le1 rfl,le1 rfl,le1 rfl,le1 rfl,le1 rfl,le1 rfl,le1 rfl,le1 rfl,le1 rfl,le1 rfl,le1 rfl,le1 rfl,trivial⟩ ⟨rfl,rfl,trivial⟩) ?_))
 intro i hi
 dsimp only at hi ⊢
 have hpl:=D10 t u ds i
 refine k2 (A2 (E8 V V V (A4 ?_)));refine k1 (k2 ?_);refine B0 rfl (fun ht=>?_) (fun ht=>?_)
 ·have hilt:i < ds.length:=by have h1:=A0 ht;(try dsimp only at h1);omega
  have hs2:=F33 (t:=t) (u:=u) hilt
  obtain ⟨d,hd⟩:∃d,d=ds[i]:=⟨_,rfl⟩
  have hvdi:ds[i]?=some d:=by rw [hd];simp [hilt]
  rw [←hd] at hs2
  have hfu:=G04 u d.Path (by omega)
  rw [show T9 u=T9 cm.Files by rw [hu]] at hfu
  refine k5 (k1 (k2 (k3 (k2 (A2 (A5 (A9 V (.pure _ _ _ _) V (by omega) hvdi) V (A5 (D7 V V) V (C9 (J4 11 V) V (G8 (C1 TySz.out V V V V V V) (A4 ?_))))))))));refine k1 (k2 (E6 (by kernel_rfl) (by kernel_rfl) (E5 V V (E5 V V (B5 (A9 V (.pure _ _ _ _) V (by omega) hvt) V V (B5 (A8 V V) V V (B5 (A7 V) V V (B5 (C4 V V V) V V (B5 (N4 (G04 t d.Path (by omega)) V V) V V (E5 V V (B5 (R2 V V) V V (B5 (R2 V V) V V (B5 (I3 V V) V V (B5 (I3 V V) V V (P0 ?_)))))))))))))));refine k1 (k2 (E6 (by kernel_rfl) (by kernel_rfl) (E5 V V (E5 V V (B5 (A9 V (.pure _ _ _ _) V (by omega) hvc) V V (B5 (B8 V) V V (B5 (A8 V V) V V (B5 (A7 V) V V (B5 (C4 V V V) V V (B5 (N4 (hfu) V V) V V (E5 V V (B5 (R2 V V) V V (B5 (R2 V V) V V (B5 (I3 V V) V V (B5 (I3 V V) V V (P0 ?_))))))))))))))));refine k1 (A2 (A3 V V (A3 V V (A3 V V (A5 (D82 V) V (A5 (C3 (c:=A16) (ys:=[(L0 t d.Path,L0 u d.Path)]) (D4 V V V V F9) V V V) V (C9 (I9 V V V (.pure _ _ _ _) (by (simp only [J19,J22];omega)) V) V (A6 V V (A4 ?_)))))))));refine k4 (k1 (A2 (D2 V V V (A3 V V (A4 ?_)))));refine k1 ?_;refine ⟨i+1,by omega,by omega,?_⟩
  rw [hs2]
  exact (I90 ⟨le1 rfl,le1 rfl,le1 rfl,le1 rfl,le1 rfl,le1 rfl,le1 rfl,le1 rfl,le1 rfl,le1 rfl,le1 rfl,le1 rfl,trivial⟩ ⟨rfl,rfl,trivial⟩)
 ·have hie:i=ds.length:=by have h1:=A1 ht;(try dsimp only at h1);omega
  rw [hie]
  have hpl2:=D10 t u ds ds.length
  refine k6 (k7 (k7 (k8 V (k1 (A2 (A3 V V (A3 V V (A5 (C3 (c:=A55) (ys:=[q8 t u ds ds.length]) (D4 V V V V F9) V V V) V (C9 (I9 V V V (.pure _ _ _ _) (by (simp only [J19,J22];omega)) V) V (A6 V V (A4 ?_)))))))))));refine k4 (k1 (A2 (D2 V V V (A3 V V (A4 ?_)))));refine k1 ?_;refine ⟨p+1,by omega,by omega,?_⟩
  rw [hs]
  exact (I90 ⟨le1 rfl,le1 rfl,le1 rfl,le1 rfl,le1 rfl,le1 rfl,le1 rfl,trivial⟩ ⟨rfl,trivial⟩)
set_option maxHeartbeats 1000000
abbrev cE (nd:Str):Unit→Nat→Cell:=fun _ _=>.v (.string ⟨nd.toArray⟩)
abbrev G16 (x:Str × Str):S1:=.agg [.p (A16 x 0),.p (A16 x 1)]
abbrev B07 (b:Bool):S1:=.one (.p (.v (.bool b)))
abbrev N0 (i:Int):S1:=.one (.p (.v (.int .i64 i)))
theorem I62 (nd:Str) (x:Str × Str) (hn:nd.length≤1073741824) (h1:x.1.length≤16777216) (h2:x.2.length≤16777216) :
  AL.Met Tryz.prog 21 [G16 x,.one (.eref Unit 1 (cE nd) () 0)] [] [] [] (fun rs ob'=>rs=[B07 (differs nd x)]∧ob'=[]):=by
 refine AL.Met.intro Tryz.func21 (by decide) V V V ?_
 refine k2 (A2 (C9 (x4 2 V V V) V (A6 V V (A4 ?_))));refine k1 (k2 (E6 (by kernel_rfl) (by kernel_rfl) (B5 (A8 V V) V V (B5 (K6 V V (by first | omega | decide) (by omega)) V V (B5 (C4 V V V) V V (B5 (N4 (B63 nd x.1 hn h1) V V) V V (B5 (A8 V V) V V (B5 (K6 V V (by first | omega | decide) (by omega)) V V (B5 (C4 V V V) V V (B5 (N4 (B63 nd x.2 hn h2) V V) V V (B5 (Q8 V V) V V (B5 (I3 V V) V V (P0 ?_)))))))))))));refine k1 (k10 ?_)
 exact G5 (K4 rfl rfl) (by repeat (first | exact B2 | refine B3 rfl ?_ | refine D1 _ ?_)) (ObIn.spec (ob':=[]) trivial) ⟨rfl,rfl⟩
theorem E48 (f:FuncId) (α:Type) (ec:Nat) (c:α→Nat→Cell) (v:α) (pr:Str × Str→Bool) (l:List (Str × Str)) (hl:l.length≤1073741824) (hf:∀x∈l,AL.Met Tryz.prog f [G16 x,.one (.eref α ec c v 0)] [] [] [] (fun rs ob'=>rs=[B07 (pr x)]∧ob'=[])) :
  AL.Met Tryz.prog 63 [.one (.p (.list (Str × Str) 2 A16 l)),.one (.fncE f α ec c v)] [] [] [] (fun rs ob'=>(∃i:Int,rs=[N0 i]∧decide (0≤i)=l.any pr)∧ob'=[]):=by
 refine AL.Met.intro Tryz.func63 (by decide) V V V ?_
 refine k2 (A2 (A6 V V (A4 ?_)));refine k1 (k2 (k2 (A2 (A3 V V (E0 V V (A3 V V (A4 ?_)))))));refine k1 (k3 (C5 (X:=Nat) (fun i=>([(0,C6 (Str × Str) 2 A16 l),(1,.s (.one (.fncE f α ec c v))),(7,C0 l.length),(8,C0 i)],[])) (fun i=>i≤l.length∧(l.take i).any pr=false) (fun i=>l.length - i) 0 ⟨Nat.zero_le _,rfl⟩ (I90 ⟨le1 rfl,le1 rfl,le1 rfl,le1 rfl,trivial⟩ trivial) ?_))
 rintro i ⟨hi,hn⟩
 dsimp only at hi hn ⊢
 refine k2 (A2 (E8 V V V (A4 ?_)));refine k1 (k2 ?_);refine B0 rfl (fun ht=>?_) (fun ht=>?_)
 rotate_left
 ·have h1:i=l.length:=by have h1:=A1 ht;(try dsimp only at h1);omega
  rw [h1,J23] at hn
  refine k6 (k2 (A2 (A6 V V (A4 ?_))));refine k1 (k10 ?_)
  exact G5 (K4 rfl rfl) (by repeat (first | exact B2 | refine B3 rfl ?_ | refine D1 _ ?_)) (ObIn.spec (ob':=[]) trivial) ⟨⟨-1,rfl,by rw [hn];rfl⟩,rfl⟩
 have hlt:i < l.length:=by have h1:=A0 ht;(try dsimp only at h1);omega
 obtain ⟨x,hx⟩:∃x,x=l[i]:=⟨_,rfl⟩
 have hv:l[i]?=some x:=by rw [hx];simp [hlt]
 have hfx:=hf x (by rw [hx];exact J18 hlt)
 refine k5 (k1 (k2 (k3 (k2 (A2 (A3 V V (A6 V V (A4 ?_))))))));refine k1 (k2 (A2 (A3 V V (A3 V V (A3 V V (A5 (A9 V (.pure _ _ _ _) V (by omega) hv) V (A5 (D7 V V) V (A5 (n_callE (hfx) V V V) V (A4 ?_)))))))));refine k1 ?_;refine B0 rfl (fun ht=>?_) (fun ht=>?_)
 ·refine k2 (A2 (A3 V V (A6 V V (A4 ?_))));refine k1 (k10 (k12 (k11 (k11 (k12 (k11 ?_))))));refine G5 (K4 rfl rfl) (by repeat (first | exact B2 | refine B3 rfl ?_ | refine D1 _ ?_)) (ObIn.spec (ob':=[]) trivial) ⟨⟨i,rfl,?_⟩,rfl⟩
  rw [List.any_eq_true.2 ⟨x,by rw [hx];exact J18 hlt,ht⟩]
  exact decide_eq_true (by omega)
 ·refine k5 (k4 (k1 (A2 (D2 V V V (A3 V V (A4 ?_))))));refine k1 ?_;refine ⟨i+1,⟨hlt,?_⟩,by omega,(I90 ⟨le1 rfl,le1 rfl,le1 rfl,le1 rfl,trivial⟩ trivial)⟩
  rw [List.take_add_one,hv,Option.toList_some,J60,hn,Bool.false_or,List.any_cons,List.any_nil,Bool.or_false]
  exact ht
theorem C82 (f:FuncId) (α:Type) (ec:Nat) (c:α→Nat→Cell) (v:α) (pr:Str × Str→Bool) (l:List (Str × Str)) (hl:l.length≤1073741824) (hf:∀x∈l,AL.Met Tryz.prog f [G16 x,.one (.eref α ec c v 0)] [] [] [] (fun rs ob'=>rs=[B07 (pr x)]∧ob'=[])) :
  AL.Met Tryz.prog 35 [.one (.p (.list (Str × Str) 2 A16 l)),.one (.fncE f α ec c v)] [] [] [] (fun rs ob'=>rs=[B07 (l.any pr)]∧ob'=[]):=by
 refine AL.Met.intro Tryz.func35 (by decide) V V V ?_
 refine k2 (A2 (A6 V V (A4 ?_)));refine k1 (k2 (A2 (A3 V V (A3 V V (B26 (E48 f α ec c v pr l hl hf) V V V V ?_)))));rintro _ _ ⟨⟨i,rfl,hi⟩,rfl⟩;refine ⟨rfl,?_⟩;refine A5 (W5 V V) V (A6 V V (A4 ?_));refine k1 (k10 ?_)
 exact G5 (K4 rfl rfl) (by repeat (first | exact B2 | refine B3 rfl ?_ | refine D1 _ ?_)) (ObIn.spec (ob':=[]) trivial) ⟨by rw [←hi],rfl⟩
def l7 (B:List (List (Str × Str))) (i:Nat):List (Str × Str):=(B.take i).flatten
theorem D13 {B:List (List (Str × Str))} {i:Nat} (h:i < B.length):l7 B (i+1)=l7 B i++B[i]:=by
 unfold l7
 rw [List.take_add_one,J15 h,Option.toList_some,J51];simp
theorem E82:∀{B:List (List (Str × Str))},(∀l∈B,l.length≤400)→B.flatten.length≤400*B.length
 | [],_=>by simp
 | l::B,h=>by
  have:=E82 fun x hx=>h x (List.mem_cons_of_mem l hx)
  have:=h l List.mem_cons_self
  rw [J57,J20,J19];omega
theorem A85 {B:List (List (Str × Str))} (hB:FewB B) (i:Nat):(l7 B i).length≤13200:=by
 have h1:=E82 (B:=B.take i) fun l hl=>hB.lens l (List.mem_of_mem_take hl)
 have h2:=hB.len
 rw [J25] at h1
 unfold l7;omega
abbrev H54 (l:List (Str × Str)):Ob:=.grow 51 (Str × Str) 2 A16 l
set_option maxHeartbeats 1000000
theorem F35 (n:Nat) (hn:n≤1000000):AL.Met Tryz.prog 64 [.one (.p (.v (.slice none 0 0))),N0 n] [] [] [] (fun rs ob'=>rs=[.one (.mut 803)]∧ob'=[(803,H54 [])]):=by
 refine AL.Met.intro Tryz.func64 (by decide) V V V ?_
 refine k2 (A2 (A5 (I0 _ 2 A16) V (A4 ?_)));refine k1 (k2 (k2 (A2 (A3 V V (E8 V V V (A4 ?_))))));refine k1 ?_;refine B0 rfl (fun ht=>?_) (fun ht=>?_)
 ·have h1:=A0 ht
  omega
 refine k5 (k1 (k2 (k2 (A2 (A3 V V (A3 V V (A5 (B62 V) V (A3 V V (A5 (B55 V) V (A5 (K8 V V (by omega)) V (A5 (K8 V V (by omega)) V (A6 V V (A4 ?_)))))))))))))
 rw [show (n:Int) - (0 - 0)=(n:Int) by omega]
 refine k1 (k2 (A2 (A3 V V (A5 (M5 V V) V (A4 ?_)))));refine k1 ?_;refine B0 rfl (fun ht=>?_) (fun ht=>?_)
 ·have h1:=A0 ht
  skip
  refine A2 (A3 V V (A3 V V (A5 (B62 V) V (A5 (B85 V V) V (A3 V V (C9 (E73 803 V V (by omega) (by omega) V V) V (A3 V V (A5 (B55 V) V (C9 (B61 V V V (by omega) (by omega) V) V (A6 V V (A4 ?_)))))))))));refine k1 (k2 ?_)
  rw [show Int.toNat 0=0 from rfl,List.take_zero]
  refine D8 (J05 (k:=803) (Str × Str) A16 V) ?_
  refine A2 (A3 V V (A6 V V (A4 ?_)));refine k1 (k10 ?_)
  exact G5 (K4 rfl rfl) (by repeat (first | exact B2 | refine B3 rfl ?_ | refine D1 _ ?_)) (ObIn.spec (ob':=[(803,H54 [])]) ⟨rfl,trivial⟩) ⟨rfl,rfl⟩
 ·refine D8 (J04 0 803 (Str × Str) 2 A16 51 V V) ?_
  refine k5 (k1 (k2 (A2 (A3 V V (A6 V V (A4 ?_))))));refine k1 (k10 ?_)
  exact G5 (K4 rfl rfl) (by repeat (first | exact B2 | refine B3 rfl ?_ | refine D1 _ ?_)) (ObIn.spec (ob':=[(803,H54 [])]) ⟨rfl,trivial⟩) ⟨rfl,rfl⟩
theorem E49 (B:List (List (Str × Str))) (hB:FewB B):FnOk Tryz.prog 36 [F64 B] (fun rs=>rs=[pPairs B.flatten]):=by
 have hBl:=hB.len
 have hall:B.flatten=l7 B B.length:=by unfold l7;rw [J23]
 rw [hall]
 refine FnOk.intro Tryz.func36 (by decide) V V V V ?_
 refine k2 (A2 (A6 V V (A4 ?_)));refine k1 (k2 (A2 (A6 V V (A4 ?_))));refine k1 (k2 (k2 (A2 (A3 V V (E0 V V (A3 V V (A4 ?_)))))));refine k1 (k3 (C5 (X:=Nat) (fun i=>([(0,C6 (List (Str × Str)) 1 A55 B),(3,C0 ((l7 B i).length:Nat)),(9,C6 (List (Str × Str)) 1 A55 B),(10,C0 B.length),(11,C0 i)],[])) (fun i=>i≤B.length) (fun i=>B.length - i) 0 (Nat.zero_le _) (I90 ⟨le1 rfl,le1 rfl,le1 rfl,le1 rfl,le1 rfl,trivial⟩ trivial) ?_))
 intro i hi
 dsimp only at hi ⊢
 have hfl:=A85 hB i
 refine k2 (A2 (E8 V V V (A4 ?_)));refine k1 (k2 ?_);refine B0 rfl (fun ht=>?_) (fun ht=>?_)
 ·have hlt:i < B.length:=by have h1:=A0 ht;(try dsimp only at h1);omega
  obtain ⟨l,hl⟩:∃l,l=B[i]:=⟨_,rfl⟩
  have hv:B[i]?=some l:=by rw [hl];simp [hlt]
  have hll:=hB.lens l (by rw [hl];exact J18 hlt)
  have hs:((l7 B (i+1)).length:Int)=(l7 B i).length+l.length:=by rw [D13 hlt,J20,hl];omega
  refine k5 (k1 (k2 (k3 (k2 (A2 (A5 (A9 V (.pure _ _ _ _) V (by omega) hv) V (A5 (A8 V V) V (A6 V V (A4 ?_)))))))));refine k1 (k2 (A2 (A3 V V (A3 V V (E0 V V (D2 V V V (A6 V V (A4 ?_))))))));refine k1 (k2 (A2 (A3 V V (E8 V V V (A4 ?_)))));refine k1 ?_;refine B0 rfl (fun ht=>?_) (fun ht=>?_)
  ·have h1:=A0 ht
   omega
  refine k5 (k4 (k1 (A2 (D2 V V V (A3 V V (A4 ?_))))));refine k1 ?_;refine ⟨i+1,by omega,by omega,?_⟩
  rw [hs]
  exact (I90 ⟨le1 rfl,le1 rfl,le1 rfl,le1 rfl,le1 rfl,trivial⟩ trivial)
 have hie:i=B.length:=by have h1:=A1 ht;(try dsimp only at h1);omega
 rw [hie]
 have hfl2:=A85 hB B.length
 refine k6 (k2 (A2 (A3 V V (B26 (F35 (l7 B B.length).length (by omega)) V V V V ?_))));rintro _ _ ⟨rfl,rfl⟩;refine ⟨rfl,?_⟩;refine A6 V V (A4 ?_);refine k1 (k2 (k2 (A2 (A3 V V (E0 V V (A3 V V (A4 ?_)))))));refine k1 (k3 (C5 (X:=Nat) (fun i=>([(6,.s (.one (.mut 803))),(25,C6 (List (Str × Str)) 1 A55 B),(26,C0 B.length),(27,C0 i)],[(803,H54 (l7 B i))])) (fun i=>i≤B.length) (fun i=>B.length - i) 0 (Nat.zero_le _) (I90 ⟨le1 rfl,le1 rfl,le1 rfl,le1 rfl,trivial⟩ ⟨rfl,trivial⟩) ?_))
 intro i hi
 dsimp only at hi ⊢
 have hfl:=A85 hB i
 refine k2 (A2 (E8 V V V (A4 ?_)));refine k1 (k2 ?_);refine B0 rfl (fun ht=>?_) (fun ht=>?_)
 ·have hlt:i < B.length:=by have h1:=A0 ht;(try dsimp only at h1);omega
  obtain ⟨l,hl⟩:∃l,l=B[i]:=⟨_,rfl⟩
  have hv:B[i]?=some l:=by rw [hl];simp [hlt]
  have hll:=hB.lens l (by rw [hl];exact J18 hlt)
  have hs:=D13 hlt
  rw [←hl] at hs
  refine k5 (k1 (k2 (k3 (k2 (A2 (A5 (A9 V (.pure _ _ _ _) V (by omega) hv) V (A5 (A8 V V) V (A6 V V (A4 ?_)))))))));refine k1 (A2 (A3 V V (A3 V V (C9 (R8 V V V (.pure _ _ _ _) (by omega) V) V (A6 V V (A4 ?_))))));refine k4 (k1 (A2 (D2 V V V (A3 V V (A4 ?_)))));refine k1 ?_;refine ⟨i+1,by omega,by omega,?_⟩
  rw [hs]
  exact (I90 ⟨le1 rfl,le1 rfl,le1 rfl,le1 rfl,trivial⟩ ⟨rfl,trivial⟩)
 have hie2:i=B.length:=by have h1:=A1 ht;(try dsimp only at h1);omega
 rw [hie2]
 refine k6 (k2 (D8 (Sees.freezeG (k:=803) V V) ?_))
 refine A2 (A3 V V (A6 V V (A4 ?_)));refine k1 (k10 ?_)
 exact B6 (rs:=[pPairs (l7 B B.length)]) (G7 rfl rfl rfl) rfl
set_option maxHeartbeats 1000000
abbrev D93 (l:List Int):Ob:=.arr Int 1 E3 l
abbrev S2 (l:List Int):Ob:=.grow 3 Int 1 E3 l
theorem E83 {gf:Fr} {ob:Obs} (ch opn:List Int) (c:Nat) (hc:c < ch.length) (_hl:ch.length≤1000000) (ho:opn.length≤1000000) (h5:B9 ob 5=some (.box [.mut 753])) (h7:B9 ob 7=some (.box [.mut 754])) (h753:B9 ob 753=some (D93 ch)) (h754:B9 ob 754=some (S2 opn)) :
  AL.Met Tryz.prog 92 [.one (.p (.v (.int .i64 c))),.one (.ref 5 0),.one (.ref 7 0)] gf ob [754]
   (fun rs ob'=>rs=[]∧ob'=(5,.box [.mut 753])::(7,.box [.mut 754])::(753,D93 (if atG ch c < 0 then ch.set c 0 else ch))::(754,S2 (if atG ch c < 0 then opn++[(c:Int)] else opn))::Obs.forget 754 ob):=by
 have hva:=C07 (l:=ch) (p:=(c:Int)) (by omega)
 rw [J17] at hva
 refine AL.Met.introH Tryz.func92 (by decide) rfl rfl rfl (fun hH=>?_)
 refine D8 (I92 754 (l:=[(0,C0 c),(1,.s (.one (.ref 5 0))),(2,.s (.one (.ref 7 0)))]) (L:=[(5,_),(7,_),(753,_),(754,_)]) ⟨le1 rfl,le1 rfl,le1 rfl,trivial⟩ hH (by repeat (first | exact B2 | refine B3 rfl ?_)) ⟨h5,h7,h753,h754,trivial⟩) ?_
 refine k2 (A2 (G4 V V V V (A3 V V (A5 (F1 V V V (by omega) (by omega)) V (A5 (M1 V V hva V) V (E8 V V V (A4 ?_)))))));refine k1 ?_;refine B0 rfl (fun ht=>?_) (fun ht=>?_)
 ·have h1:atG ch c < 0:=A0 ht
  rw [if_pos h1,if_pos h1]
  refine k2 (A2 (G4 V V V V (A3 V V (A5 (F1 V V V (by omega) (by omega)) V (G8 (I1 TySz.out V V (by omega) V V) (A4 ?_))))));refine k1 (A2 (G4 V V V V (A3 V V (A5 (C3 (c:=E3) (ys:=[(c:Int)]) (D4 V V V V F9) V V V) V (C9 (R8 V V V (.pure _ _ _ _) (by (simp only [J19,J22];omega)) V) V (G8 (C1 TySz.out V V V V V V) (A4 ?_)))))))
  skip
  exact R7 (A63 rfl) (by repeat (first | exact B2 | refine B3 rfl ?_ | refine J7 _ ?_)) (E2 (L:=[(5,_),(7,_),(753,_),(754,_)]) ⟨rfl,rfl,rfl,rfl,trivial⟩ (by repeat (first | exact D5 | refine D6 rfl ?_ | refine P7 _ ?_))) ⟨rfl,rfl⟩
 ·have h1:¬atG ch c < 0:=A1 ht
  rw [if_neg h1,if_neg h1]
  refine k5 ?_
  exact R7 (A63 rfl) (by repeat (first | exact B2 | refine B3 rfl ?_ | refine J7 _ ?_)) (fun _ _ h=>h) ⟨rfl,rfl⟩
def A44 (n i:Nat):List Int:=List.replicate i (-1)++List.replicate (n - i) 0
theorem G88 {n i:Nat} (h:i < n):(A44 n i).set i (-1)=A44 n (i+1):=by
 unfold A44
 rw [List.set_append_right _ _ (by simp),J49,J61,show n - i=(n - (i+1))+1 by omega,List.replicate_succ,List.set_cons_zero,List.replicate_succ',J28];rfl
theorem G89 {n i:Nat} (h:i≤n):(A44 n i).length=n:=by unfold A44;simp;omega
theorem DInv.last {g:Graph} {inn:List Bool} {st:List Int} {k i:Nat} {ch opn D:List Int} (h:DInv g inn st k i ch opn D) (h0:0 < opn.length):∃c:Nat,opn=opn.take (opn.length - 1)++[(c:Int)]∧c < g.length∧opn[opn.length - 1]?=some (c:Int):=by
 have hlt:opn.length - 1 < opn.length:=by omega
 have hm:=h.on opn[opn.length - 1] (List.mem_append_right _ (J18 hlt))
 have e1:opn[opn.length - 1]=(opn[opn.length - 1].toNat:Int):=by omega
 refine ⟨opn[opn.length - 1].toNat,?_,by omega,by rw [J15 hlt];exact congrArg some e1⟩
 have h1:opn.take (opn.length - 1+1)=opn:=J40 (by omega)
 rw [List.take_add_one,J15 hlt,Option.toList_some] at h1
 rw [←e1];exact h1.symm
theorem F36 (g:Graph) (s:List Int) (hf:FewG g) (hr:related g=true) (hs:∀f∈s,0≤f∧f < g.length) (hsl:s.length≤1048576) :
  AL.Met Tryz.prog 58 [.one (.p (.list Commit 3 G1 g)),.one (.p (.list Int 1 E3 s))] [] [] [] (fun rs ob'=>∃ch,rs=[.one (.mut 753)]∧ob'=[(753,D93 ch)]∧ch.length=g.length∧∀p,p < g.length→atG ch p=if K0 (M9 g s) p=true then (C95 g (M9 g s) [] p:Int) else -1):=by
 have hg:=hf.len
 have hrs:=B71 hr hs
 have hcl:=A91 hr s hs
 obtain ⟨inn,hinn⟩:∃inn,inn=M9 g s:=⟨_,rfl⟩
 have hfin:=@DInv.fin g s
 rw [←hinn] at hrs hcl
 refine AL.Met.intro Tryz.func58 (by decide) V V V ?_
 refine k2 (A2 (A6 V V (A4 ?_)));refine k1 (k2 (A2 (A3 V V (E0 V V (C9 (c8 753 Int E3 0 V V (by omega) (by omega) (fun _=>by first | exact ⟨⟨rfl,rfl⟩,trivial⟩ | exact ⟨G9 _ _ _,trivial⟩ | exact ⟨G9 _ _ _,⟨rfl,rfl⟩,G9 _ _ _,trivial⟩) (by first | rfl | (simp [K2,J2,Ob.free,SV.free,S1.free,TC.free]<;>rfl))) V ?_)))));refine C9 (J4 5 V) V (G8 (C1 TySz.out V V V V V V) (A4 ?_));refine k1 (k2 (k2 (A2 (G4 V V V V (A5 (C69 V V) V (A3 V V (A4 ?_)))))));refine k1 (k3 ?_)
 rw [J17]
 refine C5 (X:=Nat) (fun i=>([(0,C6 Commit 3 G1 g),(1,C6 Int 1 E3 s),(5,.s (.one (.ref 5 0))),(18,C0 g.length),(19,C0 i)],[(5,.box [.mut 753]),(753,D93 (A44 g.length i))])) (fun i=>i≤g.length) (fun i=>g.length - i) 0 (Nat.zero_le _) (by rw [show A44 g.length 0=List.replicate g.length 0 by unfold A44;simp];exact (I90 ⟨le1 rfl,le1 rfl,le1 rfl,leE V (by first | (simp;done) | (simp;omega)),le1 rfl,trivial⟩ ⟨rfl,rfl,trivial⟩)) ?_
 intro i hi
 dsimp only at hi ⊢
 have hil:=G89 hi
 refine k2 (A2 (E8 V V V (A4 ?_)));refine k1 (k2 ?_);refine B0 rfl (fun ht=>?_) (fun ht=>?_)
 ·have hlt:i < g.length:=by have h1:=A0 ht;(try dsimp only at h1);omega
  have hst:=G88 hlt
  refine k5 (k1 (k2 (k3 (k2 (A2 (A3 V V (A6 V V (A4 ?_))))))));refine k1 (A2 (G4 V V V V (A3 V V (A5 (F1 V V V (by omega) (by (rw [hil];omega))) V ?_))));refine G8 (I1 TySz.out V V (by (rw [hil];omega)) V V) ?_;refine A4 ?_;refine k4 (k1 (A2 (D2 V V V (A3 V V (A4 ?_)))));refine k1 ?_;refine ⟨i+1,by omega,by omega,?_⟩
  rw [J17,hst]
  exact (I90 ⟨le1 rfl,le1 rfl,le1 rfl,le1 rfl,le1 rfl,trivial⟩ ⟨rfl,rfl,trivial⟩)
 have hie:i=g.length:=by have h1:=A1 ht;(try dsimp only at h1);omega
 rw [hie,show A44 g.length g.length=List.replicate g.length (-1) by unfold A44;simp]
 have hD0:=DInv.start g inn
 refine k6 (k2 (A2 (C9 (J4 7 V) V (A4 ?_))));refine k1 (k2 (D8 (I96 754 Int 1 E3 3 (kb:=7) (o:=0) V V V) ?_))
 refine A2 (A5 (A08 V V) V (A6 V V (A4 ?_)));refine k1 (k2 (k2 (A2 (A3 V V (E0 V V (A3 V V (A4 ?_)))))));refine k1 (k3 (C5 (X:=Nat × List Int × List Int) (fun x=>([(0,C6 Commit 3 G1 g),(5,.s (.one (.ref 5 0))),(7,.s (.one (.ref 7 0))),(8,.s (.one (.clo 92 [] [(5,0),(7,0)]))),(27,C6 Int 1 E3 s),(28,C0 s.length),(29,C0 x.1)],[(5,.box [.mut 753]),(7,.box [.mut 754]),(753,D93 x.2.1),(754,S2 x.2.2)])) (fun x=>x.1≤s.length∧DInv g inn (s.take x.1) 0 0 x.2.1 x.2.2 []) (fun x=>s.length - x.1) (0,List.replicate g.length (-1),[]) ⟨Nat.zero_le _,hD0⟩ (I90 ⟨le1 rfl,le1 rfl,le1 rfl,le1 rfl,le1 rfl,le1 rfl,le1 rfl,trivial⟩ ⟨rfl,rfl,rfl,rfl,trivial⟩) ?_))
 rintro ⟨j,ch,opn⟩ ⟨hj,hD⟩
 dsimp only at hj hD ⊢
 have hDl:=hD.le
 have hchl:=hD.len
 rw [J22,Nat.zero_add] at hDl
 refine k2 (A2 (E8 V V V (A4 ?_)));refine k1 (k2 ?_);refine B0 rfl (fun ht=>?_) (fun ht=>?_)
 ·have hlt:j < s.length:=by have h1:=A0 ht;(try dsimp only at h1);omega
  have hsr:=hs _ (J18 hlt)
  obtain ⟨c,hc⟩:∃c:Nat,s[j]=(c:Int):=⟨s[j].toNat,by omega⟩
  have hv:s[j]?=some (c:Int):=by rw [J15 hlt,hc]
  have hcg:c < g.length:=by omega
  have hon:K0 inn c=true:=(hrs c).2 ⟨c,by rw [←hc];exact J18 hlt,.inl rfl⟩
  obtain ⟨hD2,_⟩:=hD.reach (Nat.le_refl _) hcg hon (s.take (j+1)) (fun f hf=>by
   rw [R1 hlt] at hf
   rcases hf with hf | hf
   ·exact .inl hf
   ·right;rw [hf,hc])
  refine k5 (k1 (k2 (k3 (k2 (A2 (A5 (A9 V (.pure _ _ _ _) V (by omega) hv) V (A5 (A8 V V) V (A6 V V (A4 ?_)))))))));refine k1 (A2 (A3 V V (A3 V V (B21 (E83 ch opn c (by omega) (by omega) (by omega) V V V V) V V V V ?_))));rintro _ _ ⟨rfl,rfl⟩;refine A4 ?_;refine k4 (k1 (A2 (D2 V V V (A3 V V (A4 ?_)))));refine k1 ?_
  exact ⟨(j+1,if atG ch c < 0 then ch.set c 0 else ch,if atG ch c < 0 then opn++[(c:Int)] else opn),⟨hlt,hD2⟩,by dsimp only;omega,(I90 ⟨le1 rfl,le1 rfl,le1 rfl,le1 rfl,le1 rfl,le1 rfl,le1 rfl,trivial⟩ ⟨rfl,rfl,rfl,rfl,trivial⟩)⟩
 have hje:j=s.length:=by have h1:=A1 ht;(try dsimp only at h1);omega
 rw [hje,J23] at hD
 refine k6 (k2 (k3 (C5 (X:=List Int × List Int × List Int) (fun x=>([(0,C6 Commit 3 G1 g),(5,.s (.one (.ref 5 0))),(7,.s (.one (.ref 7 0))),(8,.s (.one (.clo 92 [] [(5,0),(7,0)])))],[(5,.box [.mut 753]),(7,.box [.mut 754]),(753,D93 x.1),(754,S2 x.2.1)])) (fun x=>DInv g inn s x.2.2.length 0 x.1 x.2.1 x.2.2) (fun x=>g.length - x.2.2.length) (ch,opn,[]) hD (I90 ⟨le1 rfl,le1 rfl,le1 rfl,le1 rfl,trivial⟩ ⟨rfl,rfl,rfl,rfl,trivial⟩) ?_)))
 rintro ⟨ch,opn,D⟩ hD
 dsimp only at hD ⊢
 have hDl:=hD.le
 have hchl:=hD.len
 refine k2 (k2 (A2 (G4 V V V V (A5 (V5 V V) V (A5 (M5 V V) V (A4 ?_))))));refine k1 ?_;refine B0 rfl (fun ht=>?_) (fun ht=>?_)
 rotate_left
 ·have h1:opn=[]:=by
   have h1:=A1 ht
   exact List.length_eq_zero_iff.1 (by omega)
  rw [h1] at hD
  have hF:=hfin hr hs (by rw [←hinn];exact hD)
  refine k6 (k2 (A2 (G4 V V V V (A6 V V (A4 ?_)))));refine k1 (k10 ?_)
  exact G5 (K4 rfl rfl) (by repeat (first | exact B2 | refine B3 rfl ?_ | refine D1 _ ?_)) (ObIn.spec (ob':=[(753,D93 ch)]) ⟨rfl,trivial⟩) ⟨ch,rfl,rfl,hchl,hF⟩
 have h0:0 < opn.length:=by have h1:=A0 ht;omega
 obtain ⟨c,e1,hcg,hvl⟩:=DInv.last hD h0
 obtain ⟨opn1,hop⟩:∃opn1,opn1=opn.take (opn.length - 1):=⟨_,rfl⟩
 have hvl:opn[((opn.length:Int) - 1).toNat]?=some (c:Int):=by rw [show ((opn.length:Int) - 1).toNat=opn.length - 1 by omega];exact hvl
 have hcut:opn.take ((opn.length:Int) - 1).toNat=opn1:=by rw [hop];congr 1;omega
 rw [←hop] at e1
 have hP:=(by rw [e1] at hD;exact hD:DInv g inn s D.length 0 ch (opn1++[(c:Int)]) D).pop
 obtain ⟨cm,hcm⟩:∃cm,cm=g[c]:=⟨_,rfl⟩
 have hvc:g[((c:Nat):Int).toNat]?=some cm:=by rw [hcm];simp [hcg]
 have hps:D9 g c=cm.Parents:=by rw [S0 hcg,hcm]
 have hpl:=hf.pars cm (by rw [hcm];exact J18 hcg)
 have honc:K0 inn c=true:=by
  have:=(hP.on (c:Int) (by simp)).2.2
  rwa [J17] at this
 have hgD:(D++[(c:Int)]).getD D.length 0=(c:Int):=by
  rw [J21,J30 (Nat.le_refl _),J61];rfl
 refine k5 (k1 (k3 (k2 (A2 (G4 V V V V (G4 V V V V (A5 (V5 V V) V (A5 (K8 V V (by omega)) V (A5 (H7 V V V (by omega) (by omega)) V (A5 (A09 V V hvl V) V (A6 V V (A4 ?_))))))))))));refine k1 (k2 (A2 (G4 V V V V (G4 V V V V (A5 (V5 V V) V (A5 (K8 V V (by omega)) V (C9 (B61 V V V (by omega) (by omega) V) V (G8 (C1 TySz.out V V V V V V) (A4 ?_)))))))))
 rw [hcut]
 refine k1 (k2 (A2 (A3 V V (A3 V V (A5 (A9 V (.pure _ _ _ _) V (by omega) hvc) V (A5 (B8 V) V (A5 (A8 V V) V (E0 V V (A3 V V (A4 ?_))))))))));refine k1 (k3 (C5 (X:=Nat × List Int × List Int) (fun x=>([(0,C6 Commit 3 G1 g),(5,.s (.one (.ref 5 0))),(7,.s (.one (.ref 7 0))),(8,.s (.one (.clo 92 [] [(5,0),(7,0)]))),(55,C6 Int 1 E3 cm.Parents),(56,C0 cm.Parents.length),(57,C0 x.1)],[(5,.box [.mut 753]),(7,.box [.mut 754]),(753,D93 x.2.1),(754,S2 x.2.2)])) (fun x=>x.1≤cm.Parents.length∧DInv g inn s D.length x.1 x.2.1 x.2.2 (D++[(c:Int)])) (fun x=>cm.Parents.length - x.1) (0,ch,opn1) ⟨Nat.zero_le _,hP⟩ (I90 ⟨le1 rfl,le1 rfl,le1 rfl,le1 rfl,le1 rfl,le1 rfl,le1 rfl,trivial⟩ ⟨rfl,rfl,rfl,rfl,trivial⟩) ?_))
 rintro ⟨i,ch,opn⟩ ⟨hi,hD⟩
 dsimp only at hi hD ⊢
 have hDl:=hD.le
 have hchl:=hD.len
 rw [J20,List.length_singleton] at hDl
 refine k2 (A2 (E8 V V V (A4 ?_)));refine k1 (k2 ?_);refine B0 rfl (fun ht=>?_) (fun ht=>?_)
 rotate_left
 ·have h1:i=cm.Parents.length:=by have h1:=A1 ht;(try dsimp only at h1);omega
  rw [h1,←hps] at hD
  have hN:=hD.next (k:=D.length) (by simp) hgD
  refine k6 (k7 (k7 (k8 V (k4 (k1 ?_)))))
  exact ⟨(ch,opn,D++[(c:Int)]),hN,by dsimp only;rw [J20,List.length_singleton];omega,(I90 ⟨le1 rfl,le1 rfl,le1 rfl,le1 rfl,trivial⟩ ⟨rfl,rfl,rfl,rfl,trivial⟩)⟩
 have hilt:i < cm.Parents.length:=by have h1:=A0 ht;(try dsimp only at h1);omega
 have hpb:=(J0 hr c).1 cm.Parents[i] (by rw [hps];exact J18 hilt)
 obtain ⟨p,hp⟩:∃p:Nat,cm.Parents[i]=(p:Int):=⟨cm.Parents[i].toNat,by omega⟩
 have hvp:cm.Parents[i]?=some (p:Int):=by rw [J15 hilt,hp]
 have hpg:p < g.length:=by omega
 have honp:K0 inn p=true:=by
  have:=hcl c honc (p:Int) (by rw [hps,←hp];exact J18 hilt)
  rwa [J17] at this
 obtain ⟨hD2,hm2⟩:=hD.reach (by simp) hpg honp s (fun f hf=>.inl hf)
 obtain ⟨q1,q2,hD3⟩:=hD2.count hr hgD (i:=i) (p:=p) (by rw [hps];exact hilt) (by simp only [hps];exact hp) hm2
 have hl2:=hD2.len
 refine k5 (k1 (k2 (k3 (k2 (A2 (A5 (A9 V (.pure _ _ _ _) V (by omega) hvp) V (A5 (A8 V V) V (A6 V V (A4 ?_)))))))));refine k1 (k2 (A2 (A3 V V (A3 V V (B21 (E83 ch opn p (by omega) (by omega) (by omega) V V V V) V V V V ?_)))));rintro _ _ ⟨rfl,rfl⟩;refine A4 ?_
 obtain ⟨ch2,hch2⟩:∃ch2,ch2=(if atG ch p < 0 then ch.set p 0 else ch):=⟨_,rfl⟩
 obtain ⟨opn2,hopn2⟩:∃opn2,opn2=(if atG ch p < 0 then opn++[(p:Int)] else opn):=⟨_,rfl⟩
 rw [←hch2] at q1 q2 hl2
 rw [←hch2,←hopn2] at hD3 ⊢
 have hva:=C07 (l:=ch2) (p:=(p:Int)) (by omega)
 refine k1 (A2 (G4 V V V V (A3 V V (A5 (F1 V V V (by omega) (by (rw [hl2];omega))) V ?_))));refine A5 (M1 V V hva V) V (A5 (Z9 V V (by (rw [J17];omega))) V ?_);refine A5 (F1 V V V (by omega) (by (rw [hl2];omega))) V ?_;refine G8 (I1 TySz.out V V (by (rw [hl2];omega)) V V) ?_;refine A4 ?_;refine k4 (k1 (A2 (D2 V V V (A3 V V (A4 ?_)))));refine k1 ?_
 exact ⟨(i+1,bump ch2 p,opn2),⟨hilt,hD3⟩,by dsimp only;omega,(I90 ⟨le1 rfl,le1 rfl,le1 rfl,le1 rfl,le1 rfl,le1 rfl,le1 rfl,trivial⟩ ⟨rfl,rfl,rfl,rfl,trivial⟩)⟩
set_option maxHeartbeats 1000000
abbrev A86 (g:Graph):Ob:=.box [.mut 741,.fnc 59 [.list Commit 3 G1 g]]
abbrev sI (n:Int):S1:=.one (.p (.v (.int .i64 n)))
abbrev sIf (n:Int):S1:=.one (.p (.v (.iface 3 (.int .i64 n))))
abbrev E50:S1:=.one (.ifc 108 740 0)
theorem H55 {g:Graph} {c:Int} (h:0≤c∧c < g.length):∃cm,g[c.toNat]?=some cm∧U9 g c.toNat=cm.Date:=by
 have hlt:c.toNat < g.length:=by omega
 exact ⟨g[c.toNat],by simp [hlt],by unfold U9;rw [J15 hlt];rfl⟩
theorem I05 (g:Graph) (a b:Int) (_hg:g.length≤1048576) (ha:0≤a∧a < g.length) (hb:0≤b∧b < g.length):FnOk Tryz.prog 59 [I7 g,F2 a,F2 b] (fun rs=>rs=[H5 (R5 g a b)]):=by
 obtain ⟨x,hx,dx⟩:=H55 ha
 obtain ⟨y,hy,dy⟩:=H55 hb
 unfold R5
 rw [dx,dy]
 refine FnOk.intro Tryz.func59 (by decide) V V V V ?_
 refine k2 (A2 (A6 V V (A4 ?_)));refine k1 (k2 (k2 (E6 (by kernel_rfl) (by kernel_rfl) (E5 V V (E5 V V (B5 (A9 V (.pure _ _ _ _) V (by omega) hx) V V (B5 (B8 V) V V (B5 (A8 V V) V V (E5 V V (E5 V V (B5 (A9 V (.pure _ _ _ _) V (by omega) hy) V V (B5 (B8 V) V V (B5 (A8 V V) V V (B5 (Q8 V V) V V (P0 ?_)))))))))))))));refine k1 ?_;refine B0 rfl (fun ht=>?_) (fun ht=>?_)
 ·have h1:x.Date≠y.Date:=A0 ht
  refine k2 (E6 (by kernel_rfl) (by kernel_rfl) (E5 V V (E5 V V (B5 (A9 V (.pure _ _ _ _) V (by omega) hx) V V (B5 (B8 V) V V (B5 (A8 V V) V V (E5 V V (E5 V V (B5 (A9 V (.pure _ _ _ _) V (by omega) hy) V V (B5 (B8 V) V V (B5 (A8 V V) V V (B5 (M5 V V) V V (B5 (I3 V V) V V (P0 ?_))))))))))))));refine k1 (k10 (k11 ?_));refine B6 (G7 rfl rfl rfl) (congrArg (fun b=>[H5 b]) (decide_eq_decide.2 ?_))
  omega
 ·have h1:¬x.Date≠y.Date:=A1 ht
  refine k5 (k1 (k2 (A2 (A3 V V (A3 V V (E8 V V V (A6 V V (A4 ?_))))))));refine k1 (k10 ?_);refine B6 (G7 rfl rfl rfl) (congrArg (fun b=>[H5 b]) (decide_eq_decide.2 ?_))
  omega
theorem D94 {gf:Fr} {ob:Obs} (g:Graph) (l:List Int) (h0:B9 ob 740=some (A86 g)) (h1:B9 ob 741=some (S2 l)) :
  AL.Met Tryz.prog 61 [.one (.ref 740 0)] gf ob [] (fun rs ob'=>rs=[sI l.length]∧ob'=ob):=by
 refine AL.Met.intro Tryz.func61 (by decide) V V V ?_
 refine k2 (A2 (A6 V V (A4 ?_)));refine k1 (k2 (A2 (A3 V V (A5 (B4 V) V (A5 (A7 V) V (A5 (C4 V h0 V) V (A5 (V5 V h1) V (A6 V V (A4 ?_)))))))));refine k1 (k10 ?_)
 exact G5 (K4 rfl rfl) (by repeat (first | exact B2 | refine B3 rfl ?_ | refine D1 _ ?_)) (fun _ _ h=>h) ⟨rfl,rfl⟩
theorem C83 {gf:Fr} {ob:Obs} (g:Graph) (l:List Int) (i j:Nat) (hg:g.length≤1048576) (hl:∀x∈l,0≤x∧x < (g.length:Int)) (hi:i < l.length) (hj:j < l.length) (h0:B9 ob 740=some (A86 g)) (h1:B9 ob 741=some (S2 l)) :
  AL.Met Tryz.prog 221 [.one (.ref 740 0),sI i,sI j] gf ob [] (fun rs ob'=>rs=[.one (.p (.v (.bool (R5 g (atG l i) (atG l j)))))]∧ob'=ob):=by
 have hvi:l[((i:Nat):Int).toNat]?=some (atG l i):=by rw [J17,O6 hi];simp [hi]
 have hvj:l[((j:Nat):Int).toNat]?=some (atG l j):=by rw [J17,O6 hj];simp [hj]
 have hb:=I05 g (atG l i) (atG l j) hg (by rw [O6 hi];exact hl _ (J18 hi)) (by rw [O6 hj];exact hl _ (J18 hj))
 refine AL.Met.intro Tryz.func221 (by decide) V V V ?_
 refine k2 (A2 (A6 V V (A4 ?_)));refine k1 (k2 (E6 (by kernel_rfl) (by kernel_rfl) (E5 V V (B5 (B4 V) V V (B5 (A7 V) V V (B5 (C4 V h0 V) V V (E5 V V (B5 (B4 V) V V (B5 (A7 V) V V (B5 (C4 V h0 V) V V (E5 V V (B5 (H7 V h1 V (by omega) (by omega)) V V (B5 (A09 V h1 hvi V) V V (E5 V V (B5 (B4 V) V V (B5 (A7 V) V V (B5 (C4 V h0 V) V V (E5 V V (B5 (H7 V h1 V (by omega) (by omega)) V V (B5 (A09 V h1 hvj V) V V (B5 (n_callC (hb) V V V) V V (B5 (I3 V V) V V (P0 ?_)))))))))))))))))))))));refine k1 (k10 ?_)
 exact G5 (K4 rfl rfl) (by repeat (first | exact B2 | refine B3 rfl ?_ | refine D1 _ ?_)) (fun _ _ h=>h) ⟨rfl,rfl⟩
theorem C84 {gf:Fr} {ob:Obs} (g:Graph) (l:List Int) (i j:Nat) (hi:i < l.length) (hj:j < l.length) (h0:B9 ob 740=some (A86 g)) (h1:B9 ob 741=some (S2 l)) :
  AL.Met Tryz.prog 224 [.one (.ref 740 0),sI i,sI j] gf ob [] (fun rs ob'=>rs=[]∧ob'=(741,S2 (Y9 l i j))::ob):=by
 have hvi:l[((i:Nat):Int).toNat]?=some (atG l i):=by rw [J17,O6 hi];simp [hi]
 have hvj:l[((j:Nat):Int).toNat]?=some (atG l j):=by rw [J17,O6 hj];simp [hj]
 obtain ⟨a,ha⟩:∃a,a=atG l i:=⟨_,rfl⟩
 obtain ⟨b,hb⟩:∃b,b=atG l j:=⟨_,rfl⟩
 rw [←ha] at hvi
 rw [←hb] at hvj
 have hvj2:(l.set ((i:Nat):Int).toNat b)[((j:Nat):Int).toNat]?=some (atG (l.set i b) j):=by
  rw [J17,J17]
  have:j < (l.set i b).length:=by rw [J41];exact hj
  rw [O6 this];simp [hj]
 have hsw:(l.set ((i:Nat):Int).toNat b).set ((j:Nat):Int).toNat a=Y9 l i j:=by rw [ha,hb];rfl
 have h0':B9 ((741,S2 l)::ob) 740=some (A86 g):=by rw [C2 (by decide)];exact h0
 refine AL.Met.introH Tryz.func224 (by decide) rfl rfl rfl (fun hH=>?_)
 refine D8 (I91 (l:=[(0,.s (.one (.ref 740 0))),(1,C0 i),(2,C0 j)]) (ob':=(741,S2 l)::ob) ⟨le1 rfl,le1 rfl,le1 rfl,trivial⟩ hH (by repeat (first | exact B2 | refine B3 rfl ?_)) (E2 (L:=[(741,_)]) ⟨h1,trivial⟩ D5)) ?_
 skip
 refine O0 [27,25] [[],[25],[27,25]] [(25,([],[])),(27,([],[]))] [(0,[]),(1,[]),(2,[]),(3,[]),(4,[]),(5,[]),(6,[]),(7,[]),(8,[]),(9,[]),(10,[]),(11,[]),(12,[]),(13,[]),(14,[]),(15,[]),(16,[]),(17,[]),(18,[]),(19,[]),(20,[]),(21,[]),(22,[]),(23,[]),(24,[]),(25,[]),(26,[25]),(27,[25])] [(9,[25])] (by kernel_rfl) (by kernel_rfl) (E1 V V (by kernel_rfl) V V (B7 V V) (E1 V V (by kernel_rfl) V V (B4 V) (E1 V V (by kernel_rfl) V V (A7 V) (E1 V V (by kernel_rfl) V V (C4 V h0' V) (E1 V V (by kernel_rfl) V V (B7 V V) (E1 V V (by kernel_rfl) V V (B7 V V) (E1 V V (by kernel_rfl) V V (B4 V) (E1 V V (by kernel_rfl) V V (A7 V) (E1 V V (by kernel_rfl) V V (C4 V h0' V) (E1 V V (by kernel_rfl) V V (B7 V V) (E1 V V (by kernel_rfl) V V (B7 V V) (E1 V V (by kernel_rfl) V V (B4 V) (E1 V V (by kernel_rfl) V V (A7 V) (E1 V V (by kernel_rfl) V V (C4 V h0' V) (E1 V V (by kernel_rfl) V V (B7 V V) (E1 V V (by kernel_rfl) V V (H7 V V V (by omega) (by omega)) (E1 V V (by kernel_rfl) V V (A09 V V hvj V) (E1 V V (by kernel_rfl) V V (B7 V V) (E1 V V (by kernel_rfl) V V (B4 V) (E1 V V (by kernel_rfl) V V (A7 V) (E1 V V (by kernel_rfl) V V (C4 V h0' V) (E1 V V (by kernel_rfl) V V (B7 V V) (E1 V V (by kernel_rfl) V V (H7 V V V (by omega) (by (first | omega | (rw [J41];omega)))) ?_)))))))))))))))))))))));refine E1 V V (by kernel_rfl) V V (A09 V V hvi V) (E1 V V (by kernel_rfl) V V (H7 V V V (by omega) (by omega)) (W6 V V (by kernel_rfl) V V (A23 (fun frc hU=>A64 (b) TySz.out (R4 hU V) V hvi (R4 hU V) V V V (fun _ _ _ h=>A07 h) (by intro j h1 h2;rcases j with _ | _ | _ | _ | _ | _ | _ | j<;>first | rfl | omega))) V ?_));refine E1 V V (by kernel_rfl) V V (H7 V V V (by omega) (by (rw [J41];omega))) ?_;refine W6 V V (by kernel_rfl) V V (A23 (fun frc hU=>A64 (a) TySz.out (R4 hU V) V hvj2 (R4 hU V) V V V (fun _ _ _ h=>A07 h) (by intro j h1 h2;rcases j with _ | _ | _ | _ | _ | _ | _ | j<;>first | rfl | omega))) V ?_;refine E67 (by kernel_rfl) rfl ?_ ?_
 ·refine M6 V V (by kernel_rfl) V V (B7 V V) ?_;exact B24
 rw [hsw]
 skip
 exact R7 (A63 rfl) (by repeat (first | exact B2 | refine tail_drop rfl ?_ | refine B3 rfl ?_)) (E2 (L:=[(741,_)]) ⟨rfl,trivial⟩ (by repeat (first | exact D5 | refine D6 rfl ?_))) ⟨rfl,rfl⟩
theorem I06 {gf:Fr} {ob:Obs} (g:Graph) (l:List Int) (c:Int) (hl:l.length≤1048576) (h0:B9 ob 740=some (A86 g)) (h1:B9 ob 741=some (S2 l)) :
  AL.Met Tryz.prog 223 [.one (.ref 740 0),sIf c] gf ob [741] (fun rs ob'=>rs=[]∧ob'=(740,A86 g)::(741,S2 (l++[c]))::Obs.forget 741 ob):=by
 refine AL.Met.introH Tryz.func223 (by decide) rfl rfl rfl (fun hH=>?_)
 refine D8 (I92 741 (l:=[(0,.s (.one (.ref 740 0))),(1,.s (sIf c))]) (L:=[(740,_),(741,_)]) ⟨le1 rfl,le1 rfl,trivial⟩ hH (by repeat (first | exact B2 | refine B3 rfl ?_)) ⟨h0,h1,trivial⟩) ?_
 skip
 refine O0 [11,8] [[],[8],[11,8]] [(8,([741],[8])),(11,([],[]))] [(0,[]),(1,[]),(2,[]),(3,[]),(4,[]),(5,[]),(6,[]),(7,[]),(8,[]),(9,[8]),(10,[8]),(11,[8])] [(0,[8])] (by kernel_rfl) (by kernel_rfl) (E1 V V (by kernel_rfl) V V (B7 V V) (E1 V V (by kernel_rfl) V V (B7 V V) (E1 V V (by kernel_rfl) V V (B4 V) (E1 V V (by kernel_rfl) V V (A7 V) (E1 V V (by kernel_rfl) V V (C4 V V V) (E1 V V (by kernel_rfl) V V (B7 V V) (E1 V V (by kernel_rfl) V V (D04 V V) (E1 V V (by kernel_rfl) V V (C3 (c:=E3) (ys:=[c]) (D4 V V V V F9) V V V) (W6 V V (by kernel_rfl) V V (C77 (fun frc hU=>R8 (R4 hU V) V (R4 hU V) (.pure _ _ _ _) (by (simp only [J19,J22];omega)) V)) V (E1 V V (by kernel_rfl) V V (B4 V) (E1 V V (by kernel_rfl) V V (A7 V) (W6 V V (by kernel_rfl) V V (A23 (fun frc hU=>C1 TySz.out (R4 hU V) V (R4 hU V) V V V)) V ?_))))))))))));refine C78 (ks:=[741]) rfl (by kernel_rfl) rfl ?_ ?_
 ·refine M6 V V (by kernel_rfl) V V (B7 V V) ?_;exact B24
 skip
 exact R7 (A63 rfl) (by repeat (first | exact B2 | refine tail_drop rfl ?_ | refine B3 rfl ?_ | refine J7 _ ?_ | refine D1 _ ?_)) (E2 (L:=[(740,_),(741,_)]) ⟨rfl,rfl,trivial⟩ (by repeat (first | exact D5 | refine D6 rfl ?_ | refine P7 _ ?_))) ⟨rfl,rfl⟩
theorem I63 {gf:Fr} {ob:Obs} (g:Graph) (l:List Int) (hl:l.length≤1048576) (h2:0 < l.length) (h0:B9 ob 740=some (A86 g)) (h1:B9 ob 741=some (S2 l)) :
  AL.Met Tryz.prog 222 [.one (.ref 740 0)] gf ob [741] (fun rs ob'=>rs=[sIf (atG l (l.length - 1))]∧ob'=(740,A86 g)::(741,S2 (l.take (l.length - 1)))::Obs.forget 741 ob):=by
 have hlt:l.length - 1 < l.length:=by omega
 have hv:l[((l.length:Int) - 1).toNat]?=some (atG l (l.length - 1)):=by rw [show ((l.length:Int) - 1).toNat=l.length - 1 by omega,O6 hlt];simp [hlt]
 have hc:l.take ((l.length:Int) - 1).toNat=l.take (l.length - 1):=by congr 1;omega
 refine AL.Met.introH Tryz.func222 (by decide) rfl rfl rfl (fun hH=>?_)
 refine D8 (I92 741 (l:=[(0,.s (.one (.ref 740 0)))]) (L:=[(740,_),(741,_)]) ⟨le1 rfl,trivial⟩ hH (by repeat (first | exact B2 | refine B3 rfl ?_)) ⟨h0,h1,trivial⟩) ?_
 refine k2 (A2 (A6 V V (A4 ?_)));refine k1 (k2 (A2 (A3 V V (A5 (B4 V) V (A5 (A7 V) V (G4 V V V V (A5 (V5 V V) V (A5 (K8 V V (by omega)) V (A6 V V (A4 ?_))))))))));refine k1 (k2 (A2 (A3 V V (A5 (B4 V) V (A5 (A7 V) V (G4 V V V V (A3 V V (A5 (H7 V V V (by omega) (by omega)) V (A5 (A09 V V hv V) V (A6 V V (A4 ?_)))))))))));refine k1 (k2 (A2 (A3 V V (A3 V V (A5 (B4 V) V (A5 (A7 V) V (G4 V V V V (A3 V V (C9 (B61 V V V (by omega) (by omega) V) V (A5 (B4 V) V (A5 (A7 V) V (G8 (C1 TySz.out V V V V V V) (A4 ?_)))))))))))))
 rw [hc]
 refine k1 (k2 (A2 (A3 V V (A5 (C05 V (by kernel_rfl)) V (A6 V V (A4 ?_))))));refine k1 (k10 ?_)
 exact G5 (K4 rfl rfl) (by repeat (first | exact B2 | refine B3 rfl ?_ | refine J7 _ ?_ | refine D1 _ ?_)) (E2 (L:=[(740,_),(741,_)]) ⟨rfl,rfl,trivial⟩ (by repeat (first | exact D5 | refine D6 rfl ?_ | refine P7 _ ?_))) ⟨rfl,rfl⟩
theorem up_div (j:Nat) (hj:j≤1048576):IntKind.i64.wrap (((j:Int) - 1).tdiv 2)=(((j - 1) / 2:Nat):Int):=by
 have h:((j:Int) - 1).tdiv 2=(((j - 1) / 2:Nat):Int):=by
  cases j with
  | zero=>rfl
  | succ j =>
   rw [show (((j+1:Nat):Int) - 1)=(j:Int) by omega,Int.tdiv_eq_ediv_of_nonneg (by omega)]
   omega
 rw [h]
 exact IntWalk.i64_in _ ⟨by omega,by omega⟩
theorem D95 {l:List Int} {n:Int} {i j:Nat} (hi:i < l.length) (hj:j < l.length) (h:∀x∈l,0≤x∧x < n):∀x∈Y9 l i j,0≤x∧x < n:=fun x hx=>h x ((E99 hi hj x).1 hx)
theorem hUp_met {gf:Fr} {ob:Obs} (g:Graph) (l:List Int) (j:Nat) (hg:g.length≤1048576) (hl:l.length≤1048576) (hr:∀x∈l,0≤x∧x < (g.length:Int)) (hj:j < l.length) (h0:B9 ob 740=some (A86 g)) (h1:B9 ob 741=some (S2 l)) :
  AL.Met Tryz.prog 93 [E50,sI j] gf ob [] (fun rs ob'=>rs=[]∧ob'=(741,S2 (upH (R5 g) (j+1) l j))::ob):=by
 have h0':∀o,B9 ((741,o)::ob) 740=some (A86 g):=fun o=>by rw [C2 (by decide)];exact h0
 refine AL.Met.introH Tryz.func93 (by decide) rfl rfl rfl (fun hH=>?_)
 refine k3 ?_
 obtain ⟨R,hR⟩:∃R,R=upH (R5 g) (j+1) l j:=⟨_,rfl⟩
 rw [←hR]
 refine C5 (X:=Nat × List Int × Nat) (fun x=>([(0,.s E50),(1,C0 x.2.2)]++gf,(741,S2 x.2.1)::ob)) (fun x=>upH (R5 g) x.1 x.2.1 x.2.2=R∧x.2.2 < x.1∧x.2.1.length=l.length∧x.2.2 < l.length∧∀y∈x.2.1,0≤y∧y < (g.length:Int)) (fun x=>x.1) (j+1,l,j) ⟨hR.symm,by dsimp only;omega,rfl,hj,hr⟩ ?_ ?_
 ·exact I91 ⟨le1 rfl,le1 rfl,trivial⟩ hH (by repeat (first | exact B2 | refine B3 rfl ?_)) (E2 (L:=[(741,_)]) ⟨h1,trivial⟩ D5)
 rintro ⟨f,l',k⟩ ⟨hu,hkf,hll,hkl,hrg⟩
 dsimp only at hu hkf hll hkl hrg ⊢
 obtain ⟨f,rfl⟩:∃f',f=f'+1:=⟨f - 1,by omega⟩
 rw [upH] at hu
 have hdv:=up_div k (by omega)
 have hil:(k - 1) / 2 < l'.length:=by omega
 refine k3 (k2 (A2 (A3 V V (A5 (K8 V V (by omega)) V (A5 (D41 V V (by decide)) V (A6 V V (A4 ?_)))))))
 rw [hdv]
 refine k1 (k2 (k2 ?_))
 by_cases he:(k - 1) / 2=k
 ·rw [if_pos (.inl he)] at hu
  have hd:decide ((((k - 1) / 2:Nat):Int)=(k:Int))=true:=decide_eq_true (by omega)
  refine A2 (A3 V V (A3 V V (A5 (F7 V V) V (A3 V V (L7 V V V (by rw [hd];decide) V ?_)))));refine L7 V V V (by rw [hd];decide) V ?_;refine L7 V V V (by rw [hd];decide) V ?_;refine L7 V V V (by rw [hd];decide) V ?_;refine L7 V V V (by rw [hd];decide) V ?_;refine A5 (Y1 V (hd) V) V (A4 ?_);refine k1 ?_;refine B0 rfl (fun ht=>?_) (fun ht=>?_)
  ·refine k6 (k7 (k9 V (k7 (k8 V ?_))))
   rw [←hu]
   exact R7 (A63 rfl) (by repeat (first | exact B2 | refine B3 rfl ?_ | refine D1 _ ?_)) (fun _ _ h=>h) ⟨rfl,rfl⟩
  ·cases ht
 ·have hd:decide ((((k - 1) / 2:Nat):Int)=(k:Int))=false:=decide_eq_false (by omega)
  refine A2 (A3 V V (A3 V V (A5 (F7 V V) V (A3 V V (H0 V V V hd (A3 V V (H0 V V V hd (A3 V V (H0 V V V hd (A3 V V (H0 V V V hd (A41 (fun a vs w=>by kernel_rfl) (C83 g l' k ((k - 1) / 2) hg hrg (by omega) hil (h0' _) V) V V V V ?_))))))))))));rintro _ _ ⟨rfl,rfl⟩;refine H0 V V V hd (A5 (U2 V) V (A5 (A65 V (hd) V) V (A4 ?_)));refine k1 ?_;refine B0 rfl (fun ht=>?_) (fun ht=>?_)
  ·have hb:R5 g (atG l' k) (atG l' ((k - 1) / 2))=false:=by simpa using ht
   rw [if_pos (.inr hb)] at hu
   refine k6 (k7 (k9 V (k7 (k8 V ?_))))
   rw [←hu]
   exact R7 (A63 rfl) (by repeat (first | exact B2 | refine B3 rfl ?_ | refine D1 _ ?_)) (fun _ _ h=>h) ⟨rfl,rfl⟩
  ·have hb:R5 g (atG l' k) (atG l' ((k - 1) / 2))=true:=by simpa using ht
   rw [if_neg (by rw [hb];simp [he])] at hu
   refine k5 (k1 (k2 (A2 (A3 V V (A3 V V (A3 V V (A41 (fun a vs w=>by kernel_rfl) (C84 g l' ((k - 1) / 2) k hil (by omega) (h0' _) V) V V V V ?_)))))));rintro _ _ ⟨rfl,rfl⟩;refine A4 ?_;refine k1 (A2 (A3 V V (A6 V V (A4 ?_))));refine k4 (k1 ?_);refine ⟨(f,Y9 l' ((k - 1) / 2) k,(k - 1) / 2),⟨hu,by dsimp only;omega,by dsimp only;rw [N3];exact hll,by dsimp only;omega,D95 hil (by omega) hrg⟩,by dsimp only;omega,?_⟩
   exact I91 ⟨le1 rfl,le1 rfl,trivial⟩ hH (by repeat (first | exact B2 | refine B3 rfl ?_)) (E2 (L:=[(741,_)]) ⟨rfl,trivial⟩ (by repeat (first | exact D5 | refine D6 rfl ?_)))
theorem I07 {gf:Fr} {ob:Obs} (g:Graph) (l:List Int) (n:Nat) (hg:g.length≤1048576) (hl:l.length≤1048576) (hr:∀x∈l,0≤x∧x < (g.length:Int)) (hn:n≤l.length) (h0:B9 ob 740=some (A86 g)) (h1:B9 ob 741=some (S2 l)) :
  AL.Met Tryz.prog 94 [E50,sI 0,sI n] gf ob [] (fun rs ob'=>∃b,rs=[.one (.p (.v (.bool b)))]∧ob'=(741,S2 (A14 (R5 g) n (n+1) l 0))::ob):=by
 have h0':∀o,B9 ((741,o)::ob) 740=some (A86 g):=fun o=>by rw [C2 (by decide)];exact h0
 refine AL.Met.introH Tryz.func94 (by decide) rfl rfl rfl (fun hH=>?_)
 refine k2 (A2 (A6 V V (A4 ?_)));refine k1 (k2 (A2 (A3 V V (A6 V V (A4 ?_)))));refine k1 (k2 (k3 ?_))
 obtain ⟨R,hR⟩:∃R,R=A14 (R5 g) n (n+1) l 0:=⟨_,rfl⟩
 rw [←hR]
 refine C5 (X:=Nat × List Int × Nat) (fun x=>([(0,.s E50),(1,C0 0),(2,C0 n),(7,C0 x.2.2)]++gf,(741,S2 x.2.1)::ob)) (fun x=>A14 (R5 g) n x.1 x.2.1 x.2.2=R∧n < x.1+x.2.2∧x.2.1.length=l.length∧x.2.2≤l.length∧∀y∈x.2.1,0≤y∧y < (g.length:Int)) (fun x=>x.1) (n+1,l,0) ⟨hR.symm,by dsimp only;omega,rfl,Nat.zero_le _,hr⟩ ?_ ?_
 ·exact I91 ⟨le1 rfl,le1 rfl,le1 rfl,le1 rfl,trivial⟩ hH (by repeat (first | exact B2 | refine B3 rfl ?_)) (E2 (L:=[(741,_)]) ⟨h1,trivial⟩ D5)
 rintro ⟨f,l',i⟩ ⟨hu,hkf,hll,hil,hrg⟩
 dsimp only at hu hkf hll hil hrg ⊢
 have hstop:n≤2*i+1→l'=R:=fun h=>by
  cases f with
  | zero=>exact hu
  | succ f=>rw [A14,if_pos h] at hu;exact hu
 refine k3 (k2 (A2 (A3 V V (A5 (A58 V V (by omega)) V (D2 V V V (A6 V V (A4 ?_)))))));refine k1 (k2 (k2 (A2 (A3 V V (A3 V V (A5 (W5 V V) V (A3 V V (B1 V V V V (fun hg=>by rw [hg];exact B7 V V) ?_))))))));refine B1 V V V V (fun hg=>by rw [hg];exact A60 V V) ?_;refine I6 V V ?_;refine A4 ?_;refine k1 ?_;refine B0 rfl (fun ht=>?_) (fun ht=>?_)
 ·have h3:=A0 (or_pick.symm.trans ht)
  rw [hstop (by omega)]
  refine k6 (k2 (A2 (A3 V V (A3 V V (A5 (M5 V V) V (A6 V V (A4 ?_)))))));refine k1 (k10 ?_)
  exact G5 (K4 rfl rfl) (by repeat (first | exact B2 | refine B3 rfl ?_ | refine D1 _ ?_)) (fun _ _ h=>h) ⟨_,rfl,rfl⟩
 have h3:=A1 (or_pick.symm.trans ht)
 have hj1:2*i+1 < n:=by omega
 obtain ⟨f,rfl⟩:∃f',f=f'+1:=⟨f - 1,by omega⟩
 rw [A14,if_neg (by omega)] at hu
 obtain ⟨c1,c2,c3⟩:=H75 (bf:=R5 g) (l:=l') hj1
 have hlow:D39 (R5 g) n l' i=if 2*i+2 < n∧R5 g (atG l' (2*i+2)) (atG l' (2*i+1))=true then 2*i+2 else 2*i+1:=rfl
 obtain ⟨j,hj⟩:∃j,j=D39 (R5 g) n l' i:=⟨_,rfl⟩
 rw [←hj] at hu c1 c2 c3 hlow
 rw [show 2*(i:Int)+1=((2*i+1:Nat):Int) by omega]
 refine k5 (k1 (k2 (A2 (A3 V V (A6 V V (A4 ?_))))));refine k1 (k2 (k2 (A2 (A3 V V (D2 V V V (A6 V V (A4 ?_)))))))
 rw [show ((2*i+1:Nat):Int)+1=((2*i+2:Nat):Int) by omega]
 refine k1 (k2 ?_)
 obtain ⟨B,hB⟩:∃B,B=(decide (2*i+2 < n)&&R5 g (atG l' (2*i+2)) (atG l' (2*i+1))):=⟨_,rfl⟩
 have hlow2:j=if B=true then 2*i+2 else 2*i+1:=by rw [hlow,hB];simp only [J16,decide_eq_true_eq]
 refine F19 ([(0,.s E50),(1,C0 0),(2,C0 n),(7,C0 i),(9,C0 ((2*i+1:Nat):Int)),(10,C0 ((2*i+2:Nat):Int)),(33,P2 B)]++gf) ((741,S2 l')::ob) ?_ ?_
 ·by_cases h2:2*i+2 < n
  ·have hd:decide (((2*i+2:Nat):Int) < (n:Int))=true:=decide_eq_true (by omega)
   have hBe:B=R5 g (atG l' (2*i+2)) (atG l' (2*i+1)):=by rw [hB,decide_eq_true h2,Bool.true_and]
   rw [hBe]
   refine A2 (A3 V V (A3 V V (E8 V V V (A3 V V (H0 V V V hd (A3 V V (H0 V V V hd (A3 V V (H0 V V V hd (A3 V V (H0 V V V hd (A41 (fun a vs w=>by kernel_rfl) (C83 g l' (2*i+2) (2*i+1) hg hrg (by omega) (by omega) (h0' _) V) V V V V ?_))))))))))));rintro _ _ ⟨rfl,rfl⟩;refine A5 (Y1 V (hd) V) V (A4 ?_);refine k1 ?_
   exact I91 ⟨le1 rfl,le1 rfl,le1 rfl,le1 rfl,le1 rfl,le1 rfl,le1 rfl,trivial⟩ hH (by repeat (first | exact B2 | refine B3 rfl ?_)) (fun _ _ h=>h)
  ·have hd:decide (((2*i+2:Nat):Int) < (n:Int))=false:=decide_eq_false (by omega)
   have hBe:B=false:=by rw [hB,decide_eq_false h2,Bool.false_and]
   rw [hBe]
   refine A2 (A3 V V (A3 V V (E8 V V V (A3 V V (L7 V V V (by rw [hd];decide) V ?_)))));refine L7 V V V (by rw [hd];decide) V ?_;refine L7 V V V (by rw [hd];decide) V ?_;refine L7 V V V (by rw [hd];decide) V ?_;refine A5 (A65 V (hd) V) V (A4 ?_);refine k1 ?_
   exact I91 ⟨le1 rfl,le1 rfl,le1 rfl,le1 rfl,le1 rfl,le1 rfl,le1 rfl,trivial⟩ hH (by repeat (first | exact B2 | refine B3 rfl ?_)) (fun _ _ h=>h)
 skip
 refine F19 ([(0,.s E50),(1,C0 0),(2,C0 n),(7,C0 i),(9,C0 j)]++gf) ((741,S2 l')::ob) ?_ ?_
 ·refine B0 rfl (fun ht=>?_) (fun ht=>?_)
  ·rw [if_pos ht] at hlow2
   skip
   refine A2 (A3 V V (A6 V V (A4 ?_)));refine k1 ?_
   rw [hlow2]
   exact I91 ⟨le1 rfl,le1 rfl,le1 rfl,le1 rfl,le1 rfl,trivial⟩ hH (by repeat (first | exact B2 | refine B3 rfl ?_)) (fun _ _ h=>h)
  ·rw [if_neg (by rw [ht];decide)] at hlow2
   refine k5 (k1 ?_)
   rw [hlow2]
   exact I91 ⟨le1 rfl,le1 rfl,le1 rfl,le1 rfl,le1 rfl,trivial⟩ hH (by repeat (first | exact B2 | refine B3 rfl ?_)) (fun _ _ h=>h)
 refine k2 (k2 (A2 (A3 V V (A3 V V (A3 V V (A41 (fun a vs w=>by kernel_rfl) (C83 g l' j i hg hrg (by omega) (by omega) (h0' _) V) V V V V ?_))))));rintro _ _ ⟨rfl,rfl⟩;refine A5 (U2 V) V (A4 ?_);refine k1 ?_;refine B0 rfl (fun ht=>?_) (fun ht=>?_)
 ·have hb:R5 g (atG l' j) (atG l' i)=false:=by simpa using ht
  rw [if_pos hb] at hu
  rw [←hu]
  refine k6 (k2 (A2 (A3 V V (A3 V V (A5 (M5 V V) V (A6 V V (A4 ?_)))))));refine k1 (k10 ?_)
  exact G5 (K4 rfl rfl) (by repeat (first | exact B2 | refine B3 rfl ?_ | refine D1 _ ?_)) (fun _ _ h=>h) ⟨_,rfl,rfl⟩
 ·have hb:R5 g (atG l' j) (atG l' i)=true:=by simpa using ht
  rw [if_neg (by rw [hb];decide)] at hu
  refine k5 (k1 (k2 (A2 (A3 V V (A3 V V (A3 V V (A41 (fun a vs w=>by kernel_rfl) (C84 g l' i j (by omega) (by omega) (h0' _) V) V V V V ?_)))))));rintro _ _ ⟨rfl,rfl⟩;refine A4 ?_;refine k1 (A2 (A3 V V (A6 V V (A4 ?_))));refine k4 (k1 ?_);refine ⟨(f,Y9 l' i j,j),⟨hu,by dsimp only;omega,by dsimp only;rw [N3];exact hll,by dsimp only;omega,D95 (by omega) (by omega) hrg⟩,by dsimp only;omega,?_⟩
  exact I91 ⟨le1 rfl,le1 rfl,le1 rfl,le1 rfl,trivial⟩ hH (by repeat (first | exact B2 | refine B3 rfl ?_)) (E2 (L:=[(741,_)]) ⟨rfl,trivial⟩ (by repeat (first | exact D5 | refine D6 rfl ?_)))
end Go.Proofs.YtgppobpengmbkaaGreatDoor
