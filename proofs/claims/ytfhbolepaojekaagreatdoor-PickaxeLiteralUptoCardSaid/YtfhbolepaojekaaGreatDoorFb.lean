/- Walks of the program's functions. -/
import Derived.Test.YtfhbolepaojekaaGreatDoorFa
import Derived.Test.YtfhbolepaojekaaGreatDoorFs
import Derived.Lib.Bytealg
set_option linter.unusedSimpArgs false
namespace Go.Proofs.YtfhbolepaojekaaGreatDoor
open Go Go.AL
set_option maxRecDepth 100000
set_option maxHeartbeats 1000000
def B37 (f x:File):Bool:=ltS f.Path x.Path&&!above f.Path x.Path
theorem C45:∀(l:List File) (x:File),M3 (l++[x])=(M3 l&&l.all fun f=>B37 f x)
 | [],x=>rfl
 | f::r,x=>by
  rw [J36,M3,M3,C45 r x,J55,List.all_cons,List.all_cons,List.all_nil]
  unfold B37
  cases (r.all fun x=>ltS f.Path x.Path&&!above f.Path x.Path)<;>cases ltS f.Path x.Path<;>cases above f.Path x.Path<;>cases M3 r<;>simp
theorem F39:∀(l:List File) (i:Nat),M3 l=true→M3 (l.take i)=true:=by
 intro l
 induction l with
 | nil=>intro i h;simpa using h
 | cons f r ih =>
  intro i h
  cases i with
  | zero=>rfl
  | succ i =>
   unfold M3 at h
   rw [J15,List.all_eq_true] at h
   rw [List.take_succ_cons]
   unfold M3
   rw [J15,List.all_eq_true]
   exact ⟨fun x hx=>h.1 x (List.mem_of_mem_take hx),ih i h.2⟩
theorem E49 (l:List File) (h:FewF l):FnOk Tryz.prog 60 [O3 l] (fun rs=>rs=[E6 (G1 l)]):=by
 have hl:=h.len
 refine FnOk.intro Tryz.func60 (by decide) V V V V ?_
 refine k2 (A2 (A6 V V (A4 ?_)));refine k1 (k2 (k2 (A2 (A3 V V (E1 V V (A5 (L7 V V) V (A4 ?_)))))));refine k1 ?_;refine B0 rfl (fun ht=>?_) (fun ht=>?_)
 ·have h1:(200:Int) < l.length:=A0 ht
  refine k2 (A2 (A6 V V (A4 ?_)));refine k1 (k10 (k11 ?_))
  exact B6 (rs:=[E6 1]) (G7 rfl rfl rfl) (by unfold G1;rw [if_pos (by omega)])
 have h1:¬(200:Int) < l.length:=A1 ht
 refine k5 (k1 (k2 (k2 (A2 (A6 V V (A4 ?_))))));refine k1 (k3 (C5 (X:=Nat) (fun i=>([(0,C7 File 2 Q4 l),(3,C0 i)],[])) (fun i=>i≤l.length∧((l.take i).any fun f=>decide (M5 f.Path≠0))=false) (fun i=>l.length - i) 0 ⟨Nat.zero_le _,rfl⟩ (I89 ⟨le1 rfl,le1 rfl,trivial⟩ trivial) ?_))
 rintro i ⟨hi,hn⟩
 dsimp only at hi hn ⊢
 refine k2 (k2 (A2 (A3 V V (A3 V V (E1 V V (E7 V V V (A4 ?_)))))));refine k1 ?_;refine B0 rfl (fun ht=>?_) (fun ht=>?_)
 ·have hlt:i < l.length:=by have h1:=A0 ht;(try dsimp only at h1);omega
  obtain ⟨f,hf⟩:∃f,f=l[i]:=⟨_,rfl⟩
  have hv:l[i]?=some f:=by rw [hf];simp [hlt]
  have hm:f∈l:=by rw [hf];exact J18 hlt
  refine k5 (k1 (k2 (k3 (k2 (A2 (A3 V V (A3 V V (A5 (A8 V (.pure _ _ _ _) V (by omega) hv) V (A5 (B8 V) V (A5 (A7 V V) V (C9 (E44 f.Path (h.path f hm)) V V V ?_)))))))))));rintro _ rfl;refine A5 (Q9 V V) V (A4 ?_);refine k1 ?_;refine B0 rfl (fun ht=>?_) (fun ht=>?_)
  ·have h2:M5 f.Path≠0:=A0 ht
   refine k2 (A2 (A6 V V (A4 ?_)));refine k1 (k10 (k12 (k11 (k11 (k12 (k11 ?_))))))
   exact B6 (rs:=[E6 210]) (G7 rfl rfl rfl) (by unfold G1;rw [if_neg (by omega),if_pos (List.any_eq_true.2 ⟨f,hm,decide_eq_true h2⟩)])
  ·have h2:¬M5 f.Path≠0:=A1 ht
   refine k5 (k4 (k1 (A2 (A3 V V (D1 V V V (A6 V V (A4 ?_)))))));refine k1 ?_;refine ⟨i+1,⟨hlt,?_⟩,by omega,(I89 ⟨le1 rfl,le1 rfl,trivial⟩ trivial)⟩
   rw [List.take_add_one,hv,Option.toList_some,J56,hn,Bool.false_or,List.any_cons,List.any_nil,Bool.or_false,decide_eq_false h2]
 have hie:i=l.length:=by have h1:=A1 ht;(try dsimp only at h1);omega
 rw [hie,J22] at hn
 have hpa:=hn
 have hbad:M3 l=false→[E6 211]=[E6 (G1 l)]:=fun e=>by unfold G1;rw [if_neg (by omega),if_neg (by rw [hpa];decide),if_pos e]
 refine k6 (k2 (k2 (A2 (A6 V V (A4 ?_)))));refine k1 (k3 (C5 (X:=Nat) (fun i=>([(0,C7 File 2 Q4 l),(4,C0 i)],[])) (fun i=>i≤l.length∧M3 (l.take i)=true) (fun i=>l.length - i) 0 ⟨Nat.zero_le _,rfl⟩ (I89 ⟨le1 rfl,le1 rfl,trivial⟩ trivial) ?_))
 rintro i ⟨hi,ho⟩
 dsimp only at hi ho ⊢
 refine k2 (k2 (A2 (A3 V V (A3 V V (E1 V V (E7 V V V (A4 ?_)))))));refine k1 ?_;refine B0 rfl (fun ht=>?_) (fun ht=>?_)
 ·have hlt:i < l.length:=by have h1:=A0 ht;(try dsimp only at h1);omega
  obtain ⟨f,hf⟩:∃f,f=l[i]:=⟨_,rfl⟩
  have hv:l[i]?=some f:=by rw [hf];simp [hlt]
  have hm:f∈l:=by rw [hf];exact J18 hlt
  have hfp:=h.path f hm
  have hsn:M3 (l.take (i+1))=(l.take i).all fun g=>B37 g f:=by
   rw [List.take_add_one,hv,Option.toList_some,C45,ho,Bool.true_and]
  refine k5 (k1 (k2 (k3 (k2 (A2 (A6 V V (A4 ?_)))))));refine k1 (k3 (C5 (X:=Nat) (fun k=>([(0,C7 File 2 Q4 l),(4,C0 i),(5,C0 k)],[])) (fun k=>k≤i∧((l.take k).all fun g=>B37 g f)=true) (fun k=>i - k) 0 ⟨Nat.zero_le _,rfl⟩ (I89 ⟨le1 rfl,le1 rfl,le1 rfl,trivial⟩ trivial) ?_))
  rintro k ⟨hk,hak⟩
  dsimp only at hk hak ⊢
  refine k2 (k2 (A2 (A3 V V (A3 V V (E7 V V V (A4 ?_))))));refine k1 ?_;refine B0 rfl (fun ht=>?_) (fun ht=>?_)
  ·have hklt:k < i:=by have h1:=A0 ht;(try dsimp only at h1);omega
   obtain ⟨g,hg⟩:∃g,g=l[k]:=⟨_,rfl⟩
   have hvg:l[k]?=some g:=by rw [hg];simp [show k < l.length by omega]
   have hmg:g∈l.take i:=by
    rw [hg]
    have:(l.take i)[k]'(by rw [J24];omega)=l[k]:=List.getElem_take
    rw [←this];exact J18 _
   have hgp:=h.path g (List.mem_of_mem_take hmg)
   refine k5 (k1 (k2 (k3 (k2 (D9 (by kernel_rfl) (by kernel_rfl) (D8 V V (D8 V V (B5 (A8 V (.pure _ _ _ _) V (by omega) hvg) V V (B5 (B8 V) V V (B5 (A7 V V) V V (D8 V V (D8 V V (B5 (A8 V (.pure _ _ _ _) V (by omega) hv) V V (B5 (B8 V) V V (B5 (A7 V V) V V (B5 (F28 V V) V V (D8 V V (C8 V V (fun hg=>by rw [hg];exact B7 V V) V V ?_))))))))))))))))));refine C8 V V (fun hg=>by rw [hg];exact B7 V V) V V ?_;refine C8 V V (fun hg=>by have hq:=hg;(try simp at hq);rw [hg];exact A8 V (.pure _ _ _ _) V (by omega) hvg) V V ?_;refine C8 V V (fun hg=>by rw [hg];exact B8 V) V V ?_;refine C8 V V (fun hg=>by rw [hg];exact A7 V V) V V ?_;refine C8 V V (fun hg=>by rw [hg];exact B7 V V) V V ?_;refine C8 V V (fun hg=>by rw [hg];exact B7 V V) V V ?_;refine C8 V V (fun hg=>by have hq:=hg;(try simp at hq);rw [hg];exact A8 V (.pure _ _ _ _) V (by omega) hv) V V ?_;refine C8 V V (fun hg=>by rw [hg];exact B8 V) V V ?_;refine C8 V V (fun hg=>by rw [hg];exact A7 V V) V V ?_;refine C8 V V (fun hg=>by have hq:=hg;(try simp at hq);rw [hg];exact L0 (H88 g.Path f.Path hgp hfp) V V) V V ?_;refine B5 (I9 V (fun h=>by first | rfl | (rw [h];rfl)) (fun h=>by first | rfl | (rw [h];rfl))) V V ?_;refine N3 ?_;refine k1 ?_
   rw [E14]
   refine B0 rfl (fun ht=>?_) (fun ht=>?_)
   ·have hpo:B37 g f=false:=by
     unfold B37
     rw [J31,Bool.not_eq_true'] at ht
     rcases ht with h2 | h2
     ·have h2:ltS g.Path f.Path=false:=h2
      rw [h2];rfl
     ·rw [h2];simp
    refine k2 (A2 (A6 V V (A4 ?_)));refine k1 (k10 (k12 (k11 (k11 (k12 (k12 (k11 (k11 (k12 (k11 ?_))))))))));refine B6 (rs:=[E6 211]) (G7 rfl rfl rfl) (hbad ?_)
    cases hq:M3 l
    ·rfl
    ·have h3:=F39 l (i+1) hq
     rw [hsn,List.all_eq_true] at h3
     rw [h3 g hmg] at hpo;cases hpo
   ·have hpo:B37 g f=true:=by
     unfold B37
     rw [J41,Bool.not_eq_false'] at ht
     have h2:ltS g.Path f.Path=true:=ht.1
     rw [h2,ht.2];rfl
    refine k5 (k4 (k1 (A2 (A3 V V (D1 V V V (A6 V V (A4 ?_)))))));refine k1 ?_;refine ⟨k+1,⟨hklt,?_⟩,by omega,(I89 ⟨le1 rfl,le1 rfl,le1 rfl,trivial⟩ trivial)⟩
    rw [List.take_add_one,hvg,Option.toList_some,J55,hak,Bool.true_and,List.all_cons,List.all_nil,hpo];rfl
  ·have hke:k=i:=by have h1:=A1 ht;(try dsimp only at h1);omega
   rw [hke] at hak
   refine k6 (k7 (k7 (k8 V (k4 (k1 (A2 (A3 V V (D1 V V V (A6 V V (A4 ?_))))))))));refine k1 ?_
   exact ⟨i+1,⟨hlt,by rw [hsn];exact hak⟩,by omega,(I89 ⟨le1 rfl,le1 rfl,trivial⟩ trivial)⟩
 have hie:i=l.length:=by have h1:=A1 ht;(try dsimp only at h1);omega
 rw [hie,J22] at ho
 refine k6 (k2 (k2 (A2 (A6 V V (A4 ?_)))));refine k1 (k3 (C5 (X:=Nat) (fun i=>([(0,C7 File 2 Q4 l),(6,C0 i)],[])) (fun i=>i≤l.length∧((l.take i).any fun f=>decide (T4 f.Blob≠0))=false) (fun i=>l.length - i) 0 ⟨Nat.zero_le _,rfl⟩ (I89 ⟨le1 rfl,le1 rfl,trivial⟩ trivial) ?_))
 rintro i ⟨hi,hn⟩
 dsimp only at hi hn ⊢
 refine k2 (k2 (A2 (A3 V V (A3 V V (E1 V V (E7 V V V (A4 ?_)))))));refine k1 ?_;refine B0 rfl (fun ht=>?_) (fun ht=>?_)
 ·have hlt:i < l.length:=by have h1:=A0 ht;(try dsimp only at h1);omega
  obtain ⟨f,hf⟩:∃f,f=l[i]:=⟨_,rfl⟩
  have hv:l[i]?=some f:=by rw [hf];simp [hlt]
  have hm:f∈l:=by rw [hf];exact J18 hlt
  have hfb:=h.blob f hm
  refine k5 (k1 (k2 (k3 (k2 (A2 (A3 V V (A3 V V (A5 (A8 V (.pure _ _ _ _) V (by omega) hv) V (A5 (B8 V) V (A5 (A7 V V) V (C9 (I51 f.Blob (by omega)) V V V ?_)))))))))));rintro _ rfl;refine A5 (Q9 V V) V (A4 ?_);refine k1 ?_;refine B0 rfl (fun ht=>?_) (fun ht=>?_)
  ·have h2:T4 f.Blob≠0:=A0 ht
   refine k2 (A2 (A6 V V (A4 ?_)));refine k1 (k10 (k12 (k11 (k11 (k12 (k11 ?_))))))
   exact B6 (rs:=[E6 1]) (G7 rfl rfl rfl) (by unfold G1;rw [if_neg (by omega),if_neg (by rw [hpa];decide),if_neg (by rw [ho];decide),if_pos (List.any_eq_true.2 ⟨f,hm,decide_eq_true h2⟩)])
  ·have h2:¬T4 f.Blob≠0:=A1 ht
   refine k5 (k4 (k1 (A2 (A3 V V (D1 V V V (A6 V V (A4 ?_)))))));refine k1 ?_;refine ⟨i+1,⟨hlt,?_⟩,by omega,(I89 ⟨le1 rfl,le1 rfl,trivial⟩ trivial)⟩
   rw [List.take_add_one,hv,Option.toList_some,J56,hn,Bool.false_or,List.any_cons,List.any_nil,Bool.or_false,decide_eq_false h2]
 have hie:i=l.length:=by have h1:=A1 ht;(try dsimp only at h1);omega
 rw [hie,J22] at hn
 refine k6 (k2 (A2 (A6 V V (A4 ?_))));refine k1 (k10 ?_)
 exact B6 (rs:=[E6 0]) (G7 rfl rfl rfl) (by unfold G1;rw [if_neg (by omega),if_neg (by rw [hpa];decide),if_neg (by rw [ho];decide),if_neg (by rw [hn];decide)])
structure FewT (g:Graph):Prop where
 few:FewG g
 tree:∀c∈g,FewF c.Files
theorem FewT.files {g:Graph} (h:FewT g) (c:Nat):FewF (R6 g c):=by
 unfold R6
 by_cases hc:c < g.length
 ·rw [J14 hc];exact h.tree _ (J18 hc)
 ·rw [J37 (by omega)];exact ⟨by simp,(fun _ h=>by cases h),(fun _ h=>by cases h)⟩
theorem A49:∀{g:List Commit} {i:Nat},(∀k,k < i→∀h:k < g.length,G1 g[k].Files=0)→Z3 g=Z3 (g.drop i)
 | g,0,_=>rfl
 | [],i+1,_=>by simp
 | c::r,i+1,h=>by
  have h0:=h 0 (by omega) (by simp)
  rw [Z3,if_neg (by simpa using h0),List.drop_succ_cons]
  exact A49 fun k hk hl=>h (k+1) (by omega) (by simpa using hl)
theorem H94 {g:Graph} {c:Nat} (hc:c < g.length) (h0:E9 g c≠[]) (h:K3 (N1 g (E9 g c)) c=true):cyclic g=true:=by
 unfold cyclic
 rw [List.any_eq_true]
 exact ⟨c,List.mem_range.2 hc,by rw [h,Bool.and_true];exact decide_eq_true h0⟩
theorem H54 (g:Graph) (h:FewT g):FnOk Tryz.prog 33 [I1 g] (fun rs=>rs=[E6 (J0 g)]):=by
 have hg:=h.few.len
 refine FnOk.intro Tryz.func33 (by decide) V V V V ?_
 refine k2 (A2 (A6 V V (A4 ?_)));refine k1 (k2 (k2 (A2 (A3 V V (E1 V V (A5 (L7 V V) V (A4 ?_)))))));refine k1 ?_;refine B0 rfl (fun ht=>?_) (fun ht=>?_)
 ·have h1:(300:Int) < g.length:=A0 ht
  refine k2 (A2 (A6 V V (A4 ?_)));refine k1 (k10 (k11 ?_))
  exact B6 (rs:=[E6 1]) (G7 rfl rfl rfl) (by unfold J0 Z4;rw [if_pos (by rw [decide_eq_false (by omega)];rfl)])
 have h1:¬(300:Int) < g.length:=A1 ht
 refine k5 (k1 (k2 (k2 (A2 (A6 V V (A4 ?_))))));refine k1 (k3 (C5 (X:=Nat) (fun i=>([(0,C7 Commit 3 F6 g),(3,C0 i)],[])) (fun i=>i≤g.length∧((g.take i).any fun c=>decide (c.Parents.length > 32))=false) (fun i=>g.length - i) 0 ⟨Nat.zero_le _,rfl⟩ (I89 ⟨le1 rfl,le1 rfl,trivial⟩ trivial) ?_))
 rintro i ⟨hi,hn⟩
 dsimp only at hi hn ⊢
 refine k2 (k2 (A2 (A3 V V (A3 V V (E1 V V (E7 V V V (A4 ?_)))))));refine k1 ?_;refine B0 rfl (fun ht=>?_) (fun ht=>?_)
 ·have hlt:i < g.length:=by have h1:=A0 ht;(try dsimp only at h1);omega
  obtain ⟨c,hc⟩:∃c,c=g[i]:=⟨_,rfl⟩
  have hv:g[i]?=some c:=by rw [hc];simp [hlt]
  have hm:c∈g:=by rw [hc];exact J18 hlt
  refine k5 (k1 (k2 (k3 (k2 (A2 (A3 V V (A3 V V (A5 (A8 V (.pure _ _ _ _) V (by omega) hv) V (A5 (B8 V) V (A5 (A7 V V) V (E1 V V (A5 (L7 V V) V (A4 ?_)))))))))))));refine k1 ?_;refine B0 rfl (fun ht=>?_) (fun ht=>?_)
  ·have h2:(32:Int) < c.Parents.length:=A0 ht
   refine k2 (A2 (A6 V V (A4 ?_)));refine k1 (k10 (k12 (k11 (k11 (k12 (k11 ?_))))))
   exact B6 (rs:=[E6 1]) (G7 rfl rfl rfl) (by unfold J0 Z4;rw [if_pos (by rw [List.any_eq_true.2 ⟨c,hm,decide_eq_true (show c.Parents.length > 32 by omega)⟩];simp)])
  ·have h2:¬(32:Int) < c.Parents.length:=A1 ht
   refine k5 (k4 (k1 (A2 (A3 V V (D1 V V V (A6 V V (A4 ?_)))))));refine k1 ?_;refine ⟨i+1,⟨hlt,?_⟩,by omega,(I89 ⟨le1 rfl,le1 rfl,trivial⟩ trivial)⟩
   rw [List.take_add_one,hv,Option.toList_some,J56,hn,Bool.false_or,List.any_cons,List.any_nil,Bool.or_false,decide_eq_false (show ¬c.Parents.length > 32 by omega)]
 have hie:i=g.length:=by have h1:=A1 ht;(try dsimp only at h1);omega
 rw [hie,J22] at hn
 have hlim:Z4 g=true:=by unfold Z4;rw [hn,decide_eq_true (show g.length≤300 by omega)];rfl
 refine k6 (k2 (k2 (A2 (A6 V V (A4 ?_)))));refine k1 (k3 (C5 (X:=Nat) (fun i=>([(0,C7 Commit 3 F6 g),(4,C0 i)],[])) (fun i=>i≤g.length∧((g.take i).all fun c=>A37 g.length [] c.Parents)=true) (fun i=>g.length - i) 0 ⟨Nat.zero_le _,rfl⟩ (I89 ⟨le1 rfl,le1 rfl,trivial⟩ trivial) ?_))
 rintro i ⟨hi,ha⟩
 dsimp only at hi ha ⊢
 refine k2 (k2 (A2 (A3 V V (A3 V V (E1 V V (E7 V V V (A4 ?_)))))));refine k1 ?_;refine B0 rfl (fun ht=>?_) (fun ht=>?_)
 ·have hlt:i < g.length:=by have h1:=A0 ht;(try dsimp only at h1);omega
  obtain ⟨c,hc⟩:∃c,c=g[i]:=⟨_,rfl⟩
  have hv:g[i]?=some c:=by rw [hc];simp [hlt]
  have hm:c∈g:=by rw [hc];exact J18 hlt
  have hpl:=h.few.pars c hm
  have hbad:A37 g.length [] c.Parents=false→[E6 230]=[E6 (J0 g)]:=fun hr=>by
   have:related g=false:=by
    unfold related
    rw [List.all_eq_false]
    exact ⟨c,hm,by rw [hr];decide⟩
   unfold J0;rw [if_neg (by rw [hlim];decide),if_pos this]
  refine k5 (k1 (k2 (k3 (k2 (A2 (A6 V V (A4 ?_)))))));refine k1 (k3 (C5 (X:=Nat) (fun k=>([(0,C7 Commit 3 F6 g),(4,C0 i),(5,C0 k)],[])) (fun k=>k≤c.Parents.length∧A37 g.length [] c.Parents=A37 g.length (c.Parents.take k) (c.Parents.drop k)) (fun k=>c.Parents.length - k) 0 ⟨Nat.zero_le _,rfl⟩ (I89 ⟨le1 rfl,le1 rfl,le1 rfl,trivial⟩ trivial) ?_))
  rintro k ⟨hk,hr⟩
  dsimp only at hk hr ⊢
  refine k2 (k2 (A2 (A3 V V (A3 V V (A3 V V (A5 (A8 V (.pure _ _ _ _) V (by omega) hv) V (A5 (B8 V) V (A5 (A7 V V) V (E1 V V (E7 V V V (A4 ?_)))))))))));refine k1 ?_;refine B0 rfl (fun ht=>?_) (fun ht=>?_)
  ·have hklt:k < c.Parents.length:=by have h1:=A0 ht;(try dsimp only at h1);omega
   have hvp:c.Parents[k]?=some c.Parents[k]:=by simp [hklt]
   rw [J23 hklt] at hr
   obtain ⟨p,hp⟩:∃p,p=c.Parents[k]:=⟨_,rfl⟩
   rw [←hp] at hvp hr
   have htk:c.Parents.take (k+1)=c.Parents.take k++[p]:=by rw [List.take_add_one,hvp,Option.toList_some]
   rw [A37,←htk] at hr
   refine k5 (k1 (k2 (k3 (k2 (A2 (A3 V V (A3 V V (A5 (A8 V (.pure _ _ _ _) V (by omega) hv) V (A5 (B8 V) V (A5 (A7 V V) V (A3 V V (A5 (A8 V (.pure _ _ _ _) V (by omega) hvp) V (A5 (A7 V V) V (A6 V V (A4 ?_)))))))))))))));refine k1 (k2 (A2 (A3 V V (E7 V V V (A3 V V (B1 V V V V (fun hg=>by rw [hg];exact B7 V V) ?_))))));refine B1 V V V V (fun hg=>by rw [hg];exact B7 V V) ?_;refine B1 V V V V (fun hg=>by rw [hg];exact U0 V (.pure _ _ _ _)) ?_;refine B1 V V V V (fun hg=>by rw [hg];exact X7 V V) ?_;refine I5 V V ?_;refine A3 V V (B1 V V V V (fun hg=>by rw [hg];exact B7 V V) ?_);refine B1 V V V V (fun hg=>by rw [hg];exact B7 V V) ?_;refine B1 V V V V (fun hg=>by have hq:=hg;(try simp at hq);rw [hg];exact A8 V (.pure _ _ _ _) V (by omega) hv) ?_;refine B1 V V V V (fun hg=>by rw [hg];exact B8 V) ?_;refine B1 V V V V (fun hg=>by rw [hg];exact A7 V V) ?_;refine B1 V V V V (fun hg=>by rw [hg];exact B7 V V) ?_;refine B1 V V V V (fun hg=>by have hq:=hg;(try simp at hq);rw [hg];exact B61 V (.pure _ _ _ _) V (by omega) (by omega)) ?_;refine B1 V V V V (fun hg=>by rw [hg];exact B7 V V) ?_;refine B1 V V V V (fun hg=>by have hq:=hg;(try simp at hq);rw [hg];exact L0 (H52 (c.Parents.take ((k:Nat):Int).toNat) p (by rw [J24];omega)) V V) ?_;refine I5 V V ?_;refine A4 ?_;refine k1 ?_
   rw [J16,E14,E14]
   refine B0 rfl (fun ht=>?_) (fun ht=>?_)
   ·rw [J31,J31,decide_eq_true_eq,decide_eq_true_eq,decide_eq_true_eq] at ht
    have h1:decide (0≤p∧p < (g.length:Int)∧p∉c.Parents.take k)=false:=by
     rw [decide_eq_false_iff_not]
     rintro ⟨a1,a2,a3⟩
     rcases ht with (h | h) | h
     ·omega
     ·omega
     ·exact a3 h
    rw [h1,Bool.false_and] at hr
    refine k2 (A2 (A6 V V (A4 ?_)));refine k1 (k10 (k12 (k11 (k11 (k12 (k12 (k11 (k11 (k12 (k11 ?_))))))))))
    exact B6 (rs:=[E6 230]) (G7 rfl rfl rfl) (hbad hr)
   ·rw [J41,J41,decide_eq_false_iff_not,decide_eq_false_iff_not,decide_eq_false_iff_not] at ht
    have h1:decide (0≤p∧p < (g.length:Int)∧p∉c.Parents.take k)=true:=decide_eq_true ⟨by omega,by omega,ht.2⟩
    rw [h1,Bool.true_and] at hr
    refine k5 (k4 (k1 (A2 (A3 V V (D1 V V V (A6 V V (A4 ?_)))))));refine k1 ?_
    exact ⟨k+1,⟨hklt,hr⟩,by omega,(I89 ⟨le1 rfl,le1 rfl,le1 rfl,trivial⟩ trivial)⟩
  ·have h1:k=c.Parents.length:=by have h1:=A1 ht;(try dsimp only at h1);omega
   rw [h1,List.drop_length] at hr
   refine k6 (k7 (k7 (k8 V (k4 (k1 (A2 (A3 V V (D1 V V V (A6 V V (A4 ?_))))))))));refine k1 ?_;refine ⟨i+1,⟨hlt,?_⟩,by omega,(I89 ⟨le1 rfl,le1 rfl,trivial⟩ trivial)⟩
   rw [List.take_add_one,hv,Option.toList_some,J55,ha,Bool.true_and,List.all_cons,List.all_nil,Bool.and_true,hr]
   rfl
 have hie:i=g.length:=by have h1:=A1 ht;(try dsimp only at h1);omega
 rw [hie,J22] at ha
 have hrel:related g=true:=ha
 have hres:J0 g=if cyclic g=true then 231 else if A96 g=true then 3 else Z3 g:=by unfold J0;rw [if_neg (by rw [hlim];decide),if_neg (by rw [hrel];decide)]
 rw [hres]
 refine k6 (k2 (k2 (A2 (A6 V V (A4 ?_)))));refine k1 (k3 (C5 (X:=Nat) (fun i=>([(0,C7 Commit 3 F6 g),(7,C0 i)],[])) (fun i=>i≤g.length∧∀c,c < i→(decide (E9 g c≠[])&&K3 (N1 g (E9 g c)) c)=false) (fun i=>g.length - i) 0 ⟨Nat.zero_le _,fun c h=>by omega⟩ (I89 ⟨le1 rfl,le1 rfl,trivial⟩ trivial) ?_))
 rintro i ⟨hi,hcy⟩
 dsimp only at hi hcy ⊢
 refine k2 (k2 (A2 (A3 V V (A3 V V (E1 V V (E7 V V V (A4 ?_)))))));refine k1 ?_;refine B0 rfl (fun ht=>?_) (fun ht=>?_)
 ·have hlt:i < g.length:=by have h1:=A0 ht;(try dsimp only at h1);omega
  obtain ⟨c,hc⟩:∃c,c=g[i]:=⟨_,rfl⟩
  have hv:g[i]?=some c:=by rw [hc];simp [hlt]
  have hm:c∈g:=by rw [hc];exact J18 hlt
  have hpl:=h.few.pars c hm
  have hps:E9 g i=c.Parents:=by rw [V9 hlt,hc]
  have hpr:=(J4 hrel i).1
  have hne:c.Parents≠[]↔(0:Int) < c.Parents.length:=by
   constructor
   ·intro h;have:=List.length_pos_iff.2 h;omega
   ·intro h e;rw [e] at h;simp at h
  have hvr:(N1 g c.Parents)[((i:Nat):Int).toNat]?=some (K3 (N1 g c.Parents) i):=by rw [J16];exact A71 (by rw [B50];exact hlt)
  rw [hps] at hpr
  refine k5 (k1 (k2 (k3 (k2 (A2 (A3 V V (A3 V V (A5 (A8 V (.pure _ _ _ _) V (by omega) hv) V (A5 (B8 V) V (A5 (A7 V V) V (E1 V V (A5 (L7 V V) V (A3 V V (B1 V V V V (fun hg=>by rw [hg];exact B7 V V) ?_))))))))))))));refine B1 V V V V (fun hg=>by rw [hg];exact B7 V V) ?_;refine B1 V V V V (fun hg=>by rw [hg];exact B7 V V) ?_;refine B1 V V V V (fun hg=>by have hq:=hg;(try simp at hq);rw [hg];exact A8 V (.pure _ _ _ _) V (by omega) hv) ?_;refine B1 V V V V (fun hg=>by rw [hg];exact B8 V) ?_;refine B1 V V V V (fun hg=>by rw [hg];exact A7 V V) ?_;refine B1 V V V V (fun hg=>by have hq:=hg;(try simp at hq);rw [hg];exact L0 (E82 g c.Parents h.few.len h.few.pars hrel hpr hpl) V V) ?_;refine B1 V V V V (fun hg=>by rw [hg];exact B7 V V) ?_;refine B1 V V V V (fun hg=>by have hq:=hg;(try simp at hq);rw [hg];exact A8 V (.pure _ _ _ _) V (by omega) hvr) ?_;refine B1 V V V V (fun hg=>by rw [hg];exact A7 V V) ?_;refine I5 V V ?_;refine A4 ?_;refine k1 ?_
  rw [n8]
  refine B0 rfl (fun ht=>?_) (fun ht=>?_)
  ·rw [J15,decide_eq_true_eq] at ht
   have:=H94 hlt (by rw [hps];exact hne.2 ht.1) (by rw [hps];exact ht.2)
   rw [if_pos this]
   refine k2 (A2 (A6 V V (A4 ?_)));refine k1 (k10 (k12 (k11 (k11 (k12 (k11 ?_))))))
   exact B6 (rs:=[E6 231]) (G7 rfl rfl rfl) rfl
  ·refine k5 (k4 (k1 (A2 (A3 V V (D1 V V V (A6 V V (A4 ?_)))))));refine k1 ?_;refine ⟨i+1,⟨hlt,fun d hd=>?_⟩,by omega,(I89 ⟨le1 rfl,le1 rfl,trivial⟩ trivial)⟩
   by_cases e:d=i
   ·subst e
    rw [hps,decide_eq_decide.2 hne];exact ht
   ·exact hcy d (by omega)
 have hie:i=g.length:=by have h1:=A1 ht;(try dsimp only at h1);omega
 have hcyc:cyclic g=false:=by
  unfold cyclic
  rw [List.any_eq_false]
  intro c hc
  rw [hcy c (by rw [hie];exact List.mem_range.1 hc)];decide
 rw [hcyc,if_neg (by decide)]
 refine k6 (k2 (k2 (A2 (A6 V V (A4 ?_)))));refine k1 (k3 (C5 (X:=Nat) (fun i=>([(0,C7 Commit 3 F6 g),(8,C0 i)],[])) (fun i=>i≤g.length∧((g.take i).any fun c=>decide (c.Date < 0∨c.Date > 2147483647))=false) (fun i=>g.length - i) 0 ⟨Nat.zero_le _,rfl⟩ (I89 ⟨le1 rfl,le1 rfl,trivial⟩ trivial) ?_))
 rintro i ⟨hi,hn⟩
 dsimp only at hi hn ⊢
 refine k2 (k2 (A2 (A3 V V (A3 V V (E1 V V (E7 V V V (A4 ?_)))))));refine k1 ?_;refine B0 rfl (fun ht=>?_) (fun ht=>?_)
 ·have hlt:i < g.length:=by have h1:=A0 ht;(try dsimp only at h1);omega
  obtain ⟨c,hc⟩:∃c,c=g[i]:=⟨_,rfl⟩
  have hv:g[i]?=some c:=by rw [hc];simp [hlt]
  have hm:c∈g:=by rw [hc];exact J18 hlt
  refine k5 (k1 (k2 (k3 (k2 (A2 (A3 V V (A3 V V (A5 (A8 V (.pure _ _ _ _) V (by omega) hv) V (A5 (B8 V) V (A5 (A7 V V) V (E7 V V V (A3 V V (B1 V V V V (fun hg=>by rw [hg];exact B7 V V) ?_)))))))))))));refine B1 V V V V (fun hg=>by rw [hg];exact B7 V V) ?_;refine B1 V V V V (fun hg=>by have hq:=hg;(try simp at hq);rw [hg];exact A8 V (.pure _ _ _ _) V (by omega) hv) ?_;refine B1 V V V V (fun hg=>by rw [hg];exact B8 V) ?_;refine B1 V V V V (fun hg=>by rw [hg];exact A7 V V) ?_;refine B1 V V V V (fun hg=>by rw [hg];exact L7 V V) ?_;refine I5 V V ?_;refine A4 ?_;refine k1 ?_;refine B0 rfl (fun ht=>?_) (fun ht=>?_)
  ·have h2:c.Date < 0∨c.Date > 2147483647:=A0 (or_pick.symm.trans ht)
   have:A96 g=true:=List.any_eq_true.2 ⟨c,hm,decide_eq_true h2⟩
   rw [if_pos this]
   refine k2 (A2 (A6 V V (A4 ?_)));refine k1 (k10 (k12 (k11 (k11 (k12 (k11 ?_))))))
   exact B6 (rs:=[E6 3]) (G7 rfl rfl rfl) rfl
  ·have h2:¬(c.Date < 0∨c.Date > 2147483647):=A1 (or_pick.symm.trans ht)
   refine k5 (k4 (k1 (A2 (A3 V V (D1 V V V (A6 V V (A4 ?_)))))));refine k1 ?_;refine ⟨i+1,⟨hlt,?_⟩,by omega,(I89 ⟨le1 rfl,le1 rfl,trivial⟩ trivial)⟩
   rw [List.take_add_one,hv,Option.toList_some,J56,hn,Bool.false_or,List.any_cons,List.any_nil,Bool.or_false,decide_eq_false h2]
 have hie:i=g.length:=by have h1:=A1 ht;(try dsimp only at h1);omega
 rw [hie,J22] at hn
 have hbd:A96 g=false:=hn
 rw [hbd,if_neg (by decide)]
 refine k6 (k2 (k2 (A2 (A6 V V (A4 ?_)))));refine k1 (k3 (C5 (X:=Nat) (fun i=>([(0,C7 Commit 3 F6 g),(9,C0 i)],[])) (fun i=>i≤g.length∧∀k,k < i→∀h:k < g.length,G1 g[k].Files=0) (fun i=>g.length - i) 0 ⟨Nat.zero_le _,fun c h=>by omega⟩ (I89 ⟨le1 rfl,le1 rfl,trivial⟩ trivial) ?_))
 rintro i ⟨hi,hz⟩
 dsimp only at hi hz ⊢
 have hfe:=A49 hz
 refine k2 (k2 (A2 (A3 V V (A3 V V (E1 V V (E7 V V V (A4 ?_)))))));refine k1 ?_;refine B0 rfl (fun ht=>?_) (fun ht=>?_)
 ·have hlt:i < g.length:=by have h1:=A0 ht;(try dsimp only at h1);omega
  obtain ⟨c,hc⟩:∃c,c=g[i]:=⟨_,rfl⟩
  have hv:g[i]?=some c:=by rw [hc];simp [hlt]
  have hm:c∈g:=by rw [hc];exact J18 hlt
  rw [J23 hlt,←hc,Z3] at hfe
  refine k5 (k1 (k2 (k3 (k2 (A2 (A3 V V (A3 V V (A5 (A8 V (.pure _ _ _ _) V (by omega) hv) V (A5 (B8 V) V (A5 (A7 V V) V (C9 (E49 c.Files (h.tree c hm)) V V V ?_)))))))))));rintro _ rfl;refine A6 V V (A4 ?_);refine k1 (k2 (A2 (A3 V V (A5 (Q9 V V) V (A4 ?_)))));refine k1 ?_;refine B0 rfl (fun ht=>?_) (fun ht=>?_)
  ·have h2:G1 c.Files≠0:=A0 ht
   rw [if_pos h2] at hfe
   rw [hfe]
   refine k2 (A2 (A3 V V (A6 V V (A4 ?_))));refine k1 (k10 (k12 (k11 (k11 (k12 (k11 ?_))))))
   exact B6 (rs:=[E6 (G1 c.Files)]) (G7 rfl rfl rfl) rfl
  ·have h2:¬G1 c.Files≠0:=A1 ht
   refine k5 (k4 (k1 (A2 (A3 V V (D1 V V V (A6 V V (A4 ?_)))))));refine k1 ?_;refine ⟨i+1,⟨hlt,fun k hk hkl=>?_⟩,by omega,(I89 ⟨le1 rfl,le1 rfl,trivial⟩ trivial)⟩
   by_cases e:k=i
   ·subst e;rw [←hc];exact Decidable.not_not.1 h2
   ·exact hz k (by omega) hkl
 have hie:i=g.length:=by have h1:=A1 ht;(try dsimp only at h1);omega
 rw [hie,List.drop_length] at hfe
 rw [hfe]
 refine k6 (k2 (A2 (A6 V V (A4 ?_))));refine k1 (k10 ?_)
 exact B6 (rs:=[E6 0]) (G7 rfl rfl rfl) rfl
theorem H55 (g:Graph) (h:FewT g):FnOk Tryz.prog 49 [I1 g] (fun rs=>rs=[E6 (J0 g)]):=by
 have hg:=h.few.len
 refine FnOk.intro Tryz.func49 (by decide) V V V V ?_
 refine k2 (A2 (A6 V V (A4 ?_)));refine k1 (k2 (k3 (k2 (A2 (A3 V V (C9 (F92 g h.few (by omega)) V V V ?_))))));rintro _ rfl;refine A5 (R7 V) V (A6 V V (A4 ?_));refine k1 ?_;refine B0 rfl (fun ht=>?_) (fun ht=>?_)
 ·have h1:Z4 g=false:=by simpa using ht
  refine k2 (A2 (A6 V V (A4 ?_)));refine k1 (k10 (k12 (k11 ?_)))
  exact B6 (rs:=[E6 1]) (G7 rfl rfl rfl) (by unfold J0;rw [if_pos h1])
 have hlim:Z4 g=true:=by simpa using ht
 refine k2 (A2 (A3 V V (C9 (F93 g h.few (by omega)) V V V ?_)));rintro _ rfl;refine A5 (R7 V) V (A6 V V (A4 ?_));refine k1 ?_;refine B0 rfl (fun ht=>?_) (fun ht=>?_)
 ·have h1:related g=false:=by simpa using ht
  refine k2 (A2 (A6 V V (A4 ?_)));refine k1 (k10 (k12 (k11 ?_)))
  exact B6 (rs:=[E6 230]) (G7 rfl rfl rfl) (by unfold J0;rw [if_neg (by rw [hlim];decide),if_pos h1])
 have hrel:related g=true:=by simpa using ht
 have hres:J0 g=if cyclic g=true then 231 else if A96 g=true then 3 else Z3 g:=by unfold J0;rw [if_neg (by rw [hlim];decide),if_neg (by rw [hrel];decide)]
 rw [hres]
 refine k2 (A2 (A3 V V (C9 (G69 g h.few hrel) V V V ?_)));rintro _ ⟨ch,out,rfl,hK⟩;refine E1 V V (A3 V V (E1 V V (E7 V V V (A6 V V (A4 ?_)))))
 have hcy:=hK.done hrel
 have hcy:decide ((out.length:Int) < g.length)=cyclic g:=by rw [←hcy,decide_eq_decide];omega
 refine k1 ?_
 rw [hcy]
 refine B0 rfl (fun ht=>?_) (fun ht=>?_)
 ·rw [if_pos ht]
  refine k2 (A2 (A6 V V (A4 ?_)));refine k1 (k10 (k12 (k11 ?_)))
  exact B6 (rs:=[E6 231]) (G7 rfl rfl rfl) rfl
 rw [ht,if_neg (by decide)]
 refine k2 (A2 (A3 V V (C9 (A30 77 (fun c=>decide (c.Date < 0∨c.Date > 2147483647)) g (by omega) (fun c _=>G67 c)) V V V ?_)));rintro _ rfl;refine A6 V V (A4 ?_);refine k1 ?_;refine B0 rfl (fun ht=>?_) (fun ht=>?_)
 ·have h1:A96 g=true:=ht
  rw [if_pos h1]
  refine k2 (A2 (A6 V V (A4 ?_)));refine k1 (k10 (k12 (k11 ?_)))
  exact B6 (rs:=[E6 3]) (G7 rfl rfl rfl) rfl
 have hbd:A96 g=false:=ht
 rw [hbd,if_neg (by decide)]
 refine k5 (k2 (k2 (A2 (A3 V V (E1 V V (A3 V V (A4 ?_)))))));refine k1 (k3 (C5 (X:=Nat) (fun i=>([(24,C7 Commit 3 F6 g),(25,C0 g.length),(26,C0 i)],[])) (fun i=>i≤g.length∧∀k,k < i→∀h:k < g.length,G1 g[k].Files=0) (fun i=>g.length - i) 0 ⟨Nat.zero_le _,fun c h=>by omega⟩ (I89 ⟨le1 rfl,le1 rfl,le1 rfl,trivial⟩ trivial) ?_))
 rintro i ⟨hi,hz⟩
 dsimp only at hi hz ⊢
 have hfe:=A49 hz
 refine k2 (A2 (E7 V V V (A4 ?_)));refine k1 (k2 ?_);refine B0 rfl (fun ht=>?_) (fun ht=>?_)
 ·have hlt:i < g.length:=by have h1:=A0 ht;(try dsimp only at h1);omega
  obtain ⟨c,hc⟩:∃c,c=g[i]:=⟨_,rfl⟩
  have hv:g[i]?=some c:=by rw [hc];simp [hlt]
  have hm:c∈g:=by rw [hc];exact J18 hlt
  rw [J23 hlt,←hc,Z3] at hfe
  refine k5 (k1 (k2 (k3 (k2 (A2 (A5 (A8 V (.pure _ _ _ _) V (by omega) hv) V (A5 (E0 V V) V (C6 (J6 4 V) V (H1 (C2 TySz.out V V V V V V) (A4 ?_))))))))));refine k1 (k2 (A2 (A5 (A9 V) V (G4 V V V V (C9 (C15 c.Files (h.tree c hm)) V V V ?_)))));rintro _ rfl;refine A6 V V (A4 ?_);refine k1 (k2 (A2 (A3 V V (A5 (Q9 V V) V (A4 ?_)))));refine k1 ?_;refine B0 rfl (fun ht=>?_) (fun ht=>?_)
  ·have h2:G1 c.Files≠0:=A0 ht
   rw [if_pos h2] at hfe
   rw [hfe]
   refine k2 (A2 (A3 V V (A6 V V (A4 ?_))));refine k1 (k10 (k12 (k11 (k11 (k12 (k11 ?_))))))
   exact B6 (rs:=[E6 (G1 c.Files)]) (G7 rfl rfl rfl) rfl
  ·have h2:¬G1 c.Files≠0:=A1 ht
   refine k5 (k4 (k1 (A2 (D1 V V V (A3 V V (A4 ?_))))));refine k1 ?_;refine ⟨i+1,⟨hlt,fun k hk hkl=>?_⟩,by omega,(I89 ⟨le1 rfl,le1 rfl,le1 rfl,trivial⟩ trivial)⟩
   by_cases e:k=i
   ·subst e;rw [←hc];exact Decidable.not_not.1 h2
   ·exact hz k (by omega) hkl
 have hie:i=g.length:=by have h1:=A1 ht;(try dsimp only at h1);omega
 rw [hie,List.drop_length] at hfe
 rw [hfe]
 refine k6 (k2 (A2 (A6 V V (A4 ?_))));refine k1 (k10 ?_)
 exact B6 (rs:=[E6 0]) (G7 rfl rfl rfl) rfl
set_option maxHeartbeats 1000000
def X1 (L:List Int) (n:Nat):List Bool:=(List.range n).map fun c:Nat=>decide ((c:Int)∈L)
theorem E87 {L:List Int} {n c:Nat} (h:c < n):K3 (X1 L n) c=decide ((c:Int)∈L):=by
 unfold K3 X1
 rw [J51,J64 h];rfl
theorem D95 (L:List Int) (n:Nat):(X1 L n).length=n:=by simp [X1]
theorem G73 (n:Nat):X1 [] n=List.replicate n false:=by
 refine List.ext_getElem (by simp [X1]) fun i h1 h2=>?_
 simp [X1]
theorem G06 {L:List Int} {n b:Nat} (h:b < n):(X1 L n).set b true=X1 (L++[(b:Int)]) n:=by
 refine List.ext_getElem? fun i=>?_
 unfold X1
 rw [List.getElem?_set,J51,J51,J32,J45,if_pos h]
 by_cases hi:i < n
 ·rw [J64 hi]
  by_cases e:b=i
  ·rw [if_pos e,←e];simp
  ·have e2:¬(i:Int)=b:=by omega
   rw [if_neg e];simp [e2]
 ·have e:¬b=i:=by omega
  rw [if_neg e,J37 (by rw [J45];omega)];rfl
def bigK (inn:List Bool) (L:List Int) (ks:List Int):Bool:=ks.all fun k=>!(K3 inn k.toNat&&decide (k∉L))
theorem H95 (g:Graph) (inn:List Bool) (L:List Int) (c:Nat):X6 g inn L c=(bigK inn L (n4 g c g.length)&&(K3 inn c&&decide ((c:Int)∉L))):=by
 unfold X6 bigK n4
 rw [Bool.and_comm]
 congr 1
 rw [List.all_map,List.all_filter]
 congr 1
 funext k
 simp only [Function.comp_def,J16]
 cases h:decide ((c:Int)∈E9 g k)<;>simp
theorem H96 (g:Graph) (inn:List Bool) (L:List Int) (c:Nat) (hf:FewG g) (hi:inn.length=g.length) (hc:c < g.length) :
  FnOk Tryz.prog 35 [I1 g,F68 inn,F68 (X1 L g.length),E6 c] (fun rs=>rs=[H8 (X6 g inn L c)]):=by
 have hml:=D95 L g.length
 obtain ⟨ks,hks⟩:∃ks,ks=n4 g c g.length:=⟨_,rfl⟩
 have hkl:=D92 g c g.length
 have hkr:∀k∈ks,0≤k∧k < g.length:=fun k hk=>by
  rw [hks] at hk
  unfold n4 at hk
  obtain ⟨i,hi,rfl⟩:=List.mem_map.1 hk
  have:=List.mem_range.1 (List.mem_filter.1 hi).1
  omega
 rw [H95,←hks]
 rw [←hks] at hkl
 have hlen:=hf.len
 refine FnOk.intro Tryz.func35 (by decide) V V V V ?_
 refine k2 (A2 (A6 V V (A4 ?_)));refine k1 (k2 (A2 (A3 V V (A3 V V (C9 (I52 g c hf.len hf.pars) V V V ?_)))));rintro _ rfl;refine A6 V V (A4 ?_)
 rw [←hks]
 refine k1 (k2 (k2 (A2 (A6 V V (A4 ?_)))));refine k1 (k3 (C5 (X:=Nat) (fun k=>([(1,C7 Bool 1 w9 inn),(2,C7 Bool 1 w9 (X1 L g.length)),(3,C0 c),(9,C7 Int 1 E3 ks),(10,C0 k)],[])) (fun k=>k≤ks.length∧bigK inn L (ks.take k)=true) (fun k=>ks.length - k) 0 ⟨Nat.zero_le _,rfl⟩ (I89 ⟨le1 rfl,le1 rfl,le1 rfl,le1 rfl,le1 rfl,trivial⟩ trivial) ?_))
 rintro k ⟨hk,hb⟩
 dsimp only at hk hb ⊢
 refine k2 (k2 (A2 (A3 V V (A3 V V (E1 V V (E7 V V V (A4 ?_)))))));refine k1 ?_;refine B0 rfl (fun ht=>?_) (fun ht=>?_)
 rotate_left
 ·have hke:k=ks.length:=by have h1:=A1 ht;(try dsimp only at h1);omega
  rw [hke,J22] at hb
  have hv1:inn[((c:Nat):Int).toNat]?=some (K3 inn c):=by rw [J16,A71 (by omega)]
  have hv2:(X1 L g.length)[((c:Nat):Int).toNat]?=some (K3 (X1 L g.length) c):=by rw [J16,A71 (by omega)]
  refine k6 (k2 (A2 (A3 V V (A3 V V (A5 (A8 V (.pure _ _ _ _) V (by omega) hv1) V (A5 (A7 V V) V (A3 V V (B1 V V V V (fun hg=>by rw [hg];exact B7 V V) ?_))))))));refine B1 V V V V (fun hg=>by rw [hg];exact B7 V V) ?_;refine B1 V V V V (fun hg=>by have hq:=hg;(try simp at hq);rw [hg];exact A8 V (.pure _ _ _ _) V (by omega) hv2) ?_;refine B1 V V V V (fun hg=>by rw [hg];exact A7 V V) ?_;refine B1 V V V V (fun hg=>by rw [hg];exact R7 V) ?_;refine I5 V V ?_;refine A6 V V (A4 ?_);refine k1 (k10 (B6 (G7 V V V) ?_))
  rw [hb,E87 hc,n8,Bool.true_and,decide_not]
 have hlt:k < ks.length:=by have h1:=A0 ht;(try dsimp only at h1);omega
 obtain ⟨d,hd⟩:∃d,d=ks[k]:=⟨_,rfl⟩
 have hv:ks[k]?=some d:=by rw [hd];simp [hlt]
 have hdr:=hkr d (by rw [hd];exact J18 hlt)
 have hv1:inn[d.toNat]?=some (K3 inn d.toNat):=A71 (by omega)
 have hv2:(X1 L g.length)[d.toNat]?=some (K3 (X1 L g.length) d.toNat):=A71 (by omega)
 have hon:K3 (X1 L g.length) d.toNat=decide (d∈L):=by rw [E87 (by omega),Int.toNat_of_nonneg hdr.1]
 have hall:bigK inn L ks=true→(K3 inn d.toNat&&decide (d∉L))=false:=fun h=>by
  have:=List.all_eq_true.1 h d (by rw [hd];exact J18 hlt)
  have h2:K3 inn d.toNat=false∨d∈L:=by simpa using this
  rcases h2 with h2 | h2<;>simp [h2]
 refine k5 (k1 (k2 (k3 (k2 (A2 (A3 V V (A3 V V (A3 V V (A5 (A8 V (.pure _ _ _ _) V (by omega) hv) V (A5 (A7 V V) V (A5 (A8 V (.pure _ _ _ _) V (by omega) hv1) V (A5 (A7 V V) V (A3 V V (B1 V V V V (fun hg=>by rw [hg];exact B7 V V) ?_))))))))))))));refine B1 V V V V (fun hg=>by rw [hg];exact B7 V V) ?_;refine B1 V V V V (fun hg=>by rw [hg];exact B7 V V) ?_;refine B1 V V V V (fun hg=>by have hq:=hg;(try simp at hq);rw [hg];exact A8 V (.pure _ _ _ _) V (by omega) hv) ?_;refine B1 V V V V (fun hg=>by rw [hg];exact A7 V V) ?_;refine B1 V V V V (fun hg=>by have hq:=hg;(try simp at hq);rw [hg];exact A8 V (.pure _ _ _ _) V (by omega) hv2) ?_;refine B1 V V V V (fun hg=>by rw [hg];exact A7 V V) ?_;refine B1 V V V V (fun hg=>by rw [hg];exact R7 V) ?_;refine I5 V V ?_;refine A4 ?_
 rw [hon]
 refine k1 ?_;refine B0 rfl (fun ht=>?_) (fun ht=>?_)
 ·rw [n8] at ht
  have hne:bigK inn L ks=false:=by
   cases hq:bigK inn L ks
   ·rfl
   ·have:=hall hq
    rw [decide_not] at this
    rw [this] at ht;cases ht
  rw [hne]
  refine k2 (A2 (A6 V V (A4 ?_)));refine k1 (k10 (k12 (k11 (k11 (k12 (k11 ?_))))))
  exact B6 (rs:=[H8 false]) (G7 rfl rfl rfl) rfl
 ·rw [n8] at ht
  refine k5 (k4 (k1 (A2 (A3 V V (D1 V V V (A6 V V (A4 ?_)))))));refine k1 ?_;refine ⟨k+1,⟨hlt,?_⟩,by omega,(I89 ⟨le1 rfl,le1 rfl,le1 rfl,le1 rfl,le1 rfl,trivial⟩ trivial)⟩
  unfold bigK at hb ⊢
  rw [List.take_add_one,hv,Option.toList_some,J55,hb,Bool.true_and,List.all_cons,List.all_nil,Bool.and_true,decide_not,ht]
  rfl
theorem H97 (g:Graph) (inn:List Bool) (L:List Int) (m:Nat):-1≤o5 g inn L m∧o5 g inn L m < m∨o5 g inn L m = -1:=by
 rcases A82 g inn L m with ⟨h,_⟩ | ⟨b,h1,h2,_⟩
 ·exact .inr h
 ·left;omega
theorem G07 {g:Graph} {c:Nat} {cm:Commit} (h:g[c]?=some cm):W4 g c=cm.Date:=by unfold W4;rw [h];rfl
theorem H98 (g:Graph) (s:Int) (hf:FewG g) (hcheck:FnOk Tryz.prog 33 [I1 g] (fun rs=>rs=[E6 (J0 g)])) :
  FnOk Tryz.prog 20 [I1 g,I0 [s]] (fun rs=>rs=[I0 (M8 g s).1,E6 (M8 g s).2]):=by
 have hlen:=hf.len
 refine FnOk.intro Tryz.func20 (by decide) V V V V ?_
 refine k2 (A2 (A6 V V (A6 V V (A4 ?_))));refine k1 (k2 (k2 (A2 (A3 V V (C9 (hcheck) V V V ?_)))));rintro _ rfl;refine A6 V V (A4 ?_);refine k1 (k2 (A2 (A3 V V (A5 (Q9 V V) V (A4 ?_)))));refine k1 ?_;refine B0 rfl (fun ht=>?_) (fun ht=>?_)
 ·have h1:J0 g≠0:=A0 ht
  refine k2 (A2 (A3 V V (A5 (G8 _ 1 E3) V (A6 V V (A4 ?_)))));refine k1 (k10 (k11 ?_))
  exact B6 (V5 rfl rfl rfl rfl rfl) (by unfold M8;rw [if_pos h1])
 have h1:¬J0 g≠0:=A1 ht
 have hvg:=Z5 (Decidable.not_not.1 h1)
 refine k5 (k1 (k2 (k2 (A2 (A6 V V (A4 ?_))))));refine k1 (k3 (C5 (X:=Nat) (fun i=>([(0,C7 Commit 3 F6 g),(1,C7 Int 1 E3 [s]),(7,C0 i)],[])) (fun i=>i≤1∧(i=1→U9 g s)) (fun i=>1 - i) 0 ⟨Nat.zero_le _,fun h=>by cases h⟩ (I89 ⟨le1 rfl,le1 rfl,le1 rfl,trivial⟩ trivial) ?_))
 rintro i ⟨hi,hs⟩
 dsimp only at hi hs ⊢
 refine k2 (k2 (A2 (A3 V V (A3 V V (E1 V V (E7 V V V (A4 ?_)))))));refine k1 ?_;refine B0 rfl (fun ht=>?_) (fun ht=>?_)
 ·have hlt:i=0:=by have h1:=A0 ht;simp only [J17,J21] at h1;omega
  subst hlt
  have hv:[s][((0:Nat):Int).toNat]?=some s:=rfl
  refine k5 (k1 (k2 (k3 (k2 (A2 (A3 V V (A3 V V (A5 (A8 V (.pure _ _ _ _) V (by omega) hv) V (A5 (A7 V V) V (E7 V V V (A3 V V (B1 V V V V (fun hg=>by rw [hg];exact B7 V V) ?_))))))))))));refine B1 V V V V (fun hg=>by rw [hg];exact B7 V V) ?_;refine B1 V V V V (fun hg=>by have hq:=hg;(try simp at hq);rw [hg];exact A8 V (.pure _ _ _ _) V (by omega) hv) ?_;refine B1 V V V V (fun hg=>by rw [hg];exact A7 V V) ?_;refine B1 V V V V (fun hg=>by rw [hg];exact B7 V V) ?_;refine B1 V V V V (fun hg=>by rw [hg];exact U0 V (.pure _ _ _ _)) ?_;refine B1 V V V V (fun hg=>by rw [hg];exact X7 V V) ?_;refine I5 V V ?_;refine A4 ?_;refine k1 ?_;refine B0 rfl (fun ht=>?_) (fun ht=>?_)
  ·rw [or_pick] at ht
   have h2:=A0 ht
   refine k2 (A2 (A5 (G8 _ 1 E3) V (A6 V V (A4 ?_))));refine k1 (k10 (k12 (k11 (k11 (k12 (k11 ?_))))))
   exact B6 (rs:=[I0 [],E6 5]) (V5 rfl rfl rfl rfl rfl) (by unfold M8;rw [if_neg h1,if_neg (fun h=>by unfold U9 at h;omega)])
  ·rw [or_pick] at ht
   have h2:=A1 ht
   refine k5 (k4 (k1 (A2 (A3 V V (D1 V V V (A6 V V (A4 ?_)))))));refine k1 ?_
   exact ⟨1,⟨Nat.le_refl _,fun _=>by unfold U9;omega⟩,by omega,(I89 ⟨le1 rfl,le1 rfl,le1 rfl,trivial⟩ trivial)⟩
 have hi1:i=1:=by have h1:=A1 ht;simp only [J17,J21] at h1;omega
 have hs:=hs hi1
 have hres:M8 g s=(B06 g [s],0):=by unfold M8;rw [if_neg h1,if_pos hs]
 rw [hres]
 have hsr:∀f∈[s],0≤f∧f < g.length:=fun f hf=>by rw [List.mem_singleton.1 hf];exact hs
 refine k6 (k2 (A2 (A3 V V (A3 V V (C9 (E82 g [s] hf.len hf.pars hvg.rel hsr (by simp)) V V V ?_)))));rintro _ rfl;refine A6 V V (A4 ?_)
 obtain ⟨inn,hinn⟩:∃inn,inn=N1 g [s]:=⟨_,rfl⟩
 have hil:inn.length=g.length:=by rw [hinn];exact B50 g _
 have hord:B06 g [s]=B85 g inn (g.length+1) []:=by rw [hinn];rfl
 rw [←hinn,hord]
 refine k1 (k2 (A2 (A3 V V (E1 V V (C6 (i7 754 Bool w9 false V V (by omega) (by omega) (fun _=>by first | exact ⟨⟨rfl,rfl⟩,trivial⟩ | exact ⟨H2 _ _ _,trivial⟩ | exact ⟨H2 _ _ _,⟨rfl,rfl⟩,H2 _ _ _,trivial⟩) (by first | rfl | (simp [K4,J5,Ob.free,SV.free,S1.free,TC.free]<;>rfl))) V ?_)))));refine A6 V V (A4 ?_);refine k1 (k2 (A2 (C6 (N0 10 _ E3 V) V (A4 ?_))));refine k1 (k3 ?_)
 rw [J16,←G73]
 refine C5 (X:=List Int) (fun out=>([(0,C7 Commit 3 F6 g),(8,C7 Bool 1 w9 inn),(9,.s (.one (.mut 754))),(10,.s (.one (.buf 10 Int 1 E3 out)))],[(10,.spare out.length 1 3),(754,.arr Bool 1 w9 (X1 out g.length))])) (fun out=>out.Nodup∧(∀x∈out,0≤x∧x < g.length)∧B85 g inn (g.length+1 - out.length) out=B85 g inn (g.length+1) []) (fun out=>g.length+1 - out.length) [] ⟨List.nodup_nil,(fun _ h=>by cases h),rfl⟩ (I89 ⟨le1 rfl,le1 rfl,le1 rfl,le1 rfl,trivial⟩ ⟨rfl,rfl,trivial⟩) ?_
 rintro out ⟨hnd,hrg,hro⟩
 dsimp only at hnd hrg hro ⊢
 have hol:=X9 hnd hrg
 have hml:=D95 out g.length
 refine k3 (k2 (A2 (A6 V V (A4 ?_))));refine k1 (k2 (k2 (A2 (A6 V V (A4 ?_)))));refine k1 (k3 (C5 (X:=Nat) (fun m=>([(0,C7 Commit 3 F6 g),(8,C7 Bool 1 w9 inn),(9,.s (.one (.mut 754))),(10,.s (.one (.buf 10 Int 1 E3 out))),(11,C0 (o5 g inn out m)),(12,C0 m)],[(10,.spare out.length 1 3),(754,.arr Bool 1 w9 (X1 out g.length))])) (fun m=>m≤g.length) (fun m=>g.length - m) 0 (Nat.zero_le _) (I89 ⟨le1 rfl,le1 rfl,le1 rfl,le1 rfl,le1 rfl,le1 rfl,trivial⟩ ⟨rfl,rfl,trivial⟩) ?_))
 intro m hm
 dsimp only at hm ⊢
 have hbr:=H97 g inn out m
 obtain ⟨b,hb⟩:∃b,b=o5 g inn out m:=⟨_,rfl⟩
 rw [←hb] at hbr ⊢
 refine k2 (k2 (A2 (A3 V V (A3 V V (E1 V V (E7 V V V (A4 ?_)))))));refine k1 ?_;refine B0 rfl (fun ht=>?_) (fun ht=>?_)
 ·have hlt:m < g.length:=by have h1:=A0 ht;(try dsimp only at h1);omega
  have hvm:g[((m:Nat):Int).toNat]?=some g[m]:=by simp [hlt]
  have hvb:0≤b→g[b.toNat]?=some (g[b.toNat]?.getD ⟨[],0,[]⟩):=fun h0=>by
   rw [J14 (by omega)];rfl
  have hdm:W4 g m=g[m].Date:=G07 (by simp [hlt])
  have hdb:0≤b→W4 g b.toNat=(g[b.toNat]?.getD ⟨[],0,[]⟩).Date:=fun h0=>G07 (hvb h0)
  have hsuc:o5 g inn out (m+1)=if X6 g inn out m=true∧(b < 0∨W4 g m > W4 g b.toNat) then (m:Int) else b:=by rw [o5,←hb]
  refine k5 (k1 (k2 (k3 (k2 (D9 (by kernel_rfl) (by kernel_rfl) (D8 V V (D8 V V (D8 V V (D8 V V (B5 (H86 (fun _=>Sees.freeze (k:=754) V) (H96 g inn out m hf hil hlt) V V V) V V (D8 V V (C8 V V (fun hg=>by rw [hg];exact B7 V V) V V ?_))))))))))));refine C8 V V (fun hg=>by rw [hg];exact A04 V V) V V ?_;refine C8 V V (fun hg=>by rw [hg];exact B7 V V) V V ?_;refine L8 V V (.gd (.val _)) (fun hg=>by obtain ⟨hg1,hg2⟩:=K0 hg;(try rw [hg1]);(try rw [hg2]);exact B7 V V) V V ?_;refine L8 V V (.gd (.val _)) (fun hg=>by obtain ⟨hg1,hg2⟩:=K0 hg;(try rw [hg1]);(try rw [hg2]);exact B7 V V) V V ?_;refine L8 V V (.gd (.val _)) (fun hg=>by have hq:=hg;(try simp at hq);obtain ⟨hg1,hg2⟩:=K0 hg;(try rw [hg1]);(try rw [hg2]);exact A8 V (.pure _ _ _ _) V (by omega) hvm) V V ?_;refine L8 V V (.gd (.val _)) (fun hg=>by obtain ⟨hg1,hg2⟩:=K0 hg;(try rw [hg1]);(try rw [hg2]);exact B8 V) V V ?_;refine L8 V V (.gd (.val _)) (fun hg=>by obtain ⟨hg1,hg2⟩:=K0 hg;(try rw [hg1]);(try rw [hg2]);exact A7 V V) V V ?_;refine L8 V V (.gd (.val _)) (fun hg=>by obtain ⟨hg1,hg2⟩:=K0 hg;(try rw [hg1]);(try rw [hg2]);exact B7 V V) V V ?_;refine L8 V V (.gd (.val _)) (fun hg=>by obtain ⟨hg1,hg2⟩:=K0 hg;(try rw [hg1]);(try rw [hg2]);exact B7 V V) V V ?_;refine L8 V V (.gd (.val _)) (fun hg=>by have hq:=hg;(try simp at hq);obtain ⟨hg1,hg2⟩:=K0 hg;(try rw [hg1]);(try rw [hg2]);exact A8 V (.pure _ _ _ _) V (by omega) (hvb (by omega))) V V ?_;refine L8 V V (.gd (.val _)) (fun hg=>by obtain ⟨hg1,hg2⟩:=K0 hg;(try rw [hg1]);(try rw [hg2]);exact B8 V) V V ?_;refine L8 V V (.gd (.val _)) (fun hg=>by obtain ⟨hg1,hg2⟩:=K0 hg;(try rw [hg1]);(try rw [hg2]);exact A7 V V) V V ?_;refine L8 V V (.gd (.val _)) (fun hg=>by obtain ⟨hg1,hg2⟩:=K0 hg;(try rw [hg1]);(try rw [hg2]);exact L7 V V) V V ?_;refine C8 V V (fun hg=>by rw [hg];exact I9 V (fun h=>by first | rfl | (rw [h];rfl)) (fun h=>by first | rfl | (rw [h];rfl))) V V ?_;refine B5 (I9 V (fun h=>by first | rfl | (rw [h];rfl)) (fun h=>by first | rfl | (rw [h];rfl))) V V ?_;refine N3 ?_;refine k1 ?_
  have hcond:(if X6 g inn out m=true then (if decide (b < 0)=true then true else decide ((g[b.toNat]?.getD ⟨[],0,[]⟩).Date < g[m].Date)) else false)=decide (X6 g inn out m=true∧(b < 0∨W4 g m > W4 g b.toNat)):=by
   cases hr:X6 g inn out m
   ·simp
   ·by_cases hb0:b < 0
    ·simp [hb0]
    ·rw [hdm,hdb (by omega)];simp [hb0]
  rw [hcond]
  refine B0 rfl (fun ht=>?_) (fun ht=>?_)
  ·rw [if_pos (A0 ht)] at hsuc
   skip
   refine A2 (A3 V V (A6 V V (A4 ?_)));refine k4 (k1 (A2 (A3 V V (D1 V V V (A6 V V (A4 ?_))))));refine k1 ?_;refine ⟨m+1,by omega,by omega,?_⟩
   rw [hsuc]
   exact (I89 ⟨le1 rfl,le1 rfl,le1 rfl,le1 rfl,le1 rfl,le1 rfl,trivial⟩ ⟨rfl,rfl,trivial⟩)
  ·rw [if_neg (A1 ht)] at hsuc
   refine k5 (k4 (k1 (A2 (A3 V V (D1 V V V (A6 V V (A4 ?_)))))));refine k1 ?_;refine ⟨m+1,by omega,by omega,?_⟩
   rw [hsuc]
   exact (I89 ⟨le1 rfl,le1 rfl,le1 rfl,le1 rfl,le1 rfl,le1 rfl,trivial⟩ ⟨rfl,rfl,trivial⟩)
 have hme:m=g.length:=by have h1:=A1 ht;(try dsimp only at h1);omega
 have hbl:b=A20 g inn out:=by rw [hb,hme];rfl
 refine k6 (k2 (k2 (A2 (A3 V V (E7 V V V (A4 ?_))))));refine k1 ?_;refine B0 rfl (fun ht=>?_) (fun ht=>?_)
 ·have h3:b < 0:=A0 ht
  rw [G48 (by omega)] at hro
  rw [←hro]
  refine k2 (A2 (A3 V V (A6 V V (A6 V V (A4 ?_)))));refine k1 (k10 (k11 (k12 (k11 (k12 ?_)))))
  exact B6 (rs:=[I0 out,E6 0]) (V5 rfl rfl rfl rfl rfl) rfl
 ·have h3:¬b < 0:=A1 ht
  obtain ⟨c,hc1,hc2,hc3,hc4⟩:=F09 (g:=g) (inn:=inn) (L:=out) (by omega)
  rw [hbl,hc2]
  rw [F10 (by omega) (by omega),hc2] at hro
  refine k5 (k1 (k2 (A2 (A3 V V (A3 V V (A5 (F3 V V V (by omega) (by (rw [hml];omega))) V ?_))))));refine H1 (I4 TySz.out V V (by (rw [hml];omega)) V V) ?_;refine A4 ?_;refine k1 (A2 (A3 V V (A3 V V (A5 (C1 (c:=E3) (ys:=[(c:Int)]) (D2 V V V V F1) V V V) V (C6 (G9 V V V (.pure _ _ _ _) (by (simp only [J17,J21];omega)) V) V (A6 V V (A4 ?_)))))));refine k4 (k1 ?_);refine ⟨out++[(c:Int)],⟨List.nodup_append.2 ⟨hnd,by simp,fun x hx y hy e=>by rw [List.mem_singleton.1 hy] at e;exact hc4 (e ▸ hx)⟩,fun x hx=>?_,?_⟩,by rw [J19,List.length_singleton];omega,?_⟩
  ·rcases List.mem_append.1 hx with hx | hx
   ·exact hrg x hx
   ·rw [List.mem_singleton.1 hx];omega
  ·rw [←hro,J19,List.length_singleton]
   congr 1<;>omega
  ·rw [←G06 hc1]
   exact (I89 ⟨le1 rfl,le1 rfl,le1 rfl,le1 rfl,trivial⟩ ⟨rfl,rfl,trivial⟩)
set_option maxHeartbeats 1000000
theorem rat_ok (nd s:Str) (i:Nat) (hn:nd.length≤1073741824) (hs:s.length≤1073741824) (hi:i≤s.length):FnOk Tryz.prog 86 [L2 nd,L2 s,E6 i] (fun rs=>rs=[H8 (A42 nd s i)]):=by
 refine FnOk.intro Tryz.func86 (by decide) V V V V ?_
 refine k2 (A2 (A6 V V (A4 ?_)));refine k1 (k2 (A2 (A3 V V (A5 (D46 V V) V (A3 V V (B1 V V V V (fun hg=>by rw [hg];exact B7 V V) ?_))))));refine B1 V V V V (fun hg=>by rw [hg];exact J2 V) ?_;refine B1 V V V V (fun hg=>by rw [hg];exact B7 V V) ?_;refine B1 V V V V (fun hg=>by rw [hg];exact J2 V) ?_;refine B1 V V V V (fun hg=>by rw [hg];exact B7 V V) ?_;refine B1 V V V V (fun hg=>by have hq:=hg;(try simp at hq);rw [hg];exact K9 V V (by omega)) ?_;refine B1 V V V V (fun hg=>by rw [hg];exact B08 V V) ?_;refine I5 V V ?_;refine A3 V V (B1 V V V V (fun hg=>by rw [hg];exact B7 V V) ?_);refine B1 V V V V (fun hg=>by rw [hg];exact B7 V V) ?_;refine B1 V V V V (fun hg=>by rw [hg];exact B7 V V) ?_;refine B1 V V V V (fun hg=>by rw [hg];exact B7 V V) ?_;refine B1 V V V V (fun hg=>by rw [hg];exact J2 V) ?_;refine B1 V V V V (fun hg=>by have hq:=hg;(try simp at hq);rw [hg];exact b8 V V (by omega)) ?_;refine B1 V V V V (fun hg=>by have hq:=hg;(try simp at hq);rw [hg];exact D61 V V V (by omega) (by omega) (by omega)) ?_;refine B1 V V V V (fun hg=>by rw [hg];exact B7 V V) ?_;refine B1 V V V V (fun hg=>by rw [hg];exact g9 V V) ?_;refine I5 V V ?_;refine A6 V V (A4 ?_);refine k1 (k10 (B6 (G7 V V V) ?_))
 refine congrArg (fun b=>[H8 b]) ?_
 rw [n8,n8,show ((i:Int)+nd.length).toNat - (i:Int).toNat=nd.length by omega,J16,←Bool.decide_and,←Bool.decide_and]
 unfold A42
 rw [decide_eq_decide]
 constructor
 ·rintro ⟨⟨a,b⟩,c⟩;exact ⟨a,by omega,c⟩
 ·rintro ⟨a,b,c⟩;exact ⟨⟨a,by omega⟩,c⟩
theorem I55 (nd s:Str) (p:Nat) (hn:nd.length≤1073741824) (hs:s.length≤1073741824) (hp:p≤s.length):FnOk Tryz.prog 63 [L2 nd,L2 s,E6 p] (fun rs=>rs=[E6 ((P1 nd s p).getD 0:Nat),H8 (P1 nd s p).isSome]):=by
 refine FnOk.intro Tryz.func63 (by decide) V V V V ?_
 refine k2 (A2 (A6 V V (A6 V V (A4 ?_))));refine k1 (k2 (k2 (A2 (A3 V V (A6 V V (A4 ?_))))));refine k1 (k3 (C5 (X:=Nat) (fun i=>([(0,S3 nd),(1,S3 s),(8,C0 i)],[])) (fun i=>p≤i∧i≤s.length+1∧∀j,p≤j→j < i→A42 nd s j=false) (fun i=>s.length+1 - i) p ⟨Nat.le_refl _,by omega,fun j h1 h2=>by omega⟩ (I89 ⟨le1 rfl,le1 rfl,le1 rfl,trivial⟩ trivial) ?_))
 rintro i ⟨h1,h2,h3⟩
 dsimp only at h1 h2 h3 ⊢
 refine k2 (k2 (A2 (A3 V V (A5 (X7 V V) V (A3 V V (B1 V V V V (fun hg=>by rw [hg];exact B7 V V) ?_))))));refine B1 V V V V (fun hg=>by rw [hg];exact B7 V V) ?_;refine B1 V V V V (fun hg=>by rw [hg];exact J2 V) ?_;refine B1 V V V V (fun hg=>by rw [hg];exact B08 V V) ?_;refine I5 V V ?_;refine A4 ?_;refine k1 ?_
 rw [and_pick]
 refine B0 rfl (fun ht=>?_) (fun ht=>?_)
 rotate_left
 ·have h4:=A1 ht
  have hno:P1 nd s p=none:=G51 fun j hj hjl=>h3 j hj (by omega)
  rw [hno]
  refine k6 (k2 (A2 (A6 V V (A6 V V (A4 ?_)))));refine k1 (k10 ?_)
  exact B6 (rs:=[E6 0,H8 false]) (V5 rfl rfl rfl rfl rfl) rfl
 have h4:=A0 ht
 refine k5 (k1 (k2 (k3 (k2 (A2 (A3 V V (A3 V V (A3 V V (C9 (rat_ok nd s i hn hs (by omega)) V V V ?_)))))))));rintro _ rfl;refine A4 ?_;refine k1 ?_;refine B0 rfl (fun ht=>?_) (fun ht=>?_)
 ·have hso:P1 nd s p=some i:=G52 h1 ht h3
  rw [hso]
  refine k2 (A2 (A3 V V (A6 V V (A6 V V (A4 ?_)))));refine k1 (k10 (k12 (k11 (k11 (k12 (k11 ?_))))))
  exact B6 (rs:=[E6 i,H8 true]) (V5 rfl rfl rfl rfl rfl) rfl
 ·refine k5 (k4 (k1 (A2 (A3 V V (D1 V V V (A6 V V (A4 ?_)))))));refine k1 ?_;refine ⟨i+1,⟨by omega,by omega,fun j hj hjl=>?_⟩,by omega,(I89 ⟨le1 rfl,le1 rfl,le1 rfl,trivial⟩ trivial)⟩
  by_cases e:j=i
  ·rw [e];exact ht
  ·exact h3 j hj (by omega)
theorem D16 {nd s:Str} {p:Nat} {out:List Int} {f:Nat} (h:y1 nd s f p out=U7 nd s):out.length≤(U7 nd s).length:=by
 have key:∀(f p:Nat) (out:List Int),out.length≤(y1 nd s f p out).length:=by
  intro f
  induction f with
  | zero=>intro p out;exact Nat.le_refl _
  | succ f ih =>
   intro p out
   rw [y1]
   split
   ·exact Nat.le_refl _
   ·rename_i i _
    have:=ih (i+nd.length) (out++[(i:Int)])
    rw [J19] at this
    omega
 rw [←h];exact key f p out
theorem E50 (nd s:Str) (hn:nd.length≤1073741824) (hs:s.length≤16777216):FnOk Tryz.prog 39 [L2 nd,L2 s] (fun rs=>rs=[I0 (U7 nd s)]):=by
 have hpl:=f0 nd s
 refine FnOk.intro Tryz.func39 (by decide) V V V V ?_
 refine k2 (A2 (A6 V V (A4 ?_)));refine k1 (k2 (A2 (C6 (N0 5 _ E3 V) V (A4 ?_))));refine k1 (k2 (A2 (A6 V V (A4 ?_))));refine k1 (k3 (C5 (X:=Nat × List Int) (fun x=>([(0,S3 nd),(1,S3 s),(5,.s (.one (.buf 5 Int 1 E3 x.2))),(6,C0 x.1)],[(5,.spare x.2.length 1 3)])) (fun x=>x.1≤s.length∧y1 nd s (s.length+2 - x.1) x.1 x.2=U7 nd s) (fun x=>s.length+1 - x.1) (0,[]) ⟨Nat.zero_le _,rfl⟩ (I89 ⟨le1 rfl,le1 rfl,le1 rfl,le1 rfl,trivial⟩ ⟨rfl,trivial⟩) ?_))
 rintro ⟨p,out⟩ ⟨hp,hg⟩
 dsimp only at hp hg ⊢
 have hob:=D16 hg
 refine k3 (k2 (A2 (A3 V V (A3 V V (A3 V V (C9 (I55 nd s p hn (by omega) hp) V V V ?_))))));rintro _ rfl;refine A3 V V (H0 V V V (H0 V V V (A6 V V (A6 V V (A4 ?_)))))
 cases hnx:P1 nd s p with
 | none =>
  rw [A02 hnx] at hg
  refine k1 (k2 (k2 (A2 (A3 V V (A5 (R7 V) V (A4 ?_))))));refine k1 ?_;refine B0 rfl (fun ht=>?_) (fun ht=>?_)
  ·refine k2 (A2 (A3 V V (A6 V V (A4 ?_))));refine k1 (k10 (k11 (k12 (k11 (k12 ?_)))))
   exact B6 (rs:=[I0 out]) (G7 rfl rfl rfl) (by rw [hg])
  ·cases ht
 | some i =>
  have hro:=x1 hnx
  have hnp:0 < nd.length:=List.length_pos_iff.2 hro.1
  rw [B07 (by omega) hnx] at hg
  refine k1 (k2 (k2 (A2 (A3 V V (A5 (R7 V) V (A4 ?_))))));refine k1 ?_;refine B0 rfl (fun ht=>?_) (fun ht=>?_)
  ·cases ht
  ·refine k5 (k1 (k2 (A2 (A3 V V (A3 V V (A5 (C1 (c:=E3) (ys:=[(i:Int)]) (D2 V V V V F1) V V V) V (C6 (G9 V V V (.pure _ _ _ _) (by (simp only [J17,J21];omega)) V) V (A6 V V (A4 ?_)))))))));refine k1 (A2 (A3 V V (A3 V V (A5 (J2 V) V (A5 (b8 V V (by (dsimp only [Option.getD];omega))) V ?_)))));refine A6 V V (A4 ?_);refine k4 (k1 ?_);refine ⟨(i+nd.length,out++[(i:Int)]),⟨by dsimp only;omega,?_⟩,by dsimp only;omega,(I89 ⟨le1 rfl,le1 rfl,le1 rfl,le1 rfl,trivial⟩ ⟨rfl,trivial⟩)⟩
   dsimp only
   rw [←hg]
   exact C28 _ _ _ _ (by omega) (by omega)
theorem A31 (nd s:Str) (hn:nd.length≤1073741824) (hs:s.length≤16777216):FnOk Tryz.prog 22 [L2 nd,L2 s] (fun rs=>rs=[E6 (U8 nd s)]):=by
 have hpl:=f0 nd s
 refine FnOk.intro Tryz.func22 (by decide) V V V V ?_
 refine k2 (A2 (A6 V V (A4 ?_)));refine k1 (k2 (A2 (A3 V V (A3 V V (C9 (E50 nd s hn hs) V V V ?_)))));rintro _ rfl;refine E1 V V (A6 V V (A4 ?_));refine k1 (k10 ?_)
 exact B6 (G7 rfl rfl rfl) rfl
theorem G08 {w:World} (h:Grd Tryz.prog (fun _=>False) w):∃m,w.cell? ⟨0,0,none⟩=some (.int .i64 m):=by
 obtain ⟨wg,⟨hsh,_⟩,hle,hk⟩:=h
 obtain ⟨m,hm⟩:=Tryz.laysM143.s1_3 wg hsh
 refine ⟨m,?_⟩
 have hlt:0 < wg.heap.size:=World.block_lt_of_cell? wg _ hm
 rw [World.cell?_of_block (w:=wg) (a:=⟨0,0,none⟩) (hk _ hlt).1]
 exact hm
theorem I56 (s nd:Str) (hs:s.length < 4294967281):FnOk Tryz.prog 82 [L2 s,L2 nd] (fun rs=>rs=[E6 (Lib.index s nd)]) :=
 J02 (xs:=[.string ⟨s.toArray⟩,.string ⟨nd.toArray⟩]) ⟨_,rfl,rfl,rfl⟩ rfl fun w hg=>by
  obtain ⟨m,hm⟩:=G08 hg
  refine (Tryz.strings_Index ⟨s.toArray⟩ ⟨nd.toArray⟩ m w hs hm).mono ?_
  rintro e w' ⟨rfl,rfl⟩
  exact ⟨by simp,rfl,rfl,rfl,Nat.le_refl _,fun _ _=>rfl⟩
theorem G09 (nd s:Str) (p:Nat) (hn:nd.length≤1073741824) (hs:s.length≤1073741824):FnOk Tryz.prog 58 [L2 nd,L2 s,E6 p] (fun rs=>rs=[E6 ((P1 nd s p).getD 0:Nat),H8 (P1 nd s p).isSome]):=by
 refine FnOk.intro Tryz.func58 (by decide) V V V V ?_
 refine k2 (A2 (A6 V V (A6 V V (A4 ?_))));refine k1 (k2 (k2 (A2 (A3 V V (A5 (g9 V V) V (A3 V V (B1 V V V V (fun hg=>by rw [hg];exact B7 V V) ?_)))))));refine B1 V V V V (fun hg=>by rw [hg];exact A04 V V) ?_;refine I5 V V ?_;refine A3 V V (B1 V V V V (fun hg=>by rw [hg];exact B7 V V) ?_);refine B1 V V V V (fun hg=>by rw [hg];exact B7 V V) ?_;refine B1 V V V V (fun hg=>by rw [hg];exact J2 V) ?_;refine B1 V V V V (fun hg=>by rw [hg];exact L7 V V) ?_;refine I5 V V ?_;refine A4 ?_;refine k1 ?_;refine B0 rfl (fun ht=>?_) (fun ht=>?_)
 ·simp only [or_pick] at ht
  have h:=A0 ht
  have hno:P1 nd s p=none:=by
   unfold P1
   rw [if_pos (by rcases h with (h | h) | h<;>first | exact .inl h | exact absurd h (by omega) | exact .inr (.inl (by omega)))]
  rw [hno]
  refine k2 (A2 (A6 V V (A6 V V (A4 ?_))));refine k1 (k10 (k11 ?_))
  exact B6 (rs:=[E6 0,H8 false]) (V5 rfl rfl rfl rfl rfl) rfl
 simp only [or_pick] at ht
 have h:=A1 ht
 have hne:nd≠[]:=fun e=>h (.inl (.inl e))
 have hpl:p≤s.length:=by
  apply Classical.byContradiction
  intro e;exact h (.inr (by omega))
 have hdl:(s.drop p).length≤s.length:=by rw [J27];omega
 have hlo:=Lib.index_ge (s.drop p) nd
 have hhi:=Lib.index_room (s.drop p) nd
 rw [J27] at hhi
 have hnx:P1 nd s p=if Lib.index (s.drop p) nd < 0 then none else some (p+(Lib.index (s.drop p) nd).toNat):=by
  unfold P1
  by_cases h0:Lib.index (s.drop p) nd < 0
  ·rw [if_pos (.inr (.inr h0)),if_pos h0]
  ·rw [if_neg (by simp only [not_or];exact ⟨hne,by omega,h0⟩),if_neg h0]
 obtain ⟨i,hi⟩:∃i,i=Lib.index (s.drop p) nd:=⟨_,rfl⟩
 refine k5 (k1 (k2 (A2 (A3 V V (A3 V V (A5 (H43 V V (by omega) (by omega)) V (A3 V V (C9 (I56 (s.drop p) nd (by omega)) V V V ?_))))))));rintro _ rfl;refine A6 V V (A4 ?_)
 rw [J16,←hi]
 rw [←hi] at hnx hlo hhi
 refine k1 (k2 (k2 (A2 (A3 V V (E7 V V V (A4 ?_))))));refine k1 ?_;refine B0 rfl (fun ht=>?_) (fun ht=>?_)
 ·have h1:i < 0:=A0 ht
  rw [hnx,if_pos h1]
  refine k2 (A2 (A6 V V (A6 V V (A4 ?_))));refine k1 (k10 (k11 ?_))
  exact B6 (rs:=[E6 0,H8 false]) (V5 rfl rfl rfl rfl rfl) rfl
 ·have h1:¬i < 0:=A1 ht
  rw [hnx,if_neg h1]
  refine k5 (k1 (k2 (A2 (A3 V V (A3 V V (D1 V V V (A6 V V (A6 V V (A4 ?_)))))))));refine k1 (k10 (B6 (V5 V V V V V) ?_))
  dsimp only [Option.getD,Option.isSome]
  rw [show (p:Int)+i=((p+i.toNat:Nat):Int) by omega]
theorem E51 (nd s:Str) (hn:nd.length≤1073741824) (hs:s.length≤16777216):FnOk Tryz.prog 32 [L2 nd,L2 s] (fun rs=>rs=[I0 (U7 nd s)]):=by
 have hpl:=f0 nd s
 refine FnOk.intro Tryz.func32 (by decide) V V V V ?_
 refine k2 (A2 (A6 V V (A4 ?_)));refine k1 (k2 (A2 (C6 (N0 5 _ E3 V) V (A4 ?_))));refine k1 (k2 (A2 (A3 V V (A3 V V (C9 (G09 nd s 0 hn (by omega)) V V V ?_)))));rintro _ rfl;refine A3 V V (H0 V V V (H0 V V V (A6 V V (A6 V V (A4 ?_)))));refine k1 (k2 (k3 (C5 (X:=Nat × List Int) (fun x=>([(0,S3 nd),(1,S3 s),(5,.s (.one (.buf 5 Int 1 E3 x.2))),(6,C0 ((P1 nd s x.1).getD 0:Nat)),(7,P6 (P1 nd s x.1).isSome)],[(5,.spare x.2.length 1 3)])) (fun x=>x.1≤s.length∧y1 nd s (s.length+2 - x.1) x.1 x.2=U7 nd s) (fun x=>s.length+1 - x.1) (0,[]) ⟨Nat.zero_le _,rfl⟩ (I89 ⟨le1 rfl,le1 rfl,le1 rfl,le1 rfl,le1 rfl,trivial⟩ ⟨rfl,trivial⟩) ?_)))
 rintro ⟨p,out⟩ ⟨hp,hg⟩
 dsimp only at hp hg ⊢
 have hob:=D16 hg
 refine k2 (k2 (A2 (A3 V V (A4 ?_))));refine k1 ?_
 cases hnx:P1 nd s p with
 | none =>
  rw [A02 hnx] at hg
  refine B0 rfl (fun ht=>?_) (fun ht=>?_)
  ·cases ht
  ·refine k6 (k2 (A2 (A3 V V (A6 V V (A4 ?_)))));refine k1 (k10 ?_)
   exact B6 (rs:=[I0 out]) (G7 rfl rfl rfl) (by rw [hg])
 | some i =>
  have hro:=x1 hnx
  have hnp:0 < nd.length:=List.length_pos_iff.2 hro.1
  rw [B07 (by omega) hnx] at hg
  refine B0 rfl (fun ht=>?_) (fun ht=>?_)
  ·refine k5 (k1 (k3 (k2 (A2 (A3 V V (A3 V V (A5 (C1 (c:=E3) (ys:=[(i:Int)]) (D2 V V V V F1) V V V) V (C6 (G9 V V V (.pure _ _ _ _) (by (simp only [J17,J21];omega)) V) V (A6 V V (A4 ?_))))))))));refine k1 ?_
   dsimp only [Option.getD]
   refine A2 (A3 V V (A3 V V (A3 V V (A3 V V (A5 (J2 V) V (D1 V V V (C9 ((show FnOk Tryz.prog 58 [L2 nd,L2 s,E6 ((i:Int)+(nd.length:Int))] (fun rs=>rs=[E6 ((P1 nd s (i+nd.length)).getD 0:Nat),H8 (P1 nd s (i+nd.length)).isSome]) from by rw [show (i:Int)+(nd.length:Int)=((i+nd.length:Nat):Int) by omega];exact G09 nd s (i+nd.length) hn (by omega))) V V V ?_)))))));rintro _ rfl;refine A3 V V (H0 V V V (H0 V V V (A6 V V (A6 V V (A4 ?_)))));refine k4 (k1 ?_);refine ⟨(i+nd.length,out++[(i:Int)]),⟨by dsimp only;omega,?_⟩,by dsimp only;omega,(I89 ⟨le1 rfl,le1 rfl,le1 rfl,le1 rfl,le1 rfl,trivial⟩ ⟨rfl,trivial⟩)⟩
   dsimp only
   rw [←hg]
   exact C28 _ _ _ _ (by omega) (by omega)
  ·cases ht
theorem B68 (nd s:Str) (hn:nd.length≤1073741824) (hs:s.length≤16777216):FnOk Tryz.prog 19 [L2 nd,L2 s] (fun rs=>rs=[E6 (U8 nd s)]):=by
 have hpl:=f0 nd s
 refine FnOk.intro Tryz.func19 (by decide) V V V V ?_
 refine k2 (A2 (A6 V V (A4 ?_)));refine k1 (k2 (A2 (A3 V V (A3 V V (C9 (E51 nd s hn hs) V V V ?_)))));rintro _ rfl;refine E1 V V (A6 V V (A4 ?_));refine k1 (k10 ?_)
 exact B6 (G7 rfl rfl rfl) rfl
set_option maxHeartbeats 1000000
theorem A72 {g:Graph} {c:Nat} {cm:Commit} (h:g[c]?=some cm):R6 g c=cm.Files:=by unfold R6;rw [h];rfl
def X2 (g:Graph) (ps:List Int) (i:Nat):List (List File):=(ps.take i).map fun p=>R6 g p.toNat
theorem C46 {g:Graph} {ps:List Int} {i:Nat} (h:i < ps.length):X2 g ps (i+1)=X2 g ps i++[R6 g ps[i].toNat]:=by
 unfold X2
 rw [List.take_add_one,J14 h,Option.toList_some,J48];rfl
theorem D17 (g:Graph) (ps:List Int) (i:Nat):(X2 g ps i).length≤i:=by
 unfold X2;rw [J32,J24];omega
theorem H99 (g:Graph) (c:Int) (h:FewT g):FnOk Tryz.prog 25 [I1 g,E6 c] (fun rs=>rs=[E6 (T6 g c)]):=by
 refine FnOk.intro Tryz.func25 (by decide) V V V V ?_
 refine k2 (A2 (A6 V V (A4 ?_)));refine k1 (k2 (k2 (A2 (A3 V V (C9 (H54 g h) V V V ?_)))));rintro _ rfl;refine A6 V V (A4 ?_);refine k1 (k2 (A2 (A3 V V (A5 (Q9 V V) V (A4 ?_)))));refine k1 ?_;refine B0 rfl (fun ht=>?_) (fun ht=>?_)
 ·have h1:J0 g≠0:=A0 ht
  refine k2 (A2 (A3 V V (A6 V V (A4 ?_))));refine k1 (k10 (k11 ?_))
  exact B6 (rs:=[E6 (J0 g)]) (G7 rfl rfl rfl) (by unfold T6;rw [if_pos h1])
 have h1:¬J0 g≠0:=A1 ht
 refine k5 (k1 (k2 (k2 (A2 (A3 V V (E7 V V V (A3 V V (B1 V V V V (fun hg=>by rw [hg];exact B7 V V) ?_))))))));refine B1 V V V V (fun hg=>by rw [hg];exact B7 V V) ?_;refine B1 V V V V (fun hg=>by rw [hg];exact U0 V (.pure _ _ _ _)) ?_;refine B1 V V V V (fun hg=>by rw [hg];exact X7 V V) ?_;refine I5 V V ?_;refine A4 ?_;refine k1 ?_;refine B0 rfl (fun ht=>?_) (fun ht=>?_)
 ·have h2:=A0 (or_pick.symm.trans ht)
  refine k2 (A2 (A6 V V (A4 ?_)));refine k1 (k10 (k11 ?_))
  exact B6 (rs:=[E6 5]) (G7 rfl rfl rfl) (by unfold T6;rw [if_neg h1,if_neg (fun h=>by unfold U9 at h;omega)])
 ·have h2:=A1 (or_pick.symm.trans ht)
  refine k5 (k1 (k2 (A2 (A6 V V (A4 ?_)))));refine k1 (k10 ?_)
  exact B6 (rs:=[E6 0]) (G7 rfl rfl rfl) (by unfold T6;rw [if_neg h1,if_pos (by unfold U9;omega)])
theorem I00 (g:Graph) (c:Nat) (hf:FewG g) (hr:related g=true) (hc:c < g.length):FnOk Tryz.prog 36 [I1 g,E6 c] (fun rs=>rs=[B70 (N9 g c)]):=by
 obtain ⟨cm,hcm⟩:∃cm,cm=g[c]:=⟨_,rfl⟩
 have hv:g[((c:Nat):Int).toNat]?=some cm:=by rw [hcm];simp [hc]
 have hps:E9 g c=cm.Parents:=by rw [V9 hc,hcm]
 have hpr:=(J4 hr c).1
 have hpl:=hf.pars cm (by rw [hcm];exact J18 hc)
 have htr:N9 g c=if cm.Parents=[] then [[]] else X2 g cm.Parents cm.Parents.length:=by unfold N9 X2;rw [hps,J22]
 rw [hps] at hpr
 rw [htr]
 refine FnOk.intro Tryz.func36 (by decide) V V V V ?_
 refine k2 (A2 (A6 V V (A4 ?_)));refine k1 (k2 (k2 (A2 (A3 V V (A3 V V (A5 (A8 V (.pure _ _ _ _) V (by omega) hv) V (A5 (B8 V) V (A5 (A7 V V) V (E1 V V (A5 (F8 V V) V (A4 ?_)))))))))));refine k1 ?_;refine B0 rfl (fun ht=>?_) (fun ht=>?_)
 ·have h1:cm.Parents=[]:=by
   have h1:=A0 ht
   exact List.length_eq_zero_iff.1 (by omega)
  rw [if_pos h1]
  refine k2 (A2 (A5 (C1 (c:=n6) (ys:=[[]]) (F88 V V F1) V V V) V (A6 V V (A4 ?_))));refine k1 (k10 (k11 ?_))
  exact B6 (rs:=[B70 [[]]]) (G7 rfl rfl rfl) rfl
 have h1:¬cm.Parents=[]:=fun e=>by
  have h1:=A1 ht
  rw [e] at h1;exact h1 rfl
 rw [if_neg h1]
 refine k5 (k1 (k2 (A2 (C6 (N0 5 _ n6 V) V (A4 ?_)))));refine k1 (k2 (k2 (A2 (A6 V V (A4 ?_)))));refine k1 (k3 (C5 (X:=Nat) (fun i=>([(0,C7 Commit 3 F6 g),(1,C0 c),(5,.s (.one (.buf 5 (List File) 1 n6 (X2 g cm.Parents i)))),(6,C0 i)],[(5,.spare (X2 g cm.Parents i).length 1 34)])) (fun i=>i≤cm.Parents.length) (fun i=>cm.Parents.length - i) 0 (Nat.zero_le _) (I89 ⟨le1 rfl,le1 rfl,le1 rfl,le1 rfl,trivial⟩ ⟨rfl,trivial⟩) ?_))
 intro i hi
 dsimp only at hi ⊢
 have hul:=D17 g cm.Parents i
 refine k2 (k2 (A2 (A3 V V (A3 V V (A3 V V (A5 (A8 V (.pure _ _ _ _) V (by omega) hv) V (A5 (B8 V) V (A5 (A7 V V) V (E1 V V (E7 V V V (A4 ?_)))))))))));refine k1 ?_;refine B0 rfl (fun ht=>?_) (fun ht=>?_)
 ·have hlt:i < cm.Parents.length:=by have h1:=A0 ht;(try dsimp only at h1);omega
  have hpb:=hpr _ (J18 hlt)
  obtain ⟨p,hp⟩:∃p:Nat,cm.Parents[i]=(p:Int):=⟨cm.Parents[i].toNat,by omega⟩
  have hvp:cm.Parents[i]?=some (p:Int):=by rw [J14 hlt,hp]
  obtain ⟨pm,hpm⟩:∃pm,pm=g[p]:=⟨_,rfl⟩
  have hvpm:g[((p:Nat):Int).toNat]?=some pm:=by rw [hpm,J16];simp [show p < g.length by omega]
  have hs:=C46 (g:=g) hlt
  rw [hp,J16,A72 (by rw [J16] at hvpm;exact hvpm)] at hs
  refine k5 (k1 (k2 (k3 (A2 (A3 V V (A3 V V (A3 V V (A3 V V (A5 (A8 V (.pure _ _ _ _) V (by omega) hv) V (A5 (B8 V) V (A5 (A7 V V) V (A3 V V (A5 (A8 V (.pure _ _ _ _) V (by omega) hvp) V (A5 (A7 V V) V (A5 (A8 V (.pure _ _ _ _) V (by omega) hvpm) V (A5 (B8 V) V (A5 (A7 V V) V (A5 (C1 (c:=n6) (ys:=[pm.Files]) (D2 V V V V F1) V V V) V (C6 (G9 V V V (.pure _ _ _ _) (by (simp only [J17,J21];omega)) V) V (A6 V V (A4 ?_)))))))))))))))))))));refine k4 (k1 (A2 (A3 V V (D1 V V V (A6 V V (A4 ?_))))));refine k1 ?_;refine ⟨i+1,by omega,by omega,?_⟩
  rw [hs]
  exact (I89 ⟨le1 rfl,le1 rfl,le1 rfl,le1 rfl,trivial⟩ ⟨rfl,trivial⟩)
 ·have hie:i=cm.Parents.length:=by have h1:=A1 ht;(try dsimp only at h1);omega
  rw [hie]
  refine k6 (k2 (A2 (A3 V V (A6 V V (A4 ?_)))));refine k1 (k10 ?_)
  exact B6 (rs:=[B70 (X2 g cm.Parents cm.Parents.length)]) (G7 rfl rfl rfl) rfl
set_option maxHeartbeats 1000000
theorem merge_a {a:Str} {xs bs:List Str} (h:bs=[]∨∃b r,bs=b::r∧ltS a b=true):O4 (a::xs) bs=a::O4 xs bs:=by
 rcases h with rfl | ⟨b,r,rfl,h⟩
 ·rw [O4,Y6]
 ·rw [O4,Y6,if_pos h]
theorem merge_b {xs:List Str} {b:Str} {bs:List Str} (h:xs=[]∨∃a r,xs=a::r∧ltS b a=true):O4 xs (b::bs)=b::O4 xs bs:=by
 rcases h with rfl | ⟨a,r,rfl,h⟩
 ·rfl
 ·rw [O4,Y6,if_neg (by rw [E96 h];decide),if_pos h];rfl
theorem I57 {a b:Str} {xs bs:List Str} (h1:ltS a b=false) (h2:ltS b a=false):O4 (a::xs) (b::bs)=a::O4 xs bs:=by
 rw [O4,Y6,if_neg (by rw [h1];decide),if_neg (by rw [h2];decide)]
theorem C90 (xs bs:List Str):(O4 xs bs).length≤xs.length+bs.length:=by
 have key:∀(xs:List Str),∀bs,(O4 xs bs).length≤xs.length+bs.length:=by
  intro xs
  induction xs with
  | nil=>intro bs;simp [O4]
  | cons a xs ih =>
   intro bs
   rw [O4]
   induction bs with
   | nil=>rw [Y6];have:=ih [];simp only [J21,J17] at this ⊢;omega
   | cons b bs ihb =>
    rw [Y6]
    split
    ·have:=ih (b::bs);simp only [J17] at this ⊢;omega
    ·split
     ·simp only [J17] at ihb ⊢;omega
     ·have:=ih bs;simp only [J17] at this ⊢;omega
 exact key xs bs
abbrev Q1 (l:List File):List Str:=l.map (·.Path)
theorem I01 (a b:List File) (ha:a.length≤1048576) (hb:b.length≤1048576):FnOk Tryz.prog 62 [O3 a,O3 b] (fun rs=>rs=[B23 (O4 (Q1 a) (Q1 b))]):=by
 have hml:=C90 (Q1 a) (Q1 b)
 rw [J32,J32] at hml
 obtain ⟨M,hM⟩:∃M,M=O4 (Q1 a) (Q1 b):=⟨_,rfl⟩
 rw [←hM] at hml ⊢
 refine FnOk.intro Tryz.func62 (by decide) V V V V ?_
 refine k2 (A2 (A6 V V (A4 ?_)));refine k1 (k2 (A2 (C6 (N0 5 _ P9 V) V (A4 ?_))));refine k1 (k2 (A2 (A6 V V (A6 V V (A4 ?_)))));refine k1 (k2 (k3 (C5 (X:=Nat × Nat × List Str) (fun x=>([(0,C7 File 2 Q4 a),(1,C7 File 2 Q4 b),(5,.s (.one (.buf 5 Str 1 P9 x.2.2))),(6,C0 x.1),(7,C0 x.2.1)],[(5,.spare x.2.2.length 1 9)])) (fun x=>x.1≤a.length∧x.2.1≤b.length∧x.2.2++O4 (Q1 (a.drop x.1)) (Q1 (b.drop x.2.1))=M) (fun x=>a.length - x.1+(b.length - x.2.1)) (0,0,[]) ⟨Nat.zero_le _,Nat.zero_le _,by rw [hM];rfl⟩ (I89 ⟨le1 rfl,le1 rfl,le1 rfl,le1 rfl,le1 rfl,trivial⟩ ⟨rfl,trivial⟩) ?_)))
 rintro ⟨i,j,out⟩ ⟨hi,hj,hm⟩
 dsimp only at hi hj hm ⊢
 have hol:out.length≤M.length:=by rw [←hm,J19];omega
 refine k2 (k2 (A2 (A3 V V (A3 V V (E1 V V (E7 V V V (A3 V V (B1 V V V V (fun hg=>by rw [hg];exact B7 V V) ?_))))))));refine B1 V V V V (fun hg=>by rw [hg];exact B7 V V) ?_;refine B1 V V V V (fun hg=>by rw [hg];exact U0 V (.pure _ _ _ _)) ?_;refine B1 V V V V (fun hg=>by rw [hg];exact A04 V V) ?_;refine I5 V V ?_;refine A4 ?_;refine k1 ?_;refine B0 rfl (fun ht=>?_) (fun ht=>?_)
 rotate_left
 ·have h1:=A1 (or_pick.symm.trans ht)
  have h2:i=a.length:=by omega
  have h3:j=b.length:=by omega
  rw [h2,h3,List.drop_length,List.drop_length] at hm
  have hm:out++[]=M:=hm
  rw [J43] at hm
  refine k6 (k2 (A2 (A3 V V (A6 V V (A4 ?_)))));refine k1 (k10 ?_)
  exact B6 (rs:=[B23 out]) (G7 rfl rfl rfl) (by rw [hm])
 have hor:=A0 (or_pick.symm.trans ht)
 obtain ⟨x,hx⟩:∃x,x=a.getD i ⟨[],[]⟩:=⟨_,rfl⟩
 obtain ⟨y,hy⟩:∃y,y=b.getD j ⟨[],[]⟩:=⟨_,rfl⟩
 have hva:(i:Int) < a.length→a[((i:Nat):Int).toNat]?=some x:=fun h=>by rw [hx,J16,J20,J14 (by omega)];rfl
 have hvb:¬(j:Int)=b.length→b[((j:Nat):Int).toNat]?=some y:=fun h=>by rw [hy,J16,J20,J14 (by omega)];rfl
 have hda:i < a.length→Q1 (a.drop i)=x.Path::Q1 (a.drop (i+1)):=fun h=>by
  rw [J23 h,hx,J20,J14 h];rfl
 have hdb:j < b.length→Q1 (b.drop j)=y.Path::Q1 (b.drop (j+1)):=fun h=>by
  rw [J23 h,hy,J20,J14 h];rfl
 have hnb:j=b.length→Q1 (b.drop j)=[]:=fun h=>by rw [h,List.drop_length];rfl
 have hna:i=a.length→Q1 (a.drop i)=[]:=fun h=>by rw [h,List.drop_length];rfl
 refine k5 (k1 (k3 (k3 (k2 (D9 (by kernel_rfl) (by kernel_rfl) (D8 V V (D8 V V (B5 (U0 V (.pure _ _ _ _)) V V (B5 (F8 V V) V V (D8 V V (C8 V V (fun hg=>by rw [hg];exact B7 V V) V V ?_)))))))))));refine C8 V V (fun hg=>by rw [hg];exact B7 V V) V V ?_;refine C8 V V (fun hg=>by rw [hg];exact U0 V (.pure _ _ _ _)) V V ?_;refine C8 V V (fun hg=>by rw [hg];exact A04 V V) V V ?_;refine C8 V V (fun hg=>by rw [hg];exact B7 V V) V V ?_;refine L8 V V (.gd (.val _)) (fun hg=>by obtain ⟨hg1,hg2⟩:=K0 hg;(try rw [hg1]);(try rw [hg2]);exact B7 V V) V V ?_;refine L8 V V (.gd (.val _)) (fun hg=>by obtain ⟨hg1,hg2⟩:=K0 hg;(try rw [hg1]);(try rw [hg2]);exact B7 V V) V V ?_;refine L8 V V (.gd (.val _)) (fun hg=>by have hq:=hg;(try simp at hq);obtain ⟨hg1,hg2⟩:=K0 hg;(try rw [hg1]);(try rw [hg2]);exact A8 V (.pure _ _ _ _) V (by omega) (hva (A0 hg2))) V V ?_;refine L8 V V (.gd (.val _)) (fun hg=>by obtain ⟨hg1,hg2⟩:=K0 hg;(try rw [hg1]);(try rw [hg2]);exact B8 V) V V ?_;refine L8 V V (.gd (.val _)) (fun hg=>by obtain ⟨hg1,hg2⟩:=K0 hg;(try rw [hg1]);(try rw [hg2]);exact A7 V V) V V ?_;refine L8 V V (.gd (.val _)) (fun hg=>by obtain ⟨hg1,hg2⟩:=K0 hg;(try rw [hg1]);(try rw [hg2]);exact B7 V V) V V ?_;refine L8 V V (.gd (.val _)) (fun hg=>by obtain ⟨hg1,hg2⟩:=K0 hg;(try rw [hg1]);(try rw [hg2]);exact B7 V V) V V ?_;refine L8 V V (.gd (.val _)) (fun hg=>by have hq:=hg;(try simp at hq);obtain ⟨hg1,hg2⟩:=K0 hg;(try rw [hg1]);(try rw [hg2]);exact A8 V (.pure _ _ _ _) V (by omega) (hvb (A1 hg1))) V V ?_;refine L8 V V (.gd (.val _)) (fun hg=>by obtain ⟨hg1,hg2⟩:=K0 hg;(try rw [hg1]);(try rw [hg2]);exact B8 V) V V ?_;refine L8 V V (.gd (.val _)) (fun hg=>by obtain ⟨hg1,hg2⟩:=K0 hg;(try rw [hg1]);(try rw [hg2]);exact A7 V V) V V ?_;refine L8 V V (.gd (.val _)) (fun hg=>by obtain ⟨hg1,hg2⟩:=K0 hg;(try rw [hg1]);(try rw [hg2]);exact H42 V V) V V ?_;refine C8 V V (fun hg=>by rw [hg];exact I9 V (fun h=>by first | rfl | (rw [h];rfl)) (fun h=>by first | rfl | (rw [h];rfl))) V V ?_;refine B5 (I9 V (fun h=>by first | rfl | (rw [h];rfl)) (fun h=>by first | rfl | (rw [h];rfl))) V V ?_;refine B5 (H5 V V) V V (N3 ?_);refine k1 ?_;refine B0 rfl (fun ht=>?_) (fun ht=>?_)
 ·have hA:i < a.length∧(j=b.length∨ltS x.Path y.Path=true):=by
   by_cases h1:j=b.length
   ·exact ⟨by omega,.inl h1⟩
   ·by_cases h2:i < a.length
    ·refine ⟨h2,.inr ?_⟩
     simpa [show ¬(j:Int)=b.length by omega,show (i:Int) < a.length by omega,AL.gd] using ht
    ·simp [show ¬(j:Int)=b.length by omega,show ¬(i:Int) < a.length by omega,AL.gd] at ht
  have hma:O4 (Q1 (a.drop i)) (Q1 (b.drop j))=x.Path::O4 (Q1 (a.drop (i+1))) (Q1 (b.drop j)):=by
   rw [hda hA.1]
   refine merge_a ?_
   rcases hA.2 with h | h
   ·exact .inl (hnb h)
   ·by_cases h1:j=b.length
    ·exact .inl (hnb h1)
    ·exact .inr ⟨y.Path,_,hdb (by omega),h⟩
  rw [hma] at hm
  refine k2 (A2 (A3 V V (A3 V V (A3 V V (A5 (A8 V (.pure _ _ _ _) V (by omega) (hva (by omega))) V (A5 (B8 V) V (A5 (A7 V V) V (A5 (C1 (c:=P9) (ys:=[x.Path]) (D2 V V V V F1) V V V) V (C6 (G9 V V V (.pure _ _ _ _) (by (simp only [J17,J21];omega)) V) V (A6 V V (A4 ?_)))))))))));refine k1 (A2 (A3 V V (D1 V V V (A6 V V (A4 ?_)))));refine k4 (k4 (k1 ?_))
  exact ⟨(i+1,j,out++[x.Path]),⟨by dsimp only;omega,hj,by dsimp only;rw [←hm];simp⟩,by dsimp only;omega,(I89 ⟨le1 rfl,le1 rfl,le1 rfl,le1 rfl,le1 rfl,trivial⟩ ⟨rfl,trivial⟩)⟩
 have hA:j < b.length∧(i < a.length→ltS x.Path y.Path=false):=by
  by_cases h1:j=b.length
  ·simp [h1,AL.gd] at ht
  ·refine ⟨by omega,fun h2=>?_⟩
   simpa [show ¬(j:Int)=b.length by omega,show (i:Int) < a.length by omega,AL.gd] using ht
 refine k2 (D9 (by kernel_rfl) (by kernel_rfl) (D8 V V (D8 V V (B5 (U0 V (.pure _ _ _ _)) V V (B5 (F8 V V) V V (D8 V V (C8 V V (fun hg=>by rw [hg];exact B7 V V) V V ?_)))))));refine C8 V V (fun hg=>by rw [hg];exact B7 V V) V V ?_;refine C8 V V (fun hg=>by have hq:=hg;(try simp at hq);rw [hg];exact A8 V (.pure _ _ _ _) V (by omega) (hvb (by omega))) V V ?_;refine C8 V V (fun hg=>by rw [hg];exact B8 V) V V ?_;refine C8 V V (fun hg=>by rw [hg];exact A7 V V) V V ?_;refine C8 V V (fun hg=>by rw [hg];exact B7 V V) V V ?_;refine C8 V V (fun hg=>by rw [hg];exact B7 V V) V V ?_;refine C8 V V (fun hg=>by have hq:=hg;(try simp at hq);rw [hg];exact A8 V (.pure _ _ _ _) V (by omega) (hva (by omega))) V V ?_;refine C8 V V (fun hg=>by rw [hg];exact B8 V) V V ?_;refine C8 V V (fun hg=>by rw [hg];exact A7 V V) V V ?_;refine C8 V V (fun hg=>by rw [hg];exact H42 V V) V V ?_;refine B5 (I9 V (fun h=>by first | rfl | (rw [h];rfl)) (fun h=>by first | rfl | (rw [h];rfl))) V V ?_;refine B5 (H5 V V) V V (N3 ?_);refine k1 ?_
 rw [E14]
 refine B0 rfl (fun ht=>?_) (fun ht=>?_)
 ·have hB:i=a.length∨ltS y.Path x.Path=true:=by
   rw [J31,decide_eq_true_eq] at ht
   rcases ht with h | h
   ·left;omega
   ·exact .inr h
  have hmb:O4 (Q1 (a.drop i)) (Q1 (b.drop j))=y.Path::O4 (Q1 (a.drop i)) (Q1 (b.drop (j+1))):=by
   rw [hdb hA.1]
   refine merge_b ?_
   rcases hB with h | h
   ·exact .inl (hna h)
   ·by_cases h1:i=a.length
    ·exact .inl (hna h1)
    ·exact .inr ⟨x.Path,_,hda (by omega),h⟩
  rw [hmb] at hm
  refine k2 (A2 (A3 V V (A3 V V (A3 V V (A5 (A8 V (.pure _ _ _ _) V (by omega) (hvb (by omega))) V (A5 (B8 V) V (A5 (A7 V V) V (A5 (C1 (c:=P9) (ys:=[y.Path]) (D2 V V V V F1) V V V) V (C6 (G9 V V V (.pure _ _ _ _) (by (simp only [J17,J21];omega)) V) V (A6 V V (A4 ?_)))))))))));refine k1 (A2 (A3 V V (D1 V V V (A6 V V (A4 ?_)))));refine k4 (k4 (k1 ?_))
  exact ⟨(i,j+1,out++[y.Path]),⟨hi,by dsimp only;omega,by dsimp only;rw [←hm];simp⟩,by dsimp only;omega,(I89 ⟨le1 rfl,le1 rfl,le1 rfl,le1 rfl,le1 rfl,trivial⟩ ⟨rfl,trivial⟩)⟩
 ·rw [J41,decide_eq_false_iff_not] at ht
  have hil:i < a.length:=by omega
  have h2:ltS y.Path x.Path=false:=ht.2
  rw [hda hil,hdb hA.1,I57 (hA.2 hil) h2] at hm
  refine k2 (A2 (A3 V V (A3 V V (A3 V V (A5 (A8 V (.pure _ _ _ _) V (by omega) (hva (by omega))) V (A5 (B8 V) V (A5 (A7 V V) V (A5 (C1 (c:=P9) (ys:=[x.Path]) (D2 V V V V F1) V V V) V (C6 (G9 V V V (.pure _ _ _ _) (by (simp only [J17,J21];omega)) V) V (A6 V V (A4 ?_)))))))))));refine k1 (A2 (A3 V V (D1 V V V (A3 V V (D1 V V V (A6 V V (A6 V V (A4 ?_))))))));refine k4 (k4 (k1 ?_))
  exact ⟨(i+1,j+1,out++[x.Path]),⟨by dsimp only;omega,by dsimp only;omega,by dsimp only;rw [←hm];simp⟩,by dsimp only;omega,(I89 ⟨le1 rfl,le1 rfl,le1 rfl,le1 rfl,le1 rfl,trivial⟩ ⟨rfl,trivial⟩)⟩
def d5 (a b:List File) (l:List Str) (i:Nat):List Delta:=(l.take i).filterMap (Y7 a b)
theorem E52 {a b:List File} {l:List Str} {i:Nat} (h:i < l.length):d5 a b l (i+1)=d5 a b l i++(Y7 a b l[i]).toList:=by
 have e:[l[i]].filterMap (Y7 a b)=(Y7 a b l[i]).toList:=by
  cases hd:Y7 a b l[i] with
  | none=>rw [List.filterMap_cons_none hd];rfl
  | some d=>rw [List.filterMap_cons_some hd];rfl
 unfold d5
 rw [List.take_add_one,J14 h,Option.toList_some,List.filterMap_append,e]
theorem F40 (a b:List File) (l:List Str) (i:Nat):(d5 a b l i).length≤l.length:=by
 unfold d5
 have:=List.length_filterMap_le (Y7 a b) (l.take i)
 rw [J24] at this;omega
theorem G74 (a b:List File) (ha:a.length≤1048576) (hb:b.length≤1048576):FnOk Tryz.prog 37 [O3 a,O3 b] (fun rs=>rs=[C55 (R1 a b)]):=by
 have hml:=C90 (Q1 a) (Q1 b)
 rw [J32,J32] at hml
 obtain ⟨M,hM⟩:∃M,M=O4 (Q1 a) (Q1 b):=⟨_,rfl⟩
 have hres:R1 a b=d5 a b M M.length:=by unfold R1 d5;rw [J22,hM]
 rw [←hM] at hml
 rw [hres]
 refine FnOk.intro Tryz.func37 (by decide) V V V V ?_
 refine k2 (A2 (A6 V V (A4 ?_)));refine k1 (k2 (A2 (C6 (N0 5 _ j6 V) V (A4 ?_))));refine k1 (k2 (A2 (A3 V V (A3 V V (C9 (I01 a b ha hb) V V V ?_)))));rintro _ rfl;refine A6 V V (A4 ?_)
 rw [←hM]
 refine k1 (k2 (k2 (A2 (A6 V V (A4 ?_)))));refine k1 (k3 (C5 (X:=Nat) (fun i=>([(0,C7 File 2 Q4 a),(1,C7 File 2 Q4 b),(5,.s (.one (.buf 5 Delta 2 j6 (d5 a b M i)))),(6,C7 Str 1 P9 M),(7,C0 i)],[(5,.spare (d5 a b M i).length 2 73)])) (fun i=>i≤M.length) (fun i=>M.length - i) 0 (Nat.zero_le _) (I89 ⟨le1 rfl,le1 rfl,le1 rfl,le1 rfl,le1 rfl,trivial⟩ ⟨rfl,trivial⟩) ?_))
 intro i hi
 dsimp only at hi ⊢
 have hdl:=F40 a b M i
 refine k2 (k2 (A2 (A3 V V (A3 V V (E1 V V (E7 V V V (A4 ?_)))))));refine k1 ?_;refine B0 rfl (fun ht=>?_) (fun ht=>?_)
 rotate_left
 ·have hie:i=M.length:=by have h1:=A1 ht;(try dsimp only at h1);omega
  rw [hie]
  refine k6 (k2 (A2 (A3 V V (A6 V V (A4 ?_)))));refine k1 (k10 ?_)
  exact B6 (rs:=[C55 (d5 a b M M.length)]) (G7 rfl rfl rfl) rfl
 have hlt:i < M.length:=by have h1:=A0 ht;(try dsimp only at h1);omega
 have hs:=E52 (a:=a) (b:=b) hlt
 obtain ⟨p,hp⟩:∃p,p=M[i]:=⟨_,rfl⟩
 have hv:M[i]?=some p:=by rw [hp];simp [hlt]
 rw [←hp] at hs
 refine k5 (k1 (k2 (k3 (k2 (A2 (A3 V V (A3 V V (A3 V V (A5 (A8 V (.pure _ _ _ _) V (by omega) hv) V (A5 (A7 V V) V (C9 (C41 a p (by omega)) V V V ?_)))))))))));rintro _ rfl;refine A3 V V (H0 V V V (H0 V V V (A6 V V (A6 V V (A4 ?_)))));refine k1 (k2 (A2 (A3 V V (A3 V V (A3 V V (A5 (A8 V (.pure _ _ _ _) V (by omega) hv) V (A5 (A7 V V) V (C9 (C41 b p (by omega)) V V V ?_))))))));rintro _ rfl;refine A3 V V (H0 V V V (H0 V V V (A6 V V (A6 V V (A4 ?_)))));refine k1 (k3 (k2 ?_))
 unfold Y7 at hs
 cases hfa:J1 a p with
 | none =>
  rw [hfa] at hs
  refine A2 (A3 V V (A5 (R7 V) V (A6 V V (A4 ?_))));refine k1 ?_;refine B0 rfl (fun ht=>?_) (fun ht=>?_)
  rotate_left
  ·cases ht
  skip
  refine A2 (A3 V V (A3 V V (A3 V V (A5 (A8 V (.pure _ _ _ _) V (by omega) hv) V (A5 (A7 V V) V (A5 (J3 V) V (A5 (C1 (c:=j6) (ys:=[⟨p,1⟩]) (D2 V V V V F1) V V V) V (C6 (G9 V V V (.pure _ _ _ _) (by (simp only [J17,J21];omega)) V) V (A6 V V (A4 ?_))))))))));refine k4 (k4 (k1 (A2 (A3 V V (D1 V V V (A6 V V (A4 ?_)))))));refine k1 ?_;refine ⟨i+1,hlt,by omega,?_⟩
  rw [hs]
  exact (I89 ⟨le1 rfl,le1 rfl,le1 rfl,le1 rfl,le1 rfl,trivial⟩ ⟨rfl,trivial⟩)
 | some x =>
  rw [hfa] at hs
  refine A2 (A3 V V (A5 (R7 V) V (A6 V V (A4 ?_))));refine k1 ?_;refine B0 rfl (fun ht=>?_) (fun ht=>?_)
  ·cases ht
  refine k2 ?_
  cases hfb:J1 b p with
  | none =>
   rw [hfb] at hs
   refine A2 (A3 V V (A5 (R7 V) V (A6 V V (A4 ?_))));refine k1 ?_;refine B0 rfl (fun ht=>?_) (fun ht=>?_)
   rotate_left
   ·cases ht
   skip
   refine A2 (A3 V V (A3 V V (A3 V V (A5 (A8 V (.pure _ _ _ _) V (by omega) hv) V (A5 (A7 V V) V (A5 (J3 V) V (A5 (C1 (c:=j6) (ys:=[⟨p,2⟩]) (D2 V V V V F1) V V V) V (C6 (G9 V V V (.pure _ _ _ _) (by (simp only [J17,J21];omega)) V) V (A6 V V (A4 ?_))))))))));refine k4 (k4 (k1 (A2 (A3 V V (D1 V V V (A6 V V (A4 ?_)))))));refine k1 ?_;refine ⟨i+1,hlt,by omega,?_⟩
   rw [hs]
   exact (I89 ⟨le1 rfl,le1 rfl,le1 rfl,le1 rfl,le1 rfl,trivial⟩ ⟨rfl,trivial⟩)
  | some y =>
   rw [hfb] at hs
   dsimp only at hs
   refine A2 (A3 V V (A5 (R7 V) V (A6 V V (A4 ?_))));refine k1 ?_;refine B0 rfl (fun ht=>?_) (fun ht=>?_)
   ·cases ht
   refine k2 (A2 (A3 V V (A3 V V (A5 (D46 V V) V (A6 V V (A4 ?_))))));refine k1 ?_;refine B0 rfl (fun ht=>?_) (fun ht=>?_)
   ·have h1:x≠y:=A0 ht
    rw [if_pos h1] at hs
    skip
    refine A2 (A3 V V (A3 V V (A3 V V (A5 (A8 V (.pure _ _ _ _) V (by omega) hv) V (A5 (A7 V V) V (A5 (J3 V) V (A5 (C1 (c:=j6) (ys:=[⟨p,3⟩]) (D2 V V V V F1) V V V) V (C6 (G9 V V V (.pure _ _ _ _) (by (simp only [J17,J21];omega)) V) V (A6 V V (A4 ?_))))))))));refine k4 (k4 (k1 (A2 (A3 V V (D1 V V V (A6 V V (A4 ?_)))))));refine k1 ?_;refine ⟨i+1,hlt,by omega,?_⟩
    rw [hs]
    exact (I89 ⟨le1 rfl,le1 rfl,le1 rfl,le1 rfl,le1 rfl,trivial⟩ ⟨rfl,trivial⟩)
   ·have h1:¬x≠y:=A1 ht
    rw [if_neg h1] at hs
    refine k5 (k4 (k4 (k1 (A2 (A3 V V (D1 V V V (A6 V V (A4 ?_))))))));refine k1 ?_;refine ⟨i+1,hlt,by omega,?_⟩
    rw [hs,Option.toList_none,J43]
    exact (I89 ⟨le1 rfl,le1 rfl,le1 rfl,le1 rfl,le1 rfl,trivial⟩ ⟨rfl,trivial⟩)
set_option maxHeartbeats 1000000
theorem C16 (a b:List File):(R1 a b).length≤a.length+b.length:=by
 unfold R1
 have h1:=List.length_filterMap_le (Y7 a b) (O4 (a.map (·.Path)) (b.map (·.Path)))
 have h2:=C90 (a.map (·.Path)) (b.map (·.Path))
 rw [J32,J32] at h2
 omega
theorem Valid.files {g:Graph} (h:Valid g) (c:Nat):(R6 g c).length≤200:=by
 unfold R6
 by_cases hc:c < g.length
 ·rw [J14 hc]
  exact (A59 (h.tree _ (J18 hc))).2.1
 ·rw [J37 (by omega)];simp
theorem Valid.trees {g:Graph} (h:Valid g) (c:Nat):∀t∈N9 g c,t.length≤200:=by
 intro t ht
 unfold N9 at ht
 split at ht
 ·rw [List.mem_singleton.1 ht];simp
 ·obtain ⟨p,_,rfl⟩:=List.mem_map.1 ht
  exact Valid.files h _
theorem u6 {g:Graph} (h:Valid g) (c:Nat):(N9 g c).length≤33:=by
 unfold N9
 split
 ·simp
 ·rw [J32]
  by_cases hc:c < g.length
  ·rw [V9 hc];have:=h.pars _ (J18 hc);omega
  ·rw [A79 hc];simp
theorem G10 {l:List File} (h:FewF l) (p:Str):(A43 l p).length≤16777216:=by
 unfold A43
 cases hf:J1 l p with
 | none=>simp
 | some x =>
  obtain ⟨f,hm,_,rfl⟩:=A78 hf
  exact h.blob f hm
structure FewB (B:List (List (Str × Str))):Prop where
 len:B.length≤33
 lens:∀l∈B,l.length≤400
 strs:∀l∈B,∀x∈l,x.1.length≤16777216∧x.2.length≤16777216
theorem A73 {g:Graph} (h:FewT g) (hv:Valid g) (c:Nat):FewB (K5 g c) where
 len:=by unfold K5;rw [J32];exact u6 hv c
 lens:=fun l hl=>by
  unfold K5 at hl
  obtain ⟨t,ht,rfl⟩:=List.mem_map.1 hl
  unfold z7
  rw [J32]
  have h1:=C16 t (R6 g c)
  have h2:=Valid.trees hv c t ht
  have h3:=Valid.files hv c
  omega
 strs:=fun l hl x hx=>by
  unfold K5 at hl
  obtain ⟨t,ht,rfl⟩:=List.mem_map.1 hl
  unfold z7 at hx
  obtain ⟨d,_,rfl⟩:=List.mem_map.1 hx
  refine ⟨G10 ?_ _,G10 (h.files c) _⟩
  unfold N9 at ht
  split at ht
  ·rw [List.mem_singleton.1 ht];exact ⟨by simp,(fun _ h=>by cases h),(fun _ h=>by cases h)⟩
  ·obtain ⟨p,_,rfl⟩:=List.mem_map.1 ht
   exact h.files _
def R3 (ts:List (List File)) (u:List File) (i:Nat):List (List (Str × Str)):=(ts.take i).map fun t=>z7 t u
theorem C47 {ts:List (List File)} {u:List File} {i:Nat} (h:i < ts.length):R3 ts u (i+1)=R3 ts u i++[z7 ts[i] u]:=by
 unfold R3
 rw [List.take_add_one,J14 h,Option.toList_some,J48];rfl
theorem D18 (ts:List (List File)) (u:List File) (i:Nat):(R3 ts u i).length≤ts.length:=by
 unfold R3;rw [J32,J24];omega
def X3 (t u:List File) (ds:List Delta) (i:Nat):List (Str × Str):=(ds.take i).map (H33 t u)
theorem C48 {t u:List File} {ds:List Delta} {i:Nat} (h:i < ds.length):X3 t u ds (i+1)=X3 t u ds i++[H33 t u ds[i]]:=by
 unfold X3
 rw [List.take_add_one,J14 h,Option.toList_some,J48];rfl
theorem A32 (t u:List File) (ds:List Delta) (i:Nat):(X3 t u ds i).length≤ds.length:=by
 unfold X3;rw [J32,J24];omega
theorem E88 (g:Graph) (c:Nat) (h:FewT g) (hv:Valid g) (hc:c < g.length):FnOk Tryz.prog 21 [I1 g,E6 c] (fun rs=>rs=[C73 (K5 g c)]):=by
 obtain ⟨cm,hcm⟩:∃cm,cm=g[c]:=⟨_,rfl⟩
 have hvc:g[((c:Nat):Int).toNat]?=some cm:=by rw [hcm];simp [hc]
 have hfc:R6 g c=cm.Files:=A72 (by rw [J16] at hvc;exact hvc)
 have hul:=Valid.files hv c
 have htl:=u6 hv c
 have htm:=Valid.trees hv c
 rw [hfc] at hul
 obtain ⟨ts,hts⟩:∃ts,ts=N9 g c:=⟨_,rfl⟩
 obtain ⟨u,hu⟩:∃u,u=cm.Files:=⟨_,rfl⟩
 have hres:K5 g c=R3 ts u ts.length:=by unfold K5 R3;rw [J22,hfc,hts,hu]
 rw [←hu] at hul
 rw [←hts] at htl htm
 rw [hres]
 refine FnOk.intro Tryz.func21 (by decide) V V V V ?_
 refine k2 (A2 (A6 V V (A4 ?_)));refine k1 (k2 (A2 (A3 V V (A3 V V (C9 (I00 g c h.few hv.rel hc) V V V ?_)))));rintro _ rfl;refine A6 V V (A4 ?_)
 rw [←hts]
 refine k1 (k2 (A2 (C6 (N0 6 _ Y5 V) V (A4 ?_))));refine k1 (k2 (k2 (A2 (A6 V V (A4 ?_)))));refine k1 (k3 (C5 (X:=Nat) (fun p=>([(0,C7 Commit 3 F6 g),(1,C0 c),(5,C7 (List File) 1 n6 ts),(6,.s (.one (.buf 6 (List (Str × Str)) 1 Y5 (R3 ts u p)))),(7,C0 p)],[(6,.spare (R3 ts u p).length 1 49)])) (fun p=>p≤ts.length) (fun p=>ts.length - p) 0 (Nat.zero_le _) (I89 ⟨le1 rfl,le1 rfl,le1 rfl,le1 rfl,le1 rfl,trivial⟩ ⟨rfl,trivial⟩) ?_))
 intro p hp
 dsimp only at hp ⊢
 have hbl:=D18 ts u p
 refine k2 (k2 (A2 (A3 V V (A3 V V (E1 V V (E7 V V V (A4 ?_)))))));refine k1 ?_;refine B0 rfl (fun ht=>?_) (fun ht=>?_)
 rotate_left
 ·have hpe:p=ts.length:=by have h1:=A1 ht;(try dsimp only at h1);omega
  rw [hpe]
  refine k6 (k2 (A2 (A3 V V (A6 V V (A4 ?_)))));refine k1 (k10 ?_)
  exact B6 (rs:=[C73 (R3 ts u ts.length)]) (G7 rfl rfl rfl) rfl
 have hplt:p < ts.length:=by have h1:=A0 ht;(try dsimp only at h1);omega
 have hs:=C47 (u:=u) hplt
 obtain ⟨t,ht0⟩:∃t,t=ts[p]:=⟨_,rfl⟩
 have hvt:ts[p]?=some t:=by rw [ht0];simp [hplt]
 have htl2:=htm t (by rw [ht0];exact J18 hplt)
 rw [←ht0] at hs
 have hdl:=C16 t u
 obtain ⟨ds,hds⟩:∃ds,ds=R1 t u:=⟨_,rfl⟩
 have hpo:z7 t u=X3 t u ds ds.length:=by unfold z7 X3;rw [J22,hds]
 rw [hpo] at hs
 have hrd:=G74 t u (by omega) (by omega)
 rw [show O3 u=O3 cm.Files by rw [hu],←hds] at hrd
 refine k5 (k1 (k2 (k3 (k2 (A2 (C6 (N0 8 _ o9 V) V (A4 ?_)))))));refine k1 (k2 (D9 (by kernel_rfl) (by kernel_rfl) (D8 V V (D8 V V (B5 (A8 V (.pure _ _ _ _) V (by omega) hvt) V V (B5 (A7 V V) V V (D8 V V (D8 V V (B5 (A8 V (.pure _ _ _ _) V (by omega) hvc) V V (B5 (B8 V) V V (B5 (A7 V V) V V (B5 (L0 (hrd) V V) V V (B5 (H5 V V) V V (N3 ?_))))))))))))))
 rw [←hds] at hdl
 refine k1 (k2 (k2 (A2 (A6 V V (A4 ?_)))));refine k1 (k3 (C5 (X:=Nat) (fun i=>([(0,C7 Commit 3 F6 g),(1,C0 c),(5,C7 (List File) 1 n6 ts),(6,.s (.one (.buf 6 (List (Str × Str)) 1 Y5 (R3 ts u p)))),(7,C0 p),(8,.s (.one (.buf 8 (Str × Str) 2 o9 (X3 t u ds i)))),(9,C7 Delta 2 j6 ds),(10,C0 i)],[(6,.spare (R3 ts u p).length 1 49),(8,.spare (X3 t u ds i).length 2 43)])) (fun i=>i≤ds.length) (fun i=>ds.length - i) 0 (Nat.zero_le _) (I89 ⟨le1 rfl,le1 rfl,le1 rfl,le1 rfl,le1 rfl,le1 rfl,le1 rfl,le1 rfl,trivial⟩ ⟨rfl,rfl,trivial⟩) ?_))
 intro i hi
 dsimp only at hi ⊢
 have hpl:=A32 t u ds i
 refine k2 (k2 (A2 (A3 V V (A3 V V (E1 V V (E7 V V V (A4 ?_)))))));refine k1 ?_;refine B0 rfl (fun ht=>?_) (fun ht=>?_)
 ·have hilt:i < ds.length:=by have h1:=A0 ht;(try dsimp only at h1);omega
  have hs2:=C48 (t:=t) (u:=u) hilt
  obtain ⟨d,hd⟩:∃d,d=ds[i]:=⟨_,rfl⟩
  have hvd:ds[i]?=some d:=by rw [hd];simp [hilt]
  rw [←hd] at hs2
  have hfu:=C41 u d.Path (by omega)
  rw [show O3 u=O3 cm.Files by rw [hu]] at hfu
  refine k5 (k1 (k2 (k3 (k2 (D9 (by kernel_rfl) (by kernel_rfl) (D8 V V (D8 V V (B5 (A8 V (.pure _ _ _ _) V (by omega) hvt) V V (B5 (A7 V V) V V (D8 V V (D8 V V (B5 (A8 V (.pure _ _ _ _) V (by omega) hvd) V V (B5 (B8 V) V V (B5 (A7 V V) V V (B5 (L0 (C41 t d.Path (by omega)) V V) V V (D8 V V (B5 (S4 V V) V V (B5 (S4 V V) V V (B5 (H5 V V) V V (B5 (H5 V V) V V (N3 ?_)))))))))))))))))))));refine k1 (k2 (D9 (by kernel_rfl) (by kernel_rfl) (D8 V V (D8 V V (B5 (A8 V (.pure _ _ _ _) V (by omega) hvc) V V (B5 (B8 V) V V (B5 (A7 V V) V V (D8 V V (D8 V V (B5 (A8 V (.pure _ _ _ _) V (by omega) hvd) V V (B5 (B8 V) V V (B5 (A7 V V) V V (B5 (L0 (hfu) V V) V V (D8 V V (B5 (S4 V V) V V (B5 (S4 V V) V V (B5 (H5 V V) V V (B5 (H5 V V) V V (N3 ?_)))))))))))))))))));refine k1 (A2 (A3 V V (A3 V V (A3 V V (A5 (C10 V) V (A5 (C1 (c:=o9) (ys:=[(A43 t d.Path,A43 u d.Path)]) (D2 V V V V F1) V V V) V (C6 (G9 V V V (.pure _ _ _ _) (by (simp only [J17,J21];omega)) V) V (A6 V V (A4 ?_)))))))));refine k4 (k1 (A2 (A3 V V (D1 V V V (A6 V V (A4 ?_))))));refine k1 ?_;refine ⟨i+1,by omega,by omega,?_⟩
  rw [hs2]
  exact (I89 ⟨le1 rfl,le1 rfl,le1 rfl,le1 rfl,le1 rfl,le1 rfl,le1 rfl,le1 rfl,trivial⟩ ⟨rfl,rfl,trivial⟩)
 ·have hie:i=ds.length:=by have h1:=A1 ht;(try dsimp only at h1);omega
  rw [hie]
  have hpl2:=A32 t u ds ds.length
  refine k6 (k7 (k7 (k8 V (k1 (A2 (A3 V V (A3 V V (A5 (C1 (c:=Y5) (ys:=[X3 t u ds ds.length]) (D2 V V V V F1) V V V) V (C6 (G9 V V V (.pure _ _ _ _) (by (simp only [J17,J21];omega)) V) V (A6 V V (A4 ?_)))))))))));refine k4 (k1 (A2 (A3 V V (D1 V V V (A6 V V (A4 ?_))))));refine k1 ?_;refine ⟨p+1,by omega,by omega,?_⟩
  rw [hs]
  exact (I89 ⟨le1 rfl,le1 rfl,le1 rfl,le1 rfl,le1 rfl,trivial⟩ ⟨rfl,trivial⟩)
theorem A74 (nd s:Str) (hs:s.length≤16777216):0≤U8 nd s∧U8 nd s≤16777218:=by
 have:=f0 nd s
 unfold U8;omega
def D96 (f:Str × Str→Bool) (B:List (List (Str × Str))) (p:Nat):Bool:=(B.take p).any fun l=>l.any f
theorem G75 {f:Str × Str→Bool} {B:List (List (Str × Str))} {p:Nat} (h:p < B.length):D96 f B (p+1)=(D96 f B p||B[p].any f):=by
 unfold D96
 rw [List.take_add_one,J14 h,Option.toList_some,J56];simp
theorem I58 {f:Str × Str→Bool} {l:List (Str × Str)} {i:Nat} (h:i < l.length):(l.take (i+1)).any f=((l.take i).any f||f l[i]):=by
 rw [List.take_add_one,J14 h,Option.toList_some,J56];simp
theorem G11 (g:Graph) (s:Int) (nd:Str) (h:FewT g) (hn:nd.length≤1073741824):FnOk Tryz.prog 8 [I1 g,E6 s,L2 nd] (fun rs=>rs=[I0 (O8 g s nd).1,E6 (O8 g s nd).2]):=by
 refine FnOk.intro Tryz.func8 (by decide) V V V V ?_
 refine k2 (A2 (A6 V V (A6 V V (A4 ?_))));refine k1 (k2 (k2 (A2 (A3 V V (A5 (g9 V V) V (A4 ?_))))));refine k1 ?_;refine B0 rfl (fun ht=>?_) (fun ht=>?_)
 ·have h1:nd=[]:=A0 ht
  refine k2 (A2 (A5 (G8 _ 1 E3) V (A6 V V (A4 ?_))));refine k1 (k10 (k11 ?_))
  exact B6 (rs:=[I0 [],E6 2]) (V5 rfl rfl rfl rfl rfl) (by unfold O8;rw [if_pos h1])
 have h1:¬nd=[]:=A1 ht
 refine k5 (k1 (k2 (k2 (A2 (A3 V V (A5 (J2 V) V (A5 (L7 V V) V (A4 ?_))))))));refine k1 ?_;refine B0 rfl (fun ht=>?_) (fun ht=>?_)
 ·have h2:(256:Int) < nd.length:=A0 ht
  refine k2 (A2 (A5 (G8 _ 1 E3) V (A6 V V (A4 ?_))));refine k1 (k10 (k11 ?_))
  exact B6 (rs:=[I0 [],E6 1]) (V5 rfl rfl rfl rfl rfl) (by unfold O8;rw [if_neg h1,if_pos (by omega)])
 have h2:¬(256:Int) < nd.length:=A1 ht
 have hres:O8 g s nd=T3 (differs nd) g s:=by unfold O8;rw [if_neg h1,if_neg (by omega)]
 rw [hres]
 refine k5 (k1 (k2 (A2 (A3 V V (A3 V V (A5 (C1 (c:=E3) (ys:=[s]) (D2 V V V V F1) V V V) V (C9 (H98 g s h.few (H54 g h)) V V V ?_)))))));rintro _ rfl;refine A3 V V (H0 V V V (H0 V V V (A6 V V (A6 V V (A4 ?_)))));refine k1 (k2 (k2 (A2 (A3 V V (A5 (Q9 V V) V (A4 ?_))))));refine k1 ?_;refine B0 rfl (fun ht=>?_) (fun ht=>?_)
 ·have h3:(M8 g s).2≠0:=A0 ht
  refine k2 (A2 (A3 V V (A5 (G8 _ 1 E3) V (A6 V V (A4 ?_)))));refine k1 (k10 (k11 ?_))
  exact B6 (rs:=[I0 [],E6 (M8 g s).2]) (V5 rfl rfl rfl rfl rfl) (by unfold T3;rw [if_pos h3])
 have h3:¬(M8 g s).2≠0:=A1 ht
 obtain ⟨hv,hrg,hnd⟩:Valid g∧(∀x∈(M8 g s).1,0≤x∧x < (g.length:Int))∧(M8 g s).1.Nodup:=by
  unfold M8 at h3 ⊢
  split at h3
  ·rename_i hd;exact absurd hd h3
  ·rename_i hd
   rw [if_neg hd]
   have:=Z5 (Decidable.not_not.1 hd)
   split
   ·exact ⟨this,(l7 g [s]).2,(l7 g [s]).1⟩
   ·exact ⟨this,(fun _ h=>by cases h),List.nodup_nil⟩
 have hres2:T3 (differs nd) g s=((M8 g s).1.filter fun c=>P3 (differs nd) g c.toNat,0):=by unfold T3;rw [if_neg h3]
 rw [hres2]
 obtain ⟨O,hO⟩:∃O,O=(M8 g s).1:=⟨_,rfl⟩
 rw [←hO] at hrg hnd ⊢
 have hOl:=X9 hnd hrg
 have hg:=h.few.len
 refine k5 (k1 (k2 (A2 (C6 (N0 10 _ E3 V) V (A4 ?_)))));refine k1 (k2 (k2 (A2 (A6 V V (A4 ?_)))));refine k1 (k3 (C5 (X:=Nat) (fun k=>([(0,C7 Commit 3 F6 g),(2,S3 nd),(8,C7 Int 1 E3 O),(10,.s (.one (.buf 10 Int 1 E3 ((O.take k).filter fun c=>P3 (differs nd) g c.toNat)))),(11,C0 k)],[(10,.spare ((O.take k).filter fun c=>P3 (differs nd) g c.toNat).length 1 3)])) (fun k=>k≤O.length) (fun k=>O.length - k) 0 (Nat.zero_le _) (I89 ⟨le1 rfl,le1 rfl,le1 rfl,le1 rfl,le1 rfl,trivial⟩ ⟨rfl,trivial⟩) ?_))
 intro k hk
 dsimp only at hk ⊢
 have hfl:=List.length_filter_le (fun c:Int=>P3 (differs nd) g c.toNat) (O.take k)
 rw [J24] at hfl
 refine k2 (k2 (A2 (A3 V V (A3 V V (E1 V V (E7 V V V (A4 ?_)))))));refine k1 ?_;refine B0 rfl (fun ht=>?_) (fun ht=>?_)
 rotate_left
 ·have hke:k=O.length:=by have h1:=A1 ht;(try dsimp only at h1);omega
  rw [hke,J22]
  refine k6 (k2 (A2 (A3 V V (A6 V V (A6 V V (A4 ?_))))));refine k1 (k10 ?_)
  exact B6 (rs:=[I0 (O.filter fun c=>P3 (differs nd) g c.toNat),E6 0]) (V5 rfl rfl rfl rfl rfl) rfl
 have hklt:k < O.length:=by have h1:=A0 ht;(try dsimp only at h1);omega
 have hcr:=hrg _ (J18 hklt)
 obtain ⟨c,hc⟩:∃c:Nat,O[k]=(c:Int):=⟨O[k].toNat,by omega⟩
 have hvk:O[k]?=some (c:Int):=by rw [J14 hklt,hc]
 have hsn:(O.take (k+1)).filter (fun c=>P3 (differs nd) g c.toNat)=((O.take k).filter fun c=>P3 (differs nd) g c.toNat)++(if P3 (differs nd) g c=true then [(c:Int)] else []):=by
  rw [List.take_add_one,hvk,Option.toList_some,J67]
  congr 1
  rw [J65,J16];rfl
 obtain ⟨F,hF⟩:∃F,F=(O.take k).filter fun c=>P3 (differs nd) g c.toNat:=⟨_,rfl⟩
 rw [←hF] at hfl hsn ⊢
 have hB:=A73 h hv c
 have hap:P3 (differs nd) g c=D96 (differs nd) (K5 g c) (K5 g c).length:=by unfold P3 D96;rw [J22]
 refine k5 (k1 (k2 (k3 (k2 (A2 (A3 V V (A3 V V (A3 V V (A5 (A8 V (.pure _ _ _ _) V (by omega) hvk) V (A5 (A7 V V) V (C9 (E88 g c h hv (by omega)) V V V ?_)))))))))));rintro _ rfl;refine A6 V V (A4 ?_)
 obtain ⟨B,hBd⟩:∃B,B=K5 g c:=⟨_,rfl⟩
 rw [←hBd] at hB hap ⊢
 have hBl:=hB.len
 refine k1 (k2 (A2 (A6 V V (A4 ?_))));refine k1 (k2 (k2 (A2 (A6 V V (A4 ?_)))));refine k1 (k3 (C5 (X:=Nat) (fun p=>([(0,C7 Commit 3 F6 g),(2,S3 nd),(8,C7 Int 1 E3 O),(10,.s (.one (.buf 10 Int 1 E3 F))),(11,C0 k),(12,C7 (List (Str × Str)) 1 Y5 B),(13,P6 (D96 (differs nd) B p)),(14,C0 p)],[(10,.spare F.length 1 3)])) (fun p=>p≤B.length) (fun p=>B.length - p) 0 (Nat.zero_le _) (I89 ⟨le1 rfl,le1 rfl,le1 rfl,le1 rfl,le1 rfl,le1 rfl,le1 rfl,le1 rfl,trivial⟩ ⟨rfl,trivial⟩) ?_))
 intro p hp
 dsimp only at hp ⊢
 refine k2 (k2 (A2 (A3 V V (A3 V V (E1 V V (E7 V V V (A4 ?_)))))));refine k1 ?_;refine B0 rfl (fun ht=>?_) (fun ht=>?_)
 ·have hplt:p < B.length:=by have h1:=A0 ht;(try dsimp only at h1);omega
  have hs:=G75 (f:=differs nd) hplt
  obtain ⟨l,hl⟩:∃l,l=B[p]:=⟨_,rfl⟩
  have hvl:B[p]?=some l:=by rw [hl];simp [hplt]
  have hlm:l∈B:=by rw [hl];exact J18 hplt
  have hll:=hB.lens l hlm
  rw [←hl] at hs
  refine k5 (k1 (k2 (k3 (k2 (A2 (A6 V V (A4 ?_)))))));refine k1 (k3 (C5 (X:=Nat) (fun i=>([(0,C7 Commit 3 F6 g),(2,S3 nd),(8,C7 Int 1 E3 O),(10,.s (.one (.buf 10 Int 1 E3 F))),(11,C0 k),(12,C7 (List (Str × Str)) 1 Y5 B),(13,P6 (D96 (differs nd) B p||(l.take i).any (differs nd))),(14,C0 p),(15,C0 i)],[(10,.spare F.length 1 3)])) (fun i=>i≤l.length) (fun i=>l.length - i) 0 (Nat.zero_le _) (by rw [List.take_zero,List.any_nil,Bool.or_false];exact (I89 ⟨le1 rfl,le1 rfl,le1 rfl,le1 rfl,le1 rfl,le1 rfl,le1 rfl,le1 rfl,le1 rfl,trivial⟩ ⟨rfl,trivial⟩)) ?_))
  intro i hi
  dsimp only at hi ⊢
  refine k2 (k2 (A2 (A3 V V (A3 V V (A3 V V (A5 (A8 V (.pure _ _ _ _) V (by omega) hvl) V (A5 (A7 V V) V (E1 V V (E7 V V V (A4 ?_))))))))));refine k1 ?_;refine B0 rfl (fun ht=>?_) (fun ht=>?_)
  ·have hilt:i < l.length:=by have h1:=A0 ht;(try dsimp only at h1);omega
   have hs2:=I58 (f:=differs nd) hilt
   obtain ⟨x,hx⟩:∃x,x=l[i]:=⟨_,rfl⟩
   have hvx:l[i]?=some x:=by rw [hx];simp [hilt]
   have hxs:=hB.strs l hlm x (by rw [hx];exact J18 hilt)
   rw [←hx] at hs2
   refine k5 (k1 (k2 (k3 (D9 (by kernel_rfl) (by kernel_rfl) (D8 V V (D8 V V (C8 V V (fun hg=>by rw [hg];exact B7 V V) V V ?_)))))));refine C8 V V (fun hg=>by rw [hg];exact B7 V V) V V ?_;refine C8 V V (fun hg=>by rw [hg];exact B7 V V) V V ?_;refine C8 V V (fun hg=>by have hq:=hg;(try simp at hq);rw [hg];exact A8 V (.pure _ _ _ _) V (by omega) hvl) V V ?_;refine C8 V V (fun hg=>by rw [hg];exact A7 V V) V V ?_;refine C8 V V (fun hg=>by rw [hg];exact B7 V V) V V ?_;refine C8 V V (fun hg=>by have hq:=hg;(try simp at hq);rw [hg];exact A8 V (.pure _ _ _ _) V (by omega) hvx) V V ?_;refine C8 V V (fun hg=>by have hq:=hg;(try simp at hq);rw [hg];exact a7 V V (by first | omega | decide) (by omega)) V V ?_;refine C8 V V (fun hg=>by rw [hg];exact A7 V V) V V ?_;refine C8 V V (fun hg=>by have hq:=hg;(try simp at hq);rw [hg];exact L0 (A31 nd x.1 hn hxs.1) V V) V V ?_;refine C8 V V (fun hg=>by rw [hg];exact B7 V V) V V ?_;refine C8 V V (fun hg=>by rw [hg];exact B7 V V) V V ?_;refine C8 V V (fun hg=>by rw [hg];exact B7 V V) V V ?_;refine C8 V V (fun hg=>by have hq:=hg;(try simp at hq);rw [hg];exact A8 V (.pure _ _ _ _) V (by omega) hvl) V V ?_;refine C8 V V (fun hg=>by rw [hg];exact A7 V V) V V ?_;refine C8 V V (fun hg=>by rw [hg];exact B7 V V) V V ?_;refine C8 V V (fun hg=>by have hq:=hg;(try simp at hq);rw [hg];exact A8 V (.pure _ _ _ _) V (by omega) hvx) V V ?_;refine C8 V V (fun hg=>by have hq:=hg;(try simp at hq);rw [hg];exact a7 V V (by first | omega | decide) (by omega)) V V ?_;refine C8 V V (fun hg=>by rw [hg];exact A7 V V) V V ?_;refine C8 V V (fun hg=>by have hq:=hg;(try simp at hq);rw [hg];exact L0 (A31 nd x.2 hn hxs.2) V V) V V ?_;refine C8 V V (fun hg=>by rw [hg];exact Q9 V V) V V ?_;refine B5 (I9 V (fun h=>by first | rfl | (rw [h];rfl)) (fun h=>by first | rfl | (rw [h];rfl))) V V ?_;refine B5 (H5 V V) V V (N3 ?_);refine k4 (k1 (A2 (A3 V V (D1 V V V (A6 V V (A4 ?_))))));refine k1 ?_;refine ⟨i+1,by omega,by omega,?_⟩
   rw [hs2,←Bool.or_assoc,E14]
   exact (I89 ⟨le1 rfl,le1 rfl,le1 rfl,le1 rfl,le1 rfl,le1 rfl,le1 rfl,le1 rfl,le1 rfl,trivial⟩ ⟨rfl,trivial⟩)
  ·have hie:i=l.length:=by have h1:=A1 ht;(try dsimp only at h1);omega
   rw [hie,J22,←hs]
   refine k6 (k7 (k7 (k8 V (k4 (k1 (A2 (A3 V V (D1 V V V (A6 V V (A4 ?_))))))))));refine k1 ?_
   exact ⟨p+1,by omega,by omega,(I89 ⟨le1 rfl,le1 rfl,le1 rfl,le1 rfl,le1 rfl,le1 rfl,le1 rfl,le1 rfl,trivial⟩ ⟨rfl,trivial⟩)⟩
 have hpe:p=B.length:=by have h1:=A1 ht;(try dsimp only at h1);omega
 rw [hpe,←hap]
 refine k6 (k2 (A2 (A3 V V (A4 ?_))));refine k1 ?_;refine B0 rfl (fun ht=>?_) (fun ht=>?_)
 ·rw [if_pos ht] at hsn
  skip
  refine A2 (A3 V V (A3 V V (A3 V V (A5 (A8 V (.pure _ _ _ _) V (by omega) hvk) V (A5 (A7 V V) V (A5 (C1 (c:=E3) (ys:=[(c:Int)]) (D2 V V V V F1) V V V) V (C6 (G9 V V V (.pure _ _ _ _) (by (simp only [J17,J21];omega)) V) V (A6 V V (A4 ?_)))))))));refine k4 (k1 (A2 (A3 V V (D1 V V V (A6 V V (A4 ?_))))));refine k1 ?_;refine ⟨k+1,by omega,by omega,?_⟩
  rw [hsn]
  exact (I89 ⟨le1 rfl,le1 rfl,le1 rfl,le1 rfl,le1 rfl,trivial⟩ ⟨rfl,trivial⟩)
 ·rw [ht,if_neg (by decide),J43] at hsn
  refine k5 (k4 (k1 (A2 (A3 V V (D1 V V V (A6 V V (A4 ?_)))))));refine k1 ?_;refine ⟨k+1,by omega,by omega,?_⟩
  rw [hsn]
  exact (I89 ⟨le1 rfl,le1 rfl,le1 rfl,le1 rfl,le1 rfl,trivial⟩ ⟨rfl,trivial⟩)
set_option maxHeartbeats 1000000
theorem cmp_lt:∀(a b:Str),decide (Lib.compareBytes a b < 0)=ltS a b
 | [],[]=>rfl
 | [],_::_=>rfl
 | _::_,[]=>rfl
 | a::x,b::y=>by
  rw [Lib.compareBytes,A77]
  have ih:=cmp_lt x y
  by_cases h1:a < b
  ·simp [h1]
  ·by_cases h2:b < a
   ·have:¬a=b:=fun e=>by subst e;exact h1 h2
    simp [h1,h2,this]
   ·have:a=b:=UInt8.toNat_inj.1 (by rw [UInt8.lt_iff_toNat_lt] at h1 h2;omega)
    subst this
    simpa [h1] using ih
theorem G76 (a b:Str):FnOk Tryz.prog 91 [L2 a,L2 b] (fun rs=>rs=[E6 (Lib.compareBytes a b)]) :=
 I94 (xs:=[.string ⟨a.toArray⟩,.string ⟨b.toArray⟩]) ⟨_,rfl,rfl,rfl⟩ rfl fun w=>by simpa using Tryz.strings_Compare ⟨a.toArray⟩ ⟨b.toArray⟩ w
theorem I02 (x y:Delta):FnOk Tryz.prog 90 [pDelta x,pDelta y] (fun rs=>rs=[E6 (Lib.compareBytes x.Path y.Path)]):=by
 refine FnOk.intro Tryz.func90 (by decide) V V V V ?_
 refine k2 (A2 (C6 (x7 2 V V V) V (C6 (x7 3 V V V) V (A6 V V (A4 ?_)))));refine k1 (k2 (A2 (A5 (A9 V) V (G4 V V V V (A5 (A9 V) V (G4 V V V V (C9 (G76 x.Path y.Path) V V V ?_)))))));rintro _ rfl;refine A6 V V (A4 ?_);refine k1 (k10 ?_)
 exact B6 (G7 rfl rfl rfl) rfl
def o7 (rev:List Delta) (x:Delta) (m:Nat) (rest:List Delta):List Delta:=(rev.drop m).reverse++x::((rev.take m).reverse++rest)
theorem I03 {rev:List Delta} {x:Delta} {m:Nat} {rest:List Delta} (hm:m≤rev.length):(o7 rev x m rest).length=rev.length+1+rest.length:=by
 unfold o7
 simp only [J19,J66,J27,J17,J24]
 omega
theorem insAt_x {rev:List Delta} {x:Delta} {m:Nat} {rest:List Delta} (_hm:m≤rev.length):(o7 rev x m rest)[rev.length - m]?=some x:=by
 unfold o7
 rw [J30 (by simp),J66,J27,J62];rfl
theorem insAt_p {rev:List Delta} {x:Delta} {m:Nat} {rest:List Delta} (hm:m < rev.length):(o7 rev x m rest)[rev.length - m - 1]?=some rev[m]:=by
 unfold o7
 rw [J28 (by simp;omega),List.getElem?_reverse (by simp;omega),J27,J53]
 rw [show m+(rev.length - m - 1 - (rev.length - m - 1))=m by omega,J14 hm]
theorem G77 {rev:List Delta} {x:Delta} {m:Nat} {rest:List Delta} (hm:m < rev.length):((o7 rev x m rest).set (rev.length - m) rev[m]).set (rev.length - m - 1) x=o7 rev x (m+1) rest:=by
 have e1:(rev.drop m).reverse=(rev.drop (m+1)).reverse++[rev[m]]:=by rw [J23 hm,List.reverse_cons]
 have e2:(rev.take (m+1)).reverse=rev[m]::(rev.take m).reverse:=by rw [List.take_add_one,J14 hm,Option.toList_some,List.reverse_append];rfl
 have hl:(rev.drop (m+1)).reverse.length=rev.length - m - 1:=by rw [J66,J27];omega
 unfold o7
 rw [e1,e2,J26,J36,J52]
 generalize (rev.drop (m+1)).reverse=P at hl ⊢
 rw [←hl,show rev.length - m=P.length+1 by omega]
 rw [List.set_append_right _ _ (by omega),show P.length+1 - P.length=1 by omega]
 rw [List.set_append_right _ _ (by omega),J62]
 rfl
theorem insR_at {rev:List Delta} {x:Delta}:∀{m:Nat},m≤rev.length→(∀k,(h:k < m)→(h2:k < rev.length)→ltS x.Path rev[k].Path=true)→(∀h:m < rev.length,ltS x.Path rev[m].Path=false)→B82 x rev=rev.take m++x::rev.drop m:=by
 induction rev with
 | nil=>intro m _ _ _;rw [List.take_nil,List.drop_nil];rfl
 | cons y r ih =>
  intro m hm h1 h2
  cases m with
  | zero =>
   have:=h2 (by simp)
   unfold B82
   rw [if_neg (by rw [show y.Path=((y::r)[0]).Path from rfl,this];decide)];rfl
  | succ m =>
   have h3:ltS x.Path y.Path=true:=h1 0 (by omega) (by simp)
   unfold B82
   rw [if_pos h3,ih (m:=m) (by simpa using hm) (fun k hk hk2=>h1 (k+1) (by omega) (by simpa using hk2)) (fun h=>h2 (by simpa using h))]
   rfl
theorem G78 {rev:List Delta} {x:Delta} {m:Nat} {rest:List Delta} (hm:m≤rev.length) (h1:∀k,(h:k < m)→(h2:k < rev.length)→ltS x.Path rev[k].Path=true) (h2:∀h:m < rev.length,ltS x.Path rev[m].Path=false):o7 rev x m rest=(B82 x rev).reverse++rest:=by
 rw [insR_at hm h1 h2]
 unfold o7
 rw [List.reverse_append,List.reverse_cons]
 simp only [J26,List.singleton_append,J36,J52]
theorem E89 (l acc:List Delta):(o8 acc l).length=acc.length+l.length:=by
 induction l generalizing acc with
 | nil=>rfl
 | cons x r ih=>rw [o8,ih,D25,J17];omega
theorem G79 (l:List Delta) (i:Nat) (h:i < l.length):o8 [] (l.take (i+1))=B82 l[i] (o8 [] (l.take i)):=by
 have key:∀(a b acc:List Delta),o8 acc (a++b)=o8 (o8 acc a) b:=by
  intro a
  induction a with
  | nil=>intro b acc;rfl
  | cons x r ih=>intro b acc;exact ih b _
 rw [List.take_add_one,J14 h,Option.toList_some,key];rfl
def A16 (l:List Delta) (i:Nat):List Delta:=(o8 [] (l.take i)).reverse++l.drop i
theorem G80 (l:List Delta) (i:Nat):(A16 l i).length=l.length:=by
 unfold A16
 rw [J19,J66,E89,J24,J27,J21];omega
theorem G81 (l:List Delta):A16 l 1=l:=by
 cases l with
 | nil=>rfl
 | cons x r=>rfl
theorem G82 {l:List Delta} {i:Nat} (h:i < l.length):o7 (o8 [] (l.take i)) l[i] 0 (l.drop (i+1))=A16 l i:=by
 unfold o7 A16
 rw [List.drop_zero,List.take_zero,J23 h];rfl
theorem G12 {l:List Delta} {i:Nat} (h:i < l.length):A16 l (i+1)=(B82 l[i] (o8 [] (l.take i))).reverse++l.drop (i+1):=by
 unfold A16;rw [G79 l i h]
abbrev B94 (l:List Delta):Ob:=.grow 73 Delta 2 j6 l
theorem G13 {gf:Fr} {ob:Obs} (l:List Delta) (hl:l.length≤1048576) (h0:B9 ob 802=some (B94 l)) :
  AL.Met Tryz.prog 152 [.one (.mut 802),.one (.p (.v (.int .i64 0))),.one (.p (.v (.int .i64 l.length))),.one (.p (.v (.func (.func 90) #[] #[])))] gf ob []
   (fun rs ob'=>rs=[]∧ob'=(802,B94 (B97 l))::ob):=by
 refine AL.Met.introH Tryz.func152 (by decide) rfl rfl rfl (fun hH=>?_)
 refine k2 (A2 (A3 V V (D1 V V V (A6 V V (A4 ?_)))));refine k1 (k3 ?_);refine C5 (X:=Nat) (fun i=>([(0,.s (.one (.mut 802))),(1,C0 0),(2,C0 l.length),(3,I6 (.func (.func 90) #[] #[])),(8,C0 i)]++gf,(802,B94 (A16 l i))::ob)) (fun i=>1≤i∧(i≤l.length∨(i=1∧l=[]))) (fun i=>l.length - i) 1 ⟨Nat.le_refl _,by cases l;exact .inr ⟨rfl,rfl⟩;left;simp⟩ ?_ ?_
 ·rw [G81]
  exact I90 ⟨le1 rfl,le1 rfl,le1 rfl,le1 rfl,le1 rfl,trivial⟩ hH (by repeat (first | exact B2 | refine B3 rfl ?_)) (E5 (L:=[(802,_)]) ⟨h0,trivial⟩ D6)
 rintro i ⟨hi1,hi2⟩
 dsimp only at hi1 hi2 ⊢
 have hdl:=G80 l i
 refine k2 (k2 (A2 (A3 V V (A3 V V (E7 V V V (A4 ?_))))));refine k1 ?_;refine B0 rfl (fun ht=>?_) (fun ht=>?_)
 rotate_left
 ·have h1:=A1 ht
  have he:A16 l i=B97 l:=by
   rcases hi2 with h2 | ⟨h2,h3⟩
   ·have:i=l.length:=by omega
    rw [this];unfold A16 B97;rw [J22,List.drop_length,J43]
   ·rw [h2,h3];rfl
  rw [he]
  refine k6 (k7 (k7 (k8 V ?_)))
  exact S9 (A67 rfl) (by repeat (first | exact B2 | refine B3 rfl ?_ | refine D5 _ ?_)) (fun _ _ h=>h) ⟨rfl,rfl⟩
 have hlt:i < l.length:=by have h1:=A0 ht;omega
 obtain ⟨x,hx⟩:∃x,x=l[i]:=⟨_,rfl⟩
 obtain ⟨rev,hrev⟩:∃rev,rev=o8 [] (l.take i):=⟨_,rfl⟩
 obtain ⟨rest,hrest⟩:∃rest,rest=l.drop (i+1):=⟨_,rfl⟩
 have hrl:rev.length=i:=by rw [hrev,E89,J24,J21];omega
 have hrestl:rest.length=l.length - (i+1):=by rw [hrest,J27]
 have e0:=G82 hlt
 have e1:=G12 hlt
 rw [←hx,←hrev,←hrest] at e0 e1
 rw [←e0]
 refine k5 (k1 (k2 (k3 (k2 (A2 (A3 V V (A6 V V (A4 ?_))))))));refine k1 (k3 ?_);refine C5 (X:=Nat) (fun m=>([(0,.s (.one (.mut 802))),(1,C0 0),(2,C0 l.length),(3,I6 (.func (.func 90) #[] #[])),(8,C0 i),(9,C0 ((i - m:Nat):Int))]++gf,(802,B94 (o7 rev x m rest))::ob)) (fun m=>m≤i∧∀k,(h:k < m)→(h2:k < rev.length)→ltS x.Path rev[k].Path=true) (fun m=>i - m) 0 ⟨Nat.zero_le _,fun k h=>by omega⟩ ?_ ?_
 ·exact I90 ⟨le1 rfl,le1 rfl,le1 rfl,le1 rfl,le1 rfl,le1 rfl,trivial⟩ hH (by repeat (first | exact B2 | refine B3 rfl ?_)) (E5 (L:=[(802,_)]) ⟨rfl,trivial⟩ (by repeat (first | exact D6 | refine D7 rfl ?_)))
 rintro m ⟨hm,hall⟩
 dsimp only at hm hall ⊢
 have hil:=I03 (x:=x) (rest:=rest) (show m≤rev.length by omega)
 have hvx:=insAt_x (x:=x) (rest:=rest) (show m≤rev.length by omega)
 rw [hrl] at hil hvx
 have hvx:(o7 rev x m rest)[((i - m:Nat):Int).toNat]?=some x:=by rw [J16];exact hvx
 have hvp:(0:Int) < ((i - m:Nat):Int)→(o7 rev x m rest)[(((i - m:Nat):Int) - 1).toNat]?=some (rev.getD m ⟨[],0⟩):=fun h=>by
  have:=insAt_p (x:=x) (rest:=rest) (show m < rev.length by omega)
  rw [show (((i - m:Nat):Int) - 1).toNat=rev.length - m - 1 by omega,this,J20,J14 (by omega)];rfl
 obtain ⟨y,hy⟩:∃y,y=rev.getD m ⟨[],0⟩:=⟨_,rfl⟩
 rw [←hy] at hvp
 have hcmp:=cmp_lt x.Path y.Path
 refine k2 (k2 (D9 (by kernel_rfl) (by kernel_rfl) (D8 V V (D8 V V (B5 (L7 V V) V V (D8 V V (C8 V V (fun hg=>by rw [hg];exact B7 V V) V V ?_)))))));refine C8 V V (fun hg=>by rw [hg];exact B7 V V) V V ?_;refine C8 V V (fun hg=>by rw [hg];exact B7 V V) V V ?_;refine C8 V V (fun hg=>by have hq:=hg;(try simp at hq);rw [hg];exact I2 V V V (by omega) (by (rw [hil];omega))) V V ?_;refine C8 V V (fun hg=>by rw [hg];exact A00 V V hvx V) V V ?_;refine C8 V V (fun hg=>by rw [hg];exact B7 V V) V V ?_;refine C8 V V (fun hg=>by rw [hg];exact B7 V V) V V ?_;refine C8 V V (fun hg=>by have hq:=hg;(try simp at hq);rw [hg];exact K9 V V (by omega)) V V ?_;refine C8 V V (fun hg=>by have hq:=hg;(try simp at hq);rw [hg];exact I2 V V V (by omega) (by (rw [hil];omega))) V V ?_;refine C8 V V (fun hg=>by have hq:=hg;(try simp at hq);rw [hg];exact A00 V V (hvp (by omega)) V) V V ?_;refine C8 V V (fun hg=>by rw [hg];exact F29 (I02 x y) V V V) V V ?_;refine C8 V V (fun hg=>by rw [hg];exact A04 V V) V V ?_;refine B5 (I9 V (fun h=>by first | rfl | (rw [h];rfl)) (fun h=>by first | rfl | (rw [h];rfl))) V V ?_;refine N3 ?_;refine k1 ?_;refine B0 rfl (fun ht=>?_) (fun ht=>?_)
 ·rw [n8,J15,decide_eq_true_eq,hcmp] at ht
  have hml:m < rev.length:=by omega
  have hym:y=rev[m]:=by rw [hy,J20,J14 hml];rfl
  have hsw:=G77 (x:=x) (rest:=rest) hml
  rw [hrl,←hym] at hsw
  have hvp:=hvp ht.1
  have hvp2:((o7 rev x m rest).set ((i - m:Nat):Int).toNat y)[(((i - m:Nat):Int) - 1).toNat]?=some y:=by
   rw [List.getElem?_set_ne (by omega)];exact hvp
  refine k5 (k1 (k2 (k3 (O2 [17,15] [[],[15],[17,15]] [(15,([],[])),(17,([],[]))] [(0,[]),(1,[]),(2,[]),(3,[]),(4,[]),(5,[]),(6,[]),(7,[]),(8,[]),(9,[]),(10,[]),(11,[]),(12,[]),(13,[]),(14,[]),(15,[]),(16,[15]),(17,[15])] [(2,[15]),(3,[15]),(4,[15])] (by kernel_rfl) (by kernel_rfl) (E4 V V (by kernel_rfl) V V (B7 V V) (E4 V V (by kernel_rfl) V V (B7 V V) (E4 V V (by kernel_rfl) V V (B7 V V) (E4 V V (by kernel_rfl) V V (B7 V V) (E4 V V (by kernel_rfl) V V (K9 V V (by omega)) (E4 V V (by kernel_rfl) V V (B7 V V) (E4 V V (by kernel_rfl) V V (B7 V V) (E4 V V (by kernel_rfl) V V (K9 V V (by omega)) (E4 V V (by kernel_rfl) V V (I2 V V V (by omega) (by (rw [hil];omega))) ?_)))))))))))));refine E4 V V (by kernel_rfl) V V (A00 V V hvp V) (E4 V V (by kernel_rfl) V V (B7 V V) (E4 V V (by kernel_rfl) V V (B7 V V) (E4 V V (by kernel_rfl) V V (I2 V V V (by omega) (by (first | (rw [hil];omega) | (rw [J39,hil];omega)))) ?_)));refine E4 V V (by kernel_rfl) V V (A00 V V hvx V) (E4 V V (by kernel_rfl) V V (I2 V V V (by omega) (by (rw [hil];omega))) ?_);refine X8 V V (by kernel_rfl) V V (A27 (fun frc hU=>A68 (y) TySz.out (S6 hU V) V hvx (S6 hU V) V V V (fun _ _ _ h=>A10 h) (by intro j h1 h2;rcases j with _ | _ | _ | _ | _ | _ | _ | j<;>first | rfl | omega))) V ?_;refine E4 V V (by kernel_rfl) V V (I2 V V V (by omega) (by (rw [J39,hil];omega))) ?_;refine X8 V V (by kernel_rfl) V V (A27 (fun frc hU=>A68 (x) TySz.out (S6 hU V) V hvp2 (S6 hU V) V V V (fun _ _ _ h=>A10 h) (by intro j h1 h2;rcases j with _ | _ | _ | _ | _ | _ | _ | j<;>first | rfl | omega))) V ?_;refine E75 (by kernel_rfl) rfl ?_ ?_
  ·refine M6 V V (by kernel_rfl) V V (B7 V V) (M6 V V (by kernel_rfl) V V (B7 V V) (M6 V V (by kernel_rfl) V V (K9 V V (by omega)) ?_));exact B31
  refine k4 (k1 (A2 (A3 V V (A5 (K9 V V (by omega)) V (A6 V V (A4 ?_))))));refine k1 ?_;refine ⟨m+1,⟨by omega,fun k hk hk2=>?_⟩,by omega,?_⟩
  ·by_cases e:k=m
   ·subst e;rw [←hym];exact ht.2
   ·exact hall k (by omega) hk2
  ·rw [J16,show (((i - m:Nat):Int) - 1).toNat=i - m - 1 by omega,hsw,show ((i - (m+1):Nat):Int)=((i - m:Nat):Int) - 1 by omega]
   exact I90 ⟨le1 rfl,le1 rfl,le1 rfl,le1 rfl,le1 rfl,le1 rfl,trivial⟩ hH (by repeat (first | exact B2 | refine tail_drop rfl ?_ | refine B3 rfl ?_)) (E5 (L:=[(802,_)]) ⟨rfl,trivial⟩ (by repeat (first | exact D6 | refine D7 rfl ?_)))
 ·rw [n8,Bool.and_eq_false_iff,decide_eq_false_iff_not,hcmp] at ht
  have hd:o7 rev x m rest=A16 l (i+1):=by
   rw [e1]
   refine G78 (by omega) hall fun hml=>?_
   rcases ht with h | h
   ·omega
   ·rw [hy,J20,J14 hml] at h;exact h
  rw [hd]
  refine k6 (k7 (k7 (k8 V (k4 (k1 (A2 (A3 V V (D1 V V V (A6 V V (A4 ?_))))))))));refine k1 ?_;refine ⟨i+1,⟨by omega,.inl (by omega)⟩,by omega,?_⟩
  exact I90 ⟨le1 rfl,le1 rfl,le1 rfl,le1 rfl,le1 rfl,trivial⟩ hH (by repeat (first | exact B2 | refine B3 rfl ?_)) (E5 (L:=[(802,_)]) ⟨rfl,trivial⟩ (by repeat (first | exact D6 | refine D7 rfl ?_)))
theorem pdq_met {gf:Fr} {ob:Obs} (l:List Delta) (n:Int) (hl:l.length≤12) (h0:B9 ob 802=some (B94 l)) :
  AL.Met Tryz.prog 117 [.one (.mut 802),.one (.p (.v (.int .i64 0))),.one (.p (.v (.int .i64 l.length))),.one (.p (.v (.int .i64 n))),.one (.p (.v (.func (.func 90) #[] #[])))] gf ob []
   (fun rs ob'=>rs=[]∧ob'=(802,B94 (B97 l))::ob):=by
 refine AL.Met.introH Tryz.func117 (by decide) rfl rfl rfl (fun hH=>?_)
 refine k2 (A2 (A6 V V (A4 ?_)));refine k1 (k2 (A2 (A6 V V (A4 ?_))));refine k1 (k3 ?_);refine C5 (X:=Nat) (fun _=>([(0,.s (.one (.mut 802))),(1,C0 0),(2,C0 l.length),(3,C0 n),(4,I6 (.func (.func 90) #[] #[])),(10,P6 true),(11,P6 true)]++gf,ob)) (fun _=>True) (fun _=>0) 0 trivial ?_ ?_
 ·exact I90 ⟨le1 rfl,le1 rfl,le1 rfl,le1 rfl,le1 rfl,le1 rfl,le1 rfl,trivial⟩ hH (by repeat (first | exact B2 | refine B3 rfl ?_)) (fun _ _ h=>h)
 intro _ _
 dsimp only
 refine k3 (k2 (A2 (A3 V V (A3 V V (A5 (K9 V V (by omega)) V (A6 V V (A4 ?_)))))));refine k1 (k2 (k2 (A2 (A3 V V (A5 (B08 V V) V (A4 ?_))))));refine k1 ?_;refine B0 rfl (fun ht=>?_) (fun ht=>?_)
 ·refine k2 (A2 (A3 V V (A3 V V (A3 V V (A3 V V (L1 (G13 l (by omega) h0) V V V ?_))))));rintro _ _ ⟨rfl,rfl⟩;refine A4 ?_;refine k1 (k10 (k11 (k12 (k11 (k12 ?_)))))
  exact G5 (A67 rfl) (by repeat (first | exact B2 | refine B3 rfl ?_ | refine D5 _ ?_)) (fun _ _ h=>h) ⟨rfl,rfl⟩
 ·have h1:=A1 ht
  omega
set_option maxHeartbeats 1000000
theorem I59 (n:Nat) (hn:n < 256):FnOk Tryz.prog 161 [.one (.v (.int .u64 n))] (fun rs=>rs=[E6 (Lib.bitLen n:Nat)]) :=
 I94 (xs:=[.int .u64 n]) ⟨_,rfl,rfl,rfl⟩ rfl fun w=>by simpa using Tryz.bits_Len64 (n:Int) w (by omega) (by omega)
theorem G83 (n:Nat) (hn:n < 256):FnOk Tryz.prog 118 [.one (.v (.int .u64 n))] (fun rs=>∃r:Int,rs=[E6 r]):=by
 refine FnOk.intro Tryz.func118 (by decide) V V V V ?_
 refine k2 (A2 (A6 V V (A4 ?_)));refine k1 (k2 (c_condF ?_))
 refine k5 (k1 (k2 (A2 (A3 V V (C9 (I59 n hn) V V V ?_)))));rintro _ rfl;refine A6 V V (A4 ?_);refine k1 (k10 ?_)
 exact B6 (G7 rfl rfl rfl) ⟨_,rfl⟩
theorem F41 {gf:Fr} {ob:Obs} (l:List Delta) (hl:l.length≤12) (h0:B9 ob 802=some (B94 l)) :
  AL.Met Tryz.prog 89 [.one (.mut 802),.one (.p (.v (.func (.func 90) #[] #[])))] gf ob []
   (fun rs ob'=>rs=[]∧ob'=(802,B94 (B97 l))::ob):=by
 have hw:IntKind.u64.wrap (l.length:Int)=(l.length:Nat):=by unfold IntKind.wrap;simp [IntKind.signed,IntKind.bits];omega
 refine AL.Met.intro Tryz.func89 (by decide) V V V ?_
 refine k2 (A2 (A3 V V (A5 (X0 V h0) V (A6 V V (A4 ?_)))));refine k1 (A2 (A3 V V (A3 V V (A3 V V (A5 (Y2 V) V (C9 ((by rw [hw];exact G83 l.length (by omega))) V V V ?_))))));rintro _ ⟨r,rfl⟩;refine A3 V V (L1 (pdq_met l r hl h0) V V V ?_);rintro _ _ ⟨rfl,rfl⟩;refine A4 ?_
 skip
 exact S9 (A67 rfl) (by repeat (first | exact B2 | refine B3 rfl ?_ | refine D5 _ ?_)) (fun _ _ h=>h) ⟨rfl,rfl⟩
def B38 (b:List File) (a:List File) (i:Nat):List Delta:=(a.take i).filterMap (A58 b)
theorem G14 {b a:List File} {i:Nat} (h:i < a.length):B38 b a (i+1)=B38 b a i++(A58 b a[i]).toList:=by
 have e:[a[i]].filterMap (A58 b)=(A58 b a[i]).toList:=by
  cases hd:A58 b a[i] with
  | none=>rw [List.filterMap_cons_none hd];rfl
  | some d=>rw [List.filterMap_cons_some hd];rfl
 unfold B38
 rw [List.take_add_one,J14 h,Option.toList_some,List.filterMap_append,e]
def A50 (a:List File) (b:List File) (i:Nat):List Delta:=(b.take i).filterMap (B81 a)
theorem G15 {a b:List File} {i:Nat} (h:i < b.length):A50 a b (i+1)=A50 a b i++(B81 a b[i]).toList:=by
 have e:[b[i]].filterMap (B81 a)=(B81 a b[i]).toList:=by
  cases hd:B81 a b[i] with
  | none=>rw [List.filterMap_cons_none hd];rfl
  | some d=>rw [List.filterMap_cons_some hd];rfl
 unfold A50
 rw [List.take_add_one,J14 h,Option.toList_some,List.filterMap_append,e]
theorem G84 (b a:List File) (i:Nat):(B38 b a i).length≤a.length:=by
 unfold B38
 have:=List.length_filterMap_le (A58 b) (a.take i)
 rw [J24] at this;omega
theorem G85 (a b:List File) (i:Nat):(A50 a b i).length≤b.length:=by
 unfold A50
 have:=List.length_filterMap_le (B81 a) (b.take i)
 rw [J24] at this;omega
def B39 (a b:List File):Int:=if G1 a≠0 then G1 a else G1 b
theorem I60 (a b:List File) (ha:FewF a) (hb:FewF b) (hab:B39 a b=0→a.length+b.length≤12):FnOk Tryz.prog 64 [O3 a,O3 b] (fun rs=>rs=[C55 (if B39 a b≠0 then [] else R1 a b),E6 (B39 a b)]):=by
 have hal:=ha.len
 have hbl:=hb.len
 refine FnOk.intro Tryz.func64 (by decide) V V V V ?_
 refine k2 (A2 (A6 V V (A6 V V (A4 ?_))));refine k1 (k2 (k2 (A2 (A3 V V (A3 V V (C9 (I54 a b ha hb) V V V ?_))))));rintro _ rfl;refine A6 V V (A4 ?_);refine k1 (k2 (A2 (A3 V V (A5 (Q9 V V) V (A4 ?_)))));refine k1 ?_;refine B0 rfl (fun ht=>?_) (fun ht=>?_)
 ·have h1:B39 a b≠0:=A0 ht
  refine k2 (A2 (A3 V V (A5 (G8 _ 2 j6) V (A6 V V (A4 ?_)))));refine k1 (k10 (k11 ?_))
  exact B6 (rs:=[C55 [],E6 (B39 a b)]) (V5 rfl rfl rfl rfl rfl) (by rw [if_pos h1])
 have h1:¬B39 a b≠0:=A1 ht
 have h0:B39 a b=0:=Decidable.not_not.1 h1
 have hlen:=hab h0
 have ha0:G1 a=0:=by
  apply Classical.byContradiction
  intro h;unfold B39 at h0;rw [if_pos h] at h0;exact h h0
 have hb0:G1 b=0:=by unfold B39 at h0;rw [if_neg (fun h=>h ha0)] at h0;exact h0
 have hda:=(A59 ha0).1
 have hdb:=(A59 hb0).1
 have hfa:=C43 hda
 have hfb:=C43 hdb
 rw [h0,if_neg (show ¬(0:Int)≠0 from fun h=>h rfl),←I30 hda hdb]
 refine k5 (k1 (k2 (A2 (A3 V V (B33 (F95 a hal) V V V V ?_)))));rintro _ _ ⟨rfl,rfl⟩;refine ⟨rfl,?_⟩;refine A3 V V (B33 (D94 b hbl) V V V V ?_);rintro _ _ ⟨rfl,rfl⟩;refine ⟨rfl,?_⟩;refine A6 V V (A6 V V (A4 ?_));refine k1 (k2 (A2 (C6 (I46 802 _ j6 V) V (A4 ?_))));refine k1 (k2 (k2 (A2 (A3 V V (E1 V V (A3 V V (A4 ?_)))))));refine k1 (k3 (C5 (X:=Nat) (fun i=>([(1,C7 File 2 Q4 b),(7,.s (.one (.mut 801))),(8,.s (.one (.mut 800))),(9,.s (.one (.mut 802))),(28,C7 File 2 Q4 a),(29,C0 a.length),(30,C0 i)],[(800,.map Str m9 (U2 b)),(801,.map Str m9 (U2 a)),(802,B94 (B38 b a i))])) (fun i=>i≤a.length) (fun i=>a.length - i) 0 (Nat.zero_le _) (I89 ⟨le1 rfl,le1 rfl,le1 rfl,le1 rfl,le1 rfl,le1 rfl,le1 rfl,trivial⟩ ⟨rfl,rfl,rfl,trivial⟩) ?_))
 intro i hi
 dsimp only at hi ⊢
 have hrl:=G84 b a i
 refine k2 (A2 (E7 V V V (A4 ?_)));refine k1 (k2 ?_);refine B0 rfl (fun ht=>?_) (fun ht=>?_)
 ·have hlt:i < a.length:=by have h1:=A0 ht;(try dsimp only at h1);omega
  obtain ⟨f,hf⟩:∃f,f=a[i]:=⟨_,rfl⟩
  have hv:a[i]?=some f:=by rw [hf];simp [hlt]
  have hs:=G14 (b:=b) hlt
  rw [←hf] at hs
  refine k5 (k1 (k2 (k3 (k2 (A2 (A5 (A8 V (.pure _ _ _ _) V (by omega) hv) V (A5 (E0 V V) V (C6 (J6 11 V) V (H1 (C2 TySz.out V V V V V V) (A4 ?_))))))))));refine k1 (k2 (A2 (A3 V V (A5 (A9 V) V (G4 V V V V (A5 (B30 (f.Path) (r:=((J1 b f.Path).map E45)) V V V t8 u0 (hfb f.Path)) V (A3 V V (H0 V V V (H0 V V V (A6 V V (A6 V V (A4 ?_))))))))))));refine k1 (k2 (A2 (A3 V V (A5 (R7 V) V (A4 ?_)))));refine k1 ?_
  cases hfo:J1 b f.Path with
  | none =>
   have hra:A58 b f=some ⟨f.Path,2⟩:=by unfold A58;rw [hfo]
   rw [hra] at hs
   refine B0 rfl (fun ht=>?_) (fun ht=>?_)
   ·skip
    refine A2 (A3 V V (A5 (A9 V) V (G4 V V V V (A5 (J3 V) V (A5 (C1 (c:=j6) (ys:=[⟨f.Path,2⟩]) (D2 V V V V F1) V V V) V (C6 (T0 V V V (.pure _ _ _ _) (by (simp only [J17,J21];omega)) V) V (A6 V V (A4 ?_))))))));refine k4 (k1 (A2 (D1 V V V (A3 V V (A4 ?_)))));refine k1 ?_;refine ⟨i+1,by omega,by omega,?_⟩
    rw [hs]
    exact (I89 ⟨le1 rfl,le1 rfl,le1 rfl,le1 rfl,le1 rfl,le1 rfl,le1 rfl,trivial⟩ ⟨rfl,rfl,rfl,trivial⟩)
   ·cases ht
  | some y =>
   refine B0 rfl (fun ht=>?_) (fun ht=>?_)
   ·cases ht
   refine k2 (A2 (A3 V V (A5 (A9 V) V (G4 V V V V (A5 (D46 V V) V (A4 ?_))))));refine k1 ?_;refine B0 rfl (fun ht=>?_) (fun ht=>?_)
   ·have h2:y≠f.Blob:=A0 ht
    have hra:A58 b f=some ⟨f.Path,3⟩:=by unfold A58;rw [hfo];dsimp only;rw [if_pos h2]
    rw [hra] at hs
    skip
    refine A2 (A3 V V (A5 (A9 V) V (G4 V V V V (A5 (J3 V) V (A5 (C1 (c:=j6) (ys:=[⟨f.Path,3⟩]) (D2 V V V V F1) V V V) V (C6 (T0 V V V (.pure _ _ _ _) (by (simp only [J17,J21];omega)) V) V (A6 V V (A4 ?_))))))));refine k4 (k1 (A2 (D1 V V V (A3 V V (A4 ?_)))));refine k1 ?_;refine ⟨i+1,by omega,by omega,?_⟩
    rw [hs]
    exact (I89 ⟨le1 rfl,le1 rfl,le1 rfl,le1 rfl,le1 rfl,le1 rfl,le1 rfl,trivial⟩ ⟨rfl,rfl,rfl,trivial⟩)
   ·have h2:¬y≠f.Blob:=A1 ht
    have hra:A58 b f=none:=by unfold A58;rw [hfo];dsimp only;rw [if_neg h2]
    rw [hra] at hs
    refine k5 (k4 (k1 (A2 (D1 V V V (A3 V V (A4 ?_))))));refine k1 ?_;refine ⟨i+1,by omega,by omega,?_⟩
    rw [hs]
    simp only [Option.toList_none,J43]
    exact (I89 ⟨le1 rfl,le1 rfl,le1 rfl,le1 rfl,le1 rfl,le1 rfl,le1 rfl,trivial⟩ ⟨rfl,rfl,rfl,trivial⟩)
 have hie:i=a.length:=by have h1:=A1 ht;(try dsimp only at h1);omega
 have hA:B38 b a a.length=a.filterMap (A58 b):=by unfold B38;rw [J22]
 obtain ⟨A,hAd⟩:∃A,A=a.filterMap (A58 b):=⟨_,rfl⟩
 have hAl:A.length≤a.length:=by rw [hAd];exact List.length_filterMap_le _ _
 rw [hie,hA,←hAd]
 refine k6 (k2 (k2 (A2 (A3 V V (E1 V V (A3 V V (A4 ?_)))))));refine k1 (k3 (C5 (X:=Nat) (fun i=>([(7,.s (.one (.mut 801))),(9,.s (.one (.mut 802))),(60,C7 File 2 Q4 b),(61,C0 b.length),(62,C0 i)],[(801,.map Str m9 (U2 a)),(802,B94 (A++A50 a b i))])) (fun i=>i≤b.length) (fun i=>b.length - i) 0 (Nat.zero_le _) (by rw [show A++A50 a b 0=A by unfold A50;simp];exact (I89 ⟨le1 rfl,le1 rfl,le1 rfl,le1 rfl,le1 rfl,trivial⟩ ⟨rfl,rfl,trivial⟩)) ?_))
 intro i hi
 dsimp only at hi ⊢
 have hrl2:=G85 a b i
 refine k2 (A2 (E7 V V V (A4 ?_)));refine k1 (k2 ?_);refine B0 rfl (fun ht=>?_) (fun ht=>?_)
 ·have hlt:i < b.length:=by have h1:=A0 ht;(try dsimp only at h1);omega
  obtain ⟨f,hf⟩:∃f,f=b[i]:=⟨_,rfl⟩
  have hv:b[i]?=some f:=by rw [hf];simp [hlt]
  have hs:=G15 (a:=a) hlt
  rw [←hf] at hs
  refine k5 (k1 (k2 (k3 (k2 (A2 (A5 (A8 V (.pure _ _ _ _) V (by omega) hv) V (A5 (E0 V V) V (C6 (J6 15 V) V (H1 (C2 TySz.out V V V V V V) (A4 ?_))))))))));refine k1 (k2 (A2 (A3 V V (A5 (A9 V) V (G4 V V V V (A5 (B30 (f.Path) (r:=((J1 a f.Path).map E45)) V V V t8 u0 (hfa f.Path)) V (A3 V V (H0 V V V (H0 V V V (A6 V V (A6 V V (A4 ?_))))))))))));refine k1 (k2 (A2 (A3 V V (A5 (R7 V) V (A4 ?_)))));refine k1 ?_
  cases hfo:J1 a f.Path with
  | none =>
   have hra:B81 a f=some ⟨f.Path,1⟩:=by unfold B81;rw [hfo]
   rw [hra] at hs
   refine B0 rfl (fun ht=>?_) (fun ht=>?_)
   ·skip
    refine A2 (A3 V V (A5 (A9 V) V (G4 V V V V (A5 (J3 V) V (A5 (C1 (c:=j6) (ys:=[⟨f.Path,1⟩]) (D2 V V V V F1) V V V) V (C6 (T0 V V V (.pure _ _ _ _) (by (simp only [J19,J17,J21];omega)) V) V (A6 V V (A4 ?_))))))));refine k4 (k1 (A2 (D1 V V V (A3 V V (A4 ?_)))));refine k1 ?_;refine ⟨i+1,by omega,by omega,?_⟩
    rw [hs,←J26]
    exact (I89 ⟨le1 rfl,le1 rfl,le1 rfl,le1 rfl,le1 rfl,trivial⟩ ⟨rfl,rfl,trivial⟩)
   ·cases ht
  | some y =>
   have hra:B81 a f=none:=by unfold B81;rw [hfo]
   rw [hra] at hs
   refine B0 rfl (fun ht=>?_) (fun ht=>?_)
   ·cases ht
   ·refine k5 (k4 (k1 (A2 (D1 V V V (A3 V V (A4 ?_))))));refine k1 ?_;refine ⟨i+1,by omega,by omega,?_⟩
    rw [hs]
    simp only [Option.toList_none,J43]
    exact (I89 ⟨le1 rfl,le1 rfl,le1 rfl,le1 rfl,le1 rfl,trivial⟩ ⟨rfl,rfl,trivial⟩)
 have hie:i=b.length:=by have h1:=A1 ht;(try dsimp only at h1);omega
 have hB:A++A50 a b b.length=s7 a b:=by unfold A50 s7;rw [J22,hAd]
 have hdl:=H20 a b
 rw [hie,hB]
 refine k6 (k2 (A2 (A3 V V (L1 (F41 (s7 a b) (by omega) V) V V V ?_))));rintro _ _ ⟨rfl,rfl⟩;refine A4 ?_;refine k1 (k2 (E2 (Sees.freezeG (k:=802) V V) ?_))
 refine A2 (A3 V V (A6 V V (A6 V V (A4 ?_))));refine k1 (k10 ?_)
 exact B6 (rs:=[C55 (diffOf a b),E6 0]) (V5 rfl rfl rfl rfl rfl) rfl
set_option maxHeartbeats 1000000
theorem C17 {nd:Str}:∀{l:List (Str × Str)},(∀x∈l,x.1.length≤16777216∧x.2.length≤16777216) → -(16777218*(l.length:Int))≤S2 nd l∧S2 nd l≤16777218*(l.length:Int)
 | [],_=>⟨by simp [S2],by simp [S2]⟩
 | x::r,h=>by
  have ih:=C17 (nd:=nd) fun y hy=>h y (List.mem_cons_of_mem _ hy)
  have h1:=A74 nd x.1 (h x List.mem_cons_self).1
  have h2:=A74 nd x.2 (h x List.mem_cons_self).2
  have e:S2 nd (x::r)=U8 nd x.2 - U8 nd x.1+S2 nd r:=by unfold S2;rw [J33,List.sum_cons]
  rw [e,J17]
  constructor<;>omega
theorem G16 {nd:Str} {l:List (Str × Str)} {i:Nat} (h:i < l.length):S2 nd (l.take (i+1))=S2 nd (l.take i)+(U8 nd l[i].2 - U8 nd l[i].1):=by
 unfold S2
 rw [List.take_add_one,J14 h,Option.toList_some,J48,List.sum_append];simp
theorem D19 {nd:Str} {B:List (List (Str × Str))} {p:Nat} (h:p < B.length):(B.take (p+1)).map (S2 nd)=(B.take p).map (S2 nd)++[S2 nd B[p]]:=by
 rw [List.take_add_one,J14 h,Option.toList_some,J48];rfl
theorem A33 {g:Graph} {c:Int} (h:T6 g c=0):Valid g∧0≤c∧c < g.length:=by
 unfold T6 at h
 split at h
 ·rename_i hd;exact absurd h hd
 ·rename_i hd
  split at h
  ·rename_i hc;exact ⟨Z5 (Decidable.not_not.1 hd),hc⟩
  ·cases h
theorem G86 (g:Graph) (c:Int) (nd:Str) (h:FewT g) (hn:nd.length≤1073741824):FnOk Tryz.prog 10 [I1 g,E6 c,L2 nd] (fun rs=>rs=[I0 (O7 g c nd).1,E6 (O7 g c nd).2]):=by
 refine FnOk.intro Tryz.func10 (by decide) V V V V ?_
 refine k2 (A2 (A6 V V (A6 V V (A4 ?_))));refine k1 (k2 (k2 (A2 (A3 V V (A3 V V (C9 (H99 g c h) V V V ?_))))));rintro _ rfl;refine A6 V V (A4 ?_);refine k1 (k2 (A2 (A3 V V (A5 (Q9 V V) V (A4 ?_)))));refine k1 ?_;refine B0 rfl (fun ht=>?_) (fun ht=>?_)
 ·have h1:T6 g c≠0:=A0 ht
  refine k2 (A2 (A3 V V (A5 (G8 _ 1 E3) V (A6 V V (A4 ?_)))));refine k1 (k10 (k11 ?_))
  exact B6 (rs:=[I0 [],E6 (T6 g c)]) (V5 rfl rfl rfl rfl rfl) (by unfold O7;rw [if_pos h1])
 have h1:¬T6 g c≠0:=A1 ht
 obtain ⟨hv,hc0,hc1⟩:=A33 (Decidable.not_not.1 h1)
 obtain ⟨k,rfl⟩:∃k:Nat,c=(k:Int):=⟨c.toNat,by omega⟩
 have hres:O7 g (k:Int) nd=((K5 g k).map (S2 nd),0):=by unfold O7;rw [if_neg h1,J16]
 rw [hres]
 have hB:=A73 h hv k
 refine k5 (k1 (k2 (A2 (A3 V V (A3 V V (C9 (E88 g k h hv (by omega)) V V V ?_))))));rintro _ rfl;refine A6 V V (A4 ?_)
 obtain ⟨B,hBd⟩:∃B,B=K5 g k:=⟨_,rfl⟩
 rw [←hBd] at hB ⊢
 have hBl:=hB.len
 refine k1 (k2 (A2 (C6 (N0 10 _ E3 V) V (A4 ?_))));refine k1 (k2 (k2 (A2 (A6 V V (A4 ?_)))));refine k1 (k3 (C5 (X:=Nat) (fun p=>([(2,S3 nd),(9,C7 (List (Str × Str)) 1 Y5 B),(10,.s (.one (.buf 10 Int 1 E3 ((B.take p).map (S2 nd))))),(11,C0 p)],[(10,.spare ((B.take p).map (S2 nd)).length 1 3)])) (fun p=>p≤B.length) (fun p=>B.length - p) 0 (Nat.zero_le _) (I89 ⟨le1 rfl,le1 rfl,le1 rfl,le1 rfl,trivial⟩ ⟨rfl,trivial⟩) ?_))
 intro p hp
 dsimp only at hp ⊢
 have hml:((B.take p).map (S2 nd)).length≤33:=by rw [J32,J24];omega
 refine k2 (k2 (A2 (A3 V V (A3 V V (E1 V V (E7 V V V (A4 ?_)))))));refine k1 ?_;refine B0 rfl (fun ht=>?_) (fun ht=>?_)
 rotate_left
 ·have hpe:p=B.length:=by have h1:=A1 ht;(try dsimp only at h1);omega
  rw [hpe,J22]
  refine k6 (k2 (A2 (A3 V V (A6 V V (A6 V V (A4 ?_))))));refine k1 (k10 ?_)
  exact B6 (rs:=[I0 (B.map (S2 nd)),E6 0]) (V5 rfl rfl rfl rfl rfl) rfl
 have hplt:p < B.length:=by have h1:=A0 ht;(try dsimp only at h1);omega
 have hs:=D19 (nd:=nd) hplt
 obtain ⟨l,hl⟩:∃l,l=B[p]:=⟨_,rfl⟩
 have hvl:B[p]?=some l:=by rw [hl];simp [hplt]
 have hlm:l∈B:=by rw [hl];exact J18 hplt
 have hll:=hB.lens l hlm
 rw [←hl] at hs
 obtain ⟨S,hS⟩:∃S,S=(B.take p).map (S2 nd):=⟨_,rfl⟩
 rw [←hS] at hs hml ⊢
 refine k5 (k1 (k2 (k3 (k2 (A2 (A6 V V (A4 ?_)))))));refine k1 (k2 (k2 (A2 (A6 V V (A4 ?_)))));refine k1 (k3 (C5 (X:=Nat) (fun i=>([(2,S3 nd),(9,C7 (List (Str × Str)) 1 Y5 B),(10,.s (.one (.buf 10 Int 1 E3 S))),(11,C0 p),(12,C0 (S2 nd (l.take i))),(13,C0 i)],[(10,.spare S.length 1 3)])) (fun i=>i≤l.length) (fun i=>l.length - i) 0 (Nat.zero_le _) (I89 ⟨le1 rfl,le1 rfl,le1 rfl,le1 rfl,le1 rfl,le1 rfl,trivial⟩ ⟨rfl,trivial⟩) ?_))
 intro i hi
 dsimp only at hi ⊢
 refine k2 (k2 (A2 (A3 V V (A3 V V (A3 V V (A5 (A8 V (.pure _ _ _ _) V (by omega) hvl) V (A5 (A7 V V) V (E1 V V (E7 V V V (A4 ?_))))))))));refine k1 ?_;refine B0 rfl (fun ht=>?_) (fun ht=>?_)
 ·have hilt:i < l.length:=by have h1:=A0 ht;(try dsimp only at h1);omega
  have hs2:=G16 (nd:=nd) hilt
  obtain ⟨x,hx⟩:∃x,x=l[i]:=⟨_,rfl⟩
  have hvx:l[i]?=some x:=by rw [hx];simp [hilt]
  have hxs:=hB.strs l hlm x (by rw [hx];exact J18 hilt)
  rw [←hx] at hs2
  have hsb:=C17 (nd:=nd) (l:=l.take i) fun y hy=>hB.strs l hlm y (List.mem_of_mem_take hy)
  rw [J24] at hsb
  have hc1:=A74 nd x.1 hxs.1
  have hc2:=A74 nd x.2 hxs.2
  obtain ⟨s0,hs0⟩:∃s0,s0=S2 nd (l.take i):=⟨_,rfl⟩
  obtain ⟨u1,hu1⟩:∃u1,u1=U8 nd x.1:=⟨_,rfl⟩
  obtain ⟨u2,hu2⟩:∃u2,u2=U8 nd x.2:=⟨_,rfl⟩
  have hmin:min i l.length≤400:=by omega
  have hsb1:-6710887200≤s0∧s0≤6710887200:=by rw [hs0];omega
  rw [←hu1] at hc1
  rw [←hu2] at hc2
  rw [←hs0,←hu1,←hu2] at hs2
  rw [←hs0]
  clear hsb
  have hr1:=A31 nd x.1 hn hxs.1
  have hr2:=A31 nd x.2 hn hxs.2
  rw [←hu1] at hr1
  rw [←hu2] at hr2
  refine k5 (k1 (k2 (k3 (D9 (by kernel_rfl) (by kernel_rfl) (D8 V V (D8 V V (D8 V V (D8 V V (B5 (A8 V (.pure _ _ _ _) V (by omega) hvl) V V (B5 (A7 V V) V V (D8 V V (B5 (A8 V (.pure _ _ _ _) V (by omega) hvx) V V (B5 (a7 V V (by first | omega | decide) (by omega)) V V (B5 (A7 V V) V V (B5 (L0 (hr2) V V) V V (B5 (b8 V V (by omega)) V V (D8 V V (D8 V V (D8 V V (B5 (A8 V (.pure _ _ _ _) V (by omega) hvl) V V (B5 (A7 V V) V V (D8 V V (B5 (A8 V (.pure _ _ _ _) V (by omega) hvx) V V ?_)))))))))))))))))))))));refine B5 (a7 V V (by first | omega | decide) (by omega)) V V (B5 (A7 V V) V V (B5 (L0 (hr1) V V) V V (B5 (K9 V V (by omega)) V V (B5 (H5 V V) V V (N3 ?_)))));refine k4 (k1 (A2 (A3 V V (D1 V V V (A6 V V (A4 ?_))))));refine k1 ?_;refine ⟨i+1,by omega,by omega,?_⟩
  rw [hs2,←Int.add_sub_assoc]
  exact (I89 ⟨le1 rfl,le1 rfl,le1 rfl,le1 rfl,le1 rfl,le1 rfl,trivial⟩ ⟨rfl,trivial⟩)
 ·have hie:i=l.length:=by have h1:=A1 ht;(try dsimp only at h1);omega
  rw [hie,J22]
  refine k6 (k7 (k7 (k8 V (k1 (A2 (A3 V V (A3 V V (A5 (C1 (c:=E3) (ys:=[S2 nd l]) (D2 V V V V F1) V V V) V (C6 (G9 V V V (.pure _ _ _ _) (by (simp only [J17,J21];omega)) V) V (A6 V V (A4 ?_)))))))))));refine k4 (k1 (A2 (A3 V V (D1 V V V (A6 V V (A4 ?_))))));refine k1 ?_;refine ⟨p+1,by omega,by omega,?_⟩
  rw [hs]
  exact (I89 ⟨le1 rfl,le1 rfl,le1 rfl,le1 rfl,trivial⟩ ⟨rfl,trivial⟩)
theorem G87 (g:Graph) (c:Int) (h:FewT g):FnOk Tryz.prog 40 [I1 g,E6 c] (fun rs=>rs=[E6 (T6 g c)]):=by
 refine FnOk.intro Tryz.func40 (by decide) V V V V ?_
 refine k2 (A2 (A6 V V (A4 ?_)));refine k1 (k2 (k2 (A2 (A3 V V (C9 (H55 g h) V V V ?_)))));rintro _ rfl;refine A6 V V (A4 ?_);refine k1 (k2 (A2 (A3 V V (A5 (Q9 V V) V (A4 ?_)))));refine k1 ?_;refine B0 rfl (fun ht=>?_) (fun ht=>?_)
 ·have h1:J0 g≠0:=A0 ht
  refine k2 (A2 (A3 V V (A6 V V (A4 ?_))));refine k1 (k10 (k11 ?_))
  exact B6 (rs:=[E6 (J0 g)]) (G7 rfl rfl rfl) (by unfold T6;rw [if_pos h1])
 have h1:¬J0 g≠0:=A1 ht
 refine k5 (k1 (k2 (k2 (A2 (A3 V V (A3 V V (C9 (dis_ok g c) V V V ?_)))))));rintro _ rfl;refine A5 (R7 V) V (A4 ?_);refine k1 ?_;refine B0 rfl (fun ht=>?_) (fun ht=>?_)
 ·have h2:¬U9 g c:=by simpa using ht
  refine k2 (A2 (A6 V V (A4 ?_)));refine k1 (k10 (k11 ?_))
  exact B6 (rs:=[E6 5]) (G7 rfl rfl rfl) (by unfold T6;rw [if_neg h1,if_neg h2])
 ·have h2:U9 g c:=by simpa using ht
  refine k5 (k1 (k2 (A2 (A6 V V (A4 ?_)))));refine k1 (k10 ?_)
  exact B6 (rs:=[E6 0]) (G7 rfl rfl rfl) (by unfold T6;rw [if_neg h1,if_pos h2])
theorem D20 (g:Graph) (c:Nat) (hf:FewG g) (hr:related g=true) (hc:c < g.length):FnOk Tryz.prog 42 [I1 g,E6 c] (fun rs=>rs=[B70 (N9 g c)]):=by
 obtain ⟨cm,hcm⟩:∃cm,cm=g[c]:=⟨_,rfl⟩
 have hv:g[((c:Nat):Int).toNat]?=some cm:=by rw [hcm];simp [hc]
 have hps:E9 g c=cm.Parents:=by rw [V9 hc,hcm]
 have hpr:=(J4 hr c).1
 have hpl:=hf.pars cm (by rw [hcm];exact J18 hc)
 have htr:N9 g c=if cm.Parents=[] then [[]] else X2 g cm.Parents cm.Parents.length:=by unfold N9 X2;rw [hps,J22]
 rw [hps] at hpr
 rw [htr]
 refine FnOk.intro Tryz.func42 (by decide) V V V V ?_
 refine k2 (A2 (A6 V V (A4 ?_)));refine k1 (k2 (k2 (A2 (A3 V V (A3 V V (A5 (A8 V (.pure _ _ _ _) V (by omega) hv) V (A5 (B8 V) V (A5 (A7 V V) V (E1 V V (A5 (F8 V V) V (A4 ?_)))))))))));refine k1 ?_;refine B0 rfl (fun ht=>?_) (fun ht=>?_)
 ·have h1:cm.Parents=[]:=by
   have h1:=A0 ht
   exact List.length_eq_zero_iff.1 (by omega)
  rw [if_pos h1]
  refine k2 (A2 (A5 (C1 (c:=n6) (ys:=[[]]) (F88 V V F1) V V V) V (A6 V V (A4 ?_))));refine k1 (k10 (k11 ?_))
  exact B6 (rs:=[B70 [[]]]) (G7 rfl rfl rfl) rfl
 have h1:¬cm.Parents=[]:=fun e=>by
  have h1:=A1 ht
  rw [e] at h1;exact h1 rfl
 rw [if_neg h1]
 refine k5 (k1 (k2 (A2 (C6 (N0 5 _ n6 V) V (A4 ?_)))));refine k1 (k2 (k2 (A2 (A3 V V (A3 V V (A5 (A8 V (.pure _ _ _ _) V (by omega) hv) V (A5 (B8 V) V (A5 (A7 V V) V (E1 V V (A3 V V (A4 ?_)))))))))));refine k1 (k3 (C5 (X:=Nat) (fun i=>([(0,C7 Commit 3 F6 g),(5,.s (.one (.buf 5 (List File) 1 n6 (X2 g cm.Parents i)))),(20,C7 Int 1 E3 cm.Parents),(21,C0 cm.Parents.length),(22,C0 i)],[(5,.spare (X2 g cm.Parents i).length 1 34)])) (fun i=>i≤cm.Parents.length) (fun i=>cm.Parents.length - i) 0 (Nat.zero_le _) (I89 ⟨le1 rfl,le1 rfl,le1 rfl,le1 rfl,le1 rfl,trivial⟩ ⟨rfl,trivial⟩) ?_))
 intro i hi
 dsimp only at hi ⊢
 have hul:=D17 g cm.Parents i
 refine k2 (A2 (E7 V V V (A4 ?_)));refine k1 (k2 ?_);refine B0 rfl (fun ht=>?_) (fun ht=>?_)
 ·have hlt:i < cm.Parents.length:=by have h1:=A0 ht;(try dsimp only at h1);omega
  have hpb:=hpr _ (J18 hlt)
  obtain ⟨p,hp⟩:∃p:Nat,cm.Parents[i]=(p:Int):=⟨cm.Parents[i].toNat,by omega⟩
  have hvp:cm.Parents[i]?=some (p:Int):=by rw [J14 hlt,hp]
  obtain ⟨pm,hpm⟩:∃pm,pm=g[p]:=⟨_,rfl⟩
  have hvpm:g[((p:Nat):Int).toNat]?=some pm:=by rw [hpm,J16];simp [show p < g.length by omega]
  have hs:=C46 (g:=g) hlt
  rw [hp,J16,A72 (by rw [J16] at hvpm;exact hvpm)] at hs
  refine k5 (k1 (k2 (k3 (k2 (A2 (A5 (A8 V (.pure _ _ _ _) V (by omega) hvp) V (A5 (A7 V V) V (A6 V V (A4 ?_)))))))));refine k1 (A2 (A3 V V (A3 V V (A3 V V (A5 (A8 V (.pure _ _ _ _) V (by omega) hvpm) V (A5 (B8 V) V (A5 (A7 V V) V (A5 (C1 (c:=n6) (ys:=[pm.Files]) (D2 V V V V F1) V V V) V (C6 (G9 V V V (.pure _ _ _ _) (by (simp only [J17,J21];omega)) V) V (A6 V V (A4 ?_)))))))))));refine k4 (k1 (A2 (D1 V V V (A3 V V (A4 ?_)))));refine k1 ?_;refine ⟨i+1,by omega,by omega,?_⟩
  rw [hs]
  exact (I89 ⟨le1 rfl,le1 rfl,le1 rfl,le1 rfl,le1 rfl,trivial⟩ ⟨rfl,trivial⟩)
 ·have hie:i=cm.Parents.length:=by have h1:=A1 ht;(try dsimp only at h1);omega
  rw [hie]
  refine k6 (k2 (A2 (A3 V V (A6 V V (A4 ?_)))));refine k1 (k10 ?_)
  exact B6 (rs:=[B70 (X2 g cm.Parents cm.Parents.length)]) (G7 rfl rfl rfl) rfl
def Short (g:Graph):Prop:=∀c:Nat,(R6 g c).length≤6
theorem Short.tree {g:Graph} (h:Short g) {c:Nat} {t:List File} (ht:t∈N9 g c):t.length≤6:=by
 unfold N9 at ht
 split at ht
 ·rw [List.mem_singleton.1 ht];simp
 ·obtain ⟨p,_,rfl⟩:=List.mem_map.1 ht
  exact h _
theorem I04 {g:Graph} (h:FewT g) {c:Nat} {t:List File} (ht:t∈N9 g c):FewF t:=by
 unfold N9 at ht
 split at ht
 ·rw [List.mem_singleton.1 ht];exact ⟨by simp,(fun _ h=>by cases h),(fun _ h=>by cases h)⟩
 ·obtain ⟨p,_,rfl⟩:=List.mem_map.1 ht
  exact h.files _
theorem Valid.check {g:Graph} (h:Valid g) (c:Nat):G1 (R6 g c)=0:=by
 unfold R6
 by_cases hc:c < g.length
 ·rw [J14 hc]
  exact h.tree _ (J18 hc)
 ·rw [J37 (by omega)];decide
theorem Valid.checks {g:Graph} (h:Valid g) {c:Nat} {t:List File} (ht:t∈N9 g c):G1 t=0:=by
 unfold N9 at ht
 split at ht
 ·rw [List.mem_singleton.1 ht];decide
 ·obtain ⟨p,_,rfl⟩:=List.mem_map.1 ht
  exact Valid.check h _
def A01 (g:Graph) (c:Nat):List (List Delta):=(N9 g c).map fun t=>R1 t (R6 g c)
def P4 (ts:List (List File)) (u:List File) (i:Nat):List (List Delta):=(ts.take i).map fun t=>R1 t u
theorem D97 {ts:List (List File)} {u:List File} {i:Nat} (h:i < ts.length):P4 ts u (i+1)=P4 ts u i++[R1 ts[i] u]:=by
 unfold P4
 rw [List.take_add_one,J14 h,Option.toList_some,J48];rfl
theorem E53 (ts:List (List File)) (u:List File) (i:Nat):(P4 ts u i).length≤ts.length:=by
 unfold P4;rw [J32,J24];omega
theorem cof_ok (g:Graph) (c:Nat) (h:FewT g) (hv:Valid g) (hs6:Short g) (hc:c < g.length):FnOk Tryz.prog 41 [I1 g,E6 c] (fun rs=>rs=[.one (.list (List Delta) 1 n7 (A01 g c))]):=by
 obtain ⟨cm,hcm⟩:∃cm,cm=g[c]:=⟨_,rfl⟩
 have hvc:g[((c:Nat):Int).toNat]?=some cm:=by rw [hcm];simp [hc]
 have hfc:R6 g c=cm.Files:=A72 (by rw [J16] at hvc;exact hvc)
 have htl:=u6 hv c
 have htf:∀t∈N9 g c,FewF t∧G1 t=0∧t.length≤6:=fun t ht=>⟨I04 h ht,Valid.checks hv ht,hs6.tree ht⟩
 have huf:=h.files c
 have hu0:=Valid.check hv c
 have hu6:=hs6 c
 obtain ⟨ts,hts⟩:∃ts,ts=N9 g c:=⟨_,rfl⟩
 obtain ⟨u,hu⟩:∃u,u=cm.Files:=⟨_,rfl⟩
 have hres:A01 g c=P4 ts u ts.length:=by unfold A01 P4;rw [J22,hfc,hts,hu]
 rw [hfc,←hu] at huf hu0 hu6
 rw [←hts] at htl htf
 rw [hres]
 refine FnOk.intro Tryz.func41 (by decide) V V V V ?_
 refine k2 (A2 (A6 V V (A4 ?_)));refine k1 (k2 (A2 (C6 (N0 5 _ n7 V) V (A4 ?_))));refine k1 (k2 (k2 (A2 (A3 V V (A3 V V (C9 (D20 g c h.few hv.rel hc) V V V ?_))))));rintro _ rfl;refine E1 V V (A3 V V (A4 ?_))
 rw [←hts]
 refine k1 (k3 (C5 (X:=Nat) (fun p=>([(0,C7 Commit 3 F6 g),(1,C0 c),(5,.s (.one (.buf 5 (List Delta) 1 n7 (P4 ts u p)))),(12,C7 (List File) 1 n6 ts),(13,C0 ts.length),(14,C0 p)],[(5,.spare (P4 ts u p).length 1 68)])) (fun p=>p≤ts.length) (fun p=>ts.length - p) 0 (Nat.zero_le _) (I89 ⟨le1 rfl,le1 rfl,le1 rfl,le1 rfl,le1 rfl,le1 rfl,trivial⟩ ⟨rfl,trivial⟩) ?_))
 intro p hp
 dsimp only at hp ⊢
 have hbl:=E53 ts u p
 refine k2 (A2 (E7 V V V (A4 ?_)));refine k1 (k2 ?_);refine B0 rfl (fun ht=>?_) (fun ht=>?_)
 ·have hplt:p < ts.length:=by have h1:=A0 ht;(try dsimp only at h1);omega
  have hs:=D97 (u:=u) hplt
  obtain ⟨t,ht0⟩:∃t,t=ts[p]:=⟨_,rfl⟩
  have hvt:ts[p]?=some t:=by rw [ht0];simp [hplt]
  obtain ⟨htf1,ht1,ht6⟩:=htf t (by rw [ht0];exact J18 hplt)
  rw [←ht0] at hs
  have hte:B39 t u=0:=by unfold B39;rw [ht1,if_neg (fun h=>h rfl),hu0]
  have hdiff:=I60 t u htf1 huf (fun _=>by omega)
  rw [hte,if_neg (fun h=>h rfl),show O3 u=O3 cm.Files by rw [hu]] at hdiff
  refine k5 (k1 (k2 (k3 (k2 (A2 (A5 (A8 V (.pure _ _ _ _) V (by omega) hvt) V (A5 (A7 V V) V (A6 V V (A4 ?_)))))))));refine k1 (k2 (A2 (A3 V V (A3 V V (A3 V V (A5 (A8 V (.pure _ _ _ _) V (by omega) hvc) V (A5 (B8 V) V (A5 (A7 V V) V (C9 (hdiff) V V V ?_)))))))));rintro _ rfl;refine A3 V V (H0 V V V (H0 V V V (A6 V V (A6 V V (A4 ?_)))));refine k1 (A2 (A3 V V (A3 V V (A5 (C1 (c:=n7) (ys:=[R1 t u]) (D2 V V V V F1) V V V) V (C6 (G9 V V V (.pure _ _ _ _) (by (simp only [J17,J21];omega)) V) V (A6 V V (A4 ?_)))))));refine k4 (k1 (A2 (D1 V V V (A3 V V (A4 ?_)))));refine k1 ?_;refine ⟨p+1,by omega,by omega,?_⟩
  rw [hs]
  exact (I89 ⟨le1 rfl,le1 rfl,le1 rfl,le1 rfl,le1 rfl,le1 rfl,trivial⟩ ⟨rfl,trivial⟩)
 ·have hpe:p=ts.length:=by have h1:=A1 ht;(try dsimp only at h1);omega
  rw [hpe]
  refine k6 (k2 (A2 (A3 V V (A6 V V (A4 ?_)))));refine k1 (k10 ?_)
  exact B6 (rs:=[.one (.list (List Delta) 1 n7 (P4 ts u ts.length))]) (G7 rfl rfl rfl) rfl
theorem I05 (g:Graph) (c:Int) (h:FewT g) (hs6:Short g):FnOk Tryz.prog 23 [I1 g,E6 c] (fun rs=>∃l,rs=[.one (.list (List Delta) 1 n7 l),E6 (T6 g c)]):=by
 refine FnOk.intro Tryz.func23 (by decide) V V V V ?_
 refine k2 (A2 (A6 V V (A6 V V (A4 ?_))));refine k1 (k2 (k2 (A2 (A3 V V (A3 V V (C9 (G87 g c h) V V V ?_))))));rintro _ rfl;refine A6 V V (A4 ?_);refine k1 (k2 (A2 (A3 V V (A5 (Q9 V V) V (A4 ?_)))));refine k1 ?_;refine B0 rfl (fun ht=>?_) (fun ht=>?_)
 ·refine k2 (A2 (A3 V V (A5 (G8 _ 1 n7) V (A6 V V (A4 ?_)))));refine k1 (k10 (k11 ?_))
  exact B6 (rs:=[.one (.list (List Delta) 1 n7 []),E6 (T6 g c)]) (V5 rfl rfl rfl rfl rfl) ⟨_,rfl⟩
 have h1:¬T6 g c≠0:=A1 ht
 have h0:T6 g c=0:=Decidable.not_not.1 h1
 obtain ⟨hv,hc0,hc1⟩:=A33 h0
 obtain ⟨k,rfl⟩:∃k:Nat,c=(k:Int):=⟨c.toNat,by omega⟩
 rw [h0]
 refine k5 (k1 (k2 (A2 (A3 V V (A3 V V (C9 (cof_ok g k h hv hs6 (by omega)) V V V ?_))))));rintro _ rfl;refine A6 V V (A6 V V (A4 ?_));refine k1 (k10 ?_)
 exact B6 (rs:=[.one (.list (List Delta) 1 n7 (A01 g k)),E6 0]) (V5 rfl rfl rfl rfl rfl) ⟨_,rfl⟩
set_option maxHeartbeats 1000000
theorem E90 (g:Graph) (c:Nat) (h:FewT g) (hv:Valid g) (hs6:Short g) (hc:c < g.length):FnOk Tryz.prog 24 [I1 g,E6 c] (fun rs=>rs=[C73 (K5 g c)]):=by
 obtain ⟨cm,hcm⟩:∃cm,cm=g[c]:=⟨_,rfl⟩
 have hvc:g[((c:Nat):Int).toNat]?=some cm:=by rw [hcm];simp [hc]
 have hfc:R6 g c=cm.Files:=A72 (by rw [J16] at hvc;exact hvc)
 have htl:=u6 hv c
 have htm:∀t∈N9 g c,t.length≤6:=fun t ht=>hs6.tree ht
 have hul:=hs6 c
 rw [hfc] at hul
 obtain ⟨ts,hts⟩:∃ts,ts=N9 g c:=⟨_,rfl⟩
 obtain ⟨u,hu⟩:∃u,u=cm.Files:=⟨_,rfl⟩
 have hres:K5 g c=R3 ts u ts.length:=by unfold K5 R3;rw [J22,hfc,hts,hu]
 have hds:A01 g c=P4 ts u ts.length:=by unfold A01 P4;rw [J22,hfc,hts,hu]
 rw [←hu] at hul
 rw [←hts] at htl htm
 rw [hres]
 obtain ⟨DS,hDS⟩:∃DS,DS=P4 ts u ts.length:=⟨_,rfl⟩
 have hDl:DS.length=ts.length:=by rw [hDS];unfold P4;rw [J32,J22]
 refine FnOk.intro Tryz.func24 (by decide) V V V V ?_
 refine k2 (A2 (A6 V V (A4 ?_)));refine k1 (k2 (A2 (C6 (N0 5 _ Y5 V) V (A4 ?_))));refine k1 (k2 (A2 (A3 V V (A3 V V (C9 (D20 g c h.few hv.rel hc) V V V ?_)))));rintro _ rfl;refine A6 V V (A4 ?_)
 rw [←hts]
 refine k1 (k2 (k2 (A2 (A3 V V (A3 V V (C9 (cof_ok g c h hv hs6 hc) V V V ?_))))));rintro _ rfl;refine E1 V V (A3 V V (A4 ?_))
 rw [hds,←hDS]
 refine k1 (k3 (C5 (X:=Nat) (fun p=>([(0,C7 Commit 3 F6 g),(1,C0 c),(5,.s (.one (.buf 5 (List (Str × Str)) 1 Y5 (R3 ts u p)))),(6,C7 (List File) 1 n6 ts),(21,.s (.one (.p (.list (List Delta) 1 n7 DS)))),(22,C0 DS.length),(23,C0 p)],[(5,.spare (R3 ts u p).length 1 49)])) (fun p=>p≤ts.length) (fun p=>ts.length - p) 0 (Nat.zero_le _) (I89 ⟨le1 rfl,le1 rfl,le1 rfl,le1 rfl,le1 rfl,le1 rfl,le1 rfl,trivial⟩ ⟨rfl,trivial⟩) ?_))
 intro p hp
 dsimp only at hp ⊢
 have hbl:=D18 ts u p
 refine k2 (A2 (E7 V V V (A4 ?_)));refine k1 (k2 ?_);refine B0 rfl (fun ht=>?_) (fun ht=>?_)
 rotate_left
 ·have hpe:p=ts.length:=by have h1:=A1 ht;(try dsimp only at h1);omega
  rw [hpe]
  refine k6 (k2 (A2 (A3 V V (A6 V V (A4 ?_)))));refine k1 (k10 ?_)
  exact B6 (rs:=[C73 (R3 ts u ts.length)]) (G7 rfl rfl rfl) rfl
 have hplt:p < ts.length:=by have h1:=A0 ht;(try dsimp only at h1);omega
 have hs:=C47 (u:=u) hplt
 obtain ⟨t,ht0⟩:∃t,t=ts[p]:=⟨_,rfl⟩
 have hvt:ts[p]?=some t:=by rw [ht0];simp [hplt]
 have htl2:=htm t (by rw [ht0];exact J18 hplt)
 rw [←ht0] at hs
 have hdl:=C16 t u
 obtain ⟨ds,hdsd⟩:∃ds,ds=R1 t u:=⟨_,rfl⟩
 have hvd:DS[p]?=some ds:=by
  rw [hDS,hdsd,ht0];unfold P4
  rw [J22,J51,J14 hplt];rfl
 have hpo:z7 t u=X3 t u ds ds.length:=by unfold z7 X3;rw [J22,hdsd]
 rw [hpo] at hs
 rw [←hdsd] at hdl
 refine k5 (k1 (k2 (k3 (k2 (A2 (A3 V V (A5 (A8 V (.pure _ _ _ _) V (by omega) hvd) V (A5 (A7 V V) V (A6 V V (A6 V V (A4 ?_)))))))))));refine k1 (k2 (A2 (C6 (N0 9 _ o9 V) V (A4 ?_))));refine k1 (k2 (k2 (A2 (A3 V V (E1 V V (A3 V V (A4 ?_)))))));refine k1 (k3 (C5 (X:=Nat) (fun i=>([(0,C7 Commit 3 F6 g),(1,C0 c),(5,.s (.one (.buf 5 (List (Str × Str)) 1 Y5 (R3 ts u p)))),(6,C7 (List File) 1 n6 ts),(7,C0 p),(9,.s (.one (.buf 9 (Str × Str) 2 o9 (X3 t u ds i)))),(21,.s (.one (.p (.list (List Delta) 1 n7 DS)))),(22,C0 DS.length),(23,C0 p),(28,C7 Delta 2 j6 ds),(29,C0 ds.length),(30,C0 i)],[(5,.spare (R3 ts u p).length 1 49),(9,.spare (X3 t u ds i).length 2 43)])) (fun i=>i≤ds.length) (fun i=>ds.length - i) 0 (Nat.zero_le _) (I89 ⟨le1 rfl,le1 rfl,le1 rfl,le1 rfl,le1 rfl,le1 rfl,le1 rfl,le1 rfl,le1 rfl,le1 rfl,le1 rfl,le1 rfl,trivial⟩ ⟨rfl,rfl,trivial⟩) ?_))
 intro i hi
 dsimp only at hi ⊢
 have hpl:=A32 t u ds i
 refine k2 (A2 (E7 V V V (A4 ?_)));refine k1 (k2 ?_);refine B0 rfl (fun ht=>?_) (fun ht=>?_)
 ·have hilt:i < ds.length:=by have h1:=A0 ht;(try dsimp only at h1);omega
  have hs2:=C48 (t:=t) (u:=u) hilt
  obtain ⟨d,hd⟩:∃d,d=ds[i]:=⟨_,rfl⟩
  have hvdi:ds[i]?=some d:=by rw [hd];simp [hilt]
  rw [←hd] at hs2
  have hfu:=G05 u d.Path (by omega)
  rw [show O3 u=O3 cm.Files by rw [hu]] at hfu
  refine k5 (k1 (k2 (k3 (k2 (A2 (A5 (A8 V (.pure _ _ _ _) V (by omega) hvdi) V (A5 (E0 V V) V (C6 (J6 11 V) V (H1 (C2 TySz.out V V V V V V) (A4 ?_))))))))));refine k1 (k2 (D9 (by kernel_rfl) (by kernel_rfl) (D8 V V (D8 V V (B5 (A8 V (.pure _ _ _ _) V (by omega) hvt) V V (B5 (A7 V V) V V (B5 (A9 V) V V (B5 (C4 V V V) V V (B5 (L0 (G05 t d.Path (by omega)) V V) V V (D8 V V (B5 (S4 V V) V V (B5 (S4 V V) V V (B5 (H5 V V) V V (B5 (H5 V V) V V (N3 ?_)))))))))))))));refine k1 (k2 (D9 (by kernel_rfl) (by kernel_rfl) (D8 V V (D8 V V (B5 (A8 V (.pure _ _ _ _) V (by omega) hvc) V V (B5 (B8 V) V V (B5 (A7 V V) V V (B5 (A9 V) V V (B5 (C4 V V V) V V (B5 (L0 (hfu) V V) V V (D8 V V (B5 (S4 V V) V V (B5 (S4 V V) V V (B5 (H5 V V) V V (B5 (H5 V V) V V (N3 ?_))))))))))))))));refine k1 (A2 (A3 V V (A3 V V (A3 V V (A5 (C10 V) V (A5 (C1 (c:=o9) (ys:=[(A43 t d.Path,A43 u d.Path)]) (D2 V V V V F1) V V V) V (C6 (G9 V V V (.pure _ _ _ _) (by (simp only [J17,J21];omega)) V) V (A6 V V (A4 ?_)))))))));refine k4 (k1 (A2 (D1 V V V (A3 V V (A4 ?_)))));refine k1 ?_;refine ⟨i+1,by omega,by omega,?_⟩
  rw [hs2]
  exact (I89 ⟨le1 rfl,le1 rfl,le1 rfl,le1 rfl,le1 rfl,le1 rfl,le1 rfl,le1 rfl,le1 rfl,le1 rfl,le1 rfl,le1 rfl,trivial⟩ ⟨rfl,rfl,trivial⟩)
 ·have hie:i=ds.length:=by have h1:=A1 ht;(try dsimp only at h1);omega
  rw [hie]
  have hpl2:=A32 t u ds ds.length
  refine k6 (k7 (k7 (k8 V (k1 (A2 (A3 V V (A3 V V (A5 (C1 (c:=Y5) (ys:=[X3 t u ds ds.length]) (D2 V V V V F1) V V V) V (C6 (G9 V V V (.pure _ _ _ _) (by (simp only [J17,J21];omega)) V) V (A6 V V (A4 ?_)))))))))));refine k4 (k1 (A2 (D1 V V V (A3 V V (A4 ?_)))));refine k1 ?_;refine ⟨p+1,by omega,by omega,?_⟩
  rw [hs]
  exact (I89 ⟨le1 rfl,le1 rfl,le1 rfl,le1 rfl,le1 rfl,le1 rfl,le1 rfl,trivial⟩ ⟨rfl,trivial⟩)
set_option maxHeartbeats 1000000
abbrev cE (nd:Str):Unit→Nat→Cell:=fun _ _=>.v (.string ⟨nd.toArray⟩)
abbrev G17 (x:Str × Str):S1:=.agg [.p (o9 x 0),.p (o9 x 1)]
abbrev B13 (b:Bool):S1:=.one (.p (.v (.bool b)))
abbrev N2 (i:Int):S1:=.one (.p (.v (.int .i64 i)))
theorem I61 (nd:Str) (x:Str × Str) (hn:nd.length≤1073741824) (h1:x.1.length≤16777216) (h2:x.2.length≤16777216) :
  AL.Met Tryz.prog 18 [G17 x,.one (.eref Unit 1 (cE nd) () 0)] [] [] [] (fun rs ob'=>rs=[B13 (differs nd x)]∧ob'=[]):=by
 refine AL.Met.intro Tryz.func18 (by decide) V V V ?_
 refine k2 (A2 (C6 (x7 2 V V V) V (A6 V V (A4 ?_))));refine k1 (k2 (D9 (by kernel_rfl) (by kernel_rfl) (B5 (A7 V V) V V (B5 (K8 V V (by first | omega | decide) (by omega)) V V (B5 (C4 V V V) V V (B5 (L0 (B68 nd x.1 hn h1) V V) V V (B5 (A7 V V) V V (B5 (K8 V V (by first | omega | decide) (by omega)) V V (B5 (C4 V V V) V V (B5 (L0 (B68 nd x.2 hn h2) V V) V V (B5 (Q9 V V) V V (B5 (H5 V V) V V (N3 ?_)))))))))))));refine k1 (k10 ?_)
 exact G5 (K6 rfl rfl) (by repeat (first | exact B2 | refine B3 rfl ?_ | refine D5 _ ?_)) (ObIn.spec (ob':=[]) trivial) ⟨rfl,rfl⟩
theorem E54 (f:FuncId) (α:Type) (ec:Nat) (c:α→Nat→Cell) (v:α) (pr:Str × Str→Bool) (l:List (Str × Str)) (hl:l.length≤1073741824) (hf:∀x∈l,AL.Met Tryz.prog f [G17 x,.one (.eref α ec c v 0)] [] [] [] (fun rs ob'=>rs=[B13 (pr x)]∧ob'=[])) :
  AL.Met Tryz.prog 56 [.one (.p (.list (Str × Str) 2 o9 l)),.one (.fncE f α ec c v)] [] [] [] (fun rs ob'=>(∃i:Int,rs=[N2 i]∧decide (0≤i)=l.any pr)∧ob'=[]):=by
 refine AL.Met.intro Tryz.func56 (by decide) V V V ?_
 refine k2 (A2 (A6 V V (A4 ?_)));refine k1 (k2 (k2 (A2 (A3 V V (E1 V V (A3 V V (A4 ?_)))))));refine k1 (k3 (C5 (X:=Nat) (fun i=>([(0,C7 (Str × Str) 2 o9 l),(1,.s (.one (.fncE f α ec c v))),(7,C0 l.length),(8,C0 i)],[])) (fun i=>i≤l.length∧(l.take i).any pr=false) (fun i=>l.length - i) 0 ⟨Nat.zero_le _,rfl⟩ (I89 ⟨le1 rfl,le1 rfl,le1 rfl,le1 rfl,trivial⟩ trivial) ?_))
 rintro i ⟨hi,hn⟩
 dsimp only at hi hn ⊢
 refine k2 (A2 (E7 V V V (A4 ?_)));refine k1 (k2 ?_);refine B0 rfl (fun ht=>?_) (fun ht=>?_)
 rotate_left
 ·have h1:i=l.length:=by have h1:=A1 ht;(try dsimp only at h1);omega
  rw [h1,J22] at hn
  refine k6 (k2 (A2 (A6 V V (A4 ?_))));refine k1 (k10 ?_)
  exact G5 (K6 rfl rfl) (by repeat (first | exact B2 | refine B3 rfl ?_ | refine D5 _ ?_)) (ObIn.spec (ob':=[]) trivial) ⟨⟨-1,rfl,by rw [hn];rfl⟩,rfl⟩
 have hlt:i < l.length:=by have h1:=A0 ht;(try dsimp only at h1);omega
 obtain ⟨x,hx⟩:∃x,x=l[i]:=⟨_,rfl⟩
 have hv:l[i]?=some x:=by rw [hx];simp [hlt]
 have hfx:=hf x (by rw [hx];exact J18 hlt)
 refine k5 (k1 (k2 (k3 (k2 (A2 (A3 V V (A6 V V (A4 ?_))))))));refine k1 (k2 (A2 (A3 V V (A3 V V (A3 V V (A5 (A8 V (.pure _ _ _ _) V (by omega) hv) V (A5 (E0 V V) V (A5 (n_callE (hfx) V V V) V (A4 ?_)))))))));refine k1 ?_;refine B0 rfl (fun ht=>?_) (fun ht=>?_)
 ·refine k2 (A2 (A3 V V (A6 V V (A4 ?_))));refine k1 (k10 (k12 (k11 (k11 (k12 (k11 ?_))))));refine G5 (K6 rfl rfl) (by repeat (first | exact B2 | refine B3 rfl ?_ | refine D5 _ ?_)) (ObIn.spec (ob':=[]) trivial) ⟨⟨i,rfl,?_⟩,rfl⟩
  rw [List.any_eq_true.2 ⟨x,by rw [hx];exact J18 hlt,ht⟩]
  exact decide_eq_true (by omega)
 ·refine k5 (k4 (k1 (A2 (D1 V V V (A3 V V (A4 ?_))))));refine k1 ?_;refine ⟨i+1,⟨hlt,?_⟩,by omega,(I89 ⟨le1 rfl,le1 rfl,le1 rfl,le1 rfl,trivial⟩ trivial)⟩
  rw [List.take_add_one,hv,Option.toList_some,J56,hn,Bool.false_or,List.any_cons,List.any_nil,Bool.or_false]
  exact ht
theorem C91 (f:FuncId) (α:Type) (ec:Nat) (c:α→Nat→Cell) (v:α) (pr:Str × Str→Bool) (l:List (Str × Str)) (hl:l.length≤1073741824) (hf:∀x∈l,AL.Met Tryz.prog f [G17 x,.one (.eref α ec c v 0)] [] [] [] (fun rs ob'=>rs=[B13 (pr x)]∧ob'=[])) :
  AL.Met Tryz.prog 30 [.one (.p (.list (Str × Str) 2 o9 l)),.one (.fncE f α ec c v)] [] [] [] (fun rs ob'=>rs=[B13 (l.any pr)]∧ob'=[]):=by
 refine AL.Met.intro Tryz.func30 (by decide) V V V ?_
 refine k2 (A2 (A6 V V (A4 ?_)));refine k1 (k2 (A2 (A3 V V (A3 V V (B33 (E54 f α ec c v pr l hl hf) V V V V ?_)))));rintro _ _ ⟨⟨i,rfl,hi⟩,rfl⟩;refine ⟨rfl,?_⟩;refine A5 (X7 V V) V (A6 V V (A4 ?_));refine k1 (k10 ?_)
 exact G5 (K6 rfl rfl) (by repeat (first | exact B2 | refine B3 rfl ?_ | refine D5 _ ?_)) (ObIn.spec (ob':=[]) trivial) ⟨by rw [←hi],rfl⟩
def n5 (B:List (List (Str × Str))) (i:Nat):List (Str × Str):=(B.take i).flatten
theorem D21 {B:List (List (Str × Str))} {i:Nat} (h:i < B.length):n5 B (i+1)=n5 B i++B[i]:=by
 unfold n5
 rw [List.take_add_one,J14 h,Option.toList_some,J50];simp
theorem E91:∀{B:List (List (Str × Str))},(∀l∈B,l.length≤400)→B.flatten.length≤400*B.length
 | [],_=>by simp
 | l::B,h=>by
  have:=E91 fun x hx=>h x (List.mem_cons_of_mem l hx)
  have:=h l List.mem_cons_self
  rw [J59,J19,J17];omega
theorem A92 {B:List (List (Str × Str))} (hB:FewB B) (i:Nat):(n5 B i).length≤13200:=by
 have h1:=E91 (B:=B.take i) fun l hl=>hB.lens l (List.mem_of_mem_take hl)
 have h2:=hB.len
 rw [J24] at h1
 unfold n5;omega
abbrev H56 (l:List (Str × Str)):Ob:=.grow 43 (Str × Str) 2 o9 l
end Go.Proofs.YtfhbolepaojekaaGreatDoor
