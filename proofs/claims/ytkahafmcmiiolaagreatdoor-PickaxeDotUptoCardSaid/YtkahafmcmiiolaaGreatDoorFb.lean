/- Walks of the program's functions. -/
import Derived.Test.YtkahafmcmiiolaaGreatDoorFa
import Derived.Test.YtkahafmcmiiolaaGreatDoorFs
import Derived.Lib.Bytealg
set_option linter.unusedSimpArgs false
namespace Go.Proofs.YtkahafmcmiiolaaGreatDoor
open Go Go.AL
set_option maxRecDepth 100000
set_option maxHeartbeats 1000000
def B87 (f x:File):Bool:=ltS f.Path x.Path&&!above f.Path x.Path
theorem D03:∀(l:List File) (x:File),N9 (l++[x])=(N9 l&&l.all fun f=>B87 f x)
 | [],x=>rfl
 | f::r,x=>by
  rw [L05,N9,N9,D03 r x,L25,List.all_cons,List.all_cons,List.all_nil]
  unfold B87
  cases (r.all fun x=>ltS f.Path x.Path&&!above f.Path x.Path)<;>cases ltS f.Path x.Path<;>cases above f.Path x.Path<;>cases N9 r<;>simp
theorem G46:∀(l:List File) (i:Nat),N9 l=true→N9 (l.take i)=true:=by
 intro l
 induction l with
 | nil=>intro i h;simpa using h
 | cons f r ih =>
  intro i h
  cases i with
  | zero=>rfl
  | succ i =>
   unfold N9 at h
   rw [K83,List.all_eq_true] at h
   rw [List.take_succ_cons]
   unfold N9
   rw [K83,List.all_eq_true]
   exact ⟨fun x hx=>h.1 x (List.mem_of_mem_take hx),ih i h.2⟩
theorem F45 (l:List File) (h:FewF l):FnOk Tryz.prog 49 [U9 l] (fun rs=>rs=[F2 (F8 l)]):=by
 have hl:=h.len
 refine FnOk.intro Tryz.func49 (by decide) J J J J ?_
 refine k2 (A2 (A6 J J (A4 ?_)));refine k1 (k2 (k2 (A2 (A3 J J (E5 J J (A5 (N4 J J) J (A4 ?_)))))));refine k1 ?_;refine B1 rfl (fun ht=>?_) (fun ht=>?_)
 ·have h1:(200:Int) < l.length:=A0 ht
  refine k2 (A2 (A6 J J (A4 ?_)));refine k1 (k10 (k11 ?_))
  exact B6 (rs:=[F2 1]) (H3 rfl rfl rfl) (by unfold F8;rw [if_pos (by omega)])
 have h1:¬(200:Int) < l.length:=A1 ht
 refine k5 (k1 (k2 (k2 (A2 (A6 J J (A4 ?_))))));refine k1 (k3 (D2 (X:=Nat) (fun i=>([(0,D3 File 2 S7 l),(3,C3 i)],[])) (fun i=>i≤l.length∧((l.take i).any fun f=>decide (N2 f.Path≠0))=false) (fun i=>l.length - i) 0 ⟨Nat.zero_le _,rfl⟩ (Sees.of ⟨le1 rfl,le1 rfl,trivial⟩ trivial) ?_))
 rintro i ⟨hi,hn⟩
 dsimp only at hi hn ⊢
 refine k2 (k2 (A2 (A3 J J (A3 J J (E5 J J (F3 J J J (A4 ?_)))))));refine k1 ?_;refine B1 rfl (fun ht=>?_) (fun ht=>?_)
 ·have hlt:i < l.length:=by have h1:=A0 ht;(try dsimp only at h1);omega
  obtain ⟨f,hf⟩:∃f,f=l[i]:=⟨_,rfl⟩
  have hv:l[i]?=some f:=by rw [hf];simp [hlt]
  have hm:f∈l:=by rw [hf];exact K85 hlt
  refine k5 (k1 (k2 (k3 (k2 (A2 (A3 J J (A3 J J (A5 (B2 J (.pure _ _ _ _) J (by omega) hv) J (A5 (B7 J) J (A5 (B0 J J) J (D7 (F41 f.Path (h.path f hm)) J J J ?_)))))))))));rintro _ rfl;refine A5 (R2 J J) J (A4 ?_);refine k1 ?_;refine B1 rfl (fun ht=>?_) (fun ht=>?_)
  ·have h2:N2 f.Path≠0:=A0 ht
   refine k2 (A2 (A6 J J (A4 ?_)));refine k1 (k10 (k12 (k11 (k11 (k12 (k11 ?_))))))
   exact B6 (rs:=[F2 210]) (H3 rfl rfl rfl) (by unfold F8;rw [if_neg (by omega),if_pos (List.any_eq_true.2 ⟨f,hm,decide_eq_true h2⟩)])
  ·have h2:¬N2 f.Path≠0:=A1 ht
   refine k5 (k4 (k1 (A2 (A3 J J (D6 J J J (A6 J J (A4 ?_)))))));refine k1 ?_;refine ⟨i+1,⟨hlt,?_⟩,by omega,(Sees.of ⟨le1 rfl,le1 rfl,trivial⟩ trivial)⟩
   rw [List.take_add_one,hv,Option.toList_some,L29,hn,Bool.false_or,List.any_cons,List.any_nil,Bool.or_false,decide_eq_false h2]
 have hie:i=l.length:=by have h1:=A1 ht;(try dsimp only at h1);omega
 rw [hie,K89] at hn
 have hpa:=hn
 have hbad:N9 l=false→[F2 211]=[F2 (F8 l)]:=fun e=>by unfold F8;rw [if_neg (by omega),if_neg (by rw [hpa];decide),if_pos e]
 refine k6 (k2 (k2 (A2 (A6 J J (A4 ?_)))));refine k1 (k3 (D2 (X:=Nat) (fun i=>([(0,D3 File 2 S7 l),(4,C3 i)],[])) (fun i=>i≤l.length∧N9 (l.take i)=true) (fun i=>l.length - i) 0 ⟨Nat.zero_le _,rfl⟩ (Sees.of ⟨le1 rfl,le1 rfl,trivial⟩ trivial) ?_))
 rintro i ⟨hi,ho⟩
 dsimp only at hi ho ⊢
 refine k2 (k2 (A2 (A3 J J (A3 J J (E5 J J (F3 J J J (A4 ?_)))))));refine k1 ?_;refine B1 rfl (fun ht=>?_) (fun ht=>?_)
 ·have hlt:i < l.length:=by have h1:=A0 ht;(try dsimp only at h1);omega
  obtain ⟨f,hf⟩:∃f,f=l[i]:=⟨_,rfl⟩
  have hv:l[i]?=some f:=by rw [hf];simp [hlt]
  have hm:f∈l:=by rw [hf];exact K85 hlt
  have hfp:=h.path f hm
  have hsn:N9 (l.take (i+1))=(l.take i).all fun g=>B87 g f:=by
   rw [List.take_add_one,hv,Option.toList_some,D03,ho,Bool.true_and]
  refine k5 (k1 (k2 (k3 (k2 (A2 (A6 J J (A4 ?_)))))));refine k1 (k3 (D2 (X:=Nat) (fun k=>([(0,D3 File 2 S7 l),(4,C3 i),(5,C3 k)],[])) (fun k=>k≤i∧((l.take k).all fun g=>B87 g f)=true) (fun k=>i - k) 0 ⟨Nat.zero_le _,rfl⟩ (Sees.of ⟨le1 rfl,le1 rfl,le1 rfl,trivial⟩ trivial) ?_))
  rintro k ⟨hk,hak⟩
  dsimp only at hk hak ⊢
  refine k2 (k2 (A2 (A3 J J (A3 J J (F3 J J J (A4 ?_))))));refine k1 ?_;refine B1 rfl (fun ht=>?_) (fun ht=>?_)
  ·have hklt:k < i:=by have h1:=A0 ht;(try dsimp only at h1);omega
   obtain ⟨g,hg⟩:∃g,g=l[k]:=⟨_,rfl⟩
   have hvg:l[k]?=some g:=by rw [hg];simp [show k < l.length by omega]
   have hmg:g∈l.take i:=by
    rw [hg]
    have:(l.take i)[k]'(by rw [K92];omega)=l[k]:=List.getElem_take
    rw [←this];exact K85 _
   have hgp:=h.path g (List.mem_of_mem_take hmg)
   refine k5 (k1 (k2 (k3 (k2 (E8 (by kernel_rfl) (by kernel_rfl) (E3 J J (E3 J J (B5 (B2 J (.pure _ _ _ _) J (by omega) hvg) J J (B5 (B7 J) J J (B5 (B0 J J) J J (E3 J J (E3 J J (B5 (B2 J (.pure _ _ _ _) J (by omega) hv) J J (B5 (B7 J) J J (B5 (B0 J J) J J (B5 (G34 J J) J J (E3 J J (F5 J J (fun hg=>by rw [hg];exact B9 J J) J J ?_))))))))))))))))));refine F5 J J (fun hg=>by rw [hg];exact B9 J J) J J ?_;refine F5 J J (fun hg=>by have hq:=hg;(try simp at hq);rw [hg];exact B2 J (.pure _ _ _ _) J (by omega) hvg) J J ?_;refine F5 J J (fun hg=>by rw [hg];exact B7 J) J J ?_;refine F5 J J (fun hg=>by rw [hg];exact B0 J J) J J ?_;refine F5 J J (fun hg=>by rw [hg];exact B9 J J) J J ?_;refine F5 J J (fun hg=>by rw [hg];exact B9 J J) J J ?_;refine F5 J J (fun hg=>by have hq:=hg;(try simp at hq);rw [hg];exact B2 J (.pure _ _ _ _) J (by omega) hv) J J ?_;refine F5 J J (fun hg=>by rw [hg];exact B7 J) J J ?_;refine F5 J J (fun hg=>by rw [hg];exact B0 J J) J J ?_;refine F5 J J (fun hg=>by have hq:=hg;(try simp at hq);rw [hg];exact O6 (J52 g.Path f.Path hgp hfp) J J) J J ?_;refine B5 (N6 J (fun h=>by first | rfl | (rw [h];rfl)) (fun h=>by first | rfl | (rw [h];rfl))) J J ?_;refine P2 ?_;refine k1 ?_
   rw [F03]
   refine B1 rfl (fun ht=>?_) (fun ht=>?_)
   ·have hpo:B87 g f=false:=by
     unfold B87
     rw [L02,Bool.not_eq_true'] at ht
     rcases ht with h2 | h2
     ·have h2:ltS g.Path f.Path=false:=h2
      rw [h2];rfl
     ·rw [h2];simp
    refine k2 (A2 (A6 J J (A4 ?_)));refine k1 (k10 (k12 (k11 (k11 (k12 (k12 (k11 (k11 (k12 (k11 ?_))))))))));refine B6 (rs:=[F2 211]) (H3 rfl rfl rfl) (hbad ?_)
    cases hq:N9 l
    ·rfl
    ·have h3:=G46 l (i+1) hq
     rw [hsn,List.all_eq_true] at h3
     rw [h3 g hmg] at hpo;cases hpo
   ·have hpo:B87 g f=true:=by
     unfold B87
     rw [L14,Bool.not_eq_false'] at ht
     have h2:ltS g.Path f.Path=true:=ht.1
     rw [h2,ht.2];rfl
    refine k5 (k4 (k1 (A2 (A3 J J (D6 J J J (A6 J J (A4 ?_)))))));refine k1 ?_;refine ⟨k+1,⟨hklt,?_⟩,by omega,(Sees.of ⟨le1 rfl,le1 rfl,le1 rfl,trivial⟩ trivial)⟩
    rw [List.take_add_one,hvg,Option.toList_some,L25,hak,Bool.true_and,List.all_cons,List.all_nil,hpo];rfl
  ·have hke:k=i:=by have h1:=A1 ht;(try dsimp only at h1);omega
   rw [hke] at hak
   refine k6 (k7 (k7 (k8 J (k4 (k1 (A2 (A3 J J (D6 J J J (A6 J J (A4 ?_))))))))));refine k1 ?_
   exact ⟨i+1,⟨hlt,by rw [hsn];exact hak⟩,by omega,(Sees.of ⟨le1 rfl,le1 rfl,trivial⟩ trivial)⟩
 have hie:i=l.length:=by have h1:=A1 ht;(try dsimp only at h1);omega
 rw [hie,K89] at ho
 refine k6 (k2 (k2 (A2 (A6 J J (A4 ?_)))));refine k1 (k3 (D2 (X:=Nat) (fun i=>([(0,D3 File 2 S7 l),(6,C3 i)],[])) (fun i=>i≤l.length∧((l.take i).any fun f=>decide (M2 f.Blob≠0))=false) (fun i=>l.length - i) 0 ⟨Nat.zero_le _,rfl⟩ (Sees.of ⟨le1 rfl,le1 rfl,trivial⟩ trivial) ?_))
 rintro i ⟨hi,hn⟩
 dsimp only at hi hn ⊢
 refine k2 (k2 (A2 (A3 J J (A3 J J (E5 J J (F3 J J J (A4 ?_)))))));refine k1 ?_;refine B1 rfl (fun ht=>?_) (fun ht=>?_)
 ·have hlt:i < l.length:=by have h1:=A0 ht;(try dsimp only at h1);omega
  obtain ⟨f,hf⟩:∃f,f=l[i]:=⟨_,rfl⟩
  have hv:l[i]?=some f:=by rw [hf];simp [hlt]
  have hm:f∈l:=by rw [hf];exact K85 hlt
  have hfb:=h.blob f hm
  refine k5 (k1 (k2 (k3 (k2 (A2 (A3 J J (A3 J J (A5 (B2 J (.pure _ _ _ _) J (by omega) hv) J (A5 (B7 J) J (A5 (B0 J J) J (D7 (K21 f.Blob (by omega)) J J J ?_)))))))))));rintro _ rfl;refine A5 (R2 J J) J (A4 ?_);refine k1 ?_;refine B1 rfl (fun ht=>?_) (fun ht=>?_)
  ·have h2:M2 f.Blob≠0:=A0 ht
   refine k2 (A2 (A6 J J (A4 ?_)));refine k1 (k10 (k12 (k11 (k11 (k12 (k11 ?_))))))
   exact B6 (rs:=[F2 1]) (H3 rfl rfl rfl) (by unfold F8;rw [if_neg (by omega),if_neg (by rw [hpa];decide),if_neg (by rw [ho];decide),if_pos (List.any_eq_true.2 ⟨f,hm,decide_eq_true h2⟩)])
  ·have h2:¬M2 f.Blob≠0:=A1 ht
   refine k5 (k4 (k1 (A2 (A3 J J (D6 J J J (A6 J J (A4 ?_)))))));refine k1 ?_;refine ⟨i+1,⟨hlt,?_⟩,by omega,(Sees.of ⟨le1 rfl,le1 rfl,trivial⟩ trivial)⟩
   rw [List.take_add_one,hv,Option.toList_some,L29,hn,Bool.false_or,List.any_cons,List.any_nil,Bool.or_false,decide_eq_false h2]
 have hie:i=l.length:=by have h1:=A1 ht;(try dsimp only at h1);omega
 rw [hie,K89] at hn
 refine k6 (k2 (A2 (A6 J J (A4 ?_))));refine k1 (k10 ?_)
 exact B6 (rs:=[F2 0]) (H3 rfl rfl rfl) (by unfold F8;rw [if_neg (by omega),if_neg (by rw [hpa];decide),if_neg (by rw [ho];decide),if_neg (by rw [hn];decide)])
structure FewT (g:Graph):Prop where
 few:FewG g
 tree:∀c∈g,FewF c.Files
theorem FewT.files {g:Graph} (h:FewT g) (c:Nat):FewF (L1 g c):=by
 unfold L1
 by_cases hc:c < g.length
 ·rw [K82 hc];exact h.tree _ (K85 hc)
 ·rw [K98 (by omega)];exact ⟨by simp,(fun _ h=>by cases h),(fun _ h=>by cases h)⟩
theorem A90:∀{g:List Commit} {i:Nat},(∀k,k < i→∀h:k < g.length,F8 g[k].Files=0)→W5 g=W5 (g.drop i)
 | g,0,_=>rfl
 | [],i+1,_=>by simp
 | c::r,i+1,h=>by
  have h0:=h 0 (by omega) (by simp)
  rw [W5,if_neg (by simpa using h0),List.drop_succ_cons]
  exact A90 fun k hk hl=>h (k+1) (by omega) (by simpa using hl)
theorem J58 {g:Graph} {c:Nat} (hc:c < g.length) (h0:E6 g c≠[]) (h:J0 (O7 g (E6 g c)) c=true):cyclic g=true:=by
 unfold cyclic
 rw [List.any_eq_true]
 exact ⟨c,List.mem_range.2 hc,by rw [h,Bool.and_true];exact decide_eq_true h0⟩
theorem rdag_ok (g:Graph) (h:FewT g):FnOk Tryz.prog 28 [J8 g] (fun rs=>rs=[F2 (K7 g)]):=by
 have hg:=h.few.len
 refine FnOk.intro Tryz.func28 (by decide) J J J J ?_
 refine k2 (A2 (A6 J J (A4 ?_)));refine k1 (k2 (k2 (A2 (A3 J J (E5 J J (A5 (N4 J J) J (A4 ?_)))))));refine k1 ?_;refine B1 rfl (fun ht=>?_) (fun ht=>?_)
 ·have h1:(300:Int) < g.length:=A0 ht
  refine k2 (A2 (A6 J J (A4 ?_)));refine k1 (k10 (k11 ?_))
  exact B6 (rs:=[F2 1]) (H3 rfl rfl rfl) (by unfold K7 W6;rw [if_pos (by rw [decide_eq_false (by omega)];rfl)])
 have h1:¬(300:Int) < g.length:=A1 ht
 refine k5 (k1 (k2 (k2 (A2 (A6 J J (A4 ?_))))));refine k1 (k3 (D2 (X:=Nat) (fun i=>([(0,D3 Commit 3 G6 g),(3,C3 i)],[])) (fun i=>i≤g.length∧((g.take i).any fun c=>decide (c.Parents.length > 32))=false) (fun i=>g.length - i) 0 ⟨Nat.zero_le _,rfl⟩ (Sees.of ⟨le1 rfl,le1 rfl,trivial⟩ trivial) ?_))
 rintro i ⟨hi,hn⟩
 dsimp only at hi hn ⊢
 refine k2 (k2 (A2 (A3 J J (A3 J J (E5 J J (F3 J J J (A4 ?_)))))));refine k1 ?_;refine B1 rfl (fun ht=>?_) (fun ht=>?_)
 ·have hlt:i < g.length:=by have h1:=A0 ht;(try dsimp only at h1);omega
  obtain ⟨c,hc⟩:∃c,c=g[i]:=⟨_,rfl⟩
  have hv:g[i]?=some c:=by rw [hc];simp [hlt]
  have hm:c∈g:=by rw [hc];exact K85 hlt
  refine k5 (k1 (k2 (k3 (k2 (A2 (A3 J J (A3 J J (A5 (B2 J (.pure _ _ _ _) J (by omega) hv) J (A5 (B7 J) J (A5 (B0 J J) J (E5 J J (A5 (N4 J J) J (A4 ?_)))))))))))));refine k1 ?_;refine B1 rfl (fun ht=>?_) (fun ht=>?_)
  ·have h2:(32:Int) < c.Parents.length:=A0 ht
   refine k2 (A2 (A6 J J (A4 ?_)));refine k1 (k10 (k12 (k11 (k11 (k12 (k11 ?_))))))
   exact B6 (rs:=[F2 1]) (H3 rfl rfl rfl) (by unfold K7 W6;rw [if_pos (by rw [List.any_eq_true.2 ⟨c,hm,decide_eq_true (show c.Parents.length > 32 by omega)⟩];simp)])
  ·have h2:¬(32:Int) < c.Parents.length:=A1 ht
   refine k5 (k4 (k1 (A2 (A3 J J (D6 J J J (A6 J J (A4 ?_)))))));refine k1 ?_;refine ⟨i+1,⟨hlt,?_⟩,by omega,(Sees.of ⟨le1 rfl,le1 rfl,trivial⟩ trivial)⟩
   rw [List.take_add_one,hv,Option.toList_some,L29,hn,Bool.false_or,List.any_cons,List.any_nil,Bool.or_false,decide_eq_false (show ¬c.Parents.length > 32 by omega)]
 have hie:i=g.length:=by have h1:=A1 ht;(try dsimp only at h1);omega
 rw [hie,K89] at hn
 have hlim:W6 g=true:=by unfold W6;rw [hn,decide_eq_true (show g.length≤300 by omega)];rfl
 refine k6 (k2 (k2 (A2 (A6 J J (A4 ?_)))));refine k1 (k3 (D2 (X:=Nat) (fun i=>([(0,D3 Commit 3 G6 g),(4,C3 i)],[])) (fun i=>i≤g.length∧((g.take i).all fun c=>A21 g.length [] c.Parents)=true) (fun i=>g.length - i) 0 ⟨Nat.zero_le _,rfl⟩ (Sees.of ⟨le1 rfl,le1 rfl,trivial⟩ trivial) ?_))
 rintro i ⟨hi,ha⟩
 dsimp only at hi ha ⊢
 refine k2 (k2 (A2 (A3 J J (A3 J J (E5 J J (F3 J J J (A4 ?_)))))));refine k1 ?_;refine B1 rfl (fun ht=>?_) (fun ht=>?_)
 ·have hlt:i < g.length:=by have h1:=A0 ht;(try dsimp only at h1);omega
  obtain ⟨c,hc⟩:∃c,c=g[i]:=⟨_,rfl⟩
  have hv:g[i]?=some c:=by rw [hc];simp [hlt]
  have hm:c∈g:=by rw [hc];exact K85 hlt
  have hpl:=h.few.pars c hm
  have hbad:A21 g.length [] c.Parents=false→[F2 230]=[F2 (K7 g)]:=fun hr=>by
   have:related g=false:=by
    unfold related
    rw [List.all_eq_false]
    exact ⟨c,hm,by rw [hr];decide⟩
   unfold K7;rw [if_neg (by rw [hlim];decide),if_pos this]
  refine k5 (k1 (k2 (k3 (k2 (A2 (A6 J J (A4 ?_)))))));refine k1 (k3 (D2 (X:=Nat) (fun k=>([(0,D3 Commit 3 G6 g),(4,C3 i),(5,C3 k)],[])) (fun k=>k≤c.Parents.length∧A21 g.length [] c.Parents=A21 g.length (c.Parents.take k) (c.Parents.drop k)) (fun k=>c.Parents.length - k) 0 ⟨Nat.zero_le _,rfl⟩ (Sees.of ⟨le1 rfl,le1 rfl,le1 rfl,trivial⟩ trivial) ?_))
  rintro k ⟨hk,hr⟩
  dsimp only at hk hr ⊢
  refine k2 (k2 (A2 (A3 J J (A3 J J (A3 J J (A5 (B2 J (.pure _ _ _ _) J (by omega) hv) J (A5 (B7 J) J (A5 (B0 J J) J (E5 J J (F3 J J J (A4 ?_)))))))))));refine k1 ?_;refine B1 rfl (fun ht=>?_) (fun ht=>?_)
  ·have hklt:k < c.Parents.length:=by have h1:=A0 ht;(try dsimp only at h1);omega
   have hvp:c.Parents[k]?=some c.Parents[k]:=by simp [hklt]
   rw [K91 hklt] at hr
   obtain ⟨p,hp⟩:∃p,p=c.Parents[k]:=⟨_,rfl⟩
   rw [←hp] at hvp hr
   have htk:c.Parents.take (k+1)=c.Parents.take k++[p]:=by rw [List.take_add_one,hvp,Option.toList_some]
   rw [A21,←htk] at hr
   refine k5 (k1 (k2 (k3 (k2 (A2 (A3 J J (A3 J J (A5 (B2 J (.pure _ _ _ _) J (by omega) hv) J (A5 (B7 J) J (A5 (B0 J J) J (A3 J J (A5 (B2 J (.pure _ _ _ _) J (by omega) hvp) J (A5 (B0 J J) J (A6 J J (A4 ?_)))))))))))))));refine k1 (k2 (A2 (A3 J J (F3 J J J (A3 J J (B3 J J J J (fun hg=>by rw [hg];exact B9 J J) ?_))))));refine B3 J J J J (fun hg=>by rw [hg];exact B9 J J) ?_;refine B3 J J J J (fun hg=>by rw [hg];exact Z2 J (.pure _ _ _ _)) ?_;refine B3 J J J J (fun hg=>by rw [hg];exact V4 J J) ?_;refine K4 J J ?_;refine A3 J J (B3 J J J J (fun hg=>by rw [hg];exact B9 J J) ?_);refine B3 J J J J (fun hg=>by rw [hg];exact B9 J J) ?_;refine B3 J J J J (fun hg=>by have hq:=hg;(try simp at hq);rw [hg];exact B2 J (.pure _ _ _ _) J (by omega) hv) ?_;refine B3 J J J J (fun hg=>by rw [hg];exact B7 J) ?_;refine B3 J J J J (fun hg=>by rw [hg];exact B0 J J) ?_;refine B3 J J J J (fun hg=>by rw [hg];exact B9 J J) ?_;refine B3 J J J J (fun hg=>by have hq:=hg;(try simp at hq);rw [hg];exact F66 J (.pure _ _ _ _) J (by omega) (by omega)) ?_;refine B3 J J J J (fun hg=>by rw [hg];exact B9 J J) ?_;refine B3 J J J J (fun hg=>by have hq:=hg;(try simp at hq);rw [hg];exact O6 (J12 (c.Parents.take ((k:Nat):Int).toNat) p (by rw [K92];omega)) J J) ?_;refine K4 J J ?_;refine A4 ?_;refine k1 ?_
   rw [K84,F03,F03]
   refine B1 rfl (fun ht=>?_) (fun ht=>?_)
   ·rw [L02,L02,decide_eq_true_eq,decide_eq_true_eq,decide_eq_true_eq] at ht
    have h1:decide (0≤p∧p < (g.length:Int)∧p∉c.Parents.take k)=false:=by
     rw [decide_eq_false_iff_not]
     rintro ⟨a1,a2,a3⟩
     rcases ht with (h | h) | h
     ·omega
     ·omega
     ·exact a3 h
    rw [h1,Bool.false_and] at hr
    refine k2 (A2 (A6 J J (A4 ?_)));refine k1 (k10 (k12 (k11 (k11 (k12 (k12 (k11 (k11 (k12 (k11 ?_))))))))))
    exact B6 (rs:=[F2 230]) (H3 rfl rfl rfl) (hbad hr)
   ·rw [L14,L14,decide_eq_false_iff_not,decide_eq_false_iff_not,decide_eq_false_iff_not] at ht
    have h1:decide (0≤p∧p < (g.length:Int)∧p∉c.Parents.take k)=true:=decide_eq_true ⟨by omega,by omega,ht.2⟩
    rw [h1,Bool.true_and] at hr
    refine k5 (k4 (k1 (A2 (A3 J J (D6 J J J (A6 J J (A4 ?_)))))));refine k1 ?_
    exact ⟨k+1,⟨hklt,hr⟩,by omega,(Sees.of ⟨le1 rfl,le1 rfl,le1 rfl,trivial⟩ trivial)⟩
  ·have h1:k=c.Parents.length:=by have h1:=A1 ht;(try dsimp only at h1);omega
   rw [h1,List.drop_length] at hr
   refine k6 (k7 (k7 (k8 J (k4 (k1 (A2 (A3 J J (D6 J J J (A6 J J (A4 ?_))))))))));refine k1 ?_;refine ⟨i+1,⟨hlt,?_⟩,by omega,(Sees.of ⟨le1 rfl,le1 rfl,trivial⟩ trivial)⟩
   rw [List.take_add_one,hv,Option.toList_some,L25,ha,Bool.true_and,List.all_cons,List.all_nil,Bool.and_true,hr]
   rfl
 have hie:i=g.length:=by have h1:=A1 ht;(try dsimp only at h1);omega
 rw [hie,K89] at ha
 have hrel:related g=true:=ha
 have hres:K7 g=if cyclic g=true then 231 else if A73 g=true then 3 else W5 g:=by unfold K7;rw [if_neg (by rw [hlim];decide),if_neg (by rw [hrel];decide)]
 rw [hres]
 refine k6 (k2 (k2 (A2 (A6 J J (A4 ?_)))));refine k1 (k3 (D2 (X:=Nat) (fun i=>([(0,D3 Commit 3 G6 g),(7,C3 i)],[])) (fun i=>i≤g.length∧∀c,c < i→(decide (E6 g c≠[])&&J0 (O7 g (E6 g c)) c)=false) (fun i=>g.length - i) 0 ⟨Nat.zero_le _,fun c h=>by omega⟩ (Sees.of ⟨le1 rfl,le1 rfl,trivial⟩ trivial) ?_))
 rintro i ⟨hi,hcy⟩
 dsimp only at hi hcy ⊢
 refine k2 (k2 (A2 (A3 J J (A3 J J (E5 J J (F3 J J J (A4 ?_)))))));refine k1 ?_;refine B1 rfl (fun ht=>?_) (fun ht=>?_)
 ·have hlt:i < g.length:=by have h1:=A0 ht;(try dsimp only at h1);omega
  obtain ⟨c,hc⟩:∃c,c=g[i]:=⟨_,rfl⟩
  have hv:g[i]?=some c:=by rw [hc];simp [hlt]
  have hm:c∈g:=by rw [hc];exact K85 hlt
  have hpl:=h.few.pars c hm
  have hps:E6 g i=c.Parents:=by rw [S8 hlt,hc]
  have hpr:=(K6 hrel i).1
  have hne:c.Parents≠[]↔(0:Int) < c.Parents.length:=by
   constructor
   ·intro h;have:=List.length_pos_iff.2 h;omega
   ·intro h e;rw [e] at h;simp at h
  have hvr:(O7 g c.Parents)[((i:Nat):Int).toNat]?=some (J0 (O7 g c.Parents) i):=by rw [K84];exact B13 (by rw [C01];exact hlt)
  rw [hps] at hpr
  refine k5 (k1 (k2 (k3 (k2 (A2 (A3 J J (A3 J J (A5 (B2 J (.pure _ _ _ _) J (by omega) hv) J (A5 (B7 J) J (A5 (B0 J J) J (E5 J J (A5 (N4 J J) J (A3 J J (B3 J J J J (fun hg=>by rw [hg];exact B9 J J) ?_))))))))))))));refine B3 J J J J (fun hg=>by rw [hg];exact B9 J J) ?_;refine B3 J J J J (fun hg=>by rw [hg];exact B9 J J) ?_;refine B3 J J J J (fun hg=>by have hq:=hg;(try simp at hq);rw [hg];exact B2 J (.pure _ _ _ _) J (by omega) hv) ?_;refine B3 J J J J (fun hg=>by rw [hg];exact B7 J) ?_;refine B3 J J J J (fun hg=>by rw [hg];exact B0 J J) ?_;refine B3 J J J J (fun hg=>by have hq:=hg;(try simp at hq);rw [hg];exact O6 (F80 g c.Parents h.few.len h.few.pars hrel hpr hpl) J J) ?_;refine B3 J J J J (fun hg=>by rw [hg];exact B9 J J) ?_;refine B3 J J J J (fun hg=>by have hq:=hg;(try simp at hq);rw [hg];exact B2 J (.pure _ _ _ _) J (by omega) hvr) ?_;refine B3 J J J J (fun hg=>by rw [hg];exact B0 J J) ?_;refine K4 J J ?_;refine A4 ?_;refine k1 ?_
  rw [A20]
  refine B1 rfl (fun ht=>?_) (fun ht=>?_)
  ·rw [K83,decide_eq_true_eq] at ht
   have:=J58 hlt (by rw [hps];exact hne.2 ht.1) (by rw [hps];exact ht.2)
   rw [if_pos this]
   refine k2 (A2 (A6 J J (A4 ?_)));refine k1 (k10 (k12 (k11 (k11 (k12 (k11 ?_))))))
   exact B6 (rs:=[F2 231]) (H3 rfl rfl rfl) rfl
  ·refine k5 (k4 (k1 (A2 (A3 J J (D6 J J J (A6 J J (A4 ?_)))))));refine k1 ?_;refine ⟨i+1,⟨hlt,fun d hd=>?_⟩,by omega,(Sees.of ⟨le1 rfl,le1 rfl,trivial⟩ trivial)⟩
   by_cases e:d=i
   ·subst e
    rw [hps,decide_eq_decide.2 hne];exact ht
   ·exact hcy d (by omega)
 have hie:i=g.length:=by have h1:=A1 ht;(try dsimp only at h1);omega
 have hcyc:cyclic g=false:=by
  unfold cyclic
  rw [List.any_eq_false]
  intro c hc
  rw [hcy c (by rw [hie];exact List.mem_range.1 hc)];decide
 rw [hcyc,if_neg (by decide)]
 refine k6 (k2 (k2 (A2 (A6 J J (A4 ?_)))));refine k1 (k3 (D2 (X:=Nat) (fun i=>([(0,D3 Commit 3 G6 g),(8,C3 i)],[])) (fun i=>i≤g.length∧((g.take i).any fun c=>decide (c.Date < 0∨c.Date > 2147483647))=false) (fun i=>g.length - i) 0 ⟨Nat.zero_le _,rfl⟩ (Sees.of ⟨le1 rfl,le1 rfl,trivial⟩ trivial) ?_))
 rintro i ⟨hi,hn⟩
 dsimp only at hi hn ⊢
 refine k2 (k2 (A2 (A3 J J (A3 J J (E5 J J (F3 J J J (A4 ?_)))))));refine k1 ?_;refine B1 rfl (fun ht=>?_) (fun ht=>?_)
 ·have hlt:i < g.length:=by have h1:=A0 ht;(try dsimp only at h1);omega
  obtain ⟨c,hc⟩:∃c,c=g[i]:=⟨_,rfl⟩
  have hv:g[i]?=some c:=by rw [hc];simp [hlt]
  have hm:c∈g:=by rw [hc];exact K85 hlt
  refine k5 (k1 (k2 (k3 (k2 (A2 (A3 J J (A3 J J (A5 (B2 J (.pure _ _ _ _) J (by omega) hv) J (A5 (B7 J) J (A5 (B0 J J) J (F3 J J J (A3 J J (B3 J J J J (fun hg=>by rw [hg];exact B9 J J) ?_)))))))))))));refine B3 J J J J (fun hg=>by rw [hg];exact B9 J J) ?_;refine B3 J J J J (fun hg=>by have hq:=hg;(try simp at hq);rw [hg];exact B2 J (.pure _ _ _ _) J (by omega) hv) ?_;refine B3 J J J J (fun hg=>by rw [hg];exact B7 J) ?_;refine B3 J J J J (fun hg=>by rw [hg];exact B0 J J) ?_;refine B3 J J J J (fun hg=>by rw [hg];exact N4 J J) ?_;refine K4 J J ?_;refine A4 ?_;refine k1 ?_;refine B1 rfl (fun ht=>?_) (fun ht=>?_)
  ·have h2:c.Date < 0∨c.Date > 2147483647:=A0 (or_pick.symm.trans ht)
   have:A73 g=true:=List.any_eq_true.2 ⟨c,hm,decide_eq_true h2⟩
   rw [if_pos this]
   refine k2 (A2 (A6 J J (A4 ?_)));refine k1 (k10 (k12 (k11 (k11 (k12 (k11 ?_))))))
   exact B6 (rs:=[F2 3]) (H3 rfl rfl rfl) rfl
  ·have h2:¬(c.Date < 0∨c.Date > 2147483647):=A1 (or_pick.symm.trans ht)
   refine k5 (k4 (k1 (A2 (A3 J J (D6 J J J (A6 J J (A4 ?_)))))));refine k1 ?_;refine ⟨i+1,⟨hlt,?_⟩,by omega,(Sees.of ⟨le1 rfl,le1 rfl,trivial⟩ trivial)⟩
   rw [List.take_add_one,hv,Option.toList_some,L29,hn,Bool.false_or,List.any_cons,List.any_nil,Bool.or_false,decide_eq_false h2]
 have hie:i=g.length:=by have h1:=A1 ht;(try dsimp only at h1);omega
 rw [hie,K89] at hn
 have hbd:A73 g=false:=hn
 rw [hbd,if_neg (by decide)]
 refine k6 (k2 (k2 (A2 (A6 J J (A4 ?_)))));refine k1 (k3 (D2 (X:=Nat) (fun i=>([(0,D3 Commit 3 G6 g),(9,C3 i)],[])) (fun i=>i≤g.length∧∀k,k < i→∀h:k < g.length,F8 g[k].Files=0) (fun i=>g.length - i) 0 ⟨Nat.zero_le _,fun c h=>by omega⟩ (Sees.of ⟨le1 rfl,le1 rfl,trivial⟩ trivial) ?_))
 rintro i ⟨hi,hz⟩
 dsimp only at hi hz ⊢
 have hfe:=A90 hz
 refine k2 (k2 (A2 (A3 J J (A3 J J (E5 J J (F3 J J J (A4 ?_)))))));refine k1 ?_;refine B1 rfl (fun ht=>?_) (fun ht=>?_)
 ·have hlt:i < g.length:=by have h1:=A0 ht;(try dsimp only at h1);omega
  obtain ⟨c,hc⟩:∃c,c=g[i]:=⟨_,rfl⟩
  have hv:g[i]?=some c:=by rw [hc];simp [hlt]
  have hm:c∈g:=by rw [hc];exact K85 hlt
  rw [K91 hlt,←hc,W5] at hfe
  refine k5 (k1 (k2 (k3 (k2 (A2 (A3 J J (A3 J J (A5 (B2 J (.pure _ _ _ _) J (by omega) hv) J (A5 (B7 J) J (A5 (B0 J J) J (D7 (F45 c.Files (h.tree c hm)) J J J ?_)))))))))));rintro _ rfl;refine A6 J J (A4 ?_);refine k1 (k2 (A2 (A3 J J (A5 (R2 J J) J (A4 ?_)))));refine k1 ?_;refine B1 rfl (fun ht=>?_) (fun ht=>?_)
  ·have h2:F8 c.Files≠0:=A0 ht
   rw [if_pos h2] at hfe
   rw [hfe]
   refine k2 (A2 (A3 J J (A6 J J (A4 ?_))));refine k1 (k10 (k12 (k11 (k11 (k12 (k11 ?_))))))
   exact B6 (rs:=[F2 (F8 c.Files)]) (H3 rfl rfl rfl) rfl
  ·have h2:¬F8 c.Files≠0:=A1 ht
   refine k5 (k4 (k1 (A2 (A3 J J (D6 J J J (A6 J J (A4 ?_)))))));refine k1 ?_;refine ⟨i+1,⟨hlt,fun k hk hkl=>?_⟩,by omega,(Sees.of ⟨le1 rfl,le1 rfl,trivial⟩ trivial)⟩
   by_cases e:k=i
   ·subst e;rw [←hc];exact Decidable.not_not.1 h2
   ·exact hz k (by omega) hkl
 have hie:i=g.length:=by have h1:=A1 ht;(try dsimp only at h1);omega
 rw [hie,List.drop_length] at hfe
 rw [hfe]
 refine k6 (k2 (A2 (A6 J J (A4 ?_))));refine k1 (k10 ?_)
 exact B6 (rs:=[F2 0]) (H3 rfl rfl rfl) rfl
theorem J14 (g:Graph) (h:FewT g):FnOk Tryz.prog 62 [J8 g] (fun rs=>rs=[F2 (K7 g)]):=by
 have hg:=h.few.len
 refine FnOk.intro Tryz.func62 (by decide) J J J J ?_
 refine k2 (A2 (A6 J J (A4 ?_)));refine k1 (k2 (k3 (k2 (A2 (A3 J J (D7 (H14 g h.few (by omega)) J J J ?_))))));rintro _ rfl;refine A5 (Q8 J) J (A6 J J (A4 ?_));refine k1 ?_;refine B1 rfl (fun ht=>?_) (fun ht=>?_)
 ·have h1:W6 g=false:=by simpa using ht
  refine k2 (A2 (A6 J J (A4 ?_)));refine k1 (k10 (k12 (k11 ?_)))
  exact B6 (rs:=[F2 1]) (H3 rfl rfl rfl) (by unfold K7;rw [if_pos h1])
 have hlim:W6 g=true:=by simpa using ht
 refine k2 (A2 (A3 J J (D7 (H15 g h.few (by omega)) J J J ?_)));rintro _ rfl;refine A5 (Q8 J) J (A6 J J (A4 ?_));refine k1 ?_;refine B1 rfl (fun ht=>?_) (fun ht=>?_)
 ·have h1:related g=false:=by simpa using ht
  refine k2 (A2 (A6 J J (A4 ?_)));refine k1 (k10 (k12 (k11 ?_)))
  exact B6 (rs:=[F2 230]) (H3 rfl rfl rfl) (by unfold K7;rw [if_neg (by rw [hlim];decide),if_pos h1])
 have hrel:related g=true:=by simpa using ht
 have hres:K7 g=if cyclic g=true then 231 else if A73 g=true then 3 else W5 g:=by unfold K7;rw [if_neg (by rw [hlim];decide),if_neg (by rw [hrel];decide)]
 rw [hres]
 refine k2 (A2 (A3 J J (D7 (I21 g h.few hrel) J J J ?_)));rintro _ ⟨ch,out,rfl,hK⟩;refine E5 J J (A3 J J (E5 J J (F3 J J J (A6 J J (A4 ?_)))))
 have hcy:=hK.done hrel
 have hcy:decide ((out.length:Int) < g.length)=cyclic g:=by rw [←hcy,decide_eq_decide];omega
 refine k1 ?_
 rw [hcy]
 refine B1 rfl (fun ht=>?_) (fun ht=>?_)
 ·rw [if_pos ht]
  refine k2 (A2 (A6 J J (A4 ?_)));refine k1 (k10 (k12 (k11 ?_)))
  exact B6 (rs:=[F2 231]) (H3 rfl rfl rfl) rfl
 rw [ht,if_neg (by decide)]
 refine k2 (A2 (A3 J J (D7 (A65 97 (fun c=>decide (c.Date < 0∨c.Date > 2147483647)) g (by omega) (fun c _=>I19 c)) J J J ?_)));rintro _ rfl;refine A6 J J (A4 ?_);refine k1 ?_;refine B1 rfl (fun ht=>?_) (fun ht=>?_)
 ·have h1:A73 g=true:=ht
  rw [if_pos h1]
  refine k2 (A2 (A6 J J (A4 ?_)));refine k1 (k10 (k12 (k11 ?_)))
  exact B6 (rs:=[F2 3]) (H3 rfl rfl rfl) rfl
 have hbd:A73 g=false:=ht
 rw [hbd,if_neg (by decide)]
 refine k5 (k2 (k2 (A2 (A3 J J (E5 J J (A3 J J (A4 ?_)))))));refine k1 (k3 (D2 (X:=Nat) (fun i=>([(24,D3 Commit 3 G6 g),(25,C3 g.length),(26,C3 i)],[])) (fun i=>i≤g.length∧∀k,k < i→∀h:k < g.length,F8 g[k].Files=0) (fun i=>g.length - i) 0 ⟨Nat.zero_le _,fun c h=>by omega⟩ (Sees.of ⟨le1 rfl,le1 rfl,le1 rfl,trivial⟩ trivial) ?_))
 rintro i ⟨hi,hz⟩
 dsimp only at hi hz ⊢
 have hfe:=A90 hz
 refine k2 (A2 (F3 J J J (A4 ?_)));refine k1 (k2 ?_);refine B1 rfl (fun ht=>?_) (fun ht=>?_)
 ·have hlt:i < g.length:=by have h1:=A0 ht;(try dsimp only at h1);omega
  obtain ⟨c,hc⟩:∃c,c=g[i]:=⟨_,rfl⟩
  have hv:g[i]?=some c:=by rw [hc];simp [hlt]
  have hm:c∈g:=by rw [hc];exact K85 hlt
  rw [K91 hlt,←hc,W5] at hfe
  refine k5 (k1 (k2 (k3 (k2 (A2 (A5 (B2 J (.pure _ _ _ _) J (by omega) hv) J (A5 (E2 J J) J (D1 (I4 4 J) J (H1 (C1 TySz.out J J J J J J) (A4 ?_))))))))));refine k1 (k2 (A2 (A5 (A7 J) J (G7 J J J J (D7 (C69 c.Files (h.tree c hm)) J J J ?_)))));rintro _ rfl;refine A6 J J (A4 ?_);refine k1 (k2 (A2 (A3 J J (A5 (R2 J J) J (A4 ?_)))));refine k1 ?_;refine B1 rfl (fun ht=>?_) (fun ht=>?_)
  ·have h2:F8 c.Files≠0:=A0 ht
   rw [if_pos h2] at hfe
   rw [hfe]
   refine k2 (A2 (A3 J J (A6 J J (A4 ?_))));refine k1 (k10 (k12 (k11 (k11 (k12 (k11 ?_))))))
   exact B6 (rs:=[F2 (F8 c.Files)]) (H3 rfl rfl rfl) rfl
  ·have h2:¬F8 c.Files≠0:=A1 ht
   refine k5 (k4 (k1 (A2 (D6 J J J (A3 J J (A4 ?_))))));refine k1 ?_;refine ⟨i+1,⟨hlt,fun k hk hkl=>?_⟩,by omega,(Sees.of ⟨le1 rfl,le1 rfl,le1 rfl,trivial⟩ trivial)⟩
   by_cases e:k=i
   ·subst e;rw [←hc];exact Decidable.not_not.1 h2
   ·exact hz k (by omega) hkl
 have hie:i=g.length:=by have h1:=A1 ht;(try dsimp only at h1);omega
 rw [hie,List.drop_length] at hfe
 rw [hfe]
 refine k6 (k2 (A2 (A6 J J (A4 ?_))));refine k1 (k10 ?_)
 exact B6 (rs:=[F2 0]) (H3 rfl rfl rfl) rfl
set_option maxHeartbeats 1000000
def X5 (L:List Int) (n:Nat):List Bool:=(List.range n).map fun c:Nat=>decide ((c:Int)∈L)
theorem F85 {L:List Int} {n c:Nat} (h:c < n):J0 (X5 L n) c=decide ((c:Int)∈L):=by
 unfold J0 X5
 rw [L18,L35 h];rfl
theorem E76 (L:List Int) (n:Nat):(X5 L n).length=n:=by simp [X5]
theorem I26 (n:Nat):X5 [] n=List.replicate n false:=by
 refine List.ext_getElem (by simp [X5]) fun i h1 h2=>?_
 simp [X5]
theorem H27 {L:List Int} {n b:Nat} (h:b < n):(X5 L n).set b true=X5 (L++[(b:Int)]) n:=by
 refine List.ext_getElem? fun i=>?_
 unfold X5
 rw [L36,L18,L18,L04,L15,if_pos h]
 by_cases hi:i < n
 ·rw [L35 hi]
  by_cases e:b=i
  ·rw [if_pos e,←e];simp
  ·have e2:¬(i:Int)=b:=by omega
   rw [if_neg e];simp [e2]
 ·have e:¬b=i:=by omega
  rw [if_neg e,K98 (by rw [L15];omega)];rfl
def bigK (inn:List Bool) (L:List Int) (ks:List Int):Bool:=ks.all fun k=>!(J0 inn k.toNat&&decide (k∉L))
theorem J59 (g:Graph) (inn:List Bool) (L:List Int) (c:Nat):X9 g inn L c=(bigK inn L (p5 g c g.length)&&(J0 inn c&&decide ((c:Int)∉L))):=by
 unfold X9 bigK p5
 rw [Bool.and_comm]
 congr 1
 rw [List.all_map,List.all_filter]
 congr 1
 funext k
 simp only [Function.comp_def,K84]
 cases h:decide ((c:Int)∈E6 g k)<;>simp
theorem J60 (g:Graph) (inn:List Bool) (L:List Int) (c:Nat) (hf:FewG g) (hi:inn.length=g.length) (hc:c < g.length) :
  FnOk Tryz.prog 30 [J8 g,G80 inn,G80 (X5 L g.length),F2 c] (fun rs=>rs=[H9 (X9 g inn L c)]):=by
 have hml:=E76 L g.length
 obtain ⟨ks,hks⟩:∃ks,ks=p5 g c g.length:=⟨_,rfl⟩
 have hkl:=E72 g c g.length
 have hkr:∀k∈ks,0≤k∧k < g.length:=fun k hk=>by
  rw [hks] at hk
  unfold p5 at hk
  obtain ⟨i,hi,rfl⟩:=List.mem_map.1 hk
  have:=List.mem_range.1 (List.mem_filter.1 hi).1
  omega
 rw [J59,←hks]
 rw [←hks] at hkl
 have hlen:=hf.len
 refine FnOk.intro Tryz.func30 (by decide) J J J J ?_
 refine k2 (A2 (A6 J J (A4 ?_)));refine k1 (k2 (A2 (A3 J J (A3 J J (D7 (K22 g c hf.len hf.pars) J J J ?_)))));rintro _ rfl;refine A6 J J (A4 ?_)
 rw [←hks]
 refine k1 (k2 (k2 (A2 (A6 J J (A4 ?_)))));refine k1 (k3 (D2 (X:=Nat) (fun k=>([(1,D3 Bool 1 A12 inn),(2,D3 Bool 1 A12 (X5 L g.length)),(3,C3 c),(9,D3 Int 1 E4 ks),(10,C3 k)],[])) (fun k=>k≤ks.length∧bigK inn L (ks.take k)=true) (fun k=>ks.length - k) 0 ⟨Nat.zero_le _,rfl⟩ (Sees.of ⟨le1 rfl,le1 rfl,le1 rfl,le1 rfl,le1 rfl,trivial⟩ trivial) ?_))
 rintro k ⟨hk,hb⟩
 dsimp only at hk hb ⊢
 refine k2 (k2 (A2 (A3 J J (A3 J J (E5 J J (F3 J J J (A4 ?_)))))));refine k1 ?_;refine B1 rfl (fun ht=>?_) (fun ht=>?_)
 rotate_left
 ·have hke:k=ks.length:=by have h1:=A1 ht;(try dsimp only at h1);omega
  rw [hke,K89] at hb
  have hv1:inn[((c:Nat):Int).toNat]?=some (J0 inn c):=by rw [K84,B13 (by omega)]
  have hv2:(X5 L g.length)[((c:Nat):Int).toNat]?=some (J0 (X5 L g.length) c):=by rw [K84,B13 (by omega)]
  refine k6 (k2 (A2 (A3 J J (A3 J J (A5 (B2 J (.pure _ _ _ _) J (by omega) hv1) J (A5 (B0 J J) J (A3 J J (B3 J J J J (fun hg=>by rw [hg];exact B9 J J) ?_))))))));refine B3 J J J J (fun hg=>by rw [hg];exact B9 J J) ?_;refine B3 J J J J (fun hg=>by have hq:=hg;(try simp at hq);rw [hg];exact B2 J (.pure _ _ _ _) J (by omega) hv2) ?_;refine B3 J J J J (fun hg=>by rw [hg];exact B0 J J) ?_;refine B3 J J J J (fun hg=>by rw [hg];exact Q8 J) ?_;refine K4 J J ?_;refine A6 J J (A4 ?_);refine k1 (k10 (B6 (H3 J J J) ?_))
  rw [hb,F85 hc,A20,Bool.true_and,decide_not]
 have hlt:k < ks.length:=by have h1:=A0 ht;(try dsimp only at h1);omega
 obtain ⟨d,hd⟩:∃d,d=ks[k]:=⟨_,rfl⟩
 have hv:ks[k]?=some d:=by rw [hd];simp [hlt]
 have hdr:=hkr d (by rw [hd];exact K85 hlt)
 have hv1:inn[d.toNat]?=some (J0 inn d.toNat):=B13 (by omega)
 have hv2:(X5 L g.length)[d.toNat]?=some (J0 (X5 L g.length) d.toNat):=B13 (by omega)
 have hon:J0 (X5 L g.length) d.toNat=decide (d∈L):=by rw [F85 (by omega),Int.toNat_of_nonneg hdr.1]
 have hall:bigK inn L ks=true→(J0 inn d.toNat&&decide (d∉L))=false:=fun h=>by
  have:=List.all_eq_true.1 h d (by rw [hd];exact K85 hlt)
  have h2:J0 inn d.toNat=false∨d∈L:=by simpa using this
  rcases h2 with h2 | h2<;>simp [h2]
 refine k5 (k1 (k2 (k3 (k2 (A2 (A3 J J (A3 J J (A3 J J (A5 (B2 J (.pure _ _ _ _) J (by omega) hv) J (A5 (B0 J J) J (A5 (B2 J (.pure _ _ _ _) J (by omega) hv1) J (A5 (B0 J J) J (A3 J J (B3 J J J J (fun hg=>by rw [hg];exact B9 J J) ?_))))))))))))));refine B3 J J J J (fun hg=>by rw [hg];exact B9 J J) ?_;refine B3 J J J J (fun hg=>by rw [hg];exact B9 J J) ?_;refine B3 J J J J (fun hg=>by have hq:=hg;(try simp at hq);rw [hg];exact B2 J (.pure _ _ _ _) J (by omega) hv) ?_;refine B3 J J J J (fun hg=>by rw [hg];exact B0 J J) ?_;refine B3 J J J J (fun hg=>by have hq:=hg;(try simp at hq);rw [hg];exact B2 J (.pure _ _ _ _) J (by omega) hv2) ?_;refine B3 J J J J (fun hg=>by rw [hg];exact B0 J J) ?_;refine B3 J J J J (fun hg=>by rw [hg];exact Q8 J) ?_;refine K4 J J ?_;refine A4 ?_
 rw [hon]
 refine k1 ?_;refine B1 rfl (fun ht=>?_) (fun ht=>?_)
 ·rw [A20] at ht
  have hne:bigK inn L ks=false:=by
   cases hq:bigK inn L ks
   ·rfl
   ·have:=hall hq
    rw [decide_not] at this
    rw [this] at ht;cases ht
  rw [hne]
  refine k2 (A2 (A6 J J (A4 ?_)));refine k1 (k10 (k12 (k11 (k11 (k12 (k11 ?_))))))
  exact B6 (rs:=[H9 false]) (H3 rfl rfl rfl) rfl
 ·rw [A20] at ht
  refine k5 (k4 (k1 (A2 (A3 J J (D6 J J J (A6 J J (A4 ?_)))))));refine k1 ?_;refine ⟨k+1,⟨hlt,?_⟩,by omega,(Sees.of ⟨le1 rfl,le1 rfl,le1 rfl,le1 rfl,le1 rfl,trivial⟩ trivial)⟩
  unfold bigK at hb ⊢
  rw [List.take_add_one,hv,Option.toList_some,L25,hb,Bool.true_and,List.all_cons,List.all_nil,Bool.and_true,decide_not,ht]
  rfl
theorem J61 (g:Graph) (inn:List Bool) (L:List Int) (m:Nat):-1≤s6 g inn L m∧s6 g inn L m < m∨s6 g inn L m = -1:=by
 rcases B21 g inn L m with ⟨h,_⟩ | ⟨b,h1,h2,_⟩
 ·exact .inr h
 ·left;omega
theorem H28 {g:Graph} {c:Nat} {cm:Commit} (h:g[c]?=some cm):W7 g c=cm.Date:=by unfold W7;rw [h];rfl
theorem J62 (g:Graph) (s:Int) (hf:FewG g) (hcheck:FnOk Tryz.prog 28 [J8 g] (fun rs=>rs=[F2 (K7 g)])) :
  FnOk Tryz.prog 9 [J8 g,K2 [s]] (fun rs=>rs=[K2 (Q4 g s).1,F2 (Q4 g s).2]):=by
 have hlen:=hf.len
 refine FnOk.intro Tryz.func9 (by decide) J J J J ?_
 refine k2 (A2 (A6 J J (A6 J J (A4 ?_))));refine k1 (k2 (k2 (A2 (A3 J J (D7 (hcheck) J J J ?_)))));rintro _ rfl;refine A6 J J (A4 ?_);refine k1 (k2 (A2 (A3 J J (A5 (R2 J J) J (A4 ?_)))));refine k1 ?_;refine B1 rfl (fun ht=>?_) (fun ht=>?_)
 ·have h1:K7 g≠0:=A0 ht
  refine k2 (A2 (A3 J J (A5 (J5 _ 1 E4) J (A6 J J (A4 ?_)))));refine k1 (k10 (k11 ?_))
  exact B6 (Z6 rfl rfl rfl rfl rfl) (by unfold Q4;rw [if_pos h1])
 have h1:¬K7 g≠0:=A1 ht
 have hvg:=b9 (Decidable.not_not.1 h1)
 refine k5 (k1 (k2 (k2 (A2 (A6 J J (A4 ?_))))));refine k1 (k3 (D2 (X:=Nat) (fun i=>([(0,D3 Commit 3 G6 g),(1,D3 Int 1 E4 [s]),(7,C3 i)],[])) (fun i=>i≤1∧(i=1→U6 g s)) (fun i=>1 - i) 0 ⟨Nat.zero_le _,fun h=>by cases h⟩ (Sees.of ⟨le1 rfl,le1 rfl,le1 rfl,trivial⟩ trivial) ?_))
 rintro i ⟨hi,hs⟩
 dsimp only at hi hs ⊢
 refine k2 (k2 (A2 (A3 J J (A3 J J (E5 J J (F3 J J J (A4 ?_)))))));refine k1 ?_;refine B1 rfl (fun ht=>?_) (fun ht=>?_)
 ·have hlt:i=0:=by have h1:=A0 ht;simp only [K87,K90] at h1;omega
  subst hlt
  have hv:[s][((0:Nat):Int).toNat]?=some s:=rfl
  refine k5 (k1 (k2 (k3 (k2 (A2 (A3 J J (A3 J J (A5 (B2 J (.pure _ _ _ _) J (by omega) hv) J (A5 (B0 J J) J (F3 J J J (A3 J J (B3 J J J J (fun hg=>by rw [hg];exact B9 J J) ?_))))))))))));refine B3 J J J J (fun hg=>by rw [hg];exact B9 J J) ?_;refine B3 J J J J (fun hg=>by have hq:=hg;(try simp at hq);rw [hg];exact B2 J (.pure _ _ _ _) J (by omega) hv) ?_;refine B3 J J J J (fun hg=>by rw [hg];exact B0 J J) ?_;refine B3 J J J J (fun hg=>by rw [hg];exact B9 J J) ?_;refine B3 J J J J (fun hg=>by rw [hg];exact Z2 J (.pure _ _ _ _)) ?_;refine B3 J J J J (fun hg=>by rw [hg];exact V4 J J) ?_;refine K4 J J ?_;refine A4 ?_;refine k1 ?_;refine B1 rfl (fun ht=>?_) (fun ht=>?_)
  ·rw [or_pick] at ht
   have h2:=A0 ht
   refine k2 (A2 (A5 (J5 _ 1 E4) J (A6 J J (A4 ?_))));refine k1 (k10 (k12 (k11 (k11 (k12 (k11 ?_))))))
   exact B6 (rs:=[K2 [],F2 5]) (Z6 rfl rfl rfl rfl rfl) (by unfold Q4;rw [if_neg h1,if_neg (fun h=>by unfold U6 at h;omega)])
  ·rw [or_pick] at ht
   have h2:=A1 ht
   refine k5 (k4 (k1 (A2 (A3 J J (D6 J J J (A6 J J (A4 ?_)))))));refine k1 ?_
   exact ⟨1,⟨Nat.le_refl _,fun _=>by unfold U6;omega⟩,by omega,(Sees.of ⟨le1 rfl,le1 rfl,le1 rfl,trivial⟩ trivial)⟩
 have hi1:i=1:=by have h1:=A1 ht;simp only [K87,K90] at h1;omega
 have hs:=hs hi1
 have hres:Q4 g s=(y5 g [s],0):=by unfold Q4;rw [if_neg h1,if_pos hs]
 rw [hres]
 have hsr:∀f∈[s],0≤f∧f < g.length:=fun f hf=>by rw [List.mem_singleton.1 hf];exact hs
 refine k6 (k2 (A2 (A3 J J (A3 J J (D7 (F80 g [s] hf.len hf.pars hvg.rel hsr (by simp)) J J J ?_)))));rintro _ rfl;refine A6 J J (A4 ?_)
 obtain ⟨inn,hinn⟩:∃inn,inn=O7 g [s]:=⟨_,rfl⟩
 have hil:inn.length=g.length:=by rw [hinn];exact C01 g _
 have hord:y5 g [s]=C40 g inn (g.length+1) []:=by rw [hinn];rfl
 rw [←hinn,hord]
 refine k1 (k2 (A2 (A3 J J (E5 J J (D1 (o5 754 Bool A12 false J J (by omega) (by omega) (fun _=>by first | exact ⟨⟨rfl,rfl⟩,trivial⟩ | exact ⟨H8 _ _ _,trivial⟩ | exact ⟨H8 _ _ _,⟨rfl,rfl⟩,H8 _ _ _,trivial⟩) (by first | rfl | (simp [K0,K3,Ob.free,SV.free,S1.free,TC.free]<;>rfl))) J ?_)))));refine A6 J J (A4 ?_);refine k1 (k2 (A2 (D1 (S9 10 _ E4 J) J (A4 ?_))));refine k1 (k3 ?_)
 rw [K84,←I26]
 refine D2 (X:=List Int) (fun out=>([(0,D3 Commit 3 G6 g),(8,D3 Bool 1 A12 inn),(9,.s (.one (.mut 754))),(10,.s (.one (.buf 10 Int 1 E4 out)))],[(10,.spare out.length 1 3),(754,.arr Bool 1 A12 (X5 out g.length))])) (fun out=>out.Nodup∧(∀x∈out,0≤x∧x < g.length)∧C40 g inn (g.length+1 - out.length) out=C40 g inn (g.length+1) []) (fun out=>g.length+1 - out.length) [] ⟨List.nodup_nil,(fun _ h=>by cases h),rfl⟩ (Sees.of ⟨le1 rfl,le1 rfl,le1 rfl,le1 rfl,trivial⟩ ⟨rfl,rfl,trivial⟩) ?_
 rintro out ⟨hnd,hrg,hro⟩
 dsimp only at hnd hrg hro ⊢
 have hol:=b8 hnd hrg
 have hml:=E76 out g.length
 refine k3 (k2 (A2 (A6 J J (A4 ?_))));refine k1 (k2 (k2 (A2 (A6 J J (A4 ?_)))));refine k1 (k3 (D2 (X:=Nat) (fun m=>([(0,D3 Commit 3 G6 g),(8,D3 Bool 1 A12 inn),(9,.s (.one (.mut 754))),(10,.s (.one (.buf 10 Int 1 E4 out))),(11,C3 (s6 g inn out m)),(12,C3 m)],[(10,.spare out.length 1 3),(754,.arr Bool 1 A12 (X5 out g.length))])) (fun m=>m≤g.length) (fun m=>g.length - m) 0 (Nat.zero_le _) (Sees.of ⟨le1 rfl,le1 rfl,le1 rfl,le1 rfl,le1 rfl,le1 rfl,trivial⟩ ⟨rfl,rfl,trivial⟩) ?_))
 intro m hm
 dsimp only at hm ⊢
 have hbr:=J61 g inn out m
 obtain ⟨b,hb⟩:∃b,b=s6 g inn out m:=⟨_,rfl⟩
 rw [←hb] at hbr ⊢
 refine k2 (k2 (A2 (A3 J J (A3 J J (E5 J J (F3 J J J (A4 ?_)))))));refine k1 ?_;refine B1 rfl (fun ht=>?_) (fun ht=>?_)
 ·have hlt:m < g.length:=by have h1:=A0 ht;(try dsimp only at h1);omega
  have hvm:g[((m:Nat):Int).toNat]?=some g[m]:=by simp [hlt]
  have hvb:0≤b→g[b.toNat]?=some (g[b.toNat]?.getD ⟨[],0,[]⟩):=fun h0=>by
   rw [K82 (by omega)];rfl
  have hdm:W7 g m=g[m].Date:=H28 (by simp [hlt])
  have hdb:0≤b→W7 g b.toNat=(g[b.toNat]?.getD ⟨[],0,[]⟩).Date:=fun h0=>H28 (hvb h0)
  have hsuc:s6 g inn out (m+1)=if X9 g inn out m=true∧(b < 0∨W7 g m > W7 g b.toNat) then (m:Int) else b:=by rw [s6,←hb]
  refine k5 (k1 (k2 (k3 (k2 (E8 (by kernel_rfl) (by kernel_rfl) (E3 J J (E3 J J (E3 J J (E3 J J (B5 (J49 (fun _=>Sees.freeze (k:=754) J) (J60 g inn out m hf hil hlt) J J J) J J (E3 J J (F5 J J (fun hg=>by rw [hg];exact B9 J J) J J ?_))))))))))));refine F5 J J (fun hg=>by rw [hg];exact B08 J J) J J ?_;refine F5 J J (fun hg=>by rw [hg];exact B9 J J) J J ?_;refine Z7 J J (.gd (.val _)) (fun hg=>by obtain ⟨hg1,hg2⟩:=Z0 hg;(try rw [hg1]);(try rw [hg2]);exact B9 J J) J J ?_;refine Z7 J J (.gd (.val _)) (fun hg=>by obtain ⟨hg1,hg2⟩:=Z0 hg;(try rw [hg1]);(try rw [hg2]);exact B9 J J) J J ?_;refine Z7 J J (.gd (.val _)) (fun hg=>by have hq:=hg;(try simp at hq);obtain ⟨hg1,hg2⟩:=Z0 hg;(try rw [hg1]);(try rw [hg2]);exact B2 J (.pure _ _ _ _) J (by omega) hvm) J J ?_;refine Z7 J J (.gd (.val _)) (fun hg=>by obtain ⟨hg1,hg2⟩:=Z0 hg;(try rw [hg1]);(try rw [hg2]);exact B7 J) J J ?_;refine Z7 J J (.gd (.val _)) (fun hg=>by obtain ⟨hg1,hg2⟩:=Z0 hg;(try rw [hg1]);(try rw [hg2]);exact B0 J J) J J ?_;refine Z7 J J (.gd (.val _)) (fun hg=>by obtain ⟨hg1,hg2⟩:=Z0 hg;(try rw [hg1]);(try rw [hg2]);exact B9 J J) J J ?_;refine Z7 J J (.gd (.val _)) (fun hg=>by obtain ⟨hg1,hg2⟩:=Z0 hg;(try rw [hg1]);(try rw [hg2]);exact B9 J J) J J ?_;refine Z7 J J (.gd (.val _)) (fun hg=>by have hq:=hg;(try simp at hq);obtain ⟨hg1,hg2⟩:=Z0 hg;(try rw [hg1]);(try rw [hg2]);exact B2 J (.pure _ _ _ _) J (by omega) (hvb (by omega))) J J ?_;refine Z7 J J (.gd (.val _)) (fun hg=>by obtain ⟨hg1,hg2⟩:=Z0 hg;(try rw [hg1]);(try rw [hg2]);exact B7 J) J J ?_;refine Z7 J J (.gd (.val _)) (fun hg=>by obtain ⟨hg1,hg2⟩:=Z0 hg;(try rw [hg1]);(try rw [hg2]);exact B0 J J) J J ?_;refine Z7 J J (.gd (.val _)) (fun hg=>by obtain ⟨hg1,hg2⟩:=Z0 hg;(try rw [hg1]);(try rw [hg2]);exact N4 J J) J J ?_;refine F5 J J (fun hg=>by rw [hg];exact N6 J (fun h=>by first | rfl | (rw [h];rfl)) (fun h=>by first | rfl | (rw [h];rfl))) J J ?_;refine B5 (N6 J (fun h=>by first | rfl | (rw [h];rfl)) (fun h=>by first | rfl | (rw [h];rfl))) J J ?_;refine P2 ?_;refine k1 ?_
  have hcond:(if X9 g inn out m=true then (if decide (b < 0)=true then true else decide ((g[b.toNat]?.getD ⟨[],0,[]⟩).Date < g[m].Date)) else false)=decide (X9 g inn out m=true∧(b < 0∨W7 g m > W7 g b.toNat)):=by
   cases hr:X9 g inn out m
   ·simp
   ·by_cases hb0:b < 0
    ·simp [hb0]
    ·rw [hdm,hdb (by omega)];simp [hb0]
  rw [hcond]
  refine B1 rfl (fun ht=>?_) (fun ht=>?_)
  ·rw [if_pos (A0 ht)] at hsuc
   skip
   refine A2 (A3 J J (A6 J J (A4 ?_)));refine k4 (k1 (A2 (A3 J J (D6 J J J (A6 J J (A4 ?_))))));refine k1 ?_;refine ⟨m+1,by omega,by omega,?_⟩
   rw [hsuc]
   exact (Sees.of ⟨le1 rfl,le1 rfl,le1 rfl,le1 rfl,le1 rfl,le1 rfl,trivial⟩ ⟨rfl,rfl,trivial⟩)
  ·rw [if_neg (A1 ht)] at hsuc
   refine k5 (k4 (k1 (A2 (A3 J J (D6 J J J (A6 J J (A4 ?_)))))));refine k1 ?_;refine ⟨m+1,by omega,by omega,?_⟩
   rw [hsuc]
   exact (Sees.of ⟨le1 rfl,le1 rfl,le1 rfl,le1 rfl,le1 rfl,le1 rfl,trivial⟩ ⟨rfl,rfl,trivial⟩)
 have hme:m=g.length:=by have h1:=A1 ht;(try dsimp only at h1);omega
 have hbl:b=A48 g inn out:=by rw [hb,hme];rfl
 refine k6 (k2 (k2 (A2 (A3 J J (F3 J J J (A4 ?_))))));refine k1 ?_;refine B1 rfl (fun ht=>?_) (fun ht=>?_)
 ·have h3:b < 0:=A0 ht
  rw [H88 (by omega)] at hro
  rw [←hro]
  refine k2 (A2 (A3 J J (A6 J J (A6 J J (A4 ?_)))));refine k1 (k10 (k11 (k12 (k11 (k12 ?_)))))
  exact B6 (rs:=[K2 out,F2 0]) (Z6 rfl rfl rfl rfl rfl) rfl
 ·have h3:¬b < 0:=A1 ht
  obtain ⟨c,hc1,hc2,hc3,hc4⟩:=G12 (g:=g) (inn:=inn) (L:=out) (by omega)
  rw [hbl,hc2]
  rw [G13 (by omega) (by omega),hc2] at hro
  refine k5 (k1 (k2 (A2 (A3 J J (A3 J J (A5 (G4 J J J (by omega) (by (rw [hml];omega))) J ?_))))));refine H1 (K9 TySz.out J J (by (rw [hml];omega)) J J) ?_;refine A4 ?_;refine k1 (A2 (A3 J J (A3 J J (A5 (C5 (c:=E4) (ys:=[(c:Int)]) (E0 J J J J G5) J J J) J (D1 (J7 J J J (.pure _ _ _ _) (by (simp only [K87,K90];omega)) J) J (A6 J J (A4 ?_)))))));refine k4 (k1 ?_);refine ⟨out++[(c:Int)],⟨List.nodup_append.2 ⟨hnd,by simp,fun x hx y hy e=>by rw [List.mem_singleton.1 hy] at e;exact hc4 (e ▸ hx)⟩,fun x hx=>?_,?_⟩,by rw [K86,List.length_singleton];omega,?_⟩
  ·rcases List.mem_append.1 hx with hx | hx
   ·exact hrg x hx
   ·rw [List.mem_singleton.1 hx];omega
  ·rw [←hro,K86,List.length_singleton]
   congr 1<;>omega
  ·rw [←H27 hc1]
   exact (Sees.of ⟨le1 rfl,le1 rfl,le1 rfl,le1 rfl,trivial⟩ ⟨rfl,rfl,trivial⟩)
set_option maxHeartbeats 1000000
theorem H29 {nd s:Str} {p:Nat} {out:List Int} {f:Nat} (h:A49 nd s f p out=c7 nd s):out.length≤(c7 nd s).length:=by
 have key:∀(f p:Nat) (out:List Int),out.length≤(A49 nd s f p out).length:=by
  intro f
  induction f with
  | zero=>intro p out;exact Nat.le_refl _
  | succ f ih =>
   intro p out
   rw [A49]
   split
   ·exact Nat.le_refl _
   ·rename_i i _
    have:=ih (i+nd.length) (out++[(i:Int)])
    rw [K86] at this
    omega
 rw [←h];exact key f p out
theorem D83 {w:World} (h:Grd Tryz.prog (fun _=>False) w):∃m,w.cell? ⟨0,0,none⟩=some (.int .i64 m):=by
 obtain ⟨wg,⟨hsh,_⟩,hle,hk⟩:=h
 obtain ⟨m,hm⟩:=Tryz.laysM143.s1_3 wg hsh
 refine ⟨m,?_⟩
 have hlt:0 < wg.heap.size:=World.block_lt_of_cell? wg _ hm
 rw [World.cell?_of_block (w:=wg) (a:=⟨0,0,none⟩) (hk _ hlt).1]
 exact hm
theorem K25 (s nd:Str) (hs:s.length < 4294967281):FnOk Tryz.prog 118 [J6 s,J6 nd] (fun rs=>rs=[F2 (Lib.index s nd)]) :=
 K67 (xs:=[.string ⟨s.toArray⟩,.string ⟨nd.toArray⟩]) ⟨_,rfl,rfl,rfl⟩ rfl fun w hg=>by
  obtain ⟨m,hm⟩:=D83 hg
  refine (Tryz.strings_Index ⟨s.toArray⟩ ⟨nd.toArray⟩ m w hs hm).mono ?_
  rintro e w' ⟨rfl,rfl⟩
  exact ⟨by simp,rfl,rfl,rfl,Nat.le_refl _,fun _ _=>rfl⟩
theorem H30 (nd s:Str) (p:Nat) (hn:nd.length≤1073741824) (hs:s.length≤1073741824):FnOk Tryz.prog 84 [J6 nd,J6 s,F2 p] (fun rs=>rs=[F2 ((Y0 nd s p).getD 0:Nat),H9 (Y0 nd s p).isSome]):=by
 refine FnOk.intro Tryz.func84 (by decide) J J J J ?_
 refine k2 (A2 (A6 J J (A6 J J (A4 ?_))));refine k1 (k2 (k2 (A2 (A3 J J (A5 (c9 J J) J (A3 J J (B3 J J J J (fun hg=>by rw [hg];exact B9 J J) ?_)))))));refine B3 J J J J (fun hg=>by rw [hg];exact B08 J J) ?_;refine K4 J J ?_;refine A3 J J (B3 J J J J (fun hg=>by rw [hg];exact B9 J J) ?_);refine B3 J J J J (fun hg=>by rw [hg];exact B9 J J) ?_;refine B3 J J J J (fun hg=>by rw [hg];exact I6 J) ?_;refine B3 J J J J (fun hg=>by rw [hg];exact N4 J J) ?_;refine K4 J J ?_;refine A4 ?_;refine k1 ?_;refine B1 rfl (fun ht=>?_) (fun ht=>?_)
 ·simp only [or_pick] at ht
  have h:=A0 ht
  have hno:Y0 nd s p=none:=by
   unfold Y0
   rw [if_pos (by rcases h with (h | h) | h<;>first | exact .inl h | exact absurd h (by omega) | exact .inr (.inl (by omega)))]
  rw [hno]
  refine k2 (A2 (A6 J J (A6 J J (A4 ?_))));refine k1 (k10 (k11 ?_))
  exact B6 (rs:=[F2 0,H9 false]) (Z6 rfl rfl rfl rfl rfl) rfl
 simp only [or_pick] at ht
 have h:=A1 ht
 have hne:nd≠[]:=fun e=>h (.inl (.inl e))
 have hpl:p≤s.length:=by
  apply Classical.byContradiction
  intro e;exact h (.inr (by omega))
 have hdl:(s.drop p).length≤s.length:=by rw [K99];omega
 have hlo:=Lib.index_ge (s.drop p) nd
 have hhi:=Lib.index_room (s.drop p) nd
 rw [K99] at hhi
 have hnx:Y0 nd s p=if Lib.index (s.drop p) nd < 0 then none else some (p+(Lib.index (s.drop p) nd).toNat):=by
  unfold Y0
  by_cases h0:Lib.index (s.drop p) nd < 0
  ·rw [if_pos (.inr (.inr h0)),if_pos h0]
  ·rw [if_neg (by simp only [not_or];exact ⟨hne,by omega,h0⟩),if_neg h0]
 obtain ⟨i,hi⟩:∃i,i=Lib.index (s.drop p) nd:=⟨_,rfl⟩
 refine k5 (k1 (k2 (A2 (A3 J J (A3 J J (A5 (C89 J J (by omega) (by omega)) J (A3 J J (D7 (K25 (s.drop p) nd (by omega)) J J J ?_))))))));rintro _ rfl;refine A6 J J (A4 ?_)
 rw [K84,←hi]
 rw [←hi] at hnx hlo hhi
 refine k1 (k2 (k2 (A2 (A3 J J (F3 J J J (A4 ?_))))));refine k1 ?_;refine B1 rfl (fun ht=>?_) (fun ht=>?_)
 ·have h1:i < 0:=A0 ht
  rw [hnx,if_pos h1]
  refine k2 (A2 (A6 J J (A6 J J (A4 ?_))));refine k1 (k10 (k11 ?_))
  exact B6 (rs:=[F2 0,H9 false]) (Z6 rfl rfl rfl rfl rfl) rfl
 ·have h1:¬i < 0:=A1 ht
  rw [hnx,if_neg h1]
  refine k5 (k1 (k2 (A2 (A3 J J (A3 J J (D6 J J J (A6 J J (A6 J J (A4 ?_)))))))));refine k1 (k10 (B6 (Z6 J J J J J) ?_))
  dsimp only [Option.getD,Option.isSome]
  rw [show (p:Int)+i=((p+i.toNat:Nat):Int) by omega]
theorem F46 (nd s:Str) (hn:nd.length≤1073741824) (hs:s.length≤16777216):FnOk Tryz.prog 51 [J6 nd,J6 s] (fun rs=>rs=[K2 (c7 nd s)]):=by
 have hpl:=B01 nd s
 refine FnOk.intro Tryz.func51 (by decide) J J J J ?_
 refine k2 (A2 (A6 J J (A4 ?_)));refine k1 (k2 (A2 (D1 (S9 5 _ E4 J) J (A4 ?_))));refine k1 (k2 (A2 (A3 J J (A3 J J (D7 (H30 nd s 0 hn (by omega)) J J J ?_)))));rintro _ rfl;refine A3 J J (H0 J J J (H0 J J J (A6 J J (A6 J J (A4 ?_)))));refine k1 (k2 (k3 (D2 (X:=Nat × List Int) (fun x=>([(0,Y9 nd),(1,Y9 s),(5,.s (.one (.buf 5 Int 1 E4 x.2))),(6,C3 ((Y0 nd s x.1).getD 0:Nat)),(7,P6 (Y0 nd s x.1).isSome)],[(5,.spare x.2.length 1 3)])) (fun x=>x.1≤s.length∧A49 nd s (s.length+2 - x.1) x.1 x.2=c7 nd s) (fun x=>s.length+1 - x.1) (0,[]) ⟨Nat.zero_le _,rfl⟩ (Sees.of ⟨le1 rfl,le1 rfl,le1 rfl,le1 rfl,le1 rfl,trivial⟩ ⟨rfl,trivial⟩) ?_)))
 rintro ⟨p,out⟩ ⟨hp,hg⟩
 dsimp only at hp hg ⊢
 have hob:=H29 hg
 refine k2 (k2 (A2 (A3 J J (A4 ?_))));refine k1 ?_
 cases hnx:Y0 nd s p with
 | none =>
  rw [B22 hnx] at hg
  refine B1 rfl (fun ht=>?_) (fun ht=>?_)
  ·cases ht
  ·refine k6 (k2 (A2 (A3 J J (A6 J J (A4 ?_)))));refine k1 (k10 ?_)
   exact B6 (rs:=[K2 out]) (H3 rfl rfl rfl) (by rw [hg])
 | some i =>
  have hro:=A77 hnx
  have hnp:0 < nd.length:=List.length_pos_iff.2 hro.1
  rw [C84 (by omega) hnx] at hg
  refine B1 rfl (fun ht=>?_) (fun ht=>?_)
  ·refine k5 (k1 (k3 (k2 (A2 (A3 J J (A3 J J (A5 (C5 (c:=E4) (ys:=[(i:Int)]) (E0 J J J J G5) J J J) J (D1 (J7 J J J (.pure _ _ _ _) (by (simp only [K87,K90];omega)) J) J (A6 J J (A4 ?_))))))))));refine k1 ?_
   dsimp only [Option.getD]
   refine A2 (A3 J J (A3 J J (A3 J J (A3 J J (A5 (I6 J) J (D6 J J J (D7 ((show FnOk Tryz.prog 84 [J6 nd,J6 s,F2 ((i:Int)+(nd.length:Int))] (fun rs=>rs=[F2 ((Y0 nd s (i+nd.length)).getD 0:Nat),H9 (Y0 nd s (i+nd.length)).isSome]) from by rw [show (i:Int)+(nd.length:Int)=((i+nd.length:Nat):Int) by omega];exact H30 nd s (i+nd.length) hn (by omega))) J J J ?_)))))));rintro _ rfl;refine A3 J J (H0 J J J (H0 J J J (A6 J J (A6 J J (A4 ?_)))));refine k4 (k1 ?_);refine ⟨(i+nd.length,out++[(i:Int)]),⟨by dsimp only;omega,?_⟩,by dsimp only;omega,(Sees.of ⟨le1 rfl,le1 rfl,le1 rfl,le1 rfl,le1 rfl,trivial⟩ ⟨rfl,trivial⟩)⟩
   dsimp only
   rw [←hg]
   exact F26 _ _ _ _ (by omega) (by omega)
  ·cases ht
theorem C22 (nd s:Str) (hn:nd.length≤1073741824) (hs:s.length≤16777216):FnOk Tryz.prog 34 [J6 nd,J6 s] (fun rs=>rs=[F2 (Z4 nd s)]):=by
 have hpl:=B01 nd s
 refine FnOk.intro Tryz.func34 (by decide) J J J J ?_
 refine k2 (A2 (A6 J J (A4 ?_)));refine k1 (k2 (A2 (A3 J J (A3 J J (D7 (F46 nd s hn hs) J J J ?_)))));rintro _ rfl;refine E5 J J (A6 J J (A4 ?_));refine k1 (k10 ?_)
 exact B6 (H3 rfl rfl rfl) rfl
set_option maxHeartbeats 1000000
theorem C23 {g:Graph} {c:Nat} {cm:Commit} (h:g[c]?=some cm):L1 g c=cm.Files:=by unfold L1;rw [h];rfl
def X6 (g:Graph) (ps:List Int) (i:Nat):List (List File):=(ps.take i).map fun p=>L1 g p.toNat
theorem D04 {g:Graph} {ps:List Int} {i:Nat} (h:i < ps.length):X6 g ps (i+1)=X6 g ps i++[L1 g ps[i].toNat]:=by
 unfold X6
 rw [List.take_add_one,K82 h,Option.toList_some,L08];rfl
theorem D84 (g:Graph) (ps:List Int) (i:Nat):(X6 g ps i).length≤i:=by
 unfold X6;rw [L04,K92];omega
theorem J63 (g:Graph) (c:Nat) (hf:FewG g) (hr:related g=true) (hc:c < g.length):FnOk Tryz.prog 10 [J8 g,F2 c] (fun rs=>rs=[C25 (L9 g c)]):=by
 obtain ⟨cm,hcm⟩:∃cm,cm=g[c]:=⟨_,rfl⟩
 have hv:g[((c:Nat):Int).toNat]?=some cm:=by rw [hcm];simp [hc]
 have hps:E6 g c=cm.Parents:=by rw [S8 hc,hcm]
 have hpr:=(K6 hr c).1
 have hpl:=hf.pars cm (by rw [hcm];exact K85 hc)
 have htr:L9 g c=if cm.Parents=[] then [[]] else X6 g cm.Parents cm.Parents.length:=by unfold L9 X6;rw [hps,K89]
 rw [hps] at hpr
 rw [htr]
 refine FnOk.intro Tryz.func10 (by decide) J J J J ?_
 refine k2 (A2 (A6 J J (A4 ?_)));refine k1 (k2 (k2 (A2 (A3 J J (A3 J J (A5 (B2 J (.pure _ _ _ _) J (by omega) hv) J (A5 (B7 J) J (A5 (B0 J J) J (E5 J J (A5 (F7 J J) J (A4 ?_)))))))))));refine k1 ?_;refine B1 rfl (fun ht=>?_) (fun ht=>?_)
 ·have h1:cm.Parents=[]:=by
   have h1:=A0 ht
   exact List.length_eq_zero_iff.1 (by omega)
  rw [if_pos h1]
  refine k2 (A2 (A5 (C5 (c:=q9) (ys:=[[]]) (H09 J J G5) J J J) J (A6 J J (A4 ?_))));refine k1 (k10 (k11 ?_))
  exact B6 (rs:=[C25 [[]]]) (H3 rfl rfl rfl) rfl
 have h1:¬cm.Parents=[]:=fun e=>by
  have h1:=A1 ht
  rw [e] at h1;exact h1 rfl
 rw [if_neg h1]
 refine k5 (k1 (k2 (A2 (D1 (S9 5 _ q9 J) J (A4 ?_)))));refine k1 (k2 (k2 (A2 (A6 J J (A4 ?_)))));refine k1 (k3 (D2 (X:=Nat) (fun i=>([(0,D3 Commit 3 G6 g),(1,C3 c),(5,.s (.one (.buf 5 (List File) 1 q9 (X6 g cm.Parents i)))),(6,C3 i)],[(5,.spare (X6 g cm.Parents i).length 1 36)])) (fun i=>i≤cm.Parents.length) (fun i=>cm.Parents.length - i) 0 (Nat.zero_le _) (Sees.of ⟨le1 rfl,le1 rfl,le1 rfl,le1 rfl,trivial⟩ ⟨rfl,trivial⟩) ?_))
 intro i hi
 dsimp only at hi ⊢
 have hul:=D84 g cm.Parents i
 refine k2 (k2 (A2 (A3 J J (A3 J J (A3 J J (A5 (B2 J (.pure _ _ _ _) J (by omega) hv) J (A5 (B7 J) J (A5 (B0 J J) J (E5 J J (F3 J J J (A4 ?_)))))))))));refine k1 ?_;refine B1 rfl (fun ht=>?_) (fun ht=>?_)
 ·have hlt:i < cm.Parents.length:=by have h1:=A0 ht;(try dsimp only at h1);omega
  have hpb:=hpr _ (K85 hlt)
  obtain ⟨p,hp⟩:∃p:Nat,cm.Parents[i]=(p:Int):=⟨cm.Parents[i].toNat,by omega⟩
  have hvp:cm.Parents[i]?=some (p:Int):=by rw [K82 hlt,hp]
  obtain ⟨pm,hpm⟩:∃pm,pm=g[p]:=⟨_,rfl⟩
  have hvpm:g[((p:Nat):Int).toNat]?=some pm:=by rw [hpm,K84];simp [show p < g.length by omega]
  have hs:=D04 (g:=g) hlt
  rw [hp,K84,C23 (by rw [K84] at hvpm;exact hvpm)] at hs
  refine k5 (k1 (k2 (k3 (A2 (A3 J J (A3 J J (A3 J J (A3 J J (A5 (B2 J (.pure _ _ _ _) J (by omega) hv) J (A5 (B7 J) J (A5 (B0 J J) J (A3 J J (A5 (B2 J (.pure _ _ _ _) J (by omega) hvp) J (A5 (B0 J J) J (A5 (B2 J (.pure _ _ _ _) J (by omega) hvpm) J (A5 (B7 J) J (A5 (B0 J J) J (A5 (C5 (c:=q9) (ys:=[pm.Files]) (E0 J J J J G5) J J J) J (D1 (J7 J J J (.pure _ _ _ _) (by (simp only [K87,K90];omega)) J) J (A6 J J (A4 ?_)))))))))))))))))))));refine k4 (k1 (A2 (A3 J J (D6 J J J (A6 J J (A4 ?_))))));refine k1 ?_;refine ⟨i+1,by omega,by omega,?_⟩
  rw [hs]
  exact (Sees.of ⟨le1 rfl,le1 rfl,le1 rfl,le1 rfl,trivial⟩ ⟨rfl,trivial⟩)
 ·have hie:i=cm.Parents.length:=by have h1:=A1 ht;(try dsimp only at h1);omega
  rw [hie]
  refine k6 (k2 (A2 (A3 J J (A6 J J (A4 ?_)))));refine k1 (k10 ?_)
  exact B6 (rs:=[C25 (X6 g cm.Parents cm.Parents.length)]) (H3 rfl rfl rfl) rfl
set_option maxHeartbeats 1000000
theorem J64 (xs bs:List Str):(A15 xs bs).length≤xs.length+bs.length:=by
 have key:∀(xs:List Str),∀bs,(A15 xs bs).length≤xs.length+bs.length:=by
  intro xs
  induction xs with
  | nil=>intro bs;simp [A15]
  | cons a xs ih =>
   intro bs
   rw [A15]
   induction bs with
   | nil=>rw [y2];have:=ih [];simp only [K90,K87] at this ⊢;omega
   | cons b bs ihb =>
    rw [y2]
    split
    ·have:=ih (b::bs);simp only [K87] at this ⊢;omega
    ·split
     ·simp only [K87] at ihb ⊢;omega
     ·have:=ih bs;simp only [K87] at this ⊢;omega
 exact key xs bs
set_option maxHeartbeats 1000000
theorem E77 (a b:List File):(U4 a b).length≤a.length+b.length:=by
 unfold U4
 have h1:=List.length_filterMap_le (A28 a b) (A15 (a.map (·.Path)) (b.map (·.Path)))
 have h2:=J64 (a.map (·.Path)) (b.map (·.Path))
 rw [L04,L04] at h2
 omega
theorem Valid.files {g:Graph} (h:Valid g) (c:Nat):(L1 g c).length≤200:=by
 unfold L1
 by_cases hc:c < g.length
 ·rw [K82 hc]
  exact (y4 (h.tree _ (K85 hc))).2.1
 ·rw [K98 (by omega)];simp
theorem Valid.trees {g:Graph} (h:Valid g) (c:Nat):∀t∈L9 g c,t.length≤200:=by
 intro t ht
 unfold L9 at ht
 split at ht
 ·rw [List.mem_singleton.1 ht];simp
 ·obtain ⟨p,_,rfl⟩:=List.mem_map.1 ht
  exact Valid.files h _
theorem B88 {g:Graph} (h:Valid g) (c:Nat):(L9 g c).length≤33:=by
 unfold L9
 split
 ·simp
 ·rw [L04]
  by_cases hc:c < g.length
  ·rw [S8 hc];have:=h.pars _ (K85 hc);omega
  ·rw [B17 hc];simp
theorem H31 {l:List File} (h:FewF l) (p:Str):(N3 l p).length≤16777216:=by
 unfold N3
 cases hf:I5 l p with
 | none=>simp
 | some x =>
  obtain ⟨f,hm,_,rfl⟩:=A06 hf
  exact h.blob f hm
structure FewB (B:List (List (Str × Str))):Prop where
 len:B.length≤33
 lens:∀l∈B,l.length≤400
 strs:∀l∈B,∀x∈l,x.1.length≤16777216∧x.2.length≤16777216
theorem D52 {g:Graph} (h:FewT g) (hv:Valid g) (c:Nat):FewB (M8 g c) where
 len:=by unfold M8;rw [L04];exact B88 hv c
 lens:=fun l hl=>by
  unfold M8 at hl
  obtain ⟨t,ht,rfl⟩:=List.mem_map.1 hl
  unfold A78
  rw [L04]
  have h1:=E77 t (L1 g c)
  have h2:=Valid.trees hv c t ht
  have h3:=Valid.files hv c
  omega
 strs:=fun l hl x hx=>by
  unfold M8 at hl
  obtain ⟨t,ht,rfl⟩:=List.mem_map.1 hl
  unfold A78 at hx
  obtain ⟨d,_,rfl⟩:=List.mem_map.1 hx
  refine ⟨H31 ?_ _,H31 (h.files c) _⟩
  unfold L9 at ht
  split at ht
  ·rw [List.mem_singleton.1 ht];exact ⟨by simp,(fun _ h=>by cases h),(fun _ h=>by cases h)⟩
  ·obtain ⟨p,_,rfl⟩:=List.mem_map.1 ht
   exact h.files _
def j7 (ts:List (List File)) (u:List File) (i:Nat):List (List (Str × Str)):=(ts.take i).map fun t=>A78 t u
theorem G47 {ts:List (List File)} {u:List File} {i:Nat} (h:i < ts.length):j7 ts u (i+1)=j7 ts u i++[A78 ts[i] u]:=by
 unfold j7
 rw [List.take_add_one,K82 h,Option.toList_some,L08];rfl
theorem H32 (ts:List (List File)) (u:List File) (i:Nat):(j7 ts u i).length≤ts.length:=by
 unfold j7;rw [L04,K92];omega
def x9 (t u:List File) (ds:List Delta) (i:Nat):List (Str × Str):=(ds.take i).map (G82 t u)
theorem G48 {t u:List File} {ds:List Delta} {i:Nat} (h:i < ds.length):x9 t u ds (i+1)=x9 t u ds i++[G82 t u ds[i]]:=by
 unfold x9
 rw [List.take_add_one,K82 h,Option.toList_some,L08];rfl
theorem D85 (t u:List File) (ds:List Delta) (i:Nat):(x9 t u ds i).length≤ds.length:=by
 unfold x9;rw [L04,K92];omega
theorem D05 (nd s:Str) (hs:s.length≤16777216):0≤Z4 nd s∧Z4 nd s≤16777218:=by
 have:=B01 nd s
 unfold Z4;omega
set_option maxHeartbeats 1000000
theorem cmp_lt:∀(a b:Str),decide (Lib.compareBytes a b < 0)=ltS a b
 | [],[]=>rfl
 | [],_::_=>rfl
 | _::_,[]=>rfl
 | a::x,b::y=>by
  rw [Lib.compareBytes,B16]
  have ih:=cmp_lt x y
  by_cases h1:a < b
  ·simp [h1]
  ·by_cases h2:b < a
   ·have:¬a=b:=fun e=>by subst e;exact h1 h2
    simp [h1,h2,this]
   ·have:a=b:=UInt8.toNat_inj.1 (by rw [UInt8.lt_iff_toNat_lt] at h1 h2;omega)
    subst this
    simpa [h1] using ih
theorem I27 (a b:Str):FnOk Tryz.prog 123 [J6 a,J6 b] (fun rs=>rs=[F2 (Lib.compareBytes a b)]) :=
 K62 (xs:=[.string ⟨a.toArray⟩,.string ⟨b.toArray⟩]) ⟨_,rfl,rfl,rfl⟩ rfl fun w=>by simpa using Tryz.strings_Compare ⟨a.toArray⟩ ⟨b.toArray⟩ w
theorem J65 (x y:Delta):FnOk Tryz.prog 122 [pDelta x,pDelta y] (fun rs=>rs=[F2 (Lib.compareBytes x.Path y.Path)]):=by
 refine FnOk.intro Tryz.func122 (by decide) J J J J ?_
 refine k2 (A2 (D1 (i6 2 J J J) J (D1 (i6 3 J J J) J (A6 J J (A4 ?_)))));refine k1 (k2 (A2 (A5 (A7 J) J (G7 J J J J (A5 (A7 J) J (G7 J J J J (D7 (I27 x.Path y.Path) J J J ?_)))))));rintro _ rfl;refine A6 J J (A4 ?_);refine k1 (k10 ?_)
 exact B6 (H3 rfl rfl rfl) rfl
def t8 (rev:List Delta) (x:Delta) (m:Nat) (rest:List Delta):List Delta:=(rev.drop m).reverse++x::((rev.take m).reverse++rest)
theorem J66 {rev:List Delta} {x:Delta} {m:Nat} {rest:List Delta} (hm:m≤rev.length):(t8 rev x m rest).length=rev.length+1+rest.length:=by
 unfold t8
 simp only [K86,L30,K99,K87,K92]
 omega
theorem insAt_x {rev:List Delta} {x:Delta} {m:Nat} {rest:List Delta} (_hm:m≤rev.length):(t8 rev x m rest)[rev.length - m]?=some x:=by
 unfold t8
 rw [K95 (by simp),L30,K99,L31];rfl
theorem insAt_p {rev:List Delta} {x:Delta} {m:Nat} {rest:List Delta} (hm:m < rev.length):(t8 rev x m rest)[rev.length - m - 1]?=some rev[m]:=by
 unfold t8
 rw [K97 (by simp;omega),List.getElem?_reverse (by simp;omega),K99,L23]
 rw [show m+(rev.length - m - 1 - (rev.length - m - 1))=m by omega,K82 hm]
theorem I28 {rev:List Delta} {x:Delta} {m:Nat} {rest:List Delta} (hm:m < rev.length):((t8 rev x m rest).set (rev.length - m) rev[m]).set (rev.length - m - 1) x=t8 rev x (m+1) rest:=by
 have e1:(rev.drop m).reverse=(rev.drop (m+1)).reverse++[rev[m]]:=by rw [K91 hm,List.reverse_cons]
 have e2:(rev.take (m+1)).reverse=rev[m]::(rev.take m).reverse:=by rw [List.take_add_one,K82 hm,Option.toList_some,List.reverse_append];rfl
 have hl:(rev.drop (m+1)).reverse.length=rev.length - m - 1:=by rw [L30,K99];omega
 unfold t8
 rw [e1,e2,K96,L05,L17]
 generalize (rev.drop (m+1)).reverse=P at hl ⊢
 rw [←hl,show rev.length - m=P.length+1 by omega]
 rw [List.set_append_right _ _ (by omega),show P.length+1 - P.length=1 by omega]
 rw [List.set_append_right _ _ (by omega),L31]
 rfl
theorem insR_at {rev:List Delta} {x:Delta}:∀{m:Nat},m≤rev.length→(∀k,(h:k < m)→(h2:k < rev.length)→ltS x.Path rev[k].Path=true)→(∀h:m < rev.length,ltS x.Path rev[m].Path=false)→C37 x rev=rev.take m++x::rev.drop m:=by
 induction rev with
 | nil=>intro m _ _ _;rw [List.take_nil,List.drop_nil];rfl
 | cons y r ih =>
  intro m hm h1 h2
  cases m with
  | zero =>
   have:=h2 (by simp)
   unfold C37
   rw [if_neg (by rw [show y.Path=((y::r)[0]).Path from rfl,this];decide)];rfl
  | succ m =>
   have h3:ltS x.Path y.Path=true:=h1 0 (by omega) (by simp)
   unfold C37
   rw [if_pos h3,ih (m:=m) (by simpa using hm) (fun k hk hk2=>h1 (k+1) (by omega) (by simpa using hk2)) (fun h=>h2 (by simpa using h))]
   rfl
theorem I29 {rev:List Delta} {x:Delta} {m:Nat} {rest:List Delta} (hm:m≤rev.length) (h1:∀k,(h:k < m)→(h2:k < rev.length)→ltS x.Path rev[k].Path=true) (h2:∀h:m < rev.length,ltS x.Path rev[m].Path=false):t8 rev x m rest=(C37 x rev).reverse++rest:=by
 rw [insR_at hm h1 h2]
 unfold t8
 rw [List.reverse_append,List.reverse_cons]
 simp only [K96,List.singleton_append,L05,L17]
theorem F86 (l acc:List Delta):(u0 acc l).length=acc.length+l.length:=by
 induction l generalizing acc with
 | nil=>rfl
 | cons x r ih=>rw [u0,ih,D97,K87];omega
theorem I30 (l:List Delta) (i:Nat) (h:i < l.length):u0 [] (l.take (i+1))=C37 l[i] (u0 [] (l.take i)):=by
 have key:∀(a b acc:List Delta),u0 acc (a++b)=u0 (u0 acc a) b:=by
  intro a
  induction a with
  | nil=>intro b acc;rfl
  | cons x r ih=>intro b acc;exact ih b _
 rw [List.take_add_one,K82 h,Option.toList_some,key];rfl
def A41 (l:List Delta) (i:Nat):List Delta:=(u0 [] (l.take i)).reverse++l.drop i
theorem I31 (l:List Delta) (i:Nat):(A41 l i).length=l.length:=by
 unfold A41
 rw [K86,L30,F86,K92,K99,K90];omega
theorem I32 (l:List Delta):A41 l 1=l:=by
 cases l with
 | nil=>rfl
 | cons x r=>rfl
theorem I33 {l:List Delta} {i:Nat} (h:i < l.length):t8 (u0 [] (l.take i)) l[i] 0 (l.drop (i+1))=A41 l i:=by
 unfold t8 A41
 rw [List.drop_zero,List.take_zero,K91 h];rfl
theorem H33 {l:List Delta} {i:Nat} (h:i < l.length):A41 l (i+1)=(C37 l[i] (u0 [] (l.take i))).reverse++l.drop (i+1):=by
 unfold A41;rw [I30 l i h]
abbrev C49 (l:List Delta):Ob:=.grow 102 Delta 2 B46 l
theorem H34 {gf:Fr} {ob:Obs} (l:List Delta) (hl:l.length≤1048576) (h0:B8 ob 802=some (C49 l)) :
  AL.Met Tryz.prog 161 [.one (.mut 802),.one (.p (.v (.int .i64 0))),.one (.p (.v (.int .i64 l.length))),.one (.p (.v (.func (.func 122) #[] #[])))] gf ob []
   (fun rs ob'=>rs=[]∧ob'=(802,C49 (C53 l))::ob):=by
 refine AL.Met.introH Tryz.func161 (by decide) rfl rfl rfl (fun hH=>?_)
 refine k2 (A2 (A3 J J (D6 J J J (A6 J J (A4 ?_)))));refine k1 (k3 ?_);refine D2 (X:=Nat) (fun i=>([(0,.s (.one (.mut 802))),(1,C3 0),(2,C3 l.length),(3,I7 (.func (.func 122) #[] #[])),(8,C3 i)]++gf,(802,C49 (A41 l i))::ob)) (fun i=>1≤i∧(i≤l.length∨(i=1∧l=[]))) (fun i=>l.length - i) 1 ⟨Nat.le_refl _,by cases l;exact .inr ⟨rfl,rfl⟩;left;simp⟩ ?_ ?_
 ·rw [I32]
  exact K57 ⟨le1 rfl,le1 rfl,le1 rfl,le1 rfl,le1 rfl,trivial⟩ hH (by repeat (first | exact A8 | refine A9 rfl ?_)) (C8 (L:=[(802,_)]) ⟨h0,trivial⟩ C0)
 rintro i ⟨hi1,hi2⟩
 dsimp only at hi1 hi2 ⊢
 have hdl:=I31 l i
 refine k2 (k2 (A2 (A3 J J (A3 J J (F3 J J J (A4 ?_))))));refine k1 ?_;refine B1 rfl (fun ht=>?_) (fun ht=>?_)
 rotate_left
 ·have h1:=A1 ht
  have he:A41 l i=C53 l:=by
   rcases hi2 with h2 | ⟨h2,h3⟩
   ·have:i=l.length:=by omega
    rw [this];unfold A41 C53;rw [K89,List.drop_length,L10]
   ·rw [h2,h3];rfl
  rw [he]
  refine k6 (k7 (k7 (k8 J ?_)))
  exact R1 (A59 rfl) (by repeat (first | exact A8 | refine A9 rfl ?_ | refine C2 _ ?_)) (fun _ _ h=>h) ⟨rfl,rfl⟩
 have hlt:i < l.length:=by have h1:=A0 ht;omega
 obtain ⟨x,hx⟩:∃x,x=l[i]:=⟨_,rfl⟩
 obtain ⟨rev,hrev⟩:∃rev,rev=u0 [] (l.take i):=⟨_,rfl⟩
 obtain ⟨rest,hrest⟩:∃rest,rest=l.drop (i+1):=⟨_,rfl⟩
 have hrl:rev.length=i:=by rw [hrev,F86,K92,K90];omega
 have hrestl:rest.length=l.length - (i+1):=by rw [hrest,K99]
 have e0:=I33 hlt
 have e1:=H33 hlt
 rw [←hx,←hrev,←hrest] at e0 e1
 rw [←e0]
 refine k5 (k1 (k2 (k3 (k2 (A2 (A3 J J (A6 J J (A4 ?_))))))));refine k1 (k3 ?_);refine D2 (X:=Nat) (fun m=>([(0,.s (.one (.mut 802))),(1,C3 0),(2,C3 l.length),(3,I7 (.func (.func 122) #[] #[])),(8,C3 i),(9,C3 ((i - m:Nat):Int))]++gf,(802,C49 (t8 rev x m rest))::ob)) (fun m=>m≤i∧∀k,(h:k < m)→(h2:k < rev.length)→ltS x.Path rev[k].Path=true) (fun m=>i - m) 0 ⟨Nat.zero_le _,fun k h=>by omega⟩ ?_ ?_
 ·exact K57 ⟨le1 rfl,le1 rfl,le1 rfl,le1 rfl,le1 rfl,le1 rfl,trivial⟩ hH (by repeat (first | exact A8 | refine A9 rfl ?_)) (C8 (L:=[(802,_)]) ⟨rfl,trivial⟩ (by repeat (first | exact C0 | refine C4 rfl ?_)))
 rintro m ⟨hm,hall⟩
 dsimp only at hm hall ⊢
 have hil:=J66 (x:=x) (rest:=rest) (show m≤rev.length by omega)
 have hvx:=insAt_x (x:=x) (rest:=rest) (show m≤rev.length by omega)
 rw [hrl] at hil hvx
 have hvx:(t8 rev x m rest)[((i - m:Nat):Int).toNat]?=some x:=by rw [K84];exact hvx
 have hvp:(0:Int) < ((i - m:Nat):Int)→(t8 rev x m rest)[(((i - m:Nat):Int) - 1).toNat]?=some (rev.getD m ⟨[],0⟩):=fun h=>by
  have:=insAt_p (x:=x) (rest:=rest) (show m < rev.length by omega)
  rw [show (((i - m:Nat):Int) - 1).toNat=rev.length - m - 1 by omega,this,K88,K82 (by omega)];rfl
 obtain ⟨y,hy⟩:∃y,y=rev.getD m ⟨[],0⟩:=⟨_,rfl⟩
 rw [←hy] at hvp
 have hcmp:=cmp_lt x.Path y.Path
 refine k2 (k2 (E8 (by kernel_rfl) (by kernel_rfl) (E3 J J (E3 J J (B5 (N4 J J) J J (E3 J J (F5 J J (fun hg=>by rw [hg];exact B9 J J) J J ?_)))))));refine F5 J J (fun hg=>by rw [hg];exact B9 J J) J J ?_;refine F5 J J (fun hg=>by rw [hg];exact B9 J J) J J ?_;refine F5 J J (fun hg=>by have hq:=hg;(try simp at hq);rw [hg];exact H6 J J J (by omega) (by (rw [hil];omega))) J J ?_;refine F5 J J (fun hg=>by rw [hg];exact A32 J J hvx J) J J ?_;refine F5 J J (fun hg=>by rw [hg];exact B9 J J) J J ?_;refine F5 J J (fun hg=>by rw [hg];exact B9 J J) J J ?_;refine F5 J J (fun hg=>by have hq:=hg;(try simp at hq);rw [hg];exact L7 J J (by omega)) J J ?_;refine F5 J J (fun hg=>by have hq:=hg;(try simp at hq);rw [hg];exact H6 J J J (by omega) (by (rw [hil];omega))) J J ?_;refine F5 J J (fun hg=>by have hq:=hg;(try simp at hq);rw [hg];exact A32 J J (hvp (by omega)) J) J J ?_;refine F5 J J (fun hg=>by rw [hg];exact G35 (J65 x y) J J J) J J ?_;refine F5 J J (fun hg=>by rw [hg];exact B08 J J) J J ?_;refine B5 (N6 J (fun h=>by first | rfl | (rw [h];rfl)) (fun h=>by first | rfl | (rw [h];rfl))) J J ?_;refine P2 ?_;refine k1 ?_;refine B1 rfl (fun ht=>?_) (fun ht=>?_)
 ·rw [A20,K83,decide_eq_true_eq,hcmp] at ht
  have hml:m < rev.length:=by omega
  have hym:y=rev[m]:=by rw [hy,K88,K82 hml];rfl
  have hsw:=I28 (x:=x) (rest:=rest) hml
  rw [hrl,←hym] at hsw
  have hvp:=hvp ht.1
  have hvp2:((t8 rev x m rest).set ((i - m:Nat):Int).toNat y)[(((i - m:Nat):Int) - 1).toNat]?=some y:=by
   rw [List.getElem?_set_ne (by omega)];exact hvp
  refine k5 (k1 (k2 (k3 (P3 [17,15] [[],[15],[17,15]] [(15,([],[])),(17,([],[]))] [(0,[]),(1,[]),(2,[]),(3,[]),(4,[]),(5,[]),(6,[]),(7,[]),(8,[]),(9,[]),(10,[]),(11,[]),(12,[]),(13,[]),(14,[]),(15,[]),(16,[15]),(17,[15])] [(2,[15]),(3,[15]),(4,[15])] (by kernel_rfl) (by kernel_rfl) (E9 J J (by kernel_rfl) J J (B9 J J) (E9 J J (by kernel_rfl) J J (B9 J J) (E9 J J (by kernel_rfl) J J (B9 J J) (E9 J J (by kernel_rfl) J J (B9 J J) (E9 J J (by kernel_rfl) J J (L7 J J (by omega)) (E9 J J (by kernel_rfl) J J (B9 J J) (E9 J J (by kernel_rfl) J J (B9 J J) (E9 J J (by kernel_rfl) J J (L7 J J (by omega)) (E9 J J (by kernel_rfl) J J (H6 J J J (by omega) (by (rw [hil];omega))) ?_)))))))))))));refine E9 J J (by kernel_rfl) J J (A32 J J hvp J) (E9 J J (by kernel_rfl) J J (B9 J J) (E9 J J (by kernel_rfl) J J (B9 J J) (E9 J J (by kernel_rfl) J J (H6 J J J (by omega) (by (first | (rw [hil];omega) | (rw [L06,hil];omega)))) ?_)));refine E9 J J (by kernel_rfl) J J (A32 J J hvx J) (E9 J J (by kernel_rfl) J J (H6 J J J (by omega) (by (rw [hil];omega))) ?_);refine Y2 J J (by kernel_rfl) J J (A61 (fun frc hU=>v7 (y) TySz.out (S2 hU J) J hvx (S2 hU J) J J J (fun _ _ _ h=>o7 h) (by intro j h1 h2;rcases j with _ | _ | _ | _ | _ | _ | _ | j<;>first | rfl | omega))) J ?_;refine E9 J J (by kernel_rfl) J J (H6 J J J (by omega) (by (rw [L06,hil];omega))) ?_;refine Y2 J J (by kernel_rfl) J J (A61 (fun frc hU=>v7 (x) TySz.out (S2 hU J) J hvp2 (S2 hU J) J J J (fun _ _ _ h=>o7 h) (by intro j h1 h2;rcases j with _ | _ | _ | _ | _ | _ | _ | j<;>first | rfl | omega))) J ?_;refine F73 (by kernel_rfl) rfl ?_ ?_
  ·refine O1 J J (by kernel_rfl) J J (B9 J J) (O1 J J (by kernel_rfl) J J (B9 J J) (O1 J J (by kernel_rfl) J J (L7 J J (by omega)) ?_));exact B84
  refine k4 (k1 (A2 (A3 J J (A5 (L7 J J (by omega)) J (A6 J J (A4 ?_))))));refine k1 ?_;refine ⟨m+1,⟨by omega,fun k hk hk2=>?_⟩,by omega,?_⟩
  ·by_cases e:k=m
   ·subst e;rw [←hym];exact ht.2
   ·exact hall k (by omega) hk2
  ·rw [K84,show (((i - m:Nat):Int) - 1).toNat=i - m - 1 by omega,hsw,show ((i - (m+1):Nat):Int)=((i - m:Nat):Int) - 1 by omega]
   exact K57 ⟨le1 rfl,le1 rfl,le1 rfl,le1 rfl,le1 rfl,le1 rfl,trivial⟩ hH (by repeat (first | exact A8 | refine tail_drop rfl ?_ | refine A9 rfl ?_)) (C8 (L:=[(802,_)]) ⟨rfl,trivial⟩ (by repeat (first | exact C0 | refine C4 rfl ?_)))
 ·rw [A20,Bool.and_eq_false_iff,decide_eq_false_iff_not,hcmp] at ht
  have hd:t8 rev x m rest=A41 l (i+1):=by
   rw [e1]
   refine I29 (by omega) hall fun hml=>?_
   rcases ht with h | h
   ·omega
   ·rw [hy,K88,K82 hml] at h;exact h
  rw [hd]
  refine k6 (k7 (k7 (k8 J (k4 (k1 (A2 (A3 J J (D6 J J J (A6 J J (A4 ?_))))))))));refine k1 ?_;refine ⟨i+1,⟨by omega,.inl (by omega)⟩,by omega,?_⟩
  exact K57 ⟨le1 rfl,le1 rfl,le1 rfl,le1 rfl,le1 rfl,trivial⟩ hH (by repeat (first | exact A8 | refine A9 rfl ?_)) (C8 (L:=[(802,_)]) ⟨rfl,trivial⟩ (by repeat (first | exact C0 | refine C4 rfl ?_)))
theorem pdq_met {gf:Fr} {ob:Obs} (l:List Delta) (n:Int) (hl:l.length≤12) (h0:B8 ob 802=some (C49 l)) :
  AL.Met Tryz.prog 144 [.one (.mut 802),.one (.p (.v (.int .i64 0))),.one (.p (.v (.int .i64 l.length))),.one (.p (.v (.int .i64 n))),.one (.p (.v (.func (.func 122) #[] #[])))] gf ob []
   (fun rs ob'=>rs=[]∧ob'=(802,C49 (C53 l))::ob):=by
 refine AL.Met.introH Tryz.func144 (by decide) rfl rfl rfl (fun hH=>?_)
 refine k2 (A2 (A6 J J (A4 ?_)));refine k1 (k2 (A2 (A6 J J (A4 ?_))));refine k1 (k3 ?_);refine D2 (X:=Nat) (fun _=>([(0,.s (.one (.mut 802))),(1,C3 0),(2,C3 l.length),(3,C3 n),(4,I7 (.func (.func 122) #[] #[])),(10,P6 true),(11,P6 true)]++gf,ob)) (fun _=>True) (fun _=>0) 0 trivial ?_ ?_
 ·exact K57 ⟨le1 rfl,le1 rfl,le1 rfl,le1 rfl,le1 rfl,le1 rfl,le1 rfl,trivial⟩ hH (by repeat (first | exact A8 | refine A9 rfl ?_)) (fun _ _ h=>h)
 intro _ _
 dsimp only
 refine k3 (k2 (A2 (A3 J J (A3 J J (A5 (L7 J J (by omega)) J (A6 J J (A4 ?_)))))));refine k1 (k2 (k2 (A2 (A3 J J (A5 (B74 J J) J (A4 ?_))))));refine k1 ?_;refine B1 rfl (fun ht=>?_) (fun ht=>?_)
 ·refine k2 (A2 (A3 J J (A3 J J (A3 J J (A3 J J (G8 (H34 l (by omega) h0) J J J ?_))))));rintro _ _ ⟨rfl,rfl⟩;refine A4 ?_;refine k1 (k10 (k11 (k12 (k11 (k12 ?_)))))
  exact E1 (A59 rfl) (by repeat (first | exact A8 | refine A9 rfl ?_ | refine C2 _ ?_)) (fun _ _ h=>h) ⟨rfl,rfl⟩
 ·have h1:=A1 ht
  omega
set_option maxHeartbeats 1000000
theorem K26 (n:Nat) (hn:n < 256):FnOk Tryz.prog 170 [.one (.v (.int .u64 n))] (fun rs=>rs=[F2 (Lib.bitLen n:Nat)]) :=
 K62 (xs:=[.int .u64 n]) ⟨_,rfl,rfl,rfl⟩ rfl fun w=>by simpa using Tryz.bits_Len64 (n:Int) w (by omega) (by omega)
theorem I34 (n:Nat) (hn:n < 256):FnOk Tryz.prog 145 [.one (.v (.int .u64 n))] (fun rs=>∃r:Int,rs=[F2 r]):=by
 refine FnOk.intro Tryz.func145 (by decide) J J J J ?_
 refine k2 (A2 (A6 J J (A4 ?_)));refine k1 (k2 (c_condF ?_))
 refine k5 (k1 (k2 (A2 (A3 J J (D7 (K26 n hn) J J J ?_)))));rintro _ rfl;refine A6 J J (A4 ?_);refine k1 (k10 ?_)
 exact B6 (H3 rfl rfl rfl) ⟨_,rfl⟩
theorem G49 {gf:Fr} {ob:Obs} (l:List Delta) (hl:l.length≤12) (h0:B8 ob 802=some (C49 l)) :
  AL.Met Tryz.prog 121 [.one (.mut 802),.one (.p (.v (.func (.func 122) #[] #[])))] gf ob []
   (fun rs ob'=>rs=[]∧ob'=(802,C49 (C53 l))::ob):=by
 have hw:IntKind.u64.wrap (l.length:Int)=(l.length:Nat):=by unfold IntKind.wrap;simp [IntKind.signed,IntKind.bits];omega
 refine AL.Met.intro Tryz.func121 (by decide) J J J ?_
 refine k2 (A2 (A3 J J (A5 (V5 J h0) J (A6 J J (A4 ?_)))));refine k1 (A2 (A3 J J (A3 J J (A3 J J (A5 (V8 J) J (D7 ((by rw [hw];exact I34 l.length (by omega))) J J J ?_))))));rintro _ ⟨r,rfl⟩;refine A3 J J (G8 (pdq_met l r hl h0) J J J ?_);rintro _ _ ⟨rfl,rfl⟩;refine A4 ?_
 skip
 exact R1 (A59 rfl) (by repeat (first | exact A8 | refine A9 rfl ?_ | refine C2 _ ?_)) (fun _ _ h=>h) ⟨rfl,rfl⟩
def B89 (b:List File) (a:List File) (i:Nat):List Delta:=(a.take i).filterMap (A98 b)
theorem H35 {b a:List File} {i:Nat} (h:i < a.length):B89 b a (i+1)=B89 b a i++(A98 b a[i]).toList:=by
 have e:[a[i]].filterMap (A98 b)=(A98 b a[i]).toList:=by
  cases hd:A98 b a[i] with
  | none=>rw [List.filterMap_cons_none hd];rfl
  | some d=>rw [List.filterMap_cons_some hd];rfl
 unfold B89
 rw [List.take_add_one,K82 h,Option.toList_some,List.filterMap_append,e]
def A91 (a:List File) (b:List File) (i:Nat):List Delta:=(b.take i).filterMap (C36 a)
theorem H36 {a b:List File} {i:Nat} (h:i < b.length):A91 a b (i+1)=A91 a b i++(C36 a b[i]).toList:=by
 have e:[b[i]].filterMap (C36 a)=(C36 a b[i]).toList:=by
  cases hd:C36 a b[i] with
  | none=>rw [List.filterMap_cons_none hd];rfl
  | some d=>rw [List.filterMap_cons_some hd];rfl
 unfold A91
 rw [List.take_add_one,K82 h,Option.toList_some,List.filterMap_append,e]
theorem I35 (b a:List File) (i:Nat):(B89 b a i).length≤a.length:=by
 unfold B89
 have:=List.length_filterMap_le (A98 b) (a.take i)
 rw [K92] at this;omega
theorem I36 (a b:List File) (i:Nat):(A91 a b i).length≤b.length:=by
 unfold A91
 have:=List.length_filterMap_le (C36 a) (b.take i)
 rw [K92] at this;omega
def B90 (a b:List File):Int:=if F8 a≠0 then F8 a else F8 b
theorem K27 (a b:List File) (ha:FewF a) (hb:FewF b) (hab:B90 a b=0→a.length+b.length≤12):FnOk Tryz.prog 85 [U9 a,U9 b] (fun rs=>rs=[G66 (if B90 a b≠0 then [] else U4 a b),F2 (B90 a b)]):=by
 have hal:=ha.len
 have hbl:=hb.len
 refine FnOk.intro Tryz.func85 (by decide) J J J J ?_
 refine k2 (A2 (A6 J J (A6 J J (A4 ?_))));refine k1 (k2 (k2 (A2 (A3 J J (A3 J J (D7 (K24 a b ha hb) J J J ?_))))));rintro _ rfl;refine A6 J J (A4 ?_);refine k1 (k2 (A2 (A3 J J (A5 (R2 J J) J (A4 ?_)))));refine k1 ?_;refine B1 rfl (fun ht=>?_) (fun ht=>?_)
 ·have h1:B90 a b≠0:=A0 ht
  refine k2 (A2 (A3 J J (A5 (J5 _ 2 B46) J (A6 J J (A4 ?_)))));refine k1 (k10 (k11 ?_))
  exact B6 (rs:=[G66 [],F2 (B90 a b)]) (Z6 rfl rfl rfl rfl rfl) (by rw [if_pos h1])
 have h1:¬B90 a b≠0:=A1 ht
 have h0:B90 a b=0:=Decidable.not_not.1 h1
 have hlen:=hab h0
 have ha0:F8 a=0:=by
  apply Classical.byContradiction
  intro h;unfold B90 at h0;rw [if_pos h] at h0;exact h h0
 have hb0:F8 b=0:=by unfold B90 at h0;rw [if_neg (fun h=>h ha0)] at h0;exact h0
 have hda:=(y4 ha0).1
 have hdb:=(y4 hb0).1
 have hfa:=C99 hda
 have hfb:=C99 hdb
 rw [h0,if_neg (show ¬(0:Int)≠0 from fun h=>h rfl),←J93 hda hdb]
 refine k5 (k1 (k2 (A2 (A3 J J (B12 (H17 a hal) J J J J ?_)))));rintro _ _ ⟨rfl,rfl⟩;refine ⟨rfl,?_⟩;refine A3 J J (B12 (E74 b hbl) J J J J ?_);rintro _ _ ⟨rfl,rfl⟩;refine ⟨rfl,?_⟩;refine A6 J J (A6 J J (A4 ?_));refine k1 (k2 (A2 (D1 (G95 802 _ B46 J) J (A4 ?_))));refine k1 (k2 (k2 (A2 (A3 J J (E5 J J (A3 J J (A4 ?_)))))));refine k1 (k3 (D2 (X:=Nat) (fun i=>([(1,D3 File 2 S7 b),(7,.s (.one (.mut 801))),(8,.s (.one (.mut 800))),(9,.s (.one (.mut 802))),(28,D3 File 2 S7 a),(29,C3 a.length),(30,C3 i)],[(800,.map Str o8 (U1 b)),(801,.map Str o8 (U1 a)),(802,C49 (B89 b a i))])) (fun i=>i≤a.length) (fun i=>a.length - i) 0 (Nat.zero_le _) (Sees.of ⟨le1 rfl,le1 rfl,le1 rfl,le1 rfl,le1 rfl,le1 rfl,le1 rfl,trivial⟩ ⟨rfl,rfl,rfl,trivial⟩) ?_))
 intro i hi
 dsimp only at hi ⊢
 have hrl:=I35 b a i
 refine k2 (A2 (F3 J J J (A4 ?_)));refine k1 (k2 ?_);refine B1 rfl (fun ht=>?_) (fun ht=>?_)
 ·have hlt:i < a.length:=by have h1:=A0 ht;(try dsimp only at h1);omega
  obtain ⟨f,hf⟩:∃f,f=a[i]:=⟨_,rfl⟩
  have hv:a[i]?=some f:=by rw [hf];simp [hlt]
  have hs:=H35 (b:=b) hlt
  rw [←hf] at hs
  refine k5 (k1 (k2 (k3 (k2 (A2 (A5 (B2 J (.pure _ _ _ _) J (by omega) hv) J (A5 (E2 J J) J (D1 (I4 11 J) J (H1 (C1 TySz.out J J J J J J) (A4 ?_))))))))));refine k1 (k2 (A2 (A3 J J (A5 (A7 J) J (G7 J J J J (A5 (B83 (f.Path) (r:=((I5 b f.Path).map F42)) J J J z8 A00 (hfb f.Path)) J (A3 J J (H0 J J J (H0 J J J (A6 J J (A6 J J (A4 ?_))))))))))));refine k1 (k2 (A2 (A3 J J (A5 (Q8 J) J (A4 ?_)))));refine k1 ?_
  cases hfo:I5 b f.Path with
  | none =>
   have hra:A98 b f=some ⟨f.Path,2⟩:=by unfold A98;rw [hfo]
   rw [hra] at hs
   refine B1 rfl (fun ht=>?_) (fun ht=>?_)
   ·skip
    refine A2 (A3 J J (A5 (A7 J) J (G7 J J J J (A5 (J4 J) J (A5 (C5 (c:=B46) (ys:=[⟨f.Path,2⟩]) (E0 J J J J G5) J J J) J (D1 (S5 J J J (.pure _ _ _ _) (by (simp only [K87,K90];omega)) J) J (A6 J J (A4 ?_))))))));refine k4 (k1 (A2 (D6 J J J (A3 J J (A4 ?_)))));refine k1 ?_;refine ⟨i+1,by omega,by omega,?_⟩
    rw [hs]
    exact (Sees.of ⟨le1 rfl,le1 rfl,le1 rfl,le1 rfl,le1 rfl,le1 rfl,le1 rfl,trivial⟩ ⟨rfl,rfl,rfl,trivial⟩)
   ·cases ht
  | some y =>
   refine B1 rfl (fun ht=>?_) (fun ht=>?_)
   ·cases ht
   refine k2 (A2 (A3 J J (A5 (A7 J) J (G7 J J J J (A5 (G25 J J) J (A4 ?_))))));refine k1 ?_;refine B1 rfl (fun ht=>?_) (fun ht=>?_)
   ·have h2:y≠f.Blob:=A0 ht
    have hra:A98 b f=some ⟨f.Path,3⟩:=by unfold A98;rw [hfo];dsimp only;rw [if_pos h2]
    rw [hra] at hs
    skip
    refine A2 (A3 J J (A5 (A7 J) J (G7 J J J J (A5 (J4 J) J (A5 (C5 (c:=B46) (ys:=[⟨f.Path,3⟩]) (E0 J J J J G5) J J J) J (D1 (S5 J J J (.pure _ _ _ _) (by (simp only [K87,K90];omega)) J) J (A6 J J (A4 ?_))))))));refine k4 (k1 (A2 (D6 J J J (A3 J J (A4 ?_)))));refine k1 ?_;refine ⟨i+1,by omega,by omega,?_⟩
    rw [hs]
    exact (Sees.of ⟨le1 rfl,le1 rfl,le1 rfl,le1 rfl,le1 rfl,le1 rfl,le1 rfl,trivial⟩ ⟨rfl,rfl,rfl,trivial⟩)
   ·have h2:¬y≠f.Blob:=A1 ht
    have hra:A98 b f=none:=by unfold A98;rw [hfo];dsimp only;rw [if_neg h2]
    rw [hra] at hs
    refine k5 (k4 (k1 (A2 (D6 J J J (A3 J J (A4 ?_))))));refine k1 ?_;refine ⟨i+1,by omega,by omega,?_⟩
    rw [hs]
    simp only [Option.toList_none,L10]
    exact (Sees.of ⟨le1 rfl,le1 rfl,le1 rfl,le1 rfl,le1 rfl,le1 rfl,le1 rfl,trivial⟩ ⟨rfl,rfl,rfl,trivial⟩)
 have hie:i=a.length:=by have h1:=A1 ht;(try dsimp only at h1);omega
 have hA:B89 b a a.length=a.filterMap (A98 b):=by unfold B89;rw [K89]
 obtain ⟨A,hAd⟩:∃A,A=a.filterMap (A98 b):=⟨_,rfl⟩
 have hAl:A.length≤a.length:=by rw [hAd];exact List.length_filterMap_le _ _
 rw [hie,hA,←hAd]
 refine k6 (k2 (k2 (A2 (A3 J J (E5 J J (A3 J J (A4 ?_)))))));refine k1 (k3 (D2 (X:=Nat) (fun i=>([(7,.s (.one (.mut 801))),(9,.s (.one (.mut 802))),(60,D3 File 2 S7 b),(61,C3 b.length),(62,C3 i)],[(801,.map Str o8 (U1 a)),(802,C49 (A++A91 a b i))])) (fun i=>i≤b.length) (fun i=>b.length - i) 0 (Nat.zero_le _) (by rw [show A++A91 a b 0=A by unfold A91;simp];exact (Sees.of ⟨le1 rfl,le1 rfl,le1 rfl,le1 rfl,le1 rfl,trivial⟩ ⟨rfl,rfl,trivial⟩)) ?_))
 intro i hi
 dsimp only at hi ⊢
 have hrl2:=I36 a b i
 refine k2 (A2 (F3 J J J (A4 ?_)));refine k1 (k2 ?_);refine B1 rfl (fun ht=>?_) (fun ht=>?_)
 ·have hlt:i < b.length:=by have h1:=A0 ht;(try dsimp only at h1);omega
  obtain ⟨f,hf⟩:∃f,f=b[i]:=⟨_,rfl⟩
  have hv:b[i]?=some f:=by rw [hf];simp [hlt]
  have hs:=H36 (a:=a) hlt
  rw [←hf] at hs
  refine k5 (k1 (k2 (k3 (k2 (A2 (A5 (B2 J (.pure _ _ _ _) J (by omega) hv) J (A5 (E2 J J) J (D1 (I4 15 J) J (H1 (C1 TySz.out J J J J J J) (A4 ?_))))))))));refine k1 (k2 (A2 (A3 J J (A5 (A7 J) J (G7 J J J J (A5 (B83 (f.Path) (r:=((I5 a f.Path).map F42)) J J J z8 A00 (hfa f.Path)) J (A3 J J (H0 J J J (H0 J J J (A6 J J (A6 J J (A4 ?_))))))))))));refine k1 (k2 (A2 (A3 J J (A5 (Q8 J) J (A4 ?_)))));refine k1 ?_
  cases hfo:I5 a f.Path with
  | none =>
   have hra:C36 a f=some ⟨f.Path,1⟩:=by unfold C36;rw [hfo]
   rw [hra] at hs
   refine B1 rfl (fun ht=>?_) (fun ht=>?_)
   ·skip
    refine A2 (A3 J J (A5 (A7 J) J (G7 J J J J (A5 (J4 J) J (A5 (C5 (c:=B46) (ys:=[⟨f.Path,1⟩]) (E0 J J J J G5) J J J) J (D1 (S5 J J J (.pure _ _ _ _) (by (simp only [K86,K87,K90];omega)) J) J (A6 J J (A4 ?_))))))));refine k4 (k1 (A2 (D6 J J J (A3 J J (A4 ?_)))));refine k1 ?_;refine ⟨i+1,by omega,by omega,?_⟩
    rw [hs,←K96]
    exact (Sees.of ⟨le1 rfl,le1 rfl,le1 rfl,le1 rfl,le1 rfl,trivial⟩ ⟨rfl,rfl,trivial⟩)
   ·cases ht
  | some y =>
   have hra:C36 a f=none:=by unfold C36;rw [hfo]
   rw [hra] at hs
   refine B1 rfl (fun ht=>?_) (fun ht=>?_)
   ·cases ht
   ·refine k5 (k4 (k1 (A2 (D6 J J J (A3 J J (A4 ?_))))));refine k1 ?_;refine ⟨i+1,by omega,by omega,?_⟩
    rw [hs]
    simp only [Option.toList_none,L10]
    exact (Sees.of ⟨le1 rfl,le1 rfl,le1 rfl,le1 rfl,le1 rfl,trivial⟩ ⟨rfl,rfl,trivial⟩)
 have hie:i=b.length:=by have h1:=A1 ht;(try dsimp only at h1);omega
 have hB:A++A91 a b b.length=y3 a b:=by unfold A91 y3;rw [K89,hAd]
 have hdl:=I81 a b
 rw [hie,hB]
 refine k6 (k2 (A2 (A3 J J (G8 (G49 (y3 a b) (by omega) J) J J J ?_))));rintro _ _ ⟨rfl,rfl⟩;refine A4 ?_;refine k1 (k2 (D8 (Sees.freezeG (k:=802) J J) ?_))
 refine A2 (A3 J J (A6 J J (A6 J J (A4 ?_))));refine k1 (k10 ?_)
 exact B6 (rs:=[G66 (diffOf a b),F2 0]) (Z6 rfl rfl rfl rfl rfl) rfl
set_option maxHeartbeats 1000000
theorem E78 {nd:Str}:∀{l:List (Str × Str)},(∀x∈l,x.1.length≤16777216∧x.2.length≤16777216) → -(16777218*(l.length:Int))≤c8 nd l∧c8 nd l≤16777218*(l.length:Int)
 | [],_=>⟨by simp [c8],by simp [c8]⟩
 | x::r,h=>by
  have ih:=E78 (nd:=nd) fun y hy=>h y (List.mem_cons_of_mem _ hy)
  have h1:=D05 nd x.1 (h x List.mem_cons_self).1
  have h2:=D05 nd x.2 (h x List.mem_cons_self).2
  have e:c8 nd (x::r)=Z4 nd x.2 - Z4 nd x.1+c8 nd r:=by unfold c8;rw [L01,List.sum_cons]
  rw [e,K87]
  constructor<;>omega
theorem K28 {nd:Str} {l:List (Str × Str)} {i:Nat} (h:i < l.length):c8 nd (l.take (i+1))=c8 nd (l.take i)+(Z4 nd l[i].2 - Z4 nd l[i].1):=by
 unfold c8
 rw [List.take_add_one,K82 h,Option.toList_some,L08,List.sum_append];simp
theorem H37 {nd:Str} {B:List (List (Str × Str))} {p:Nat} (h:p < B.length):(B.take (p+1)).map (c8 nd)=(B.take p).map (c8 nd)++[c8 nd B[p]]:=by
 rw [List.take_add_one,K82 h,Option.toList_some,L08];rfl
theorem D86 {g:Graph} {c:Int} (h:m3 g c=0):Valid g∧0≤c∧c < g.length:=by
 unfold m3 at h
 split at h
 ·rename_i hd;exact absurd h hd
 ·rename_i hd
  split at h
  ·rename_i hc;exact ⟨b9 (Decidable.not_not.1 hd),hc⟩
  ·cases h
theorem I37 (g:Graph) (c:Int) (h:FewT g):FnOk Tryz.prog 52 [J8 g,F2 c] (fun rs=>rs=[F2 (m3 g c)]):=by
 refine FnOk.intro Tryz.func52 (by decide) J J J J ?_
 refine k2 (A2 (A6 J J (A4 ?_)));refine k1 (k2 (k2 (A2 (A3 J J (D7 (J14 g h) J J J ?_)))));rintro _ rfl;refine A6 J J (A4 ?_);refine k1 (k2 (A2 (A3 J J (A5 (R2 J J) J (A4 ?_)))));refine k1 ?_;refine B1 rfl (fun ht=>?_) (fun ht=>?_)
 ·have h1:K7 g≠0:=A0 ht
  refine k2 (A2 (A3 J J (A6 J J (A4 ?_))));refine k1 (k10 (k11 ?_))
  exact B6 (rs:=[F2 (K7 g)]) (H3 rfl rfl rfl) (by unfold m3;rw [if_pos h1])
 have h1:¬K7 g≠0:=A1 ht
 refine k5 (k1 (k2 (k2 (A2 (A3 J J (A3 J J (D7 (dis_ok g c) J J J ?_)))))));rintro _ rfl;refine A5 (Q8 J) J (A4 ?_);refine k1 ?_;refine B1 rfl (fun ht=>?_) (fun ht=>?_)
 ·have h2:¬U6 g c:=by simpa using ht
  refine k2 (A2 (A6 J J (A4 ?_)));refine k1 (k10 (k11 ?_))
  exact B6 (rs:=[F2 5]) (H3 rfl rfl rfl) (by unfold m3;rw [if_neg h1,if_neg h2])
 ·have h2:U6 g c:=by simpa using ht
  refine k5 (k1 (k2 (A2 (A6 J J (A4 ?_)))));refine k1 (k10 ?_)
  exact B6 (rs:=[F2 0]) (H3 rfl rfl rfl) (by unfold m3;rw [if_neg h1,if_pos h2])
theorem D87 (g:Graph) (c:Nat) (hf:FewG g) (hr:related g=true) (hc:c < g.length):FnOk Tryz.prog 54 [J8 g,F2 c] (fun rs=>rs=[C25 (L9 g c)]):=by
 obtain ⟨cm,hcm⟩:∃cm,cm=g[c]:=⟨_,rfl⟩
 have hv:g[((c:Nat):Int).toNat]?=some cm:=by rw [hcm];simp [hc]
 have hps:E6 g c=cm.Parents:=by rw [S8 hc,hcm]
 have hpr:=(K6 hr c).1
 have hpl:=hf.pars cm (by rw [hcm];exact K85 hc)
 have htr:L9 g c=if cm.Parents=[] then [[]] else X6 g cm.Parents cm.Parents.length:=by unfold L9 X6;rw [hps,K89]
 rw [hps] at hpr
 rw [htr]
 refine FnOk.intro Tryz.func54 (by decide) J J J J ?_
 refine k2 (A2 (A6 J J (A4 ?_)));refine k1 (k2 (k2 (A2 (A3 J J (A3 J J (A5 (B2 J (.pure _ _ _ _) J (by omega) hv) J (A5 (B7 J) J (A5 (B0 J J) J (E5 J J (A5 (F7 J J) J (A4 ?_)))))))))));refine k1 ?_;refine B1 rfl (fun ht=>?_) (fun ht=>?_)
 ·have h1:cm.Parents=[]:=by
   have h1:=A0 ht
   exact List.length_eq_zero_iff.1 (by omega)
  rw [if_pos h1]
  refine k2 (A2 (A5 (C5 (c:=q9) (ys:=[[]]) (H09 J J G5) J J J) J (A6 J J (A4 ?_))));refine k1 (k10 (k11 ?_))
  exact B6 (rs:=[C25 [[]]]) (H3 rfl rfl rfl) rfl
 have h1:¬cm.Parents=[]:=fun e=>by
  have h1:=A1 ht
  rw [e] at h1;exact h1 rfl
 rw [if_neg h1]
 refine k5 (k1 (k2 (A2 (D1 (S9 5 _ q9 J) J (A4 ?_)))));refine k1 (k2 (k2 (A2 (A3 J J (A3 J J (A5 (B2 J (.pure _ _ _ _) J (by omega) hv) J (A5 (B7 J) J (A5 (B0 J J) J (E5 J J (A3 J J (A4 ?_)))))))))));refine k1 (k3 (D2 (X:=Nat) (fun i=>([(0,D3 Commit 3 G6 g),(5,.s (.one (.buf 5 (List File) 1 q9 (X6 g cm.Parents i)))),(20,D3 Int 1 E4 cm.Parents),(21,C3 cm.Parents.length),(22,C3 i)],[(5,.spare (X6 g cm.Parents i).length 1 36)])) (fun i=>i≤cm.Parents.length) (fun i=>cm.Parents.length - i) 0 (Nat.zero_le _) (Sees.of ⟨le1 rfl,le1 rfl,le1 rfl,le1 rfl,le1 rfl,trivial⟩ ⟨rfl,trivial⟩) ?_))
 intro i hi
 dsimp only at hi ⊢
 have hul:=D84 g cm.Parents i
 refine k2 (A2 (F3 J J J (A4 ?_)));refine k1 (k2 ?_);refine B1 rfl (fun ht=>?_) (fun ht=>?_)
 ·have hlt:i < cm.Parents.length:=by have h1:=A0 ht;(try dsimp only at h1);omega
  have hpb:=hpr _ (K85 hlt)
  obtain ⟨p,hp⟩:∃p:Nat,cm.Parents[i]=(p:Int):=⟨cm.Parents[i].toNat,by omega⟩
  have hvp:cm.Parents[i]?=some (p:Int):=by rw [K82 hlt,hp]
  obtain ⟨pm,hpm⟩:∃pm,pm=g[p]:=⟨_,rfl⟩
  have hvpm:g[((p:Nat):Int).toNat]?=some pm:=by rw [hpm,K84];simp [show p < g.length by omega]
  have hs:=D04 (g:=g) hlt
  rw [hp,K84,C23 (by rw [K84] at hvpm;exact hvpm)] at hs
  refine k5 (k1 (k2 (k3 (k2 (A2 (A5 (B2 J (.pure _ _ _ _) J (by omega) hvp) J (A5 (B0 J J) J (A6 J J (A4 ?_)))))))));refine k1 (A2 (A3 J J (A3 J J (A3 J J (A5 (B2 J (.pure _ _ _ _) J (by omega) hvpm) J (A5 (B7 J) J (A5 (B0 J J) J (A5 (C5 (c:=q9) (ys:=[pm.Files]) (E0 J J J J G5) J J J) J (D1 (J7 J J J (.pure _ _ _ _) (by (simp only [K87,K90];omega)) J) J (A6 J J (A4 ?_)))))))))));refine k4 (k1 (A2 (D6 J J J (A3 J J (A4 ?_)))));refine k1 ?_;refine ⟨i+1,by omega,by omega,?_⟩
  rw [hs]
  exact (Sees.of ⟨le1 rfl,le1 rfl,le1 rfl,le1 rfl,le1 rfl,trivial⟩ ⟨rfl,trivial⟩)
 ·have hie:i=cm.Parents.length:=by have h1:=A1 ht;(try dsimp only at h1);omega
  rw [hie]
  refine k6 (k2 (A2 (A3 J J (A6 J J (A4 ?_)))));refine k1 (k10 ?_)
  exact B6 (rs:=[C25 (X6 g cm.Parents cm.Parents.length)]) (H3 rfl rfl rfl) rfl
def Short (g:Graph):Prop:=∀c:Nat,(L1 g c).length≤6
theorem Short.tree {g:Graph} (h:Short g) {c:Nat} {t:List File} (ht:t∈L9 g c):t.length≤6:=by
 unfold L9 at ht
 split at ht
 ·rw [List.mem_singleton.1 ht];simp
 ·obtain ⟨p,_,rfl⟩:=List.mem_map.1 ht
  exact h _
theorem J67 {g:Graph} (h:FewT g) {c:Nat} {t:List File} (ht:t∈L9 g c):FewF t:=by
 unfold L9 at ht
 split at ht
 ·rw [List.mem_singleton.1 ht];exact ⟨by simp,(fun _ h=>by cases h),(fun _ h=>by cases h)⟩
 ·obtain ⟨p,_,rfl⟩:=List.mem_map.1 ht
  exact h.files _
theorem Valid.check {g:Graph} (h:Valid g) (c:Nat):F8 (L1 g c)=0:=by
 unfold L1
 by_cases hc:c < g.length
 ·rw [K82 hc]
  exact h.tree _ (K85 hc)
 ·rw [K98 (by omega)];decide
theorem Valid.checks {g:Graph} (h:Valid g) {c:Nat} {t:List File} (ht:t∈L9 g c):F8 t=0:=by
 unfold L9 at ht
 split at ht
 ·rw [List.mem_singleton.1 ht];decide
 ·obtain ⟨p,_,rfl⟩:=List.mem_map.1 ht
  exact Valid.check h _
def A33 (g:Graph) (c:Nat):List (List Delta):=(L9 g c).map fun t=>U4 t (L1 g c)
def Q1 (ts:List (List File)) (u:List File) (i:Nat):List (List Delta):=(ts.take i).map fun t=>U4 t u
theorem E79 {ts:List (List File)} {u:List File} {i:Nat} (h:i < ts.length):Q1 ts u (i+1)=Q1 ts u i++[U4 ts[i] u]:=by
 unfold Q1
 rw [List.take_add_one,K82 h,Option.toList_some,L08];rfl
theorem F47 (ts:List (List File)) (u:List File) (i:Nat):(Q1 ts u i).length≤ts.length:=by
 unfold Q1;rw [L04,K92];omega
theorem cof_ok (g:Graph) (c:Nat) (h:FewT g) (hv:Valid g) (hs6:Short g) (hc:c < g.length):FnOk Tryz.prog 53 [J8 g,F2 c] (fun rs=>rs=[.one (.list (List Delta) 1 r5 (A33 g c))]):=by
 obtain ⟨cm,hcm⟩:∃cm,cm=g[c]:=⟨_,rfl⟩
 have hvc:g[((c:Nat):Int).toNat]?=some cm:=by rw [hcm];simp [hc]
 have hfc:L1 g c=cm.Files:=C23 (by rw [K84] at hvc;exact hvc)
 have htl:=B88 hv c
 have htf:∀t∈L9 g c,FewF t∧F8 t=0∧t.length≤6:=fun t ht=>⟨J67 h ht,Valid.checks hv ht,hs6.tree ht⟩
 have huf:=h.files c
 have hu0:=Valid.check hv c
 have hu6:=hs6 c
 obtain ⟨ts,hts⟩:∃ts,ts=L9 g c:=⟨_,rfl⟩
 obtain ⟨u,hu⟩:∃u,u=cm.Files:=⟨_,rfl⟩
 have hres:A33 g c=Q1 ts u ts.length:=by unfold A33 Q1;rw [K89,hfc,hts,hu]
 rw [hfc,←hu] at huf hu0 hu6
 rw [←hts] at htl htf
 rw [hres]
 refine FnOk.intro Tryz.func53 (by decide) J J J J ?_
 refine k2 (A2 (A6 J J (A4 ?_)));refine k1 (k2 (A2 (D1 (S9 5 _ r5 J) J (A4 ?_))));refine k1 (k2 (k2 (A2 (A3 J J (A3 J J (D7 (D87 g c h.few hv.rel hc) J J J ?_))))));rintro _ rfl;refine E5 J J (A3 J J (A4 ?_))
 rw [←hts]
 refine k1 (k3 (D2 (X:=Nat) (fun p=>([(0,D3 Commit 3 G6 g),(1,C3 c),(5,.s (.one (.buf 5 (List Delta) 1 r5 (Q1 ts u p)))),(12,D3 (List File) 1 q9 ts),(13,C3 ts.length),(14,C3 p)],[(5,.spare (Q1 ts u p).length 1 100)])) (fun p=>p≤ts.length) (fun p=>ts.length - p) 0 (Nat.zero_le _) (Sees.of ⟨le1 rfl,le1 rfl,le1 rfl,le1 rfl,le1 rfl,le1 rfl,trivial⟩ ⟨rfl,trivial⟩) ?_))
 intro p hp
 dsimp only at hp ⊢
 have hbl:=F47 ts u p
 refine k2 (A2 (F3 J J J (A4 ?_)));refine k1 (k2 ?_);refine B1 rfl (fun ht=>?_) (fun ht=>?_)
 ·have hplt:p < ts.length:=by have h1:=A0 ht;(try dsimp only at h1);omega
  have hs:=E79 (u:=u) hplt
  obtain ⟨t,ht0⟩:∃t,t=ts[p]:=⟨_,rfl⟩
  have hvt:ts[p]?=some t:=by rw [ht0];simp [hplt]
  obtain ⟨htf1,ht1,ht6⟩:=htf t (by rw [ht0];exact K85 hplt)
  rw [←ht0] at hs
  have hte:B90 t u=0:=by unfold B90;rw [ht1,if_neg (fun h=>h rfl),hu0]
  have hdiff:=K27 t u htf1 huf (fun _=>by omega)
  rw [hte,if_neg (fun h=>h rfl),show U9 u=U9 cm.Files by rw [hu]] at hdiff
  refine k5 (k1 (k2 (k3 (k2 (A2 (A5 (B2 J (.pure _ _ _ _) J (by omega) hvt) J (A5 (B0 J J) J (A6 J J (A4 ?_)))))))));refine k1 (k2 (A2 (A3 J J (A3 J J (A3 J J (A5 (B2 J (.pure _ _ _ _) J (by omega) hvc) J (A5 (B7 J) J (A5 (B0 J J) J (D7 (hdiff) J J J ?_)))))))));rintro _ rfl;refine A3 J J (H0 J J J (H0 J J J (A6 J J (A6 J J (A4 ?_)))));refine k1 (A2 (A3 J J (A3 J J (A5 (C5 (c:=r5) (ys:=[U4 t u]) (E0 J J J J G5) J J J) J (D1 (J7 J J J (.pure _ _ _ _) (by (simp only [K87,K90];omega)) J) J (A6 J J (A4 ?_)))))));refine k4 (k1 (A2 (D6 J J J (A3 J J (A4 ?_)))));refine k1 ?_;refine ⟨p+1,by omega,by omega,?_⟩
  rw [hs]
  exact (Sees.of ⟨le1 rfl,le1 rfl,le1 rfl,le1 rfl,le1 rfl,le1 rfl,trivial⟩ ⟨rfl,trivial⟩)
 ·have hpe:p=ts.length:=by have h1:=A1 ht;(try dsimp only at h1);omega
  rw [hpe]
  refine k6 (k2 (A2 (A3 J J (A6 J J (A4 ?_)))));refine k1 (k10 ?_)
  exact B6 (rs:=[.one (.list (List Delta) 1 r5 (Q1 ts u ts.length))]) (H3 rfl rfl rfl) rfl
theorem J68 (g:Graph) (c:Int) (h:FewT g) (hs6:Short g):FnOk Tryz.prog 35 [J8 g,F2 c] (fun rs=>∃l,rs=[.one (.list (List Delta) 1 r5 l),F2 (m3 g c)]):=by
 refine FnOk.intro Tryz.func35 (by decide) J J J J ?_
 refine k2 (A2 (A6 J J (A6 J J (A4 ?_))));refine k1 (k2 (k2 (A2 (A3 J J (A3 J J (D7 (I37 g c h) J J J ?_))))));rintro _ rfl;refine A6 J J (A4 ?_);refine k1 (k2 (A2 (A3 J J (A5 (R2 J J) J (A4 ?_)))));refine k1 ?_;refine B1 rfl (fun ht=>?_) (fun ht=>?_)
 ·refine k2 (A2 (A3 J J (A5 (J5 _ 1 r5) J (A6 J J (A4 ?_)))));refine k1 (k10 (k11 ?_))
  exact B6 (rs:=[.one (.list (List Delta) 1 r5 []),F2 (m3 g c)]) (Z6 rfl rfl rfl rfl rfl) ⟨_,rfl⟩
 have h1:¬m3 g c≠0:=A1 ht
 have h0:m3 g c=0:=Decidable.not_not.1 h1
 obtain ⟨hv,hc0,hc1⟩:=D86 h0
 obtain ⟨k,rfl⟩:∃k:Nat,c=(k:Int):=⟨c.toNat,by omega⟩
 rw [h0]
 refine k5 (k1 (k2 (A2 (A3 J J (A3 J J (D7 (cof_ok g k h hv hs6 (by omega)) J J J ?_))))));rintro _ rfl;refine A6 J J (A6 J J (A4 ?_));refine k1 (k10 ?_)
 exact B6 (rs:=[.one (.list (List Delta) 1 r5 (A33 g k)),F2 0]) (Z6 rfl rfl rfl rfl rfl) ⟨_,rfl⟩
set_option maxHeartbeats 1000000
theorem F87 (g:Graph) (c:Nat) (h:FewT g) (hv:Valid g) (hs6:Short g) (hc:c < g.length):FnOk Tryz.prog 36 [J8 g,F2 c] (fun rs=>rs=[G83 (M8 g c)]):=by
 obtain ⟨cm,hcm⟩:∃cm,cm=g[c]:=⟨_,rfl⟩
 have hvc:g[((c:Nat):Int).toNat]?=some cm:=by rw [hcm];simp [hc]
 have hfc:L1 g c=cm.Files:=C23 (by rw [K84] at hvc;exact hvc)
 have htl:=B88 hv c
 have htm:∀t∈L9 g c,t.length≤6:=fun t ht=>hs6.tree ht
 have hul:=hs6 c
 rw [hfc] at hul
 obtain ⟨ts,hts⟩:∃ts,ts=L9 g c:=⟨_,rfl⟩
 obtain ⟨u,hu⟩:∃u,u=cm.Files:=⟨_,rfl⟩
 have hres:M8 g c=j7 ts u ts.length:=by unfold M8 j7;rw [K89,hfc,hts,hu]
 have hds:A33 g c=Q1 ts u ts.length:=by unfold A33 Q1;rw [K89,hfc,hts,hu]
 rw [←hu] at hul
 rw [←hts] at htl htm
 rw [hres]
 obtain ⟨DS,hDS⟩:∃DS,DS=Q1 ts u ts.length:=⟨_,rfl⟩
 have hDl:DS.length=ts.length:=by rw [hDS];unfold Q1;rw [L04,K89]
 refine FnOk.intro Tryz.func36 (by decide) J J J J ?_
 refine k2 (A2 (A6 J J (A4 ?_)));refine k1 (k2 (A2 (D1 (S9 5 _ B02 J) J (A4 ?_))));refine k1 (k2 (A2 (A3 J J (A3 J J (D7 (D87 g c h.few hv.rel hc) J J J ?_)))));rintro _ rfl;refine A6 J J (A4 ?_)
 rw [←hts]
 refine k1 (k2 (k2 (A2 (A3 J J (A3 J J (D7 (cof_ok g c h hv hs6 hc) J J J ?_))))));rintro _ rfl;refine E5 J J (A3 J J (A4 ?_))
 rw [hds,←hDS]
 refine k1 (k3 (D2 (X:=Nat) (fun p=>([(0,D3 Commit 3 G6 g),(1,C3 c),(5,.s (.one (.buf 5 (List (Str × Str)) 1 B02 (j7 ts u p)))),(6,D3 (List File) 1 q9 ts),(21,.s (.one (.p (.list (List Delta) 1 r5 DS)))),(22,C3 DS.length),(23,C3 p)],[(5,.spare (j7 ts u p).length 1 76)])) (fun p=>p≤ts.length) (fun p=>ts.length - p) 0 (Nat.zero_le _) (Sees.of ⟨le1 rfl,le1 rfl,le1 rfl,le1 rfl,le1 rfl,le1 rfl,le1 rfl,trivial⟩ ⟨rfl,trivial⟩) ?_))
 intro p hp
 dsimp only at hp ⊢
 have hbl:=H32 ts u p
 refine k2 (A2 (F3 J J J (A4 ?_)));refine k1 (k2 ?_);refine B1 rfl (fun ht=>?_) (fun ht=>?_)
 rotate_left
 ·have hpe:p=ts.length:=by have h1:=A1 ht;(try dsimp only at h1);omega
  rw [hpe]
  refine k6 (k2 (A2 (A3 J J (A6 J J (A4 ?_)))));refine k1 (k10 ?_)
  exact B6 (rs:=[G83 (j7 ts u ts.length)]) (H3 rfl rfl rfl) rfl
 have hplt:p < ts.length:=by have h1:=A0 ht;(try dsimp only at h1);omega
 have hs:=G47 (u:=u) hplt
 obtain ⟨t,ht0⟩:∃t,t=ts[p]:=⟨_,rfl⟩
 have hvt:ts[p]?=some t:=by rw [ht0];simp [hplt]
 have htl2:=htm t (by rw [ht0];exact K85 hplt)
 rw [←ht0] at hs
 have hdl:=E77 t u
 obtain ⟨ds,hdsd⟩:∃ds,ds=U4 t u:=⟨_,rfl⟩
 have hvd:DS[p]?=some ds:=by
  rw [hDS,hdsd,ht0];unfold Q1
  rw [K89,L18,K82 hplt];rfl
 have hpo:A78 t u=x9 t u ds ds.length:=by unfold A78 x9;rw [K89,hdsd]
 rw [hpo] at hs
 rw [←hdsd] at hdl
 refine k5 (k1 (k2 (k3 (k2 (A2 (A3 J J (A5 (B2 J (.pure _ _ _ _) J (by omega) hvd) J (A5 (B0 J J) J (A6 J J (A6 J J (A4 ?_)))))))))));refine k1 (k2 (A2 (D1 (S9 9 _ A50 J) J (A4 ?_))));refine k1 (k2 (k2 (A2 (A3 J J (E5 J J (A3 J J (A4 ?_)))))));refine k1 (k3 (D2 (X:=Nat) (fun i=>([(0,D3 Commit 3 G6 g),(1,C3 c),(5,.s (.one (.buf 5 (List (Str × Str)) 1 B02 (j7 ts u p)))),(6,D3 (List File) 1 q9 ts),(7,C3 p),(9,.s (.one (.buf 9 (Str × Str) 2 A50 (x9 t u ds i)))),(21,.s (.one (.p (.list (List Delta) 1 r5 DS)))),(22,C3 DS.length),(23,C3 p),(28,D3 Delta 2 B46 ds),(29,C3 ds.length),(30,C3 i)],[(5,.spare (j7 ts u p).length 1 76),(9,.spare (x9 t u ds i).length 2 60)])) (fun i=>i≤ds.length) (fun i=>ds.length - i) 0 (Nat.zero_le _) (Sees.of ⟨le1 rfl,le1 rfl,le1 rfl,le1 rfl,le1 rfl,le1 rfl,le1 rfl,le1 rfl,le1 rfl,le1 rfl,le1 rfl,le1 rfl,trivial⟩ ⟨rfl,rfl,trivial⟩) ?_))
 intro i hi
 dsimp only at hi ⊢
 have hpl:=D85 t u ds i
 refine k2 (A2 (F3 J J J (A4 ?_)));refine k1 (k2 ?_);refine B1 rfl (fun ht=>?_) (fun ht=>?_)
 ·have hilt:i < ds.length:=by have h1:=A0 ht;(try dsimp only at h1);omega
  have hs2:=G48 (t:=t) (u:=u) hilt
  obtain ⟨d,hd⟩:∃d,d=ds[i]:=⟨_,rfl⟩
  have hvdi:ds[i]?=some d:=by rw [hd];simp [hilt]
  rw [←hd] at hs2
  have hfu:=H26 u d.Path (by omega)
  rw [show U9 u=U9 cm.Files by rw [hu]] at hfu
  refine k5 (k1 (k2 (k3 (k2 (A2 (A5 (B2 J (.pure _ _ _ _) J (by omega) hvdi) J (A5 (E2 J J) J (D1 (I4 11 J) J (H1 (C1 TySz.out J J J J J J) (A4 ?_))))))))));refine k1 (k2 (E8 (by kernel_rfl) (by kernel_rfl) (E3 J J (E3 J J (B5 (B2 J (.pure _ _ _ _) J (by omega) hvt) J J (B5 (B0 J J) J J (B5 (A7 J) J J (B5 (C9 J J J) J J (B5 (O6 (H26 t d.Path (by omega)) J J) J J (E3 J J (B5 (Q0 J J) J J (B5 (Q0 J J) J J (B5 (I2 J J) J J (B5 (I2 J J) J J (P2 ?_)))))))))))))));refine k1 (k2 (E8 (by kernel_rfl) (by kernel_rfl) (E3 J J (E3 J J (B5 (B2 J (.pure _ _ _ _) J (by omega) hvc) J J (B5 (B7 J) J J (B5 (B0 J J) J J (B5 (A7 J) J J (B5 (C9 J J J) J J (B5 (O6 (hfu) J J) J J (E3 J J (B5 (Q0 J J) J J (B5 (Q0 J J) J J (B5 (I2 J J) J J (B5 (I2 J J) J J (P2 ?_))))))))))))))));refine k1 (A2 (A3 J J (A3 J J (A3 J J (A5 (B35 J) J (A5 (C5 (c:=A50) (ys:=[(N3 t d.Path,N3 u d.Path)]) (E0 J J J J G5) J J J) J (D1 (J7 J J J (.pure _ _ _ _) (by (simp only [K87,K90];omega)) J) J (A6 J J (A4 ?_)))))))));refine k4 (k1 (A2 (D6 J J J (A3 J J (A4 ?_)))));refine k1 ?_;refine ⟨i+1,by omega,by omega,?_⟩
  rw [hs2]
  exact (Sees.of ⟨le1 rfl,le1 rfl,le1 rfl,le1 rfl,le1 rfl,le1 rfl,le1 rfl,le1 rfl,le1 rfl,le1 rfl,le1 rfl,le1 rfl,trivial⟩ ⟨rfl,rfl,trivial⟩)
 ·have hie:i=ds.length:=by have h1:=A1 ht;(try dsimp only at h1);omega
  rw [hie]
  have hpl2:=D85 t u ds ds.length
  refine k6 (k7 (k7 (k8 J (k1 (A2 (A3 J J (A3 J J (A5 (C5 (c:=B02) (ys:=[x9 t u ds ds.length]) (E0 J J J J G5) J J J) J (D1 (J7 J J J (.pure _ _ _ _) (by (simp only [K87,K90];omega)) J) J (A6 J J (A4 ?_)))))))))));refine k4 (k1 (A2 (D6 J J J (A3 J J (A4 ?_)))));refine k1 ?_;refine ⟨p+1,by omega,by omega,?_⟩
  rw [hs]
  exact (Sees.of ⟨le1 rfl,le1 rfl,le1 rfl,le1 rfl,le1 rfl,le1 rfl,le1 rfl,trivial⟩ ⟨rfl,trivial⟩)
set_option maxHeartbeats 1000000
abbrev cE (nd:Str):Unit→Nat→Cell:=fun _ _=>.v (.string ⟨nd.toArray⟩)
abbrev H38 (x:Str × Str):S1:=.agg [.p (A50 x 0),.p (A50 x 1)]
abbrev A67 (b:Bool):S1:=.one (.p (.v (.bool b)))
abbrev M7 (i:Int):S1:=.one (.p (.v (.int .i64 i)))
theorem K29 (nd:Str) (x:Str × Str) (hn:nd.length≤1073741824) (h1:x.1.length≤16777216) (h2:x.2.length≤16777216) :
  AL.Met Tryz.prog 33 [H38 x,.one (.eref Unit 1 (cE nd) () 0)] [] [] [] (fun rs ob'=>rs=[A67 (differs nd x)]∧ob'=[]):=by
 refine AL.Met.intro Tryz.func33 (by decide) J J J ?_
 refine k2 (A2 (D1 (i6 2 J J J) J (A6 J J (A4 ?_))));refine k1 (k2 (E8 (by kernel_rfl) (by kernel_rfl) (B5 (B0 J J) J J (B5 (N1 J J (by first | omega | decide) (by omega)) J J (B5 (C9 J J J) J J (B5 (O6 (C22 nd x.1 hn h1) J J) J J (B5 (B0 J J) J J (B5 (N1 J J (by first | omega | decide) (by omega)) J J (B5 (C9 J J J) J J (B5 (O6 (C22 nd x.2 hn h2) J J) J J (B5 (R2 J J) J J (B5 (I2 J J) J J (P2 ?_)))))))))))));refine k1 (k10 ?_)
 exact E1 (I1 rfl rfl) (by repeat (first | exact A8 | refine A9 rfl ?_ | refine C2 _ ?_)) (ObIn.spec (ob':=[]) trivial) ⟨rfl,rfl⟩
theorem F48 (f:FuncId) (α:Type) (ec:Nat) (c:α→Nat→Cell) (v:α) (pr:Str × Str→Bool) (l:List (Str × Str)) (hl:l.length≤1073741824) (hf:∀x∈l,AL.Met Tryz.prog f [H38 x,.one (.eref α ec c v 0)] [] [] [] (fun rs ob'=>rs=[A67 (pr x)]∧ob'=[])) :
  AL.Met Tryz.prog 69 [.one (.p (.list (Str × Str) 2 A50 l)),.one (.fncE f α ec c v)] [] [] [] (fun rs ob'=>(∃i:Int,rs=[M7 i]∧decide (0≤i)=l.any pr)∧ob'=[]):=by
 refine AL.Met.intro Tryz.func69 (by decide) J J J ?_
 refine k2 (A2 (A6 J J (A4 ?_)));refine k1 (k2 (k2 (A2 (A3 J J (E5 J J (A3 J J (A4 ?_)))))));refine k1 (k3 (D2 (X:=Nat) (fun i=>([(0,D3 (Str × Str) 2 A50 l),(1,.s (.one (.fncE f α ec c v))),(7,C3 l.length),(8,C3 i)],[])) (fun i=>i≤l.length∧(l.take i).any pr=false) (fun i=>l.length - i) 0 ⟨Nat.zero_le _,rfl⟩ (Sees.of ⟨le1 rfl,le1 rfl,le1 rfl,le1 rfl,trivial⟩ trivial) ?_))
 rintro i ⟨hi,hn⟩
 dsimp only at hi hn ⊢
 refine k2 (A2 (F3 J J J (A4 ?_)));refine k1 (k2 ?_);refine B1 rfl (fun ht=>?_) (fun ht=>?_)
 rotate_left
 ·have h1:i=l.length:=by have h1:=A1 ht;(try dsimp only at h1);omega
  rw [h1,K89] at hn
  refine k6 (k2 (A2 (A6 J J (A4 ?_))));refine k1 (k10 ?_)
  exact E1 (I1 rfl rfl) (by repeat (first | exact A8 | refine A9 rfl ?_ | refine C2 _ ?_)) (ObIn.spec (ob':=[]) trivial) ⟨⟨-1,rfl,by rw [hn];rfl⟩,rfl⟩
 have hlt:i < l.length:=by have h1:=A0 ht;(try dsimp only at h1);omega
 obtain ⟨x,hx⟩:∃x,x=l[i]:=⟨_,rfl⟩
 have hv:l[i]?=some x:=by rw [hx];simp [hlt]
 have hfx:=hf x (by rw [hx];exact K85 hlt)
 refine k5 (k1 (k2 (k3 (k2 (A2 (A3 J J (A6 J J (A4 ?_))))))));refine k1 (k2 (A2 (A3 J J (A3 J J (A3 J J (A5 (B2 J (.pure _ _ _ _) J (by omega) hv) J (A5 (E2 J J) J (A5 (n_callE (hfx) J J J) J (A4 ?_)))))))));refine k1 ?_;refine B1 rfl (fun ht=>?_) (fun ht=>?_)
 ·refine k2 (A2 (A3 J J (A6 J J (A4 ?_))));refine k1 (k10 (k12 (k11 (k11 (k12 (k11 ?_))))));refine E1 (I1 rfl rfl) (by repeat (first | exact A8 | refine A9 rfl ?_ | refine C2 _ ?_)) (ObIn.spec (ob':=[]) trivial) ⟨⟨i,rfl,?_⟩,rfl⟩
  rw [List.any_eq_true.2 ⟨x,by rw [hx];exact K85 hlt,ht⟩]
  exact decide_eq_true (by omega)
 ·refine k5 (k4 (k1 (A2 (D6 J J J (A3 J J (A4 ?_))))));refine k1 ?_;refine ⟨i+1,⟨hlt,?_⟩,by omega,(Sees.of ⟨le1 rfl,le1 rfl,le1 rfl,le1 rfl,trivial⟩ trivial)⟩
  rw [List.take_add_one,hv,Option.toList_some,L29,hn,Bool.false_or,List.any_cons,List.any_nil,Bool.or_false]
  exact ht
theorem D53 (f:FuncId) (α:Type) (ec:Nat) (c:α→Nat→Cell) (v:α) (pr:Str × Str→Bool) (l:List (Str × Str)) (hl:l.length≤1073741824) (hf:∀x∈l,AL.Met Tryz.prog f [H38 x,.one (.eref α ec c v 0)] [] [] [] (fun rs ob'=>rs=[A67 (pr x)]∧ob'=[])) :
  AL.Met Tryz.prog 40 [.one (.p (.list (Str × Str) 2 A50 l)),.one (.fncE f α ec c v)] [] [] [] (fun rs ob'=>rs=[A67 (l.any pr)]∧ob'=[]):=by
 refine AL.Met.intro Tryz.func40 (by decide) J J J ?_
 refine k2 (A2 (A6 J J (A4 ?_)));refine k1 (k2 (A2 (A3 J J (A3 J J (B12 (F48 f α ec c v pr l hl hf) J J J J ?_)))));rintro _ _ ⟨⟨i,rfl,hi⟩,rfl⟩;refine ⟨rfl,?_⟩;refine A5 (V4 J J) J (A6 J J (A4 ?_));refine k1 (k10 ?_)
 exact E1 (I1 rfl rfl) (by repeat (first | exact A8 | refine A9 rfl ?_ | refine C2 _ ?_)) (ObIn.spec (ob':=[]) trivial) ⟨by rw [←hi],rfl⟩
def p6 (B:List (List (Str × Str))) (i:Nat):List (Str × Str):=(B.take i).flatten
theorem D88 {B:List (List (Str × Str))} {i:Nat} (h:i < B.length):p6 B (i+1)=p6 B i++B[i]:=by
 unfold p6
 rw [List.take_add_one,K82 h,Option.toList_some,L20];simp
theorem F88:∀{B:List (List (Str × Str))},(∀l∈B,l.length≤400)→B.flatten.length≤400*B.length
 | [],_=>by simp
 | l::B,h=>by
  have:=F88 fun x hx=>h x (List.mem_cons_of_mem l hx)
  have:=h l List.mem_cons_self
  rw [L16,K86,K87];omega
theorem B39 {B:List (List (Str × Str))} (hB:FewB B) (i:Nat):(p6 B i).length≤13200:=by
 have h1:=F88 (B:=B.take i) fun l hl=>hB.lens l (List.mem_of_mem_take hl)
 have h2:=hB.len
 rw [K92] at h1
 unfold p6;omega
abbrev J15 (l:List (Str × Str)):Ob:=.grow 60 (Str × Str) 2 A50 l
set_option maxHeartbeats 1000000
abbrev L2 (s:Str) (a d:Nat):Ob:=.box [.p (.v (.string ⟨s.toArray⟩)),.p (.v (.int .i64 a)),.p (.v (.int .i64 d)),.mut 811]
abbrev K8 (l:List AL.Node):Ob:=.grow 152 AL.Node 8 s7 l
abbrev U2 (c:UInt8):S1:=.one (.p (.v (.int .u8 c.toNat)))
abbrev M3:S1:=.one (.ref 810 0)
theorem p7 {gf:Fr} {ob:Obs} (s:Str) (a d:Nat) (ha:a≤s.length) (_hs:s.length≤1000) (h0:B8 ob 810=some (L2 s a d)) :
  AL.Met Tryz.prog 124 [M3] gf ob [] (fun rs ob'=>rs=[U2 (s.getD a 0),A67 (decide (a < s.length))]∧ob'=ob):=by
 refine AL.Met.intro Tryz.func124 (by decide) J J J ?_
 refine k2 (A2 (A6 J J (A6 J J (A4 ?_))));refine k1 (k2 (k2 (E8 (by kernel_rfl) (by kernel_rfl) (E3 J J (B5 (B4 J) J J (B5 (A7 J) J J (B5 (C9 J h0 J) J J (E3 J J (B5 (B4 J) J J (B5 (A7 J) J J (B5 (C9 J h0 J) J J (B5 (I6 J) J J (B5 (F7 J J) J J (P2 ?_))))))))))))));refine k1 ?_;refine B1 rfl (fun ht=>?_) (fun ht=>?_)
 ·have h1:a=s.length:=by have h1:=A0 ht;omega
  refine k2 (A2 (A6 J J (A6 J J (A4 ?_))));refine k1 (k10 (k11 ?_));refine E1 (J04 rfl rfl rfl) (by repeat (first | exact A8 | refine A9 rfl ?_ | refine C2 _ ?_)) (fun _ _ h=>h) ⟨?_,rfl⟩
  rw [h1,decide_eq_false (by omega),K88,K98 (by omega)];rfl
 ·have h1:a < s.length:=by have h1:=A1 ht;omega
  have hv:s[((a:Nat):Int).toNat]?=some (s.getD a 0):=by rw [K84,K88,K82 h1];rfl
  refine k5 (k1 (k2 (E8 (by kernel_rfl) (by kernel_rfl) (E3 J J (B5 (B4 J) J J (B5 (A7 J) J J (B5 (C9 J h0 J) J J (E3 J J (B5 (B4 J) J J (B5 (A7 J) J J (B5 (C9 J h0 J) J J (B5 (m8 J J (by omega) hv) J J (B5 (I2 J J) J J (B5 (I2 J J) J J (P2 ?_)))))))))))))));refine k1 (k10 ?_);refine E1 (J04 rfl rfl rfl) (by repeat (first | exact A8 | refine A9 rfl ?_ | refine C2 _ ?_)) (fun _ _ h=>h) ⟨?_,rfl⟩
  rw [decide_eq_true h1]
theorem G50 {gf:Fr} {ob:Obs} (s:Str) (a d:Nat) (c:UInt8) (ha:a≤s.length) (hs:s.length≤1000) (h0:B8 ob 810=some (L2 s a d)) :
  AL.Met Tryz.prog 87 [M3,U2 c] gf ob [] (fun rs ob'=>rs=[A67 (decide (s[a]?=some c))]∧ob'=(810,L2 s (if s[a]?=some c then a+1 else a) d)::ob):=by
 have hu:∀x y:UInt8,((x.toNat:Int)=y.toNat)↔x=y:=fun x y=>⟨fun h=>UInt8.toNat_inj.1 (by omega),fun h=>by rw [h]⟩
 refine AL.Met.introH Tryz.func87 (by decide) rfl rfl rfl (fun hH=>?_)
 refine D8 (K57 (l:=[(0,.s M3),(1,.s (U2 c))]) (ob':=(810,L2 s a d)::ob) ⟨le1 rfl,le1 rfl,trivial⟩ hH (by repeat (first | exact A8 | refine A9 rfl ?_)) (C8 (L:=[(810,_)]) ⟨h0,trivial⟩ C0)) ?_
 refine k2 (A2 (A6 J J (A4 ?_)));refine k1 (k2 (A2 (A3 J J (G8 (p7 s a d ha hs J) J J J ?_))));rintro _ _ ⟨rfl,rfl⟩;refine A3 J J (H0 J J J (H0 J J J (A6 J J (A6 J J (A4 ?_)))));refine k1 (k2 (k2 (A2 (A3 J J (A5 (Q8 J) J (A3 J J (B3 J J J J (fun hg=>by rw [hg];exact B9 J J) ?_)))))));refine B3 J J J J (fun hg=>by rw [hg];exact B9 J J) ?_;refine B3 J J J J (fun hg=>by rw [hg];exact R2 J J) ?_;refine K4 J J ?_;refine A4 ?_;refine k1 ?_
 by_cases hc:s[a]?=some c
 ·have hlt:a < s.length:=(List.getElem?_eq_some_iff.1 hc).1
  have hg:s.getD a 0=c:=by rw [K88,hc];rfl
  rw [decide_eq_true hc,if_pos hc]
  refine B1 rfl (fun ht=>?_) (fun ht=>?_)
  ·rw [F03,decide_eq_true hlt,hg] at ht
   simp at ht
  ·refine k5 (k1 (k2 (A2 (A3 J J (A5 (B4 J) J (A5 (A7 J) J (G7 J J J J (D6 J J J (A5 (B4 J) J (A5 (A7 J) J (H1 (C1 TySz.out J J J J J J) (A4 ?_))))))))))));refine k1 (k2 (A2 (A6 J J (A4 ?_))));refine k1 (k10 ?_)
   exact E1 (I1 rfl rfl) (by repeat (first | exact A8 | refine A9 rfl ?_ | refine C2 _ ?_)) (C8 (L:=[(810,_)]) ⟨rfl,trivial⟩ (by repeat (first | exact C0 | refine C4 rfl ?_))) ⟨rfl,rfl⟩
 ·rw [decide_eq_false hc,if_neg hc]
  refine B1 rfl (fun ht=>?_) (fun ht=>?_)
  ·refine k2 (A2 (A6 J J (A4 ?_)));refine k1 (k10 (k11 ?_))
   exact E1 (I1 rfl rfl) (by repeat (first | exact A8 | refine A9 rfl ?_ | refine C2 _ ?_)) (fun _ _ h=>h) ⟨rfl,rfl⟩
  ·rw [F03,L14] at ht
   have h1:a < s.length:=by simpa using ht.1
   have h2:=A1 ht.2
   exfalso
   refine hc ?_
   have h3:s.getD a 0=c:=(hu _ _).1 (Decidable.not_not.1 h2)
   rw [←h3,K88,K82 h1];rfl
theorem K30 {gf:Fr} {ob:Obs} (s:Str) (a d:Nat) (ha:a < s.length) (hs:s.length≤1000) (h0:B8 ob 810=some (L2 s a d)) :
  AL.Met Tryz.prog 192 [M3] gf ob [] (fun rs ob'=>rs=[U2 (s.getD a 0)]∧ob'=(810,L2 s (a+1) d)::ob):=by
 refine AL.Met.introH Tryz.func192 (by decide) rfl rfl rfl (fun hH=>?_)
 refine D8 (K57 (l:=[(0,.s M3)]) (ob':=(810,L2 s a d)::ob) ⟨le1 rfl,trivial⟩ hH (by repeat (first | exact A8 | refine A9 rfl ?_)) (C8 (L:=[(810,_)]) ⟨h0,trivial⟩ C0)) ?_
 refine k2 (A2 (A6 J J (A4 ?_)));refine k1 (k2 (A2 (A3 J J (G8 (p7 s a d (by omega) hs J) J J J ?_))));rintro _ _ ⟨rfl,rfl⟩;refine A3 J J (H0 J J J (H0 J J J (A6 J J (A6 J J (A4 ?_)))))
 rw [decide_eq_true ha]
 refine k1 (k2 (k2 (A2 (A3 J J (A5 (Q8 J) J (A4 ?_))))));refine k1 ?_;refine B1 rfl (fun ht=>?_) (fun ht=>?_)
 ·cases ht
 refine k5 (k1 (k2 (A2 (A3 J J (A5 (B4 J) J (A5 (A7 J) J (G7 J J J J (D6 J J J (A5 (B4 J) J (A5 (A7 J) J (H1 (C1 TySz.out J J J J J J) (A4 ?_))))))))))));refine k1 (k2 (A2 (A3 J J (A6 J J (A4 ?_)))));refine k1 (k10 ?_)
 exact E1 (I1 rfl rfl) (by repeat (first | exact A8 | refine A9 rfl ?_ | refine C2 _ ?_)) (C8 (L:=[(810,_)]) ⟨rfl,trivial⟩ (by repeat (first | exact C0 | refine C4 rfl ?_))) ⟨rfl,rfl⟩
theorem A42 {gf:Fr} {ob:Obs} (s:Str) (a d:Nat) (l:List AL.Node) (n:AL.Node) (hl:l.length≤1000) (h0:B8 ob 810=some (L2 s a d)) (h1:B8 ob 811=some (K8 l)) :
  AL.Met Tryz.prog 126 [M3,(E12 n).s1] gf ob [811] (fun rs ob'=>rs=[M7 l.length]∧ob'=(810,L2 s a d)::(811,K8 (l++[n]))::Obs.forget 811 ob):=by
 refine AL.Met.introH Tryz.func126 (by decide) rfl rfl rfl (fun hH=>?_)
 refine D8 (K58 811 (l:=[(0,.s M3),(1,.s (E12 n).s1)]) (L:=[(810,_),(811,_)]) ⟨le1 rfl,le1 rfl,trivial⟩ hH (by repeat (first | exact A8 | refine A9 rfl ?_)) ⟨h0,h1,trivial⟩) ?_
 refine k2 (A2 (A5 (o9 J J J) J (A6 J J (A4 ?_))));refine k1 (k2 ?_);refine D8 (K57 (gf':=Fr.forget 811 gf) (l:=[(0,.s M3),(3,.s (.one (.eref Unit 8 (fun _ j=>(cellsOf s7 n 0 8).getD j (.v undef)) () 0)))]) (ob':=[(810,L2 s a d),(811,K8 l)]++Obs.forget 811 ob) ⟨le1 rfl,le1 rfl,trivial⟩ (z6 hH) (by repeat (first | exact A8 | refine A9 rfl ?_)) (fun _ _ h=>h)) ?_
 refine P3 [10,7] [[],[7],[10,7]] [(7,([811],[9])),(10,([],[]))] [(0,[]),(1,[]),(2,[]),(3,[]),(4,[]),(5,[]),(6,[]),(7,[]),(8,[7]),(9,[7]),(10,[7])] [(0,[7])] (by kernel_rfl) (by kernel_rfl) (E9 J J (by kernel_rfl) J J (B9 J J) (E9 J J (by kernel_rfl) J J (B9 J J) (E9 J J (by kernel_rfl) J J (B4 J) (E9 J J (by kernel_rfl) J J (A7 J) (E9 J J (by kernel_rfl) J J (C9 J J J) (E9 J J (by kernel_rfl) J J (E2 J J) (E9 J J (by kernel_rfl) J J (C5 (c:=s7) (ys:=[n]) (E0 J J J J G5) J J J) (Y2 J J (by kernel_rfl) J J (D48 (fun frc hU=>S5 (S2 hU J) J (S2 hU J) (.pure _ _ _ _) (by (simp only [K87,K90];omega)) J)) J (E9 J J (by kernel_rfl) J J (B4 J) (E9 J J (by kernel_rfl) J J (A7 J) (Y2 J J (by kernel_rfl) J J (A61 (fun frc hU=>C1 TySz.out (S2 hU J) J (S2 hU J) J J J)) J ?_)))))))))));refine D49 (ks:=[811]) rfl (by kernel_rfl) rfl ?_ ?_
 ·refine O1 J J (by kernel_rfl) J J (B9 J J) ?_;exact B84
 refine k1 (k2 (A2 (A3 J J (A5 (B4 J) J (A5 (A7 J) J (G7 J J J J (A5 (V5 J J) J (A5 (L7 J J (by (simp only [K86,List.length_singleton];omega))) J (A6 J J (A4 ?_))))))))));refine k1 (k10 ?_);refine E1 (I1 rfl rfl) (by repeat (first | exact A8 | refine tail_drop rfl ?_ | refine A9 rfl ?_ | refine H2 _ ?_ | refine C2 _ ?_)) (C8 (L:=[(810,_),(811,_)]) ⟨rfl,rfl,trivial⟩ (by repeat (first | exact C0 | refine C4 rfl ?_ | refine K5 _ ?_))) ⟨?_,rfl⟩
 rw [K86,List.length_singleton]
 congr 5
 omega
set_option maxHeartbeats 1000000
theorem J69:FnOk Tryz.prog 191 [A13 ⟨0,0,0,0⟩,pByte 97] (fun rs=>rs=[A13 ⟨0,8589934592,0,0⟩]):=by
 refine FnOk.intro Tryz.func191 (by decide) J J J J ?_
 refine k2 (A2 (D1 (i6 2 J J J) J (D1 (I4 4 J) J (A4 ?_))));refine k1 (k2 (A2 (A3 J J (A5 (E32 J J (by decide)) J (A5 (N1 J J (by first | omega | decide) (by decide)) J (G7 J J J J (A3 J J (A5 (B07 J J (by decide)) J (A5 (n_shl J J (by decide)) J (A5 (D38 J J J (fun _=>rfl)) J (A5 (N1 J J (by first | omega | decide) (by decide)) J (H1 (C1 TySz.out J J J J J J) (A4 ?_)))))))))))));refine k1 (k2 (A2 (A5 (M6 J J J) J (H1 (C1 TySz.out J J J J J J) (A4 ?_)))));refine k1 (k10 ?_)
 exact B6 (retc rfl rfl rfl rfl rfl) (by kernel_rfl)
theorem E80 {gf:Fr} {ob:Obs} (s:Str) (a d:Nat) (l:List AL.Node) (z:Set4) (hl:l.length≤1000) (h0:B8 ob 810=some (L2 s a d)) (h1:B8 ob 811=some (K8 l)) :
  AL.Met Tryz.prog 190 [M3,(A13 z).s1] gf ob [811] (fun rs ob'=>rs=[M7 l.length]∧ob'=(810,L2 s a d)::(811,K8 (l++[⟨1,z,0,0,[]⟩]))::Obs.forget 811 ob):=by
 refine AL.Met.introH Tryz.func190 (by decide) rfl rfl rfl (fun hH=>?_)
 refine D8 (K58 811 (l:=[(0,.s M3),(1,.s (A13 z).s1)]) (L:=[(810,_),(811,_)]) ⟨le1 rfl,le1 rfl,trivial⟩ hH (by repeat (first | exact A8 | refine A9 rfl ?_)) ⟨h0,h1,trivial⟩) ?_
 refine k2 (A2 (A5 (o9 J J J) J (A6 J J (A4 ?_))));refine k1 (k2 (A2 (A3 J J (A5 (E2 J J) J (A5 (J4 J) J (D41 ((K63 Int 1 E4 7 7 J J)) (G8 (A42 s a d l ⟨1,z,0,0,[]⟩ hl J J) J J J ?_)))))));rintro _ _ ⟨rfl,rfl⟩;refine A6 J J (A4 ?_);refine k1 (k10 ?_)
 exact E1 (I1 rfl rfl) (by repeat (first | exact A8 | refine tail_drop rfl ?_ | refine A9 rfl ?_ | refine H2 _ ?_ | refine C2 _ ?_)) (C8 (L:=[(810,_),(811,_)]) ⟨rfl,rfl,trivial⟩ (by repeat (first | exact C0 | refine C4 rfl ?_ | refine K5 _ ?_))) ⟨rfl,rfl⟩
theorem F89 {gf:Fr} {ob:Obs} (s:Str) (a d:Nat) (c:UInt8) (h:s[a]?=some c) (hs:s.length≤1000) (h0:B8 ob 810=some (L2 s a d)) :
  AL.Met Tryz.prog 192 [M3] gf ob [] (fun rs ob'=>rs=[U2 c]∧ob'=(810,L2 s (a+1) d)::ob):=by
 have hlt:=(List.getElem?_eq_some_iff.1 h).1
 have:=K30 (gf:=gf) s a d hlt hs h0
 rwa [show s.getD a 0=c by rw [K88,h];rfl] at this
theorem H39 {gf:Fr} {ob:Obs} (s:Str) (a d:Nat) (c:UInt8) (h:s[a]?=some c) (hs:s.length≤1000) (h0:B8 ob 810=some (L2 s a d)) :
  AL.Met Tryz.prog 87 [M3,U2 c] gf ob [] (fun rs ob'=>rs=[A67 true]∧ob'=(810,L2 s (a+1) d)::ob):=by
 have hlt:=(List.getElem?_eq_some_iff.1 h).1
 have:=G50 (gf:=gf) s a d c (by omega) hs h0
 rwa [if_pos h,decide_eq_true h] at this
theorem Y3 {gf:Fr} {ob:Obs} (s:Str) (a d:Nat) (c:UInt8) (h:¬s[a]?=some c) (ha:a≤s.length) (hs:s.length≤1000) (h0:B8 ob 810=some (L2 s a d)) :
  AL.Met Tryz.prog 87 [M3,U2 c] gf ob [] (fun rs ob'=>rs=[A67 false]∧ob'=(810,L2 s a d)::ob):=by
 have:=G50 (gf:=gf) s a d c ha hs h0
 rwa [if_neg h,decide_eq_false h] at this
theorem I38 {gf:Fr} {ob:Obs} (s:Str) (a d:Nat) (l:List AL.Node) (h:s[a]?=some 97) (hs:s.length≤1000) (hl:l.length≤1000) (h0:B8 ob 810=some (L2 s a d)) (h1:B8 ob 811=some (K8 l)) :
  AL.Met Tryz.prog 177 [M3] gf ob [811] (fun rs ob'=>rs=[M7 l.length]∧ob'=(810,L2 s (a+1) d)::(811,K8 (l++[⟨1,⟨0,8589934592,0,0⟩,0,0,[]⟩]))::Obs.forget 811 ob):=by
 refine AL.Met.introH Tryz.func177 (by decide) rfl rfl rfl (fun hH=>?_)
 refine D8 (K58 811 (l:=[(0,.s M3)]) (L:=[(810,_),(811,_)]) ⟨le1 rfl,trivial⟩ hH (by repeat (first | exact A8 | refine A9 rfl ?_)) ⟨h0,h1,trivial⟩) ?_
 refine k2 (A2 (A6 J J (A4 ?_)));refine k1 (k2 (A2 (A3 J J (A5 (B35 J) J (A3 J J (G8 (F89 s a d 97 h hs J) J J J ?_))))));rintro _ _ ⟨rfl,rfl⟩;refine D7 (J69) J J J ?_;rintro _ rfl;refine G8 (E80 s (a+1) d l ⟨0,8589934592,0,0⟩ hl J J) J J J ?_;rintro _ _ ⟨rfl,rfl⟩;refine A6 J J (A4 ?_);refine k1 (k10 ?_)
 exact E1 (I1 rfl rfl) (by repeat (first | exact A8 | refine tail_drop rfl ?_ | refine A9 rfl ?_ | refine H2 _ ?_ | refine C2 _ ?_)) (C8 (L:=[(810,_),(811,_)]) ⟨rfl,rfl,trivial⟩ (by repeat (first | exact C0 | refine C4 rfl ?_ | refine K5 _ ?_))) ⟨rfl,rfl⟩
theorem I39 {gf:Fr} {ob:Obs} (s:Str) (a d:Nat) (h:s[a]?=some 43) (hs:s.length≤1000) (h0:B8 ob 810=some (L2 s a d)) :
  AL.Met Tryz.prog 149 [M3] gf ob [] (fun rs ob'=>rs=[M7 1,M7 (-1),A67 true]∧ob'=(810,L2 s (a+1) d)::ob):=by
 have hlt:=(List.getElem?_eq_some_iff.1 h).1
 refine AL.Met.introH Tryz.func149 (by decide) rfl rfl rfl (fun hH=>?_)
 refine D8 (K57 (l:=[(0,.s M3)]) (ob':=(810,L2 s a d)::ob) ⟨le1 rfl,trivial⟩ hH (by repeat (first | exact A8 | refine A9 rfl ?_)) (C8 (L:=[(810,_)]) ⟨h0,trivial⟩ C0)) ?_
 refine k2 (A2 (A6 J J (A6 J J (A6 J J (A4 ?_)))));refine k1 (k2 (k3 (k2 (A2 (A3 J J (G8 (Y3 s a d 42 (by rw [h];decide) (by omega) hs J) J J J ?_))))));rintro _ _ ⟨rfl,rfl⟩;refine A6 J J (A4 ?_);refine k1 ?_;refine B1 rfl (fun ht=>?_) (fun ht=>?_)
 ·cases ht
 refine k2 (A2 (A3 J J (G8 (H39 s a d 43 h hs J) J J J ?_)));rintro _ _ ⟨rfl,rfl⟩;refine A6 J J (A4 ?_);refine k1 ?_;refine B1 rfl (fun ht=>?_) (fun ht=>?_)
 ·refine k2 (A2 (A6 J J (A6 J J (A6 J J (A4 ?_)))));refine k1 (k10 (k12 (k11 ?_)))
  exact E1 (rets3 rfl rfl rfl rfl) (by repeat (first | exact A8 | refine A9 rfl ?_ | refine C2 _ ?_)) (C8 (L:=[(810,_)]) ⟨rfl,trivial⟩ (by repeat (first | exact C0 | refine C4 rfl ?_))) ⟨rfl,rfl⟩
 ·cases ht
set_option maxHeartbeats 1000000
theorem H40 {gf:Fr} {ob:Obs} (s:Str) (a d:Nat) (l:List AL.Node) (kind:Int) (h:s[a+1]?=some 97) (hs:s.length≤1000) (hl:l.length≤1000) (h0:B8 ob 810=some (L2 s a d)) (h1:B8 ob 811=some (K8 l)) :
  AL.Met Tryz.prog 147 [M3,M7 kind] gf ob [811] (fun rs ob'=>rs=[M7 l.length]∧ob'=(810,L2 s (a+1) d)::(811,K8 (l++[⟨kind,⟨0,0,0,0⟩,0,0,[]⟩]))::Obs.forget 811 ob):=by
 have hlt:=(List.getElem?_eq_some_iff.1 h).1
 refine AL.Met.introH Tryz.func147 (by decide) rfl rfl rfl (fun hH=>?_)
 refine D8 (K58 811 (l:=[(0,.s M3),(1,.s (M7 kind))]) (L:=[(810,_),(811,_)]) ⟨le1 rfl,le1 rfl,trivial⟩ hH (by repeat (first | exact A8 | refine A9 rfl ?_)) ⟨h0,h1,trivial⟩) ?_
 refine k2 (A2 (A6 J J (A4 ?_)));refine k1 (k2 (A2 (A3 J J (A5 (B4 J) J (A5 (A7 J) J (G7 J J J J (D6 J J J (A5 (B4 J) J (A5 (A7 J) J (H1 (C1 TySz.out J J J J J J) (A4 ?_)))))))))));refine k1 (k2 (A2 (A3 J J (A3 J J (A5 (J4 J) J (D41 ((K63 Int 1 E4 17 7 J J)) (G8 (A42 s (a+1) d l ⟨kind,⟨0,0,0,0⟩,0,0,[]⟩ hl J J) J J J ?_)))))));rintro _ _ ⟨rfl,rfl⟩;refine A6 J J (A4 ?_);refine k1 (k2 (k2 (A2 (A3 J J (G8 (p7 s (a+1) d (by omega) hs J) J J J ?_)))));rintro _ _ ⟨rfl,rfl⟩;refine A3 J J (H0 J J J (H0 J J J (A6 J J (A6 J J (A4 ?_)))))
 rw [decide_eq_true hlt,show s.getD (a+1) 0=97 by rw [K88,h];rfl]
 refine k1 (k2 (A2 (A3 J J (A3 J J (H4 J J J J (A3 J J (H4 J J J J (D7 (D00 [42,43,63,123] 97) J J J ?_))))))));rintro _ rfl;refine H4 J J J J (A5 (V4 J J) J (A5 (R3 J (rfl) J) J (A4 ?_)));refine k1 ?_;refine B1 rfl (fun ht=>?_) (fun ht=>?_)
 ·exact absurd (A0 ht) (by decide)
 refine k5 (k1 (k2 (A2 (A3 J J (A6 J J (A4 ?_))))));refine k1 (k10 ?_)
 exact E1 (I1 rfl rfl) (by repeat (first | exact A8 | refine tail_drop rfl ?_ | refine A9 rfl ?_ | refine H2 _ ?_ | refine C2 _ ?_)) (C8 (L:=[(810,_),(811,_)]) ⟨rfl,rfl,trivial⟩ (by repeat (first | exact C0 | refine C4 rfl ?_ | refine K5 _ ?_))) ⟨rfl,rfl⟩
theorem H41 {gf:Fr} {ob:Obs} (s:Str) (a d:Nat) (l:List AL.Node) (kind:Int) (h:a+1=s.length) (hs:s.length≤1000) (hl:l.length≤1000) (h0:B8 ob 810=some (L2 s a d)) (h1:B8 ob 811=some (K8 l)) :
  AL.Met Tryz.prog 147 [M3,M7 kind] gf ob [811] (fun rs ob'=>rs=[M7 l.length]∧ob'=(810,L2 s (a+1) d)::(811,K8 (l++[⟨kind,⟨0,0,0,0⟩,0,0,[]⟩]))::Obs.forget 811 ob):=by
 refine AL.Met.introH Tryz.func147 (by decide) rfl rfl rfl (fun hH=>?_)
 refine D8 (K58 811 (l:=[(0,.s M3),(1,.s (M7 kind))]) (L:=[(810,_),(811,_)]) ⟨le1 rfl,le1 rfl,trivial⟩ hH (by repeat (first | exact A8 | refine A9 rfl ?_)) ⟨h0,h1,trivial⟩) ?_
 refine k2 (A2 (A6 J J (A4 ?_)));refine k1 (k2 (A2 (A3 J J (A5 (B4 J) J (A5 (A7 J) J (G7 J J J J (D6 J J J (A5 (B4 J) J (A5 (A7 J) J (H1 (C1 TySz.out J J J J J J) (A4 ?_)))))))))));refine k1 (k2 (A2 (A3 J J (A3 J J (A5 (J4 J) J (D41 ((K63 Int 1 E4 17 7 J J)) (G8 (A42 s (a+1) d l ⟨kind,⟨0,0,0,0⟩,0,0,[]⟩ hl J J) J J J ?_)))))));rintro _ _ ⟨rfl,rfl⟩;refine A6 J J (A4 ?_);refine k1 (k2 (k2 (A2 (A3 J J (G8 (p7 s (a+1) d (by omega) hs J) J J J ?_)))));rintro _ _ ⟨rfl,rfl⟩;refine A3 J J (H0 J J J (H0 J J J (A6 J J (A6 J J (A4 ?_)))))
 rw [decide_eq_false (show ¬a+1 < s.length by omega)]
 refine k1 (k2 (A2 (A3 J J (A3 J J (I8 J J J (by decide) J (I8 J J J (by decide) J (I8 J J J (by decide) J (A5 (S6 J (rfl) J) J (A4 ?_)))))))));refine k1 ?_;refine B1 rfl (fun ht=>?_) (fun ht=>?_)
 ·cases ht
 refine k5 (k1 (k2 (A2 (A3 J J (A6 J J (A4 ?_))))));refine k1 (k10 ?_)
 exact E1 (I1 rfl rfl) (by repeat (first | exact A8 | refine tail_drop rfl ?_ | refine A9 rfl ?_ | refine H2 _ ?_ | refine C2 _ ?_)) (C8 (L:=[(810,_),(811,_)]) ⟨rfl,rfl,trivial⟩ (by repeat (first | exact C0 | refine C4 rfl ?_ | refine K5 _ ?_))) ⟨rfl,rfl⟩
theorem I40 {gf:Fr} {ob:Obs} :
  AL.Met Tryz.prog 148 [M3,U2 97] gf ob [] (fun rs ob'=>rs=[.one (.clo 177 [(810,0)] [])]∧ob'=ob):=by
 refine AL.Met.intro Tryz.func148 (by decide) J J J ?_
 refine k2 (A2 (A6 J J (A4 ?_)));refine k1 (k2 (k2 (A2 (A3 J J (A4 ?_)))));refine k1 (k3 (k2 (A2 (A5 (F7 J J) J (A6 J J (A4 ?_))))));refine k1 ?_;refine B1 rfl (fun ht=>?_) (fun ht=>?_)
 ·exact absurd (A0 ht) (by decide)
 refine k2 (A2 (A5 (F7 J J) J (A6 J J (A4 ?_))));refine k1 ?_;refine B1 rfl (fun ht=>?_) (fun ht=>?_)
 ·exact absurd (A0 ht) (by decide)
 refine k2 (A2 (A5 (F7 J J) J (A6 J J (A4 ?_))));refine k1 ?_;refine B1 rfl (fun ht=>?_) (fun ht=>?_)
 ·exact absurd (A0 ht) (by decide)
 refine k2 (A2 (A5 (F7 J J) J (A6 J J (A4 ?_))));refine k1 ?_;refine B1 rfl (fun ht=>?_) (fun ht=>?_)
 ·exact absurd (A0 ht) (by decide)
 refine k2 (k2 (A2 (A5 (F7 J J) J (A6 J J (A4 ?_)))));refine k1 ?_;refine B1 rfl (fun ht=>?_) (fun ht=>?_)
 ·exact absurd (A0 ht) (by decide)
 refine k2 (A2 (A5 (F7 J J) J (A6 J J (A4 ?_))));refine k1 ?_;refine B1 rfl (fun ht=>?_) (fun ht=>?_)
 ·exact absurd (A0 ht) (by decide)
 refine k2 (A2 (A5 (F7 J J) J (A6 J J (A4 ?_))));refine k1 ?_;refine B1 rfl (fun ht=>?_) (fun ht=>?_)
 ·exact absurd (A0 ht) (by decide)
 skip
 refine A2 (A5 (F7 J J) J (A6 J J (A4 ?_)));refine k1 ?_;refine B1 rfl (fun ht=>?_) (fun ht=>?_)
 ·exact absurd (A0 ht) (by decide)
 refine k5 (k2 (A2 (A3 J J (A5 (l4 J J) J (A6 J J (A4 ?_))))));refine k1 (k10 ?_)
 exact E1 (I1 rfl rfl) (by repeat (first | exact A8 | refine A9 rfl ?_ | refine C2 _ ?_)) (fun _ _ h=>h) ⟨rfl,rfl⟩
set_option maxHeartbeats 1000000
theorem E81 {gf:Fr} {ob:Obs} (s:Str) (a d:Nat) (l:List AL.Node) (h:s[a+1]?=some 97) (hs:s.length≤1000) (hl:l.length≤900) (h0:B8 ob 810=some (L2 s a d)) (h1:B8 ob 811=some (K8 l)) :
  AL.Met Tryz.prog 125 [M3,U2 94] gf ob [811] (fun rs ob'=>rs=[M7 l.length]∧ob'=(810,L2 s (a+1) d)::(811,K8 (l++[⟨2,⟨0,0,0,0⟩,0,0,[]⟩]))::Obs.forget 811 ob):=by
 refine AL.Met.introH Tryz.func125 (by decide) rfl rfl rfl (fun hH=>?_)
 refine D8 (K58 811 (l:=[(0,.s M3),(1,.s (U2 94))]) (L:=[(810,_),(811,_)]) ⟨le1 rfl,le1 rfl,trivial⟩ hH (by repeat (first | exact A8 | refine A9 rfl ?_)) ⟨h0,h1,trivial⟩) ?_
 refine k2 (A2 (A6 J J (A4 ?_)));refine k1 (k2 (k2 (A2 (A3 J J (A4 ?_)))));refine k1 (k3 (k2 (A2 (A5 (F7 J J) J (A6 J J (A4 ?_))))));refine k1 ?_;refine B1 rfl (fun ht=>?_) (fun ht=>?_)
 ·refine k2 (A2 (A3 J J (G8 (H40 s a d l 2 h hs (by omega) J J) J J J ?_)));rintro _ _ ⟨rfl,rfl⟩;refine A6 J J (A4 ?_);refine k1 (k10 (k12 (k11 ?_)))
  exact E1 (I1 rfl rfl) (by repeat (first | exact A8 | refine tail_drop rfl ?_ | refine A9 rfl ?_ | refine H2 _ ?_ | refine C2 _ ?_)) (C8 (L:=[(810,_),(811,_)]) ⟨rfl,rfl,trivial⟩ (by repeat (first | exact C0 | refine C4 rfl ?_ | refine K5 _ ?_))) ⟨rfl,rfl⟩
 ·cases ht
theorem G51 {gf:Fr} {ob:Obs} (s:Str) (a d:Nat) (l:List AL.Node) (h:a+1=s.length) (hs:s.length≤1000) (hl:l.length≤900) (h0:B8 ob 810=some (L2 s a d)) (h1:B8 ob 811=some (K8 l)) :
  AL.Met Tryz.prog 125 [M3,U2 36] gf ob [811] (fun rs ob'=>rs=[M7 l.length]∧ob'=(810,L2 s (a+1) d)::(811,K8 (l++[⟨3,⟨0,0,0,0⟩,0,0,[]⟩]))::Obs.forget 811 ob):=by
 refine AL.Met.introH Tryz.func125 (by decide) rfl rfl rfl (fun hH=>?_)
 refine D8 (K58 811 (l:=[(0,.s M3),(1,.s (U2 36))]) (L:=[(810,_),(811,_)]) ⟨le1 rfl,le1 rfl,trivial⟩ hH (by repeat (first | exact A8 | refine A9 rfl ?_)) ⟨h0,h1,trivial⟩) ?_
 refine k2 (A2 (A6 J J (A4 ?_)));refine k1 (k2 (k2 (A2 (A3 J J (A4 ?_)))));refine k1 (k3 (k2 (A2 (A5 (F7 J J) J (A6 J J (A4 ?_))))));refine k1 ?_;refine B1 rfl (fun ht=>?_) (fun ht=>?_)
 ·exact absurd (A0 ht) (by decide)
 refine k2 (A2 (A5 (F7 J J) J (A6 J J (A4 ?_))));refine k1 ?_;refine B1 rfl (fun ht=>?_) (fun ht=>?_)
 ·refine k2 (A2 (A3 J J (G8 (H41 s a d l 3 h hs (by omega) J J) J J J ?_)));rintro _ _ ⟨rfl,rfl⟩;refine A6 J J (A4 ?_);refine k1 (k10 (k12 (k11 ?_)))
  exact E1 (I1 rfl rfl) (by repeat (first | exact A8 | refine tail_drop rfl ?_ | refine A9 rfl ?_ | refine H2 _ ?_ | refine C2 _ ?_)) (C8 (L:=[(810,_),(811,_)]) ⟨rfl,rfl,trivial⟩ (by repeat (first | exact C0 | refine C4 rfl ?_ | refine K5 _ ?_))) ⟨rfl,rfl⟩
 ·cases ht
theorem I41 {gf:Fr} {ob:Obs} (s:Str) (a d:Nat) (l:List AL.Node) (h:s[a]?=some 97) (h2:s[a+1]?=some 43) (hs:s.length≤1000) (hl:l.length≤900) (h0:B8 ob 810=some (L2 s a d)) (h1:B8 ob 811=some (K8 l)) :
  AL.Met Tryz.prog 125 [M3,U2 97] gf ob [811] (fun rs ob'=>rs=[M7 (l.length+1)]∧ob'=(810,L2 s (a+2) d)::(811,K8 (l++[⟨1,⟨0,8589934592,0,0⟩,0,0,[]⟩]++[⟨6,⟨0,0,0,0⟩,1,-1,[(l.length:Int)]⟩]))::Obs.forget 811 ob):=by
 have hl1:(((l++[⟨1,⟨0,8589934592,0,0⟩,0,0,[]⟩]:List AL.Node)).length:Int)=(l.length:Int)+1:=by rw [K86,List.length_singleton];rfl
 have hll:((l++[⟨1,⟨0,8589934592,0,0⟩,0,0,[]⟩]:List AL.Node)).length≤1000:=by rw [K86,List.length_singleton];omega
 refine AL.Met.introH Tryz.func125 (by decide) rfl rfl rfl (fun hH=>?_)
 refine D8 (K58 811 (l:=[(0,.s M3),(1,.s (U2 97))]) (L:=[(810,_),(811,_)]) ⟨le1 rfl,le1 rfl,trivial⟩ hH (by repeat (first | exact A8 | refine A9 rfl ?_)) ⟨h0,h1,trivial⟩) ?_
 refine k2 (A2 (A6 J J (A4 ?_)));refine k1 (k2 (k2 (A2 (A3 J J (A4 ?_)))));refine k1 (k3 (k2 (A2 (A5 (F7 J J) J (A6 J J (A4 ?_))))));refine k1 ?_;refine B1 rfl (fun ht=>?_) (fun ht=>?_)
 ·exact absurd (A0 ht) (by decide)
 refine k2 (A2 (A5 (F7 J J) J (A6 J J (A4 ?_))));refine k1 ?_;refine B1 rfl (fun ht=>?_) (fun ht=>?_)
 ·exact absurd (A0 ht) (by decide)
 refine k5 (k2 (A2 (A3 J J (A3 J J (G8 (I40) J J J ?_)))));rintro _ _ ⟨rfl,rfl⟩;refine A6 J J (A4 ?_);refine k1 (k2 (A2 (A3 J J (A85 (I38 s a d l h hs (by omega) J J) J J J J ?_))));rintro _ _ ⟨rfl,rfl⟩;refine A6 J J (A4 ?_);refine k1 (k2 (A2 (A3 J J (G8 (I39 s (a+1) d h2 hs J) J J J ?_))));rintro _ _ ⟨rfl,rfl⟩;refine A3 J J (H0 J J J (H0 J J J (H0 J J J (A6 J J (A6 J J (A6 J J (A4 ?_)))))));refine k1 (k2 (k2 (A2 (A3 J J (A5 (Q8 J) J (A4 ?_))))));refine k1 ?_;refine B1 rfl (fun ht=>?_) (fun ht=>?_)
 ·cases ht
 refine k5 (k1 (k2 (A2 (A3 J J (A3 J J (A3 J J (A3 J J (A5 (C5 (c:=E4) (ys:=[(l.length:Int)]) (E0 J J J J G5) J J J) J (A5 (J4 J) J (G8 (A42 s (a+2) d (l++[⟨1,⟨0,8589934592,0,0⟩,0,0,[]⟩]) ⟨6,⟨0,0,0,0⟩,1,-1,[(l.length:Int)]⟩ hll J J) J J J ?_))))))))));rintro _ _ ⟨rfl,rfl⟩;refine A6 J J (A4 ?_)
 rw [hl1]
 refine k1 (k10 ?_)
 exact E1 (I1 rfl rfl) (by repeat (first | exact A8 | refine tail_drop rfl ?_ | refine A9 rfl ?_ | refine H2 _ ?_ | refine C2 _ ?_)) (C8 (L:=[(810,_),(811,_)]) ⟨rfl,rfl,trivial⟩ (by repeat (first | exact C0 | refine C4 rfl ?_ | refine K5 _ ?_))) ⟨rfl,rfl⟩
set_option maxHeartbeats 1000000
theorem E82 {gf:Fr} {ob:Obs} (s:Str) (a d:Nat) (l:List AL.Node) (kind:Int) (kids:List Int) (h2:2≤kids.length) (hl:l.length≤1000) (h0:B8 ob 810=some (L2 s a d)) (h1:B8 ob 811=some (K8 l)) :
  AL.Met Tryz.prog 88 [M3,M7 kind,.one (.p (.list Int 1 E4 kids))] gf ob [811] (fun rs ob'=>rs=[M7 l.length]∧ob'=(810,L2 s a d)::(811,K8 (l++[⟨kind,⟨0,0,0,0⟩,0,0,kids⟩]))::Obs.forget 811 ob):=by
 refine AL.Met.introH Tryz.func88 (by decide) rfl rfl rfl (fun hH=>?_)
 refine D8 (K58 811 (l:=[(0,.s M3),(1,.s (M7 kind)),(2,D3 Int 1 E4 kids)]) (L:=[(810,_),(811,_)]) ⟨le1 rfl,le1 rfl,le1 rfl,trivial⟩ hH (by repeat (first | exact A8 | refine A9 rfl ?_)) ⟨h0,h1,trivial⟩) ?_
 refine k2 (A2 (A6 J J (A4 ?_)));refine k1 (k2 (k2 (A2 (A3 J J (E5 J J (A4 ?_))))));refine k1 (k3 (k2 (A2 (A5 (F7 J J) J (A6 J J (A4 ?_))))));refine k1 ?_;refine B1 rfl (fun ht=>?_) (fun ht=>?_)
 ·have:=A0 ht
  omega
 refine k2 (A2 (A5 (F7 J J) J (A6 J J (A4 ?_))));refine k1 ?_;refine B1 rfl (fun ht=>?_) (fun ht=>?_)
 ·have:=A0 ht
  omega
 refine k5 (k2 (A2 (A3 J J (A3 J J (A3 J J (A5 (J4 J) J (G8 (A42 s a d l ⟨kind,⟨0,0,0,0⟩,0,0,kids⟩ hl J J) J J J ?_)))))));rintro _ _ ⟨rfl,rfl⟩;refine A6 J J (A4 ?_);refine k1 (k10 ?_)
 exact E1 (I1 rfl rfl) (by repeat (first | exact A8 | refine tail_drop rfl ?_ | refine A9 rfl ?_ | refine H2 _ ?_ | refine C2 _ ?_)) (C8 (L:=[(810,_),(811,_)]) ⟨rfl,rfl,trivial⟩ (by repeat (first | exact C0 | refine C4 rfl ?_ | refine K5 _ ?_))) ⟨rfl,rfl⟩
theorem A43 {gf:Fr} {ob:Obs} (kind x:Int) :
  AL.Met Tryz.prog 88 [M3,M7 kind,.one (.p (.list Int 1 E4 [x]))] gf ob [] (fun rs ob'=>rs=[M7 x]∧ob'=ob):=by
 have hv:[x][Int.toNat 0]?=some x:=rfl
 refine AL.Met.intro Tryz.func88 (by decide) J J J ?_
 refine k2 (A2 (A6 J J (A4 ?_)));refine k1 (k2 (k2 (A2 (A3 J J (E5 J J (A4 ?_))))));refine k1 (k3 (k2 (A2 (A5 (F7 J J) J (A6 J J (A4 ?_))))));refine k1 ?_;refine B1 rfl (fun ht=>?_) (fun ht=>?_)
 ·exact absurd (A0 ht) (by simp)
 refine k2 (A2 (A5 (F7 J J) J (A6 J J (A4 ?_))));refine k1 ?_;refine B1 rfl (fun ht=>?_) (fun ht=>?_)
 ·refine k2 (A2 (A3 J J (A5 (B2 J (.pure _ _ _ _) J (by omega) hv) J (A5 (B0 J J) J (A6 J J (A4 ?_))))));refine k1 (k10 (k12 (k11 ?_)))
  exact E1 (I1 rfl rfl) (by repeat (first | exact A8 | refine A9 rfl ?_ | refine C2 _ ?_)) (fun _ _ h=>h) ⟨rfl,rfl⟩
 ·exact absurd rfl (A1 ht)
set_option maxHeartbeats 1000000
theorem K31 (st:AL.State) (b e:Bool):FnOk Tryz.prog 141 [I93 st,H9 b,H9 e] (fun rs=>rs=[K2 (U7 st b e)]):=by
 refine FnOk.intro Tryz.func141 (by decide) J J J J ?_
 refine k2 (A2 (D1 (i6 3 J J J) J (A5 (J5 _ 1 E4) J (A4 ?_))));refine k1 (k2 (k2 (A2 (A5 (A7 J) J (G7 J J J J (A4 ?_))))));refine k1 (k3 (k2 (A2 (A5 (F7 J J) J (A6 J J (A4 ?_))))));refine k1 ?_;refine B1 rfl (fun ht=>?_) (fun ht=>?_)
 ·have h1:st.Kind=1:=A0 ht
  refine k2 (A2 (A5 (A7 J) J (G7 J J J J (A5 (A7 J) J (G7 J J J J (A5 (C5 (c:=E4) (ys:=[st.Next,st.Other]) (E0 J J J J (E0 J J J J G5)) J J J) J (A6 J J (A4 ?_))))))));refine k1 (k10 (k12 (k11 ?_)))
  exact B6 (rs:=[K2 [st.Next,st.Other]]) (H3 rfl rfl rfl) (by unfold U7;simp [h1])
 have h1:¬st.Kind=1:=A1 ht
 refine k2 (A2 (A5 (F7 J J) J (A6 J J (A4 ?_))));refine k1 ?_;refine B1 rfl (fun ht=>?_) (fun ht=>?_)
 ·have h2:st.Kind=2:=A0 ht
  refine k2 (A2 (A3 J J (A4 ?_)));refine k1 ?_;refine B1 rfl (fun ht=>?_) (fun ht=>?_)
  ·refine k2 (A2 (A5 (A7 J) J (G7 J J J J (A5 (C5 (c:=E4) (ys:=[st.Next]) (E0 J J J J G5) J J J) J (A6 J J (A4 ?_))))));refine k1 (k10 (k12 (k11 ?_)))
   exact B6 (rs:=[K2 [st.Next]]) (H3 rfl rfl rfl) (by unfold U7;simp [h2,ht])
  ·refine k5 (k2 (A2 (A5 (J5 _ 1 E4) J (A4 ?_))));refine k1 (k10 ?_)
   exact B6 (rs:=[K2 []]) (H3 rfl rfl rfl) (by unfold U7;simp [h2,ht])
 have h2:¬st.Kind=2:=A1 ht
 refine k2 (A2 (A5 (F7 J J) J (A6 J J (A4 ?_))));refine k1 ?_;refine B1 rfl (fun ht=>?_) (fun ht=>?_)
 ·have h3:st.Kind=3:=A0 ht
  refine k2 (A2 (A3 J J (A4 ?_)));refine k1 ?_;refine B1 rfl (fun ht=>?_) (fun ht=>?_)
  ·refine k2 (A2 (A5 (A7 J) J (G7 J J J J (A5 (C5 (c:=E4) (ys:=[st.Next]) (E0 J J J J G5) J J J) J (A6 J J (A4 ?_))))));refine k1 (k10 (k12 (k11 ?_)))
   exact B6 (rs:=[K2 [st.Next]]) (H3 rfl rfl rfl) (by unfold U7;simp [h3,ht])
  ·refine k5 (k2 (A2 (A5 (J5 _ 1 E4) J (A4 ?_))));refine k1 (k10 ?_)
   exact B6 (rs:=[K2 []]) (H3 rfl rfl rfl) (by unfold U7;simp [h3,ht])
 have h3:¬st.Kind=3:=A1 ht
 refine k5 (k2 (A2 (A5 (J5 _ 1 E4) J (A4 ?_))));refine k1 (k10 ?_)
 exact B6 (rs:=[K2 []]) (H3 rfl rfl rfl) (by unfold U7;simp [h1,h2,h3])
end Go.Proofs.YtkahafmcmiiolaaGreatDoor
