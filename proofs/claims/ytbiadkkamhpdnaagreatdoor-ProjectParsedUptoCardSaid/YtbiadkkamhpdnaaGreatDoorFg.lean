/- Walks of the program's functions. -/
import Derived.Test.YtbiadkkamhpdnaaGreatDoorFa
import Derived.Test.YtbiadkkamhpdnaaGreatDoorFf
import Derived.Test.YtbiadkkamhpdnaaGreatDoorFe
import Derived.Test.YtbiadkkamhpdnaaGreatDoorFs
set_option linter.unusedSimpArgs false
namespace Go.Proofs.YtbiadkkamhpdnaaGreatDoor
open Go Go.AL
set_option maxRecDepth 100000
set_option maxHeartbeats 1000000
theorem I69 {n:Nat} {rows:List Row} {sp:List Span} {hs:List CHunk} (hn:n≤32) (hr:J8 rows) (hW:(rows.map Q4).sum≤8388608) (h:z7 n rows 0 [] sp=some hs):szC hs≤268435456∧∀x∈hs,J8 x.Rows:=by
 have h1:=G70 Q4 2081 n rows sp 0 [] hs (Int.le_refl _) h (by simp) (by simp)
 have h2:=F00 hr sp 0 [] hs h (fun x hx=>by cases hx)
 have hl:=l4 rows
 refine ⟨?_,fun x hx=>(h2 x hx).2⟩
 have h3:szC hs=(hs.map fun h=>(2048+h.At.length)+(h.Rows.map Q4).sum).sum:=rfl
 have h4:szC hs≤(hs.map fun h=>2081+(h.Rows.map Q4).sum).sum:=by
  rw [h3]
  clear h h1 h3
  induction hs with
  | nil=>simp
  | cons x r ih =>
   have h5:=(h2 x (by simp)).1
   have h6:=ih fun y hy=>h2 y (by simp [hy])
   rw [K63,K85,K63,K85]
   omega
 have h5:=h1.2
 simp only [K61] at h5
 have h6:=h1.1
 omega
theorem J86 {path:Str} {t:Table} {sp:List Span} {d:Bool} (hr:J8 t.Rows) (hW:(t.Rows.map Q4).sum≤8388608):szC (A12 path t sp d).1.Hunks≤268435456∧∀x∈(A12 path t sp d).1.Hunks,J8 x.Rows:=by
 have h0:szC comb0.Hunks≤268435456∧∀x∈comb0.Hunks,J8 x.Rows:=⟨by decide,fun x hx=>by cases hx⟩
 unfold A12
 split
 ·exact h0
 ·split
  ·exact h0
  ·rename_i hc
   cases hg:z7 t.Parents.toNat t.Rows 0 [] sp with
   | none=>exact h0
   | some hs =>
    dsimp only
    split
    ·exact h0
    ·refine I69 ?_ hr hW hg
     unfold M6 at hc
     split at hc
     ·exact absurd hc (by decide)
     ·omega
theorem H11 {t:Table} (h:M6 t=0):1≤t.Parents∧t.Parents≤32:=by
 unfold M6 at h
 split at h
 ·cases h
 ·omega
set_option maxHeartbeats 1000000
end Go.Proofs.YtbiadkkamhpdnaaGreatDoor
namespace Go.Proofs.YtbiadkkamhpdnaaGreatDoor
open Go Go.AL
set_option maxRecDepth 100000
theorem F75 {s:Str} {i:Nat} (h:s9 (s.drop i)=none):G37 s i=[F0 0,F0 0,F0 0,E8 false]:=by unfold G37;rw [h]
theorem F76 {s:Str} {i k:Nat} {a n:Int} (h:s9 (s.drop i)=some (a,n,k)):G37 s i=[F0 a,F0 n,F0 ((i+k:Nat):Int),E8 true]:=by unfold G37;rw [h]
theorem E04 (a b:List CHunk):szC (a++b)=szC a+szC b:=by simp [szC]
theorem E05 (h:CHunk):szC [h]=C53 h:=by simp [szC]
theorem lastC {α:Type} {l:List α} {x:α} (h:l.getLast?=some x):l=l.dropLast++[x]:=by
 obtain ⟨ys,hy⟩:=List.getLast?_eq_some_iff.1 h
 rw [hy,List.dropLast_concat]
theorem H12 {hs:List CHunk} {h:CHunk} (hl:hs.getLast?=some h):szC hs=szC hs.dropLast+C53 h:=by
 conv=>lhs;rw [lastC hl,E04,E05]
theorem J15 (t:Str):(B66 t).length≤t.length:=by
 unfold B66;split
 ·rw [List.length_dropLast];omega
 ·omega
theorem B87 (h:CHunk):C53 h=2048+h.At.length+(h.Rows.map Q4).sum:=rfl
def CInv (n:Nat) (hs:List CHunk):Prop:=∀h∈hs,h.At.length=n+1∧J8 h.Rows
theorem CInv.app {n:Nat} {hs:List CHunk} {h:CHunk} (hi:CInv n hs) (hh:h.At.length=n+1∧J8 h.Rows):CInv n (hs++[h]):=by
 intro x hx
 rcases List.mem_append.1 hx with hx | hx
 ·exact hi x hx
 ·simp only [K90,K91,or_false] at hx
  rw [hx];exact hh
theorem CInv.init {n:Nat} {hs:List CHunk} (hi:CInv n hs):CInv n hs.dropLast:=fun x hx=>hi x ((List.dropLast_sublist _).subset hx)
theorem H13 {n:Nat} {l:Str} {a:List Int} (h:A35 n l=some a):a.length=n+1∧2*(n+2)≤l.length:=by
 unfold A35 at h
 split at h
 ·rename_i h1
  have hp:(D05 n).length=n+2:=by simp [D05,x8]
  have hs:(C52 n).length=n+2:=by simp [C52,x8]
  have l1:=congrArg List.length h1.1
  rw [K70,hp] at l1
  have l2:=h1.2
  unfold R1 at l2
  have l3:=(A0 l2).1
  rw [hs,K65] at l3
  split at h
  ·rename_i b hb
   split at h
   ·rename_i hbl
    cases h
    exact ⟨hbl,by omega⟩
   ·cases h
  ·cases h
 ·cases h
def A43 (l:Str):Nat:=420*(l.length+1)
theorem H14 {n:Nat} (hn:1≤n∧n≤32) {hs hs':List CHunk} {l:Str} (h:V2 n hs l=some hs') (hi:CInv n hs):szC hs'≤szC hs+A43 l∧CInv n hs':=by
 unfold V2 at h
 unfold A43
 split at h
 ·cases hp:A35 n l with
  | none=>rw [hp] at h;cases h
  | some a =>
   rw [hp] at h
   have h:hs++[⟨a,[]⟩]=hs':=Option.some.inj h
   obtain ⟨f1,f2⟩:=H13 hp
   rw [←h]
   refine ⟨?_,hi.app ⟨f1,fun r hr=>by cases hr⟩⟩
   rw [E04,E05,B87]
   dsimp only
   rw [f1,K96,L09]
   omega
 ·split at h
  ·cases h
  ·split at h
   ·unfold E89 at h
    cases hl:hs.getLast? with
    | none=>rw [hl] at h;cases h
    | some g =>
     rw [hl] at h
     dsimp only at h
     have hg:=hi g (List.mem_of_getLast? hl)
     cases hx:g.Rows.getLast? with
     | none=>rw [hx] at h;cases h
     | some r =>
      rw [hx] at h
      have h:hs.dropLast++[⟨g.At,g.Rows.dropLast++[⟨r.Lost,r.Marks,B66 r.Text⟩]⟩]=hs':=Option.some.inj h
      have ht:=J15 r.Text
      have hrr:=lastC hx
      have hsum:(g.Rows.map Q4).sum=(g.Rows.dropLast.map Q4).sum+Q4 r:=by
       conv=>lhs;rw [hrr,K73,K99]
       simp
      rw [←h]
      refine ⟨?_,hi.init.app ⟨hg.1,fun x hx2=>?_⟩⟩
      ·rw [E04,E05,B87,H12 hl,B87,hsum]
       simp only [K73,K99,K63,K96,K85,L09,Q4]
       omega
      ·rcases List.mem_append.1 hx2 with hx2 | hx2
       ·exact hg.2 x ((List.dropLast_sublist _).subset hx2)
       ·simp only [K90,K91,or_false] at hx2
        rw [hx2];exact hg.2 r (List.mem_of_getLast? hx)
   ·cases hr:AL.rowAt (l++[10]) n with
    | none=>rw [hr] at h;cases h
    | some r =>
     rw [hr] at h
     dsimp only at h
     unfold G68 at h
     cases hl:hs.getLast? with
     | none=>rw [hl] at h;cases h
     | some g =>
      rw [hl] at h
      have h:hs.dropLast++[⟨g.At,g.Rows++[r]⟩]=hs':=Option.some.inj h
      have hg:=hi g (List.mem_of_getLast? hl)
      have hrI:A76 (l++[10]) (n:Int)=some r:=by unfold A76;rw [if_neg (by omega),K62];exact hr
      obtain ⟨_,t1,t2,_⟩:=J56 hrI
      have t3:r.Text.length≤l.length+1:=by rw [t1,K65,K56];simp
      rw [←h]
      refine ⟨?_,hi.init.app ⟨hg.1,fun x hx2=>?_⟩⟩
      ·rw [E04,E05,B87,H12 hl,B87]
       simp only [K73,K99,K63,K96,K85,L09,Q4]
       omega
      ·rcases List.mem_append.1 hx2 with hx2 | hx2
       ·exact hg.2 x hx2
       ·simp only [K90,K91,or_false] at hx2
        rw [hx2];exact t2
theorem H15 {n:Nat} (hn:1≤n∧n≤32):∀(ls:List Str) (hs hs':List CHunk),Z0 n hs ls=some hs'→CInv n hs→szC hs'≤szC hs+(ls.map A43).sum∧CInv n hs'
 | [],hs,hs',h,hi=>by cases h;exact ⟨by simp,hi⟩
 | x::r,hs,hs',h,hi=>by
  rw [Z0] at h
  cases hx:V2 n hs x with
  | none=>rw [hx] at h;cases h
  | some g =>
   rw [hx] at h
   obtain ⟨a1,a2⟩:=H14 hn hx hi
   obtain ⟨b1,b2⟩:=H15 hn r g hs' h a2
   refine ⟨?_,b2⟩
   rw [K63,K85];omega
theorem F77 {q:Bool} {a b:Str} {d:Bool} {p:Str} {n:Int} (h:s5 q a b=some (d,p,n)):1≤n∧n≤32:=by
 unfold s5 at h
 split at h
 ·cases h
 ·split at h
  ·split at h
   ·split at h
    ·rename_i h2
     cases h;omega
    ·cases h
   ·cases h
  ·cases h
theorem J16 {l:List Str} {c:Comb} (h:Z1 l=some c):(1≤c.Parents∧c.Parents≤32)∧szC c.Hunks≤(l.map A43).sum∧CInv c.Parents.toNat c.Hunks:=by
 unfold Z1 at h
 split at h
 ·rename_i a b r
  split at h
  ·rename_i d p n ht
   have hn:=F77 ht
   split at h
   ·rename_i hs hf
    cases h
    obtain ⟨f1,f2⟩:=H15 (n:=n.toNat) (by omega) r [] hs hf (fun x hx=>by cases hx)
    refine ⟨hn,?_,f2⟩
    have e0:szC ([]:List CHunk)=0:=rfl
    rw [e0] at f1
    simp only [K63,K85]
    omega
   ·cases h
  ·cases h
 ·cases h
def wgTo (l:List Str) (i:Nat):Nat:=((l.take i).map A43).sum
theorem J17 {l:List Str} {i:Nat} (h:i < l.length):wgTo l (i+1)=wgTo l i+A43 l[i]:=by
 unfold wgTo
 rw [K67 h,K73,K99]
 simp only [K63,K96,K85,L09]
 omega
end Go.Proofs.YtbiadkkamhpdnaaGreatDoor
namespace Go.Proofs.YtbiadkkamhpdnaaGreatDoor
open Go Go.AL
set_option maxRecDepth 100000
theorem I70 (s:Str) (i:Nat):∃(w:Str) (e:Int) (b:Bool),D65 s i=[G7 w,F0 e,E8 b]∧match Y7 (s.drop i) with
  | some q=>b=true∧w=q.1∧e=((i+q.2:Nat):Int)
  | none=>b=false:=by
 cases h:Y7 (s.drop i) with
 | none=>exact ⟨_,_,_,I05 h,rfl⟩
 | some q=>obtain ⟨w,k⟩:=q;exact ⟨_,_,_,I06 h,rfl,rfl,rfl⟩
theorem num_ex (s:Str) (i:Nat):∃(n e:Int) (b:Bool),G36 s i=[F0 n,F0 e,E8 b]∧match b9 (s.drop i) with
  | some q=>b=true∧n=(q.1:Int)∧e=((i+q.2:Nat):Int)
  | none=>b=false:=by
 cases h:b9 (s.drop i) with
 | none=>exact ⟨_,_,_,D29 h,rfl⟩
 | some q=>obtain ⟨n,k⟩:=q;exact ⟨_,_,_,D28 h,rfl,rfl,rfl⟩
abbrev T8:Ob:=.box [.p (.v (.string ⟨#[]⟩)),.p (.v (.bool false)),.p (.v (.int .i64 0)),.p (.v (.slice none 0 0))]
set_option maxHeartbeats 4000000
theorem cut_ex (s p:Str):∃(c:Str) (b:Bool),F29 s p=[G7 c,E8 b]∧((b=true∧s.take p.length=p∧c=s.drop p.length)∨(b=false∧s.take p.length≠p∧c=s)):=by
 unfold F29
 by_cases h:s.take p.length=p
 ·rw [if_pos h];exact ⟨_,_,rfl,.inl ⟨rfl,h,rfl⟩⟩
 ·rw [if_neg h];exact ⟨_,_,rfl,.inr ⟨rfl,h,rfl⟩⟩
abbrev cpBox (w:Str) (d:Bool) (n:Int):Ob:=.box [.p (.v (.string ⟨w.toArray⟩)),.p (.v (.bool d)),.p (.v (.int .i64 n)),.p (.v (.slice none 0 0))]
theorem H16 {a b c x w:Str} {d okc okw okn:Bool} {e n en:Int} (hk:A07 a=some (d,x)) (hc:(okc=true∧b.take parS.length=parS∧c=b.drop parS.length)∨(okc=false∧b.take parS.length≠parS∧c=b))
  (hw:match Y7 (x.drop 0) with | some q=>okw=true∧w=q.1∧e=((0+q.2:Nat):Int) | none=>okw=false)
  (hn:match b9 (c.drop 0) with | some q=>okn=true∧n=(q.1:Int)∧en=((0+q.2:Nat):Int) | none=>okn=false) :
  s5 true a b=if okc=true∧okw=true∧e=x.length∧okn=true∧en=c.length∧1≤n∧n≤32 then some (d,w,n) else none:=by
 unfold s5
 rw [hk]
 dsimp only
 rw [List.drop_zero] at hw hn
 have h8:parS.length=8:=rfl
 rcases hc with ⟨h1,h2,h3⟩ | ⟨h1,h2,_⟩
 ·rw [h8] at h2 h3
  rw [if_pos h2,←h3]
  cases g1:Y7 x with
  | none=>rw [g1] at hw;have hw:okw=false:=hw;rw [if_neg (by simp [hw])]
  | some q =>
   obtain ⟨w',k'⟩:=q
   rw [g1] at hw
   obtain ⟨rfl,rfl,rfl⟩:=hw
   cases g2:b9 c with
   | none=>rw [g2] at hn;have hn:okn=false:=hn;rw [if_neg (by simp [hn])]
   | some q2 =>
    obtain ⟨m',k2⟩:=q2
    rw [g2] at hn
    obtain ⟨rfl,rfl,rfl⟩:=hn
    dsimp only
    by_cases hg:(true=true→k'=x.length∧k2=c.length)∧1≤m'∧m'≤32
    ·obtain ⟨q1,q2⟩:=hg.1 rfl
     rw [if_pos hg,if_pos ⟨h1,rfl,by omega,rfl,by omega,by omega,by omega⟩]
    ·rw [if_neg hg,if_neg]
     rintro ⟨_,_,p1,_,p2,p3,p4⟩
     exact hg ⟨fun _=>⟨by omega,by omega⟩,by omega,by omega⟩
 ·rw [h8] at h2
  rw [if_neg h2,if_neg (by simp [h1])]
set_option maxHeartbeats 1000000
theorem I16 {gf:Fr} (a b:Str) (ha:a.length≤4194304) (hb:b.length≤4194304) :
  AL.Met Tryz.prog 180 [.one (.ref 730 0),.one (.p (.v (.string ⟨a.toArray⟩))),.one (.p (.v (.string ⟨b.toArray⟩)))] gf [(730,T8),(2,T8)] []
   (fun rs ob'=>∃(w:Str) (d:Bool) (n:Int) (ok:Bool),rs=[tBo ok]∧ob'=[(730,cpBox w d n),(2,T8)]∧match s5 true a b with
    | some (d',p,m)=>ok=true∧d=d'∧w=p∧n=m
    | none=>ok=false):=by
 have hc1:=n9 a ccS
 have hc2:=n9 a combS
 have hc3:=n9 b parS
 unfold F29 at hc1 hc2
 obtain ⟨c,okc,hx,hcc⟩:=cut_ex b parS
 rw [hx] at hc3
 have hcl:c.length≤4194304:=by
  rcases hcc with ⟨_,_,h⟩ | ⟨_,_,h⟩
  ·rw [h,K65];omega
  ·rw [h];exact hb
 have hNb:=A93 c 0 (Nat.zero_le _) (by omega)
 obtain ⟨n,en,okn,hn1,hn2⟩:=num_ex c 0
 rw [hn1] at hNb
 by_cases h1:a.take ccS.length=ccS
 ·rw [if_pos h1] at hc1
  have hk:A07 a=some (true,a.drop ccS.length):=by
   have h1:a.take 10=ccS:=h1
   unfold A07;rw [if_pos h1];rfl
  obtain ⟨x,hxx⟩:∃x,x=a.drop ccS.length:=⟨_,rfl⟩
  have hxl:x.length≤4194304:=by rw [hxx,K65];omega
  rw [←hxx] at hc1 hk
  have hUq:=D66 x 0 (Nat.zero_le _) (by omega)
  obtain ⟨w,e,okw,hw1,hw2⟩:=I70 x 0
  rw [hw1] at hUq
  have hT:=H16 hk hcc hw2 hn2
  refine AL.Met.intro Tryz.func180 (by decide) Z Z Z ?_
  refine k2 ?_
  refine A4 (A3 (A6 Z Z) Z (A7 ?_))
  refine k1 (k2 ?_)
  refine A4 (A3 (A5 Z Z) Z (B9 (hc1) Z Z Z ?_));rintro _ rfl;refine A3 (A5 Z Z) Z (A3 (B3 Z Z) Z (A3 (B3 Z Z) Z (A3 (A6 Z Z) Z (A3 (A6 Z Z) Z (A7 ?_)))))
  refine k1 (k2 (k2 ?_))
  refine A4 (A3 (A5 Z Z) Z (A3 (F7 Z) Z (A7 ?_)))
  refine k1 ?_
  refine B4 rfl (fun ht=>?_) (fun ht=>?_)
  ·cases ht
  refine k5 (k1 (k2 ?_))
  refine A4 (A3 (A5 Z Z) Z (B9 (hc3) Z Z Z ?_));rintro _ rfl;refine A3 (A5 Z Z) Z (A3 (B3 Z Z) Z (A3 (B3 Z Z) Z (A3 (A6 Z Z) Z (A3 (A6 Z Z) Z (A7 ?_)))))
  refine k1 (k2 ?_)
  refine A4 (A3 (A5 Z Z) Z (B9 (hUq) Z Z Z ?_));rintro _ rfl;refine A3 (A5 Z Z) Z (A3 (B3 Z Z) Z (A3 (B3 Z Z) Z (A3 (B3 Z Z) Z (A3 (A6 Z Z) Z (A3 (A6 Z Z) Z (A3 (A6 Z Z) Z (A7 ?_)))))))
  refine k1 (k2 ?_)
  refine A4 (A3 (A5 Z Z) Z (B9 (hNb) Z Z Z ?_));rintro _ rfl;refine A3 (A5 Z Z) Z (A3 (B3 Z Z) Z (A3 (B3 Z Z) Z (A3 (B3 Z Z) Z (A3 (A6 Z Z) Z (A3 (A6 Z Z) Z (A3 (A6 Z Z) Z (A7 ?_)))))))
  refine k1 (k2 ?_)
  refine A4 (A3 (A5 Z Z) Z (A3 (A5 Z Z) Z (A3 (A5 Z Z) Z (A3 (A5 Z Z) Z (A3 (F3 Z) Z (A3 (B2 Z) Z (A3 (A8 Z) Z (E1 (B7 TySz.out Z Z Z Z Z Z) (A7 ?_)))))))))
  refine k1 (k2 ?_)
  refine A4 (A3 (A5 Z Z) Z (A3 (A5 Z Z) Z (B0 Z Z Z Z (fun hg=>by rw [hg];exact A5 Z Z) ?_)));refine A3 (B5 Z (fun h=>by first | rfl | (rw [h];rfl)) (fun h=>by first | rfl | (rw [h];rfl))) Z ?_;refine A3 (A5 Z Z) Z (B0 Z Z Z Z (fun hg=>by rw [hg];exact A5 Z Z) ?_);refine B0 Z Z Z Z (fun hg=>by rw [hg];exact A5 Z Z) ?_;refine B0 Z Z Z Z (fun hg=>by rw [hg];exact E3 Z) ?_;refine B0 Z Z Z Z (fun hg=>by rw [hg];exact J3 Z Z) ?_;refine A3 (B5 Z (fun h=>by first | rfl | (rw [h];rfl)) (fun h=>by first | rfl | (rw [h];rfl))) Z ?_;refine A3 (A5 Z Z) Z (B0 Z Z Z Z (fun hg=>by rw [hg];exact A5 Z Z) ?_);refine A3 (B5 Z (fun h=>by first | rfl | (rw [h];rfl)) (fun h=>by first | rfl | (rw [h];rfl))) Z ?_;refine A3 (A5 Z Z) Z (B0 Z Z Z Z (fun hg=>by rw [hg];exact A5 Z Z) ?_);refine B0 Z Z Z Z (fun hg=>by rw [hg];exact A5 Z Z) ?_;refine B0 Z Z Z Z (fun hg=>by rw [hg];exact E3 Z) ?_;refine B0 Z Z Z Z (fun hg=>by rw [hg];exact J3 Z Z) ?_;refine A3 (B5 Z (fun h=>by first | rfl | (rw [h];rfl)) (fun h=>by first | rfl | (rw [h];rfl))) Z ?_;refine A3 (A5 Z Z) Z (B0 Z Z Z Z (fun hg=>by rw [hg];exact A5 Z Z) ?_);refine B0 Z Z Z Z (fun hg=>by rw [hg];exact s8 Z Z) ?_;refine A3 (B5 Z (fun h=>by first | rfl | (rw [h];rfl)) (fun h=>by first | rfl | (rw [h];rfl))) Z ?_;refine A3 (A5 Z Z) Z (B0 Z Z Z Z (fun hg=>by rw [hg];exact A5 Z Z) ?_);refine B0 Z Z Z Z (fun hg=>by rw [hg];exact B19 Z Z) ?_;refine A3 (B5 Z (fun h=>by first | rfl | (rw [h];rfl)) (fun h=>by first | rfl | (rw [h];rfl))) Z ?_;refine A3 (A6 Z Z) Z (A7 ?_)
  refine k1 (k10 ?_)
  refine H3 (U2 rfl rfl) (by repeat (first | exact C5 | refine tail_cons rfl ?_ | refine D5 _ ?_)) (ObIn.spec (ob':=[(730,cpBox w _ n),(2,T8)]) ⟨rfl,rfl,trivial⟩) ⟨w,_,n,_,rfl,rfl,?_⟩
  rw [hT]
  by_cases hg:okc=true∧okw=true∧e=x.length∧okn=true∧en=c.length∧1≤n∧n≤32
  ·rw [if_pos hg]
   obtain ⟨g1,g2,g3,g4,g5,g6,g7⟩:=hg
   exact ⟨by simp [g1,g2,g3,g4,g5,g6,g7],rfl,rfl,rfl⟩
  ·rw [if_neg hg]
   cases okc<;>cases okw<;>cases okn<;>first | rfl | (simp;done) | (simp at hg ⊢;exact hg) | (simp at hg ⊢;intros;omega)
 rw [if_neg h1] at hc1
 by_cases h2:a.take combS.length=combS
 ·rw [if_pos h2] at hc2
  have hk:A07 a=some (false,a.drop combS.length):=by
   have h1:¬a.take 10=ccS:=h1
   have h2:a.take 16=combS:=h2
   unfold A07;rw [if_neg h1,if_pos h2];rfl
  obtain ⟨x,hxx⟩:∃x,x=a.drop combS.length:=⟨_,rfl⟩
  have hxl:x.length≤4194304:=by rw [hxx,K65];omega
  rw [←hxx] at hc2 hk
  have hUq:=D66 x 0 (Nat.zero_le _) (by omega)
  obtain ⟨w,e,okw,hw1,hw2⟩:=I70 x 0
  rw [hw1] at hUq
  have hT:=H16 hk hcc hw2 hn2
  refine AL.Met.intro Tryz.func180 (by decide) Z Z Z ?_
  refine k2 ?_
  refine A4 (A3 (A6 Z Z) Z (A7 ?_))
  refine k1 (k2 ?_)
  refine A4 (A3 (A5 Z Z) Z (B9 (hc1) Z Z Z ?_));rintro _ rfl;refine A3 (A5 Z Z) Z (A3 (B3 Z Z) Z (A3 (B3 Z Z) Z (A3 (A6 Z Z) Z (A3 (A6 Z Z) Z (A7 ?_)))))
  refine k1 (k2 (k2 ?_))
  refine A4 (A3 (A5 Z Z) Z (A3 (F7 Z) Z (A7 ?_)))
  refine k1 ?_
  refine B4 rfl (fun ht=>?_) (fun ht=>?_)
  rotate_left
  ·cases ht
  refine k2 ?_
  refine A4 (A3 (A6 Z Z) Z (A7 ?_))
  refine k1 (k2 ?_)
  refine A4 (A3 (A5 Z Z) Z (B9 (hc2) Z Z Z ?_));rintro _ rfl;refine A3 (A5 Z Z) Z (A3 (B3 Z Z) Z (A3 (B3 Z Z) Z (A3 (A6 Z Z) Z (A3 (A6 Z Z) Z (A7 ?_)))))
  refine k1 (k2 ?_)
  refine A4 (A3 (A5 Z Z) Z (A3 (F7 Z) Z (A7 ?_)))
  refine k1 ?_
  refine B4 rfl (fun ht=>?_) (fun ht=>?_)
  ·cases ht
  refine k5 (k1 (k2 ?_))
  refine A4 (A3 (A5 Z Z) Z (B9 (hc3) Z Z Z ?_));rintro _ rfl;refine A3 (A5 Z Z) Z (A3 (B3 Z Z) Z (A3 (B3 Z Z) Z (A3 (A6 Z Z) Z (A3 (A6 Z Z) Z (A7 ?_)))))
  refine k1 (k2 ?_)
  refine A4 (A3 (A5 Z Z) Z (B9 (hUq) Z Z Z ?_));rintro _ rfl;refine A3 (A5 Z Z) Z (A3 (B3 Z Z) Z (A3 (B3 Z Z) Z (A3 (B3 Z Z) Z (A3 (A6 Z Z) Z (A3 (A6 Z Z) Z (A3 (A6 Z Z) Z (A7 ?_)))))))
  refine k1 (k2 ?_)
  refine A4 (A3 (A5 Z Z) Z (B9 (hNb) Z Z Z ?_));rintro _ rfl;refine A3 (A5 Z Z) Z (A3 (B3 Z Z) Z (A3 (B3 Z Z) Z (A3 (B3 Z Z) Z (A3 (A6 Z Z) Z (A3 (A6 Z Z) Z (A3 (A6 Z Z) Z (A7 ?_)))))))
  refine k1 (k2 ?_)
  refine A4 (A3 (A5 Z Z) Z (A3 (A5 Z Z) Z (A3 (A5 Z Z) Z (A3 (A5 Z Z) Z (A3 (F3 Z) Z (A3 (B2 Z) Z (A3 (A8 Z) Z (E1 (B7 TySz.out Z Z Z Z Z Z) (A7 ?_)))))))))
  refine k1 (k2 ?_)
  refine A4 (A3 (A5 Z Z) Z (A3 (A5 Z Z) Z (B0 Z Z Z Z (fun hg=>by rw [hg];exact A5 Z Z) ?_)));refine A3 (B5 Z (fun h=>by first | rfl | (rw [h];rfl)) (fun h=>by first | rfl | (rw [h];rfl))) Z ?_;refine A3 (A5 Z Z) Z (B0 Z Z Z Z (fun hg=>by rw [hg];exact A5 Z Z) ?_);refine B0 Z Z Z Z (fun hg=>by rw [hg];exact A5 Z Z) ?_;refine B0 Z Z Z Z (fun hg=>by rw [hg];exact E3 Z) ?_;refine B0 Z Z Z Z (fun hg=>by rw [hg];exact J3 Z Z) ?_;refine A3 (B5 Z (fun h=>by first | rfl | (rw [h];rfl)) (fun h=>by first | rfl | (rw [h];rfl))) Z ?_;refine A3 (A5 Z Z) Z (B0 Z Z Z Z (fun hg=>by rw [hg];exact A5 Z Z) ?_);refine A3 (B5 Z (fun h=>by first | rfl | (rw [h];rfl)) (fun h=>by first | rfl | (rw [h];rfl))) Z ?_;refine A3 (A5 Z Z) Z (B0 Z Z Z Z (fun hg=>by rw [hg];exact A5 Z Z) ?_);refine B0 Z Z Z Z (fun hg=>by rw [hg];exact A5 Z Z) ?_;refine B0 Z Z Z Z (fun hg=>by rw [hg];exact E3 Z) ?_;refine B0 Z Z Z Z (fun hg=>by rw [hg];exact J3 Z Z) ?_;refine A3 (B5 Z (fun h=>by first | rfl | (rw [h];rfl)) (fun h=>by first | rfl | (rw [h];rfl))) Z ?_;refine A3 (A5 Z Z) Z (B0 Z Z Z Z (fun hg=>by rw [hg];exact A5 Z Z) ?_);refine B0 Z Z Z Z (fun hg=>by rw [hg];exact s8 Z Z) ?_;refine A3 (B5 Z (fun h=>by first | rfl | (rw [h];rfl)) (fun h=>by first | rfl | (rw [h];rfl))) Z ?_;refine A3 (A5 Z Z) Z (B0 Z Z Z Z (fun hg=>by rw [hg];exact A5 Z Z) ?_);refine B0 Z Z Z Z (fun hg=>by rw [hg];exact B19 Z Z) ?_;refine A3 (B5 Z (fun h=>by first | rfl | (rw [h];rfl)) (fun h=>by first | rfl | (rw [h];rfl))) Z ?_;refine A3 (A6 Z Z) Z (A7 ?_)
  refine k1 (k10 ?_)
  refine H3 (U2 rfl rfl) (by repeat (first | exact C5 | refine tail_cons rfl ?_ | refine D5 _ ?_)) (ObIn.spec (ob':=[(730,cpBox w _ n),(2,T8)]) ⟨rfl,rfl,trivial⟩) ⟨w,_,n,_,rfl,rfl,?_⟩
  rw [hT]
  by_cases hg:okc=true∧okw=true∧e=x.length∧okn=true∧en=c.length∧1≤n∧n≤32
  ·rw [if_pos hg]
   obtain ⟨g1,g2,g3,g4,g5,g6,g7⟩:=hg
   exact ⟨by simp [g1,g2,g3,g4,g5,g6,g7],rfl,rfl,rfl⟩
  ·rw [if_neg hg]
   cases okc<;>cases okw<;>cases okn<;>first | rfl | (simp;done) | (simp at hg ⊢;exact hg) | (simp at hg ⊢;intros;omega)
 rw [if_neg h2] at hc2
 have hT:s5 true a b=none:=by
  have h1:¬a.take 10=ccS:=h1
  have h2:¬a.take 16=combS:=h2
  unfold s5 A07
  rw [if_neg h1,if_neg h2]
 rw [hT]
 refine AL.Met.intro Tryz.func180 (by decide) Z Z Z ?_
 refine k2 ?_
 refine A4 (A3 (A6 Z Z) Z (A7 ?_))
 refine k1 (k2 ?_)
 refine A4 (A3 (A5 Z Z) Z (B9 (hc1) Z Z Z ?_));rintro _ rfl;refine A3 (A5 Z Z) Z (A3 (B3 Z Z) Z (A3 (B3 Z Z) Z (A3 (A6 Z Z) Z (A3 (A6 Z Z) Z (A7 ?_)))))
 refine k1 (k2 (k2 ?_))
 refine A4 (A3 (A5 Z Z) Z (A3 (F7 Z) Z (A7 ?_)))
 refine k1 ?_
 refine B4 rfl (fun ht=>?_) (fun ht=>?_)
 rotate_left
 ·cases ht
 refine k2 ?_
 refine A4 (A3 (A6 Z Z) Z (A7 ?_))
 refine k1 (k2 ?_)
 refine A4 (A3 (A5 Z Z) Z (B9 (hc2) Z Z Z ?_));rintro _ rfl;refine A3 (A5 Z Z) Z (A3 (B3 Z Z) Z (A3 (B3 Z Z) Z (A3 (A6 Z Z) Z (A3 (A6 Z Z) Z (A7 ?_)))))
 refine k1 (k2 ?_)
 refine A4 (A3 (A5 Z Z) Z (A3 (F7 Z) Z (A7 ?_)))
 refine k1 ?_
 refine B4 rfl (fun ht=>?_) (fun ht=>?_)
 rotate_left
 ·cases ht
 refine k2 ?_
 refine A4 (A3 (A6 Z Z) Z (A7 ?_))
 refine k1 (k10 (k11 ?_))
 exact H3 (U2 rfl rfl) (by repeat (first | exact C5 | refine tail_cons rfl ?_ | refine D5 _ ?_)) (fun _ _ h=>h) ⟨[],false,0,false,rfl,rfl,rfl⟩
def A58:CHunk→Nat→Cell
 | h,0=>.list Int 1 G9 h.At
 | h,_=>match h.Rows with
  | []=>.v (.slice none 0 0)
  | _::_=>.list Row 3 rowC h.Rows
abbrev F78 (w:Str) (d:Bool) (n:Int):Ob:=.box [.p (.v (.string ⟨w.toArray⟩)),.p (.v (.bool d)),.p (.v (.int .i64 n)),.mut 731]
abbrev W9 (w:Str) (d:Bool) (n:Int) (hs:List CHunk):Obs:=[(730,F78 w d n),(731,.grow 59 CHunk 2 A58 hs),(2,T8)]
abbrev X0 (w:Str) (d:Bool) (n:Int) (hs:List CHunk) (a:List Int) (rs:List Row):Obs :=
 [(730,F78 w d n),(731,.growA 59 CHunk 2 A58 hs (hs.length - 1) [.p (.list Int 1 G9 a),.mut 732]),(732,.grow 69 Row 3 rowC rs),(2,T8)]
abbrev gfL (x:Str) (R:List Str) (k:Nat):Fr:=[(1000032,J0 x),(1000031,.s (.one (.ref 730 0))),(1000004,.s (.one (.ref 730 0))),(1000002,.s (.one (.ref 2 0))),(1000025,D3 Str 1 L0 R),(1000026,C2 R.length),(1000027,C2 k),(1000006,J0 x)]
abbrev gfH (x:Str) (R:List Str) (k:Nat):Fr:=[(1000012,J0 x),(1000011,.s (.one (.ref 730 0))),(1000000,.s (.one (.ref 730 0))),(1000001,J0 x),(2000032,J0 x),(2000031,.s (.one (.ref 730 0))),(2000004,.s (.one (.ref 730 0))),(2000002,.s (.one (.ref 2 0))),(2000025,D3 Str 1 L0 R),(2000026,C2 R.length),(2000027,C2 k),(2000006,J0 x)]
theorem I17 {n k:Nat} {w:Str} {r:List Str} {a c:Int} {e:Nat} (h1:w.take 1=[A18 n k]) (h2:s9 (w.drop 1)=some (a,c,e)) (h3:e=(w.drop 1).length):P2 n k (w::r)=(P2 n (k+1) r).map (a::·):=by
 rw [P2,if_pos h1,h2]
 dsimp only
 rw [if_pos h3]
theorem J18 {n k:Nat} {w:Str} {r:List Str} (h1:w.take 1≠[A18 n k]):P2 n k (w::r)=none:=by rw [P2,if_neg h1]
theorem J19 {n k:Nat} {w:Str} {r:List Str} (h2:s9 (w.drop 1)=none):P2 n k (w::r)=none:=by
 rw [P2,h2];split<;>rfl
theorem J20 {n k:Nat} {w:Str} {r:List Str} {a c:Int} {e:Nat} (h2:s9 (w.drop 1)=some (a,c,e)) (h3:e≠(w.drop 1).length):P2 n k (w::r)=none:=by
 rw [P2,h2]
 dsimp only
 rw [if_neg h3];split<;>rfl
theorem F79 {n:Nat} {l:Str} (h:¬(l.take (n+2)=D05 n∧R1 (l.drop (n+2)) (C52 n)=true)):A35 n l=none:=by unfold A35;rw [if_neg h]
theorem J87 {n:Nat} {l:Str} (h:l.take (n+2)=D05 n∧R1 (l.drop (n+2)) (C52 n)=true):A35 n l=match P2 n 0 (M9 32 ((l.drop (n+2)).take ((l.drop (n+2)).length - (n+2)))) with
   | some a=>if a.length=n+1 then some a else none
   | none=>none:=by unfold A35;rw [if_pos h];rfl
set_option maxHeartbeats 4000000
theorem H17 (x:Str) (R:List Str) (k:Nat) (w:Str) (d:Bool) (N:Nat) (hs:List CHunk) (hN:1≤N∧N≤32) (hl:hs.length≤16777216) (hx:x.length≤4194304) :
  AL.Met Tryz.prog 224 [.one (.ref 730 0),.one (.p (.v (.string ⟨x.toArray⟩)))] (gfH x R k) (W9 w d N hs) [731]
   (fun rs ob'=>match A35 N x with
    | none=>rs=[tBo false]∧ob'=[(2,T8)]
    | some a=>rs=[tBo true]∧ob'=W9 w d N (hs++[⟨a,[]⟩])):=by
 have hrep:FnOk Tryz.prog 150 [G7 [64],F0 ((N:Int)+1)] (fun rs=>rs=[G7 (atS (N+1))]):=by
  have:=F70 64 (N+1) (by omega)
  rwa [show ((N+1:Nat):Int)=(N:Int)+1 by omega] at this
 have hal:=x8 (N+1)
 have hpl:(D05 N).length=N+2:=by simp [D05,x8]
 have hsl:(C52 N).length=N+2:=by simp [C52,x8]
 have hcp:=n9 x (D05 N)
 unfold F29 at hcp
 rw [hpl] at hcp
 obtain ⟨H,hH⟩:∃H,H=A35 N x:=⟨_,rfl⟩
 rw [←hH]
 by_cases h1:x.take (N+2)=D05 N
 rotate_left
 ·rw [if_neg h1] at hcp
  have hno:H=none:=by rw [hH];exact F79 (fun h=>h1 h.1)
  rw [hno]
  refine AL.Met.intro Tryz.func224 (by decide) Z Z Z ?_
  refine k2 ?_
  refine A4 (A3 (A6 Z Z) Z (A7 ?_))
  refine k1 (k2 ?_)
  refine A4 (A3 (A5 Z Z) Z (A3 (B2 Z) Z (A3 (A8 Z) Z (A3 (A8 Z) Z (A3 (A9 Z Z Z) Z (A3 (C6 Z Z (by omega)) Z (B9 (hrep) Z Z Z ?_)))))));rintro _ rfl;refine A3 (A6 Z Z) Z (A7 ?_)
  refine k1 (k2 ?_)
  refine A4 (A3 (A5 Z Z) Z (A3 (A5 Z Z) Z (A3 (I2 Z Z (by (simp;omega))) Z (B9 (hcp) Z Z Z ?_))));rintro _ rfl;refine A3 (A5 Z Z) Z (A3 (B3 Z Z) Z (A3 (B3 Z Z) Z (A3 (A6 Z Z) Z (A3 (A6 Z Z) Z (A7 ?_)))))
  refine k1 (k2 (k2 ?_))
  refine A4 (A3 (A5 Z Z) Z (A3 (F7 Z) Z (A7 ?_)))
  refine k1 ?_
  refine B4 rfl (fun ht=>?_) (fun ht=>?_)
  ·refine k2 ?_
   refine E6 (Sees.forget 731) ?_
   refine A4 (A3 (A6 Z Z) Z (A7 ?_))
   refine k1 (k10 (k11 ?_))
   exact H3 (U2 rfl rfl) (by repeat (first | exact C5 | refine tail_cons rfl ?_ | refine D5 _ ?_)) (ObIn.spec (ob':=[(2,T8)]) ⟨rfl,trivial⟩) ⟨rfl,rfl⟩
  ·cases ht
 rw [if_pos h1] at hcp
 obtain ⟨y,hy⟩:∃y,y=x.drop (N+2):=⟨_,rfl⟩
 have hyl:y.length≤x.length:=by rw [hy,K65];omega
 have hcs:=F33 y (C52 N) (by omega)
 unfold F69 at hcs
 rw [hsl] at hcs
 rw [←hy] at hcp
 by_cases h2:R1 y (C52 N)=true
 rotate_left
 ·rw [if_neg h2] at hcs
  have hno:H=none:=by rw [hH];exact F79 (fun h=>h2 (by rw [hy];exact h.2))
  rw [hno]
  refine AL.Met.intro Tryz.func224 (by decide) Z Z Z ?_
  refine k2 ?_
  refine A4 (A3 (A6 Z Z) Z (A7 ?_))
  refine k1 (k2 ?_)
  refine A4 (A3 (A5 Z Z) Z (A3 (B2 Z) Z (A3 (A8 Z) Z (A3 (A8 Z) Z (A3 (A9 Z Z Z) Z (A3 (C6 Z Z (by omega)) Z (B9 (hrep) Z Z Z ?_)))))));rintro _ rfl;refine A3 (A6 Z Z) Z (A7 ?_)
  refine k1 (k2 ?_)
  refine A4 (A3 (A5 Z Z) Z (A3 (A5 Z Z) Z (A3 (I2 Z Z (by (simp;omega))) Z (B9 (hcp) Z Z Z ?_))));rintro _ rfl;refine A3 (A5 Z Z) Z (A3 (B3 Z Z) Z (A3 (B3 Z Z) Z (A3 (A6 Z Z) Z (A3 (A6 Z Z) Z (A7 ?_)))))
  refine k1 (k2 (k2 ?_))
  refine A4 (A3 (A5 Z Z) Z (A3 (F7 Z) Z (A7 ?_)))
  refine k1 ?_
  refine B4 rfl (fun ht=>?_) (fun ht=>?_)
  ·cases ht
  refine k5 (k1 (k2 (k2 ?_)))
  refine A4 (A3 (A5 Z Z) Z (A3 (A5 Z Z) Z (A3 (I2 Z Z (by (simp;omega))) Z (B9 (hcs) Z Z Z ?_))));rintro _ rfl;refine A3 (A5 Z Z) Z (A3 (B3 Z Z) Z (A3 (B3 Z Z) Z (A3 (A6 Z Z) Z (A3 (A6 Z Z) Z (A7 ?_)))))
  refine k1 (k2 ?_)
  refine A4 (A3 (A5 Z Z) Z (A3 (F7 Z) Z (A7 ?_)))
  refine k1 ?_
  refine B4 rfl (fun ht=>?_) (fun ht=>?_)
  ·refine k2 ?_
   refine E6 (Sees.forget 731) ?_
   refine A4 (A3 (A6 Z Z) Z (A7 ?_))
   refine k1 (k10 (k11 ?_))
   exact H3 (U2 rfl rfl) (by repeat (first | exact C5 | refine tail_cons rfl ?_ | refine D5 _ ?_)) (ObIn.spec (ob':=[(2,T8)]) ⟨rfl,trivial⟩) ⟨rfl,rfl⟩
  ·cases ht
 rw [if_pos h2] at hcs
 rw [J87 ⟨h1,by rw [←hy];exact h2⟩,←hy] at hH
 obtain ⟨z,hz⟩:∃z,z=y.take (y.length - (N+2)):=⟨_,rfl⟩
 have hzl:z.length≤x.length:=by rw [hz,K70];omega
 rw [←hz] at hcs hH
 have hsp:=J11 z 32 (by omega)
 obtain ⟨W,hW⟩:∃W,W=M9 32 z:=⟨_,rfl⟩
 have hWl:W.length≤z.length+1:=by
  have h3:=r9 32 z
  have h4:z.count 32≤z.length:=List.count_le_length
  rw [hW];omega
 have hWm:∀v∈W,v.length≤16777216:=by
  intro v hv
  rw [hW] at hv
  have:=E99 z v hv
  omega
 rw [←hW] at hsp hH
 have hfail:P2 N 0 W=none→H=none:=fun h=>by rw [hH,h]
 have hdone:∀a,P2 N 0 W=some a→H=if a.length=N+1 then some a else none:=fun a h=>by rw [hH,h]
 refine AL.Met.intro Tryz.func224 (by decide) Z Z Z ?_
 refine k2 ?_
 refine A4 (A3 (A6 Z Z) Z (A7 ?_))
 refine k1 (k2 ?_)
 refine A4 (A3 (A5 Z Z) Z (A3 (B2 Z) Z (A3 (A8 Z) Z (A3 (A8 Z) Z (A3 (A9 Z Z Z) Z (A3 (C6 Z Z (by omega)) Z (B9 (hrep) Z Z Z ?_)))))));rintro _ rfl;refine A3 (A6 Z Z) Z (A7 ?_)
 refine k1 (k2 ?_)
 refine A4 (A3 (A5 Z Z) Z (A3 (A5 Z Z) Z (A3 (I2 Z Z (by (simp;omega))) Z (B9 (hcp) Z Z Z ?_))));rintro _ rfl;refine A3 (A5 Z Z) Z (A3 (B3 Z Z) Z (A3 (B3 Z Z) Z (A3 (A6 Z Z) Z (A3 (A6 Z Z) Z (A7 ?_)))))
 refine k1 (k2 (k2 ?_))
 refine A4 (A3 (A5 Z Z) Z (A3 (F7 Z) Z (A7 ?_)))
 refine k1 ?_
 refine B4 rfl (fun ht=>?_) (fun ht=>?_)
 ·cases ht
 refine k5 (k1 (k2 (k2 ?_)))
 refine A4 (A3 (A5 Z Z) Z (A3 (A5 Z Z) Z (A3 (I2 Z Z (by (simp;omega))) Z (B9 (hcs) Z Z Z ?_))));rintro _ rfl;refine A3 (A5 Z Z) Z (A3 (B3 Z Z) Z (A3 (B3 Z Z) Z (A3 (A6 Z Z) Z (A3 (A6 Z Z) Z (A7 ?_)))))
 refine k1 (k2 ?_)
 refine A4 (A3 (A5 Z Z) Z (A3 (F7 Z) Z (A7 ?_)))
 refine k1 ?_
 refine B4 rfl (fun ht=>?_) (fun ht=>?_)
 ·cases ht
 refine L8 [(0,.s (.one (.ref 730 0))),(6,J0 z),(1000012,J0 x),(1000011,.s (.one (.ref 730 0))),(1000000,.s (.one (.ref 730 0))),(1000001,J0 x),(2000032,J0 x),(2000031,.s (.one (.ref 730 0))),(2000004,.s (.one (.ref 730 0))),(2000002,.s (.one (.ref 2 0))),(2000025,D3 Str 1 L0 R),(2000026,C2 R.length),(2000027,C2 k),(2000006,J0 x)] (W9 w d N hs) (K19 ⟨le1 rfl,le1 rfl,le1 rfl,le1 rfl,le1 rfl,le1 rfl,le1 rfl,le1 rfl,le1 rfl,le1 rfl,le1 rfl,le1 rfl,le1 rfl,le1 rfl,trivial⟩ ⟨rfl,rfl,rfl,trivial⟩) ?_
 refine k5 (k1 (k2 ?_))
 refine A4 (A3 (F3 Z) Z (C7 (G4 740 Z) Z (E1 (B7 TySz.out Z Z Z Z Z Z) (A7 ?_))))
 refine k1 (k2 (k2 ?_))
 refine E6 (K28 741 Int 1 G9 3 (kb:=740) (o:=0) Z Z Z) ?_
 refine A4 (A3 (A5 Z Z) Z (B9 (hsp) Z Z Z ?_));rintro _ rfl;refine A3 (F4 Z (.pure _ _ _ _)) Z (A3 (A5 Z Z) Z (A7 ?_))
 refine k1 (k3 ?_)
 refine E4 (X:=Nat × List Int) (fun q=>([(0,.s (.one (.ref 730 0))),(8,.s (.one (.ref 740 0))),(45,D3 Str 1 L0 W),(46,C2 W.length),(47,C2 q.1),(1000012,J0 x),(1000011,.s (.one (.ref 730 0))),(1000000,.s (.one (.ref 730 0))),(1000001,J0 x),(2000032,J0 x),(2000031,.s (.one (.ref 730 0))),(2000004,.s (.one (.ref 730 0))),(2000002,.s (.one (.ref 2 0))),(2000025,D3 Str 1 L0 R),(2000026,C2 R.length),(2000027,C2 k),(2000006,J0 x)],[(730,F78 w d N),(731,.grow 59 CHunk 2 A58 hs),(2,T8),(740,.box [.buf 741 Int 1 G9 q.2,.p (.v (.slice none 0 0))]),(741,.spare q.2.length 1 3)])) (fun q=>q.1≤W.length∧q.2.length=q.1∧P2 N 0 W=(P2 N q.1 (W.drop q.1)).map (q.2++·)) (fun q=>W.length - q.1) (0,[]) ⟨Nat.zero_le _,rfl,by simp⟩ (K19 ⟨le1 rfl,le1 rfl,le1 rfl,le1 rfl,le1 rfl,le1 rfl,le1 rfl,le1 rfl,le1 rfl,le1 rfl,le1 rfl,le1 rfl,le1 rfl,le1 rfl,le1 rfl,le1 rfl,le1 rfl,trivial⟩ ⟨rfl,rfl,rfl,rfl,rfl,trivial⟩) ?_
 rintro ⟨j,a⟩ ⟨hj,haj,hp⟩
 dsimp only at hj haj hp ⊢
 refine k2 ?_
 refine A4 (A3 (E5 Z Z) Z (A7 ?_))
 refine k1 (k2 ?_)
 refine B4 rfl (fun ht=>?_) (fun ht=>?_)
 ·have hlt:j < W.length:=by have:=A0 ht;omega
  have hv:W[j]?=some W[j]:=by simp [hlt]
  have hvm:=hWm _ (K76 hlt)
  rw [K64 hlt] at hp
  obtain ⟨v,hvv⟩:∃v,v=W[j]:=⟨_,rfl⟩
  rw [←hvv] at hv hvm hp
  have hcv:=n9 v [A18 N j]
  unfold F29 at hcv
  refine k5 (k1 (k2 (k3 (k2 ?_))))
  refine A4 (A3 (A5 Z Z) Z (A3 (C0 Z (.pure _ _ _ _) Z (by omega) hv) Z (A3 (C9 Z Z) Z (A3 (A6 Z Z) Z (A3 (A6 Z Z) Z (A7 ?_))))))
  refine k1 (k2 ?_)
  refine A4 (A3 (A6 Z Z) Z (A7 ?_))
  refine J9 ?_
  refine u7 [(0,.s (.one (.ref 730 0))),(8,.s (.one (.ref 740 0))),(45,D3 Str 1 L0 W),(46,C2 W.length),(47,C2 j),(10,J0 v),(11,J0 [A18 N j]),(1000012,J0 x),(1000011,.s (.one (.ref 730 0))),(1000000,.s (.one (.ref 730 0))),(1000001,J0 x),(2000032,J0 x),(2000031,.s (.one (.ref 730 0))),(2000004,.s (.one (.ref 730 0))),(2000002,.s (.one (.ref 2 0))),(2000025,D3 Str 1 L0 R),(2000026,C2 R.length),(2000027,C2 k),(2000006,J0 x)] ([(730,F78 w d N),(731,.grow 59 CHunk 2 A58 hs),(2,T8),(740,.box [.buf 741 Int 1 G9 a,.p (.v (.slice none 0 0))]),(741,.spare a.length 1 3)]) ?_ ?_
  ·refine k2 ?_
   refine A4 (A3 (A5 Z Z) Z (A3 (A5 Z Z) Z (A3 (B2 Z) Z (A3 (A8 Z) Z (A3 (A8 Z) Z (A3 (A9 Z Z Z) Z (A3 (J3 Z Z) Z (A7 ?_))))))))
   refine k1 ?_
   refine B4 rfl (fun ht=>?_) (fun ht=>?_)
   ·have hjn:=A0 ht
    skip
    refine A4 (A3 (A6 Z Z) Z (A7 ?_))
    refine k1 ?_
    rw [show A18 N j=43 by unfold A18;rw [if_pos (by omega)]]
    exact K19 ⟨le1 rfl,le1 rfl,le1 rfl,le1 rfl,le1 rfl,le1 rfl,le1 rfl,le1 rfl,le1 rfl,le1 rfl,le1 rfl,le1 rfl,le1 rfl,le1 rfl,le1 rfl,le1 rfl,le1 rfl,le1 rfl,le1 rfl,trivial⟩ ⟨rfl,rfl,rfl,rfl,rfl,trivial⟩
   ·have hjn:=A1 ht
    refine k5 (k1 ?_)
    rw [show A18 N j=45 by unfold A18;rw [if_neg (by omega)]]
    exact K19 ⟨le1 rfl,le1 rfl,le1 rfl,le1 rfl,le1 rfl,le1 rfl,le1 rfl,le1 rfl,le1 rfl,le1 rfl,le1 rfl,le1 rfl,le1 rfl,le1 rfl,le1 rfl,le1 rfl,le1 rfl,le1 rfl,le1 rfl,trivial⟩ ⟨rfl,rfl,rfl,rfl,rfl,trivial⟩
  by_cases h3:v.take 1=[A18 N j]
  rotate_left
  ·have hcv:FnOk Tryz.prog 221 [G7 v,G7 [A18 N j]] (fun rs=>rs=[G7 v,E8 false]):=by
    have h4:¬v.take ([A18 N j]:Str).length=[A18 N j]:=h3
    rw [if_neg h4] at hcv;exact hcv
   have hno:H=none:=hfail (by rw [hp,J18 h3];rfl)
   have hrg:=F67 v 0 (Nat.zero_le _) (by omega)
   rw [hno]
   cases g:s9 v with
   | none =>
    rw [F75 (by rw [List.drop_zero];exact g)] at hrg
    refine k2 ?_
    refine A4 (A3 (A5 Z Z) Z (A3 (A5 Z Z) Z (B9 (hcv) Z Z Z ?_)));rintro _ rfl;refine A3 (A5 Z Z) Z (A3 (B3 Z Z) Z (A3 (B3 Z Z) Z (A3 (A6 Z Z) Z (A3 (A6 Z Z) Z (A7 ?_)))))
    refine k1 (k2 ?_)
    refine A4 (A3 (A5 Z Z) Z (B9 (hrg) Z Z Z ?_));rintro _ rfl;refine A3 (A5 Z Z) Z (A3 (B3 Z Z) Z (A3 (B3 Z Z) Z (A3 (B3 Z Z) Z (A3 (B3 Z Z) Z (A3 (A6 Z Z) Z (A3 (A6 Z Z) Z (A3 (A6 Z Z) Z (A3 (A6 Z Z) Z (A7 ?_)))))))))
    refine k1 (k2 (k2 ?_))
    refine A4 (A3 (A5 Z Z) Z (A3 (F7 Z) Z (A3 (A5 Z Z) Z (B0 Z Z Z Z (fun hg=>by rw [hg];exact A5 Z Z) ?_))));refine B0 Z Z Z Z (fun hg=>by rw [hg];exact F7 Z) ?_;refine A3 (B5 Z (fun h=>by first | rfl | (rw [h];rfl)) (fun h=>by first | rfl | (rw [h];rfl))) Z ?_;refine A3 (A5 Z Z) Z (B0 Z Z Z Z (fun hg=>by rw [hg];exact A5 Z Z) ?_);refine B0 Z Z Z Z (fun hg=>by rw [hg];exact A5 Z Z) ?_;refine B0 Z Z Z Z (fun hg=>by rw [hg];exact E3 Z) ?_;refine B0 Z Z Z Z (fun hg=>by rw [hg];exact N6 Z Z) ?_;refine A3 (B5 Z (fun h=>by first | rfl | (rw [h];rfl)) (fun h=>by first | rfl | (rw [h];rfl))) Z ?_;refine A7 ?_
    refine k1 ?_
    refine B4 rfl (fun ht=>?_) (fun ht=>?_)
    ·refine k2 ?_
     refine E6 (Sees.forget 731) ?_
     refine A4 (A3 (A6 Z Z) Z (A7 ?_))
     refine k1 (k10 (k11 (k12 (k11 (k11 (k12 (k11 ?_)))))))
     exact H3 (U2 rfl rfl) (by repeat (first | exact C5 | refine tail_cons rfl ?_ | refine D5 _ ?_)) (ObIn.spec (ob':=[(2,T8)]) ⟨rfl,trivial⟩) ⟨rfl,rfl⟩
    ·exfalso;revert ht;simp
   | some q =>
    obtain ⟨s,c,e⟩:=q
    rw [F76 (k:=e) (by rw [List.drop_zero];exact g)] at hrg
    refine k2 ?_
    refine A4 (A3 (A5 Z Z) Z (A3 (A5 Z Z) Z (B9 (hcv) Z Z Z ?_)));rintro _ rfl;refine A3 (A5 Z Z) Z (A3 (B3 Z Z) Z (A3 (B3 Z Z) Z (A3 (A6 Z Z) Z (A3 (A6 Z Z) Z (A7 ?_)))))
    refine k1 (k2 ?_)
    refine A4 (A3 (A5 Z Z) Z (B9 (hrg) Z Z Z ?_));rintro _ rfl;refine A3 (A5 Z Z) Z (A3 (B3 Z Z) Z (A3 (B3 Z Z) Z (A3 (B3 Z Z) Z (A3 (B3 Z Z) Z (A3 (A6 Z Z) Z (A3 (A6 Z Z) Z (A3 (A6 Z Z) Z (A3 (A6 Z Z) Z (A7 ?_)))))))))
    refine k1 (k2 (k2 ?_))
    refine A4 (A3 (A5 Z Z) Z (A3 (F7 Z) Z (A3 (A5 Z Z) Z (B0 Z Z Z Z (fun hg=>by rw [hg];exact A5 Z Z) ?_))));refine B0 Z Z Z Z (fun hg=>by rw [hg];exact F7 Z) ?_;refine A3 (B5 Z (fun h=>by first | rfl | (rw [h];rfl)) (fun h=>by first | rfl | (rw [h];rfl))) Z ?_;refine A3 (A5 Z Z) Z (B0 Z Z Z Z (fun hg=>by rw [hg];exact A5 Z Z) ?_);refine B0 Z Z Z Z (fun hg=>by rw [hg];exact A5 Z Z) ?_;refine B0 Z Z Z Z (fun hg=>by rw [hg];exact E3 Z) ?_;refine B0 Z Z Z Z (fun hg=>by rw [hg];exact N6 Z Z) ?_;refine A3 (B5 Z (fun h=>by first | rfl | (rw [h];rfl)) (fun h=>by first | rfl | (rw [h];rfl))) Z ?_;refine A7 ?_
    refine k1 ?_
    refine B4 rfl (fun ht=>?_) (fun ht=>?_)
    ·refine k2 ?_
     refine E6 (Sees.forget 731) ?_
     refine A4 (A3 (A6 Z Z) Z (A7 ?_))
     refine k1 (k10 (k11 (k12 (k11 (k11 (k12 (k11 ?_)))))))
     exact H3 (U2 rfl rfl) (by repeat (first | exact C5 | refine tail_cons rfl ?_ | refine D5 _ ?_)) (ObIn.spec (ob':=[(2,T8)]) ⟨rfl,trivial⟩) ⟨rfl,rfl⟩
    ·exfalso;revert ht;simp
  have hcv:FnOk Tryz.prog 221 [G7 v,G7 [A18 N j]] (fun rs=>rs=[G7 (v.drop 1),E8 true]):=by
   have h4:v.take ([A18 N j]:Str).length=[A18 N j]:=h3
   rw [if_pos h4] at hcv;exact hcv
  obtain ⟨u,huu⟩:∃u,u=v.drop 1:=⟨_,rfl⟩
  have hul:u.length≤16777216:=by rw [huu,K65];omega
  rw [←huu] at hcv
  have hrg:=F67 u 0 (Nat.zero_le _) (by omega)
  cases g:s9 u with
  | none =>
   rw [F75 (by rw [List.drop_zero];exact g)] at hrg
   have hno:H=none:=hfail (by rw [hp,J19 (by rw [←huu];exact g)];rfl)
   rw [hno]
   refine k2 ?_
   refine A4 (A3 (A5 Z Z) Z (A3 (A5 Z Z) Z (B9 (hcv) Z Z Z ?_)));rintro _ rfl;refine A3 (A5 Z Z) Z (A3 (B3 Z Z) Z (A3 (B3 Z Z) Z (A3 (A6 Z Z) Z (A3 (A6 Z Z) Z (A7 ?_)))))
   refine k1 (k2 ?_)
   refine A4 (A3 (A5 Z Z) Z (B9 (hrg) Z Z Z ?_));rintro _ rfl;refine A3 (A5 Z Z) Z (A3 (B3 Z Z) Z (A3 (B3 Z Z) Z (A3 (B3 Z Z) Z (A3 (B3 Z Z) Z (A3 (A6 Z Z) Z (A3 (A6 Z Z) Z (A3 (A6 Z Z) Z (A3 (A6 Z Z) Z (A7 ?_)))))))))
   refine k1 (k2 (k2 ?_))
   refine A4 (A3 (A5 Z Z) Z (A3 (F7 Z) Z (A3 (A5 Z Z) Z (B0 Z Z Z Z (fun hg=>by rw [hg];exact A5 Z Z) ?_))));refine B0 Z Z Z Z (fun hg=>by rw [hg];exact F7 Z) ?_;refine A3 (B5 Z (fun h=>by first | rfl | (rw [h];rfl)) (fun h=>by first | rfl | (rw [h];rfl))) Z ?_;refine A3 (A5 Z Z) Z (B0 Z Z Z Z (fun hg=>by rw [hg];exact A5 Z Z) ?_);refine B0 Z Z Z Z (fun hg=>by rw [hg];exact A5 Z Z) ?_;refine B0 Z Z Z Z (fun hg=>by rw [hg];exact E3 Z) ?_;refine B0 Z Z Z Z (fun hg=>by rw [hg];exact N6 Z Z) ?_;refine A3 (B5 Z (fun h=>by first | rfl | (rw [h];rfl)) (fun h=>by first | rfl | (rw [h];rfl))) Z ?_;refine A7 ?_
   refine k1 ?_
   refine B4 rfl (fun ht=>?_) (fun ht=>?_)
   ·refine k2 ?_
    refine E6 (Sees.forget 731) ?_
    refine A4 (A3 (A6 Z Z) Z (A7 ?_))
    refine k1 (k10 (k11 (k12 (k11 (k11 (k12 (k11 ?_)))))))
    exact H3 (U2 rfl rfl) (by repeat (first | exact C5 | refine tail_cons rfl ?_ | refine D5 _ ?_)) (ObIn.spec (ob':=[(2,T8)]) ⟨rfl,trivial⟩) ⟨rfl,rfl⟩
   ·exfalso;revert ht;simp
  | some q =>
   obtain ⟨s,c,e⟩:=q
   rw [F76 (k:=e) (by rw [List.drop_zero];exact g),Nat.zero_add] at hrg
   by_cases he:e=u.length
   rotate_left
   ·have hno:H=none:=hfail (by rw [hp,J20 (by rw [←huu];exact g) (by rw [←huu];exact he)];rfl)
    rw [hno]
    refine k2 ?_
    refine A4 (A3 (A5 Z Z) Z (A3 (A5 Z Z) Z (B9 (hcv) Z Z Z ?_)));rintro _ rfl;refine A3 (A5 Z Z) Z (A3 (B3 Z Z) Z (A3 (B3 Z Z) Z (A3 (A6 Z Z) Z (A3 (A6 Z Z) Z (A7 ?_)))))
    refine k1 (k2 ?_)
    refine A4 (A3 (A5 Z Z) Z (B9 (hrg) Z Z Z ?_));rintro _ rfl;refine A3 (A5 Z Z) Z (A3 (B3 Z Z) Z (A3 (B3 Z Z) Z (A3 (B3 Z Z) Z (A3 (B3 Z Z) Z (A3 (A6 Z Z) Z (A3 (A6 Z Z) Z (A3 (A6 Z Z) Z (A3 (A6 Z Z) Z (A7 ?_)))))))))
    refine k1 (k2 (k2 ?_))
    refine A4 (A3 (A5 Z Z) Z (A3 (F7 Z) Z (A3 (A5 Z Z) Z (B0 Z Z Z Z (fun hg=>by rw [hg];exact A5 Z Z) ?_))));refine B0 Z Z Z Z (fun hg=>by rw [hg];exact F7 Z) ?_;refine A3 (B5 Z (fun h=>by first | rfl | (rw [h];rfl)) (fun h=>by first | rfl | (rw [h];rfl))) Z ?_;refine A3 (A5 Z Z) Z (B0 Z Z Z Z (fun hg=>by rw [hg];exact A5 Z Z) ?_);refine B0 Z Z Z Z (fun hg=>by rw [hg];exact A5 Z Z) ?_;refine B0 Z Z Z Z (fun hg=>by rw [hg];exact E3 Z) ?_;refine B0 Z Z Z Z (fun hg=>by rw [hg];exact N6 Z Z) ?_;refine A3 (B5 Z (fun h=>by first | rfl | (rw [h];rfl)) (fun h=>by first | rfl | (rw [h];rfl))) Z ?_;refine A7 ?_
    refine k1 ?_
    refine B4 rfl (fun ht=>?_) (fun ht=>?_)
    ·refine k2 ?_
     refine E6 (Sees.forget 731) ?_
     refine A4 (A3 (A6 Z Z) Z (A7 ?_))
     refine k1 (k10 (k11 (k12 (k11 (k11 (k12 (k11 ?_)))))))
     exact H3 (U2 rfl rfl) (by repeat (first | exact C5 | refine tail_cons rfl ?_ | refine D5 _ ?_)) (ObIn.spec (ob':=[(2,T8)]) ⟨rfl,trivial⟩) ⟨rfl,rfl⟩
    ·exfalso;revert ht;simp;omega
   rw [I17 h3 (by rw [←huu];exact g) (by rw [←huu];exact he),Option.map_map] at hp
   refine k2 ?_
   refine A4 (A3 (A5 Z Z) Z (A3 (A5 Z Z) Z (B9 (hcv) Z Z Z ?_)));rintro _ rfl;refine A3 (A5 Z Z) Z (A3 (B3 Z Z) Z (A3 (B3 Z Z) Z (A3 (A6 Z Z) Z (A3 (A6 Z Z) Z (A7 ?_)))))
   refine k1 (k2 ?_)
   refine A4 (A3 (A5 Z Z) Z (B9 (hrg) Z Z Z ?_));rintro _ rfl;refine A3 (A5 Z Z) Z (A3 (B3 Z Z) Z (A3 (B3 Z Z) Z (A3 (B3 Z Z) Z (A3 (B3 Z Z) Z (A3 (A6 Z Z) Z (A3 (A6 Z Z) Z (A3 (A6 Z Z) Z (A3 (A6 Z Z) Z (A7 ?_)))))))))
   refine k1 (k2 (k2 ?_))
   refine A4 (A3 (A5 Z Z) Z (A3 (F7 Z) Z (A3 (A5 Z Z) Z (B0 Z Z Z Z (fun hg=>by rw [hg];exact A5 Z Z) ?_))));refine B0 Z Z Z Z (fun hg=>by rw [hg];exact F7 Z) ?_;refine A3 (B5 Z (fun h=>by first | rfl | (rw [h];rfl)) (fun h=>by first | rfl | (rw [h];rfl))) Z ?_;refine A3 (A5 Z Z) Z (B0 Z Z Z Z (fun hg=>by rw [hg];exact A5 Z Z) ?_);refine B0 Z Z Z Z (fun hg=>by rw [hg];exact A5 Z Z) ?_;refine B0 Z Z Z Z (fun hg=>by rw [hg];exact E3 Z) ?_;refine B0 Z Z Z Z (fun hg=>by rw [hg];exact N6 Z Z) ?_;refine A3 (B5 Z (fun h=>by first | rfl | (rw [h];rfl)) (fun h=>by first | rfl | (rw [h];rfl))) Z ?_;refine A7 ?_
   refine k1 ?_
   refine B4 rfl (fun ht=>?_) (fun ht=>?_)
   ·exfalso;revert ht;simp;omega
   refine L8 [(0,.s (.one (.ref 730 0))),(8,.s (.one (.ref 740 0))),(45,D3 Str 1 L0 W),(46,C2 W.length),(47,C2 j),(14,C2 s),(1000012,J0 x),(1000011,.s (.one (.ref 730 0))),(1000000,.s (.one (.ref 730 0))),(1000001,J0 x),(2000032,J0 x),(2000031,.s (.one (.ref 730 0))),(2000004,.s (.one (.ref 730 0))),(2000002,.s (.one (.ref 2 0))),(2000025,D3 Str 1 L0 R),(2000026,C2 R.length),(2000027,C2 k),(2000006,J0 x)] ([(730,F78 w d N),(731,.grow 59 CHunk 2 A58 hs),(2,T8),(740,.box [.buf 741 Int 1 G9 a,.p (.v (.slice none 0 0))]),(741,.spare a.length 1 3)]) (K19 ⟨le1 rfl,le1 rfl,le1 rfl,le1 rfl,le1 rfl,le1 rfl,le1 rfl,le1 rfl,le1 rfl,le1 rfl,le1 rfl,le1 rfl,le1 rfl,le1 rfl,le1 rfl,le1 rfl,le1 rfl,le1 rfl,trivial⟩ ⟨rfl,rfl,rfl,rfl,rfl,trivial⟩) ?_
   refine k5 (k1 ?_)
   refine A4 (A3 (A8 Z) Z (A3 (A9 Z Z Z) Z (A3 (A5 Z Z) Z (A3 (E2 (c:=G9) (ys:=[s]) (E9 Z Z Z Z I4) Z Z Z) Z (C7 (L1 Z Z Z (.pure _ _ _ _) (by (simp only [K58,K61];omega)) Z) Z (A3 (A8 Z) Z (E1 (B7 TySz.out Z Z Z Z Z Z) (A7 ?_))))))))
   refine k4 (k1 ?_)
   refine A4 (A3 (C6 Z Z (by omega)) Z (A3 (A5 Z Z) Z (A7 ?_)))
   refine k1 ?_
   refine ⟨(j+1,a++[s]),⟨by dsimp only;omega,by dsimp only;rw [K56];simp;omega,?_⟩,by dsimp only;omega,K19 ⟨le1 rfl,le1 rfl,le1 rfl,le1 rfl,le1 rfl,le1 rfl,le1 rfl,le1 rfl,le1 rfl,le1 rfl,le1 rfl,le1 rfl,le1 rfl,le1 rfl,le1 rfl,le1 rfl,le1 rfl,trivial⟩ ⟨rfl,rfl,rfl,rfl,rfl,trivial⟩⟩
   dsimp only
   rw [hp]
   congr 1
   funext q
   simp
 ·have hjl:j=W.length:=by have:=A1 ht;omega
  rw [hjl,K66 (Nat.le_refl _)] at hp
  have hp:P2 N 0 W=some a:=by rw [hp,P2];simp
  have hHa:=hdone a hp
  refine L8 [(0,.s (.one (.ref 730 0))),(8,.s (.one (.ref 740 0))),(1000012,J0 x),(1000011,.s (.one (.ref 730 0))),(1000000,.s (.one (.ref 730 0))),(1000001,J0 x),(2000032,J0 x),(2000031,.s (.one (.ref 730 0))),(2000004,.s (.one (.ref 730 0))),(2000002,.s (.one (.ref 2 0))),(2000025,D3 Str 1 L0 R),(2000026,C2 R.length),(2000027,C2 k),(2000006,J0 x)] ([(730,F78 w d N),(731,.grow 59 CHunk 2 A58 hs),(2,T8),(740,.box [.buf 741 Int 1 G9 a,.p (.v (.slice none 0 0))]),(741,.spare a.length 1 3)]) (K19 ⟨le1 rfl,le1 rfl,le1 rfl,le1 rfl,le1 rfl,le1 rfl,le1 rfl,le1 rfl,le1 rfl,le1 rfl,le1 rfl,le1 rfl,le1 rfl,le1 rfl,trivial⟩ ⟨rfl,rfl,rfl,rfl,rfl,trivial⟩) ?_
  refine k6 (k2 ?_)
  refine O3 [12,8] [[],[8],[12,8]] [(8,([731],[96])),(12,([],[]))] [(0,[]),(1,[]),(2,[]),(3,[]),(4,[]),(5,[]),(6,[]),(7,[]),(8,[]),(9,[8]),(10,[8]),(11,[8]),(12,[8])] [(0,[8])] (by kernel_rfl) (by kernel_rfl) (D4 Z Z (by kernel_rfl) Z Z (A5 Z Z) (D4 Z Z (by kernel_rfl) Z Z (A5 Z Z) (D4 Z Z (by kernel_rfl) Z Z (B2 Z) (D4 Z Z (by kernel_rfl) Z Z (A8 Z) (D4 Z Z (by kernel_rfl) Z Z (A8 Z) (D4 Z Z (by kernel_rfl) Z Z (A9 Z Z Z) (D4 Z Z (by kernel_rfl) Z Z (D2 Z Z Z) (D4 Z Z (by kernel_rfl) Z Z (E2 (c:=A58) (ys:=[⟨a,[]⟩]) (E9 Z Z Z Z I4) Z Z Z) (W0 Z Z (by kernel_rfl) Z Z (A87 (fun frc hU=>A85 (T5 hU Z) Z (T5 hU Z) (.pure _ _ _ _) (by (simp;omega)) Z)) Z (D4 Z Z (by kernel_rfl) Z Z (B2 Z) (D4 Z Z (by kernel_rfl) Z Z (A8 Z) (D4 Z Z (by kernel_rfl) Z Z (A8 Z) (W0 Z Z (by kernel_rfl) Z Z (C77 (fun frc hU=>B7 TySz.out (T5 hU Z) Z (T5 hU Z) Z Z Z)) Z ?_)))))))))))));refine C76 (by kernel_rfl) rfl ?_ ?_
  ·refine K6 Z Z (by kernel_rfl) Z Z (A5 Z Z) ?_;exact C08
  refine k1 (k2 ?_)
  refine D7 (by kernel_rfl) (by kernel_rfl) (B1 (A8 Z) Z Z (B1 (A9 Z Z Z) Z Z (B1 (F4 Z (.buf _ _ _ _ _)) Z Z (B1 (A5 Z Z) Z Z (B1 (B2 Z) Z Z (B1 (A8 Z) Z Z (B1 (A8 Z) Z Z (B1 (A9 Z Z Z) Z Z (B1 (C6 Z Z (by omega)) Z Z (B1 (J3 Z Z) Z Z (B1 (A6 Z Z) Z Z (M2 ?_))))))))))))
  refine k1 (k10 ?_)
  by_cases hal2:a.length=N+1
  ·rw [if_pos hal2] at hHa
   rw [hHa]
   refine H3 (ob':=W9 w d N (hs++[⟨a,[]⟩])) (U2 rfl rfl) (by repeat (first | exact C5 | refine tail_cons rfl ?_ | refine D5 _ ?_)) (ObIn.spec ⟨rfl,rfl,rfl,trivial⟩) ⟨?_,rfl⟩
   rw [decide_eq_true (by omega)]
  ·rw [if_neg hal2] at hHa
   rw [hHa]
   refine H3 (ob':=[(2,T8)]) (U2 rfl rfl) (by repeat (first | exact C5 | refine tail_cons rfl ?_ | refine D5 _ ?_)) (ObIn.spec ⟨rfl,trivial⟩) ⟨?_,rfl⟩
   rw [decide_eq_false (by omega)]
set_option maxHeartbeats 4000000
theorem J88 (x:Str) (R:List Str) (k:Nat) (w:Str) (d:Bool) (N:Nat) (hs:List CHunk) (hN:1≤N∧N≤32) (hl:hs.length≤16777216) (hx:x.length≤4194304) (h64:x.take 1=[64]) :
  AL.Met Tryz.prog 181 [.one (.ref 730 0),.one (.p (.v (.string ⟨x.toArray⟩)))] (gfL x R k) (W9 w d N hs) [731]
   (fun rs ob'=>match A35 N x with
    | none=>rs=[tBo false]∧ob'=[(2,T8)]
    | some a=>rs=[tBo true]∧ob'=W9 w d N (hs++[⟨a,[]⟩])):=by
 have hh:=H17 x R k w d N hs hN hl hx
 have hp:=A14 x [64]
 rw [show ([64]:Str).length=1 from rfl,decide_eq_true h64] at hp
 cases hH:A35 N x with
 | none =>
  rw [hH] at hh
  refine AL.Met.intro Tryz.func181 (by decide) Z Z Z ?_
  refine k2 ?_
  refine A4 (A3 (A6 Z Z) Z (A7 ?_))
  refine k1 (k2 (k2 ?_))
  refine A4 (A3 (A5 Z Z) Z (B9 (hp) Z Z Z ?_));rintro _ rfl;refine A7 ?_
  refine k1 ?_
  refine B4 rfl (fun ht=>?_) (fun ht=>?_)
  rotate_left
  ·cases ht
  refine L8 [(0,.s (.one (.ref 730 0))),(1,J0 x),(1000032,J0 x),(1000031,.s (.one (.ref 730 0))),(1000004,.s (.one (.ref 730 0))),(1000002,.s (.one (.ref 2 0))),(1000025,D3 Str 1 L0 R),(1000026,C2 R.length),(1000027,C2 k),(1000006,J0 x)] (W9 w d N hs) (K19 ⟨le1 rfl,le1 rfl,le1 rfl,le1 rfl,le1 rfl,le1 rfl,le1 rfl,le1 rfl,le1 rfl,le1 rfl,trivial⟩ ⟨rfl,rfl,rfl,trivial⟩) ?_
  refine k2 ?_
  refine A4 (A3 (A5 Z Z) Z (A3 (A5 Z Z) Z (U3 (hh) Z Z Z ?_)));rintro _ _ ⟨rfl,rfl⟩;refine A3 (A6 Z Z) Z (A7 ?_)
  refine k1 (k10 (k11 ?_))
  exact H3 (U2 rfl rfl) (by repeat (first | exact C5 | refine tail_cons rfl ?_ | refine D5 _ ?_)) (ObIn.spec (ob':=[(2,T8)]) ⟨rfl,trivial⟩) ⟨rfl,rfl⟩
 | some a =>
  rw [hH] at hh
  refine AL.Met.intro Tryz.func181 (by decide) Z Z Z ?_
  refine k2 ?_
  refine A4 (A3 (A6 Z Z) Z (A7 ?_))
  refine k1 (k2 (k2 ?_))
  refine A4 (A3 (A5 Z Z) Z (B9 (hp) Z Z Z ?_));rintro _ rfl;refine A7 ?_
  refine k1 ?_
  refine B4 rfl (fun ht=>?_) (fun ht=>?_)
  rotate_left
  ·cases ht
  refine L8 [(0,.s (.one (.ref 730 0))),(1,J0 x),(1000032,J0 x),(1000031,.s (.one (.ref 730 0))),(1000004,.s (.one (.ref 730 0))),(1000002,.s (.one (.ref 2 0))),(1000025,D3 Str 1 L0 R),(1000026,C2 R.length),(1000027,C2 k),(1000006,J0 x)] (W9 w d N hs) (K19 ⟨le1 rfl,le1 rfl,le1 rfl,le1 rfl,le1 rfl,le1 rfl,le1 rfl,le1 rfl,le1 rfl,le1 rfl,trivial⟩ ⟨rfl,rfl,rfl,trivial⟩) ?_
  refine k2 ?_
  refine A4 (A3 (A5 Z Z) Z (A3 (A5 Z Z) Z (U3 (hh) Z Z Z ?_)));rintro _ _ ⟨rfl,rfl⟩;refine A3 (A6 Z Z) Z (A7 ?_)
  refine k1 (k10 (k11 ?_))
  exact H3 (U2 rfl rfl) (by repeat (first | exact C5 | refine tail_cons rfl ?_ | refine D5 _ ?_)) (ObIn.spec (ob':=W9 w d N (hs++[⟨a,[]⟩])) ⟨rfl,rfl,rfl,trivial⟩) ⟨rfl,rfl⟩
theorem J21 (x:Str) (R:List Str) (k:Nat) (w:Str) (d:Bool) (N:Nat) (h64:x.take 1≠[64]) :
  AL.Met Tryz.prog 181 [.one (.ref 730 0),.one (.p (.v (.string ⟨x.toArray⟩)))] (gfL x R k) (W9 w d N []) [732] (fun rs ob'=>rs=[tBo false]∧ob'=[(2,T8)]):=by
 have hp:=A14 x [64]
 rw [show ([64]:Str).length=1 from rfl,decide_eq_false h64] at hp
 refine AL.Met.intro Tryz.func181 (by decide) Z Z Z ?_
 refine k2 ?_
 refine A4 (A3 (A6 Z Z) Z (A7 ?_))
 refine k1 (k2 (k2 ?_))
 refine A4 (A3 (A5 Z Z) Z (B9 (hp) Z Z Z ?_));rintro _ rfl;refine A7 ?_
 refine k1 ?_
 refine B4 rfl (fun ht=>?_) (fun ht=>?_)
 ·cases ht
 refine k5 (k1 (k2 (k2 ?_)))
 refine A4 (A3 (A5 Z Z) Z (A3 (B2 Z) Z (A3 (A8 Z) Z (A3 (A8 Z) Z (A3 (A9 Z Z Z) Z (A3 (D99 Z Z) Z (A3 (J3 Z Z) Z (A7 ?_))))))))
 refine k1 ?_
 refine B4 rfl (fun ht=>?_) (fun ht=>?_)
 ·refine k2 ?_
  refine E6 (Sees.forget 732) ?_
  refine A4 (A3 (A6 Z Z) Z (A7 ?_))
  refine k1 (k10 (k11 ?_))
  exact H3 (U2 rfl rfl) (by repeat (first | exact C5 | refine tail_cons rfl ?_ | refine D5 _ ?_)) (ObIn.spec (ob':=[(2,T8)]) ⟨rfl,trivial⟩) ⟨rfl,rfl⟩
 ·cases ht
theorem J22 (R:List Str) (k:Nat) (w:Str) (d:Bool) (N:Nat) (hs:List CHunk) (a:List Int) (rs:List Row) (h0:0 < hs.length) (hl:hs.length≤16777216) (hrl:rs.length≤16777216) (htx:∀r∈rs,r.Text.length≤1073741824) :
  AL.Met Tryz.prog 181 [.one (.ref 730 0),.one (.p (.v (.string ⟨noNl.toArray⟩)))] (gfL noNl R k) (X0 w d N hs a rs) []
   (fun res ob'=>match rs.getLast? with
    | none=>res=[tBo false]∧ob'=[(2,T8)]
    | some r=>res=[tBo true]∧ob'=X0 w d N hs a (rs.dropLast++[⟨r.Lost,r.Marks,B66 r.Text⟩])):=by
 have hp:=A14 noNl [64]
 rw [show decide (noNl.take ([64]:Str).length=[64])=false from rfl] at hp
 have hne0:decide ((hs.length:Int)=0)=false:=decide_eq_false (by omega)
 cases hx:rs.getLast? with
 | none =>
  have hn:rs=[]:=List.getLast?_eq_none_iff.1 hx
  subst hn
  refine AL.Met.intro Tryz.func181 (by decide) Z Z Z ?_
  refine k2 ?_
  refine A4 (A3 (A6 Z Z) Z (A7 ?_))
  refine k1 (k2 (k2 ?_))
  refine A4 (A3 (A5 Z Z) Z (B9 (hp) Z Z Z ?_));rintro _ rfl;refine A7 ?_
  refine k1 ?_
  refine B4 rfl (fun ht=>?_) (fun ht=>?_)
  ·cases ht
  refine k5 (k1 (k2 (k2 ?_)))
  refine A4 (A3 (A5 Z Z) Z (A3 (B2 Z) Z (A3 (A8 Z) Z (A3 (A8 Z) Z (A3 (A9 Z Z Z) Z (A3 (y5 Z Z) Z (A3 (J3 Z Z) Z (A7 ?_))))))))
  refine k1 ?_
  refine B4 rfl (fun ht=>?_) (fun ht=>?_)
  ·exact absurd (A0 ht) (by omega)
  refine k5 (k1 (k2 ?_))
  refine D7 (by kernel_rfl) (by kernel_rfl) (B1 (A5 Z Z) Z Z (B1 (B2 Z) Z Z (B1 (A8 Z) Z Z (B1 (A8 Z) Z Z (B1 (A9 Z Z Z) Z Z (B1 (A5 Z Z) Z Z (B1 (B2 Z) Z Z (B1 (A8 Z) Z Z (B1 (A8 Z) Z Z (B1 (A9 Z Z Z) Z Z (B1 (y5 Z Z) Z Z (B1 (S6 Z Z (by omega)) Z Z (B1 (n5 Z Z Z (by omega) (by omega)) Z Z (B1 (A6 Z Z) Z Z (M2 ?_)))))))))))))))
  refine k1 (k2 (k2 ?_))
  refine A4 (A3 (A5 Z Z) Z (A3 (T9 Z Z) Z (A7 ?_)))
  refine k1 ?_
  refine B4 rfl (fun ht=>?_) (fun ht=>?_)
  rotate_left
  ·exact absurd rfl (A1 ht)
  refine k2 (k2 ?_)
  refine A4 (A3 (A5 Z Z) Z (A3 (L2 Z) Z (A3 (N8 Z) Z (A3 (A21 Z Z (by first | rfl | omega) Z) Z ?_))));refine A3 (D99 Z Z) Z (A3 (J3 Z Z) Z (A7 ?_))
  refine k1 ?_
  refine B4 rfl (fun ht=>?_) (fun ht=>?_)
  rotate_left
  ·exact absurd rfl (A1 ht)
  refine k2 ?_
  refine A4 (A3 (A6 Z Z) Z (A7 ?_))
  refine k1 (k10 (k11 (k11 ?_)))
  exact H3 (U2 rfl rfl) (by repeat (first | exact C5 | refine tail_cons rfl ?_ | refine D5 _ ?_)) (ObIn.spec (ob':=[(2,T8)]) ⟨rfl,trivial⟩) ⟨rfl,rfl⟩
 | some r =>
  have hne:rs≠[]:=fun e=>by rw [e] at hx;cases hx
  have hlen:=List.length_pos_iff.2 hne
  have hv:rs[((rs.length:Int) - 1).toNat]?=some r:=by rw [show ((rs.length:Int) - 1).toNat=rs.length - 1 by omega,←List.getLast?_eq_getElem?];exact hx
  have hset:∀y:Row,rs.set (((rs.length:Int) - 1).toNat) y=rs.dropLast++[y]:=by
   intro y
   rw [show ((rs.length:Int) - 1).toNat=rs.length - 1 by omega]
   have hd:=List.dropLast_concat_getLast hne
   conv=>lhs;rw [←hd]
   rw [List.set_append_right _ _ (by rw [List.length_dropLast,K56,List.length_dropLast];simp)]
   simp
  have hxt:=htx r (K75 hv)
  have htr:=C12 r.Text [10] (by omega)
  rw [C18,show B00 r.Text=B66 r.Text from rfl] at htr
  refine AL.Met.intro Tryz.func181 (by decide) Z Z Z ?_
  refine k2 ?_
  refine A4 (A3 (A6 Z Z) Z (A7 ?_))
  refine k1 (k2 (k2 ?_))
  refine A4 (A3 (A5 Z Z) Z (B9 (hp) Z Z Z ?_));rintro _ rfl;refine A7 ?_
  refine k1 ?_
  refine B4 rfl (fun ht=>?_) (fun ht=>?_)
  ·cases ht
  refine k5 (k1 (k2 (k2 ?_)))
  refine A4 (A3 (A5 Z Z) Z (A3 (B2 Z) Z (A3 (A8 Z) Z (A3 (A8 Z) Z (A3 (A9 Z Z Z) Z (A3 (y5 Z Z) Z (A3 (J3 Z Z) Z (A7 ?_))))))))
  refine k1 ?_
  refine B4 rfl (fun ht=>?_) (fun ht=>?_)
  ·exact absurd (A0 ht) (by omega)
  refine k5 (k1 (k2 ?_))
  refine D7 (by kernel_rfl) (by kernel_rfl) (B1 (A5 Z Z) Z Z (B1 (B2 Z) Z Z (B1 (A8 Z) Z Z (B1 (A8 Z) Z Z (B1 (A9 Z Z Z) Z Z (B1 (A5 Z Z) Z Z (B1 (B2 Z) Z Z (B1 (A8 Z) Z Z (B1 (A8 Z) Z Z (B1 (A9 Z Z Z) Z Z (B1 (y5 Z Z) Z Z (B1 (S6 Z Z (by omega)) Z Z (B1 (n5 Z Z Z (by omega) (by omega)) Z Z (B1 (A6 Z Z) Z Z (M2 ?_)))))))))))))))
  refine k1 (k2 (k2 ?_))
  refine A4 (A3 (A5 Z Z) Z (A3 (T9 Z Z) Z (A7 ?_)))
  refine k1 ?_
  refine B4 rfl (fun ht=>?_) (fun ht=>?_)
  rotate_left
  ·exact absurd rfl (A1 ht)
  refine k2 (k2 ?_)
  refine A4 (A3 (A5 Z Z) Z (A3 (L2 Z) Z (A3 (N8 Z) Z (A3 (A21 Z Z (by first | rfl | omega) Z) Z ?_))));refine A3 (D99 Z Z) Z (A3 (J3 Z Z) Z (A7 ?_))
  refine k1 ?_
  refine B4 rfl (fun ht=>?_) (fun ht=>?_)
  ·exact absurd (A0 ht) (by omega)
  refine k5 (k1 (k2 ?_))
  refine D7 (by kernel_rfl) (by kernel_rfl) (B1 (A5 Z Z) Z Z (B1 (L2 Z) Z Z (B1 (N8 Z) Z Z (B1 (A21 Z Z (by first | rfl | omega) Z) Z Z ?_))));refine B1 (A5 Z Z) Z Z (B1 (L2 Z) Z Z (B1 (N8 Z) Z Z (B1 (A21 Z Z (by first | rfl | omega) Z) Z Z ?_)));refine B1 (D99 Z Z) Z Z (B1 (S6 Z Z (by omega)) Z Z (B1 (F18 Z Z Z (by omega) (by omega)) Z Z (B1 (A6 Z Z) Z Z (M2 ?_))))
  refine k1 (k2 ?_)
  refine A4 (A3 (A5 Z Z) Z (A3 (A5 Z Z) Z (A3 (L2 Z) Z (A3 (N8 Z) Z (A3 (J68 Z Z hv Z) Z (B9 (htr) Z Z Z ?_))))));rintro _ rfl;refine A3 (L2 Z) Z (A3 (N8 Z) Z (E1 (I92 (⟨r.Lost,r.Marks,B66 r.Text⟩) TySz.out Z Z hv Z Z Z Z (fun _ _ _ h=>G87 h) (by intro j h1 h2;rcases j with _ | _ | _ | _ | _ | _ | _ | j<;>first | rfl | omega)) ?_));refine A7 ?_
  rw [hset]
  refine k1 (k2 ?_)
  refine A4 (A3 (A6 Z Z) Z (A7 ?_))
  refine k1 (k10 (k11 ?_))
  exact H3 (U2 rfl rfl) (by repeat (first | exact C5 | refine tail_cons rfl ?_ | refine D5 _ ?_)) (ObIn.spec (ob':=X0 w d N hs a (rs.dropLast++[⟨r.Lost,r.Marks,B66 r.Text⟩])) ⟨rfl,rfl,rfl,rfl,trivial⟩) ⟨rfl,rfl⟩
theorem J23 (x:Str) (R:List Str) (k:Nat) (w:Str) (d:Bool) (N:Nat) (hs:List CHunk) (a:List Int) (rs:List Row) (h0:0 < hs.length) (hl:hs.length≤16777216) (hrl:rs.length≤16777216) (hx:x.length≤4194304) (h64:x.take 1≠[64]) (hno:x≠noNl) :
  AL.Met Tryz.prog 181 [.one (.ref 730 0),.one (.p (.v (.string ⟨x.toArray⟩)))] (gfL x R k) (X0 w d N hs a rs) [732]
   (fun res ob'=>match A76 (x++[10]) N with
    | none=>res=[tBo false]∧ob'=[(2,T8)]
    | some r=>res=[tBo true]∧ob'=X0 w d N hs a (rs++[r])):=by
 have hp:=A14 x [64]
 rw [show ([64]:Str).length=1 from rfl,decide_eq_false h64] at hp
 have hR:=pRow_ok (x++[10]) N
 cases hr:A76 (x++[10]) (N:Int) with
 | none =>
  rw [B86 hr] at hR
  refine AL.Met.intro Tryz.func181 (by decide) Z Z Z ?_
  refine k2 ?_
  refine A4 (A3 (A6 Z Z) Z (A7 ?_))
  refine k1 (k2 (k2 ?_))
  refine A4 (A3 (A5 Z Z) Z (B9 (hp) Z Z Z ?_));rintro _ rfl;refine A7 ?_
  refine k1 ?_
  refine B4 rfl (fun ht=>?_) (fun ht=>?_)
  ·cases ht
  refine k5 (k1 (k2 (k2 ?_)))
  refine A4 (A3 (A5 Z Z) Z (A3 (B2 Z) Z (A3 (A8 Z) Z (A3 (A8 Z) Z (A3 (A9 Z Z Z) Z (A3 (y5 Z Z) Z (A3 (J3 Z Z) Z (A7 ?_))))))))
  refine k1 ?_
  refine B4 rfl (fun ht=>?_) (fun ht=>?_)
  ·exact absurd (A0 ht) (by omega)
  refine k5 (k1 (k2 ?_))
  refine D7 (by kernel_rfl) (by kernel_rfl) (B1 (A5 Z Z) Z Z (B1 (B2 Z) Z Z (B1 (A8 Z) Z Z (B1 (A8 Z) Z Z (B1 (A9 Z Z Z) Z Z (B1 (A5 Z Z) Z Z (B1 (B2 Z) Z Z (B1 (A8 Z) Z Z (B1 (A8 Z) Z Z (B1 (A9 Z Z Z) Z Z (B1 (y5 Z Z) Z Z (B1 (S6 Z Z (by omega)) Z Z (B1 (n5 Z Z Z (by omega) (by omega)) Z Z (B1 (A6 Z Z) Z Z (M2 ?_)))))))))))))))
  refine k1 (k2 (k2 ?_))
  refine A4 (A3 (A5 Z Z) Z (A3 (T9 Z Z) Z (A7 ?_)))
  refine k1 ?_
  refine B4 rfl (fun ht=>?_) (fun ht=>?_)
  ·exact absurd (A0 ht) hno
  refine L8 [(0,.s (.one (.ref 730 0))),(1,J0 x),(5,.s (.one (.mref 731 2 ((hs.length:Int) - 1).toNat 0))),(1000032,J0 x),(1000031,.s (.one (.ref 730 0))),(1000004,.s (.one (.ref 730 0))),(1000002,.s (.one (.ref 2 0))),(1000025,D3 Str 1 L0 R),(1000026,C2 R.length),(1000027,C2 k),(1000006,J0 x)] (X0 w d N hs a rs) (K19 ⟨le1 rfl,le1 rfl,le1 rfl,le1 rfl,le1 rfl,le1 rfl,le1 rfl,le1 rfl,le1 rfl,le1 rfl,le1 rfl,trivial⟩ ⟨rfl,rfl,rfl,rfl,trivial⟩) ?_
  refine k5 (k1 (k2 ?_))
  refine A4 (A3 (A5 Z Z) Z (A3 (I2 Z Z (by (simp;omega))) Z (A3 (A5 Z Z) Z (A3 (B2 Z) Z (A3 (A8 Z) Z (A3 (A8 Z) Z (A3 (A9 Z Z Z) Z (B9 (hR) Z Z Z ?_))))))));rintro _ rfl;refine A3 (A5 Z Z) Z (A3 (B3 Z Z) Z (A3 (B3 Z Z) Z (C7 (G4 733 Z) Z (E1 (B7 TySz.out Z Z Z Z Z Z) (A3 (A6 Z Z) Z (A7 ?_))))))
  refine k1 (k2 ?_)
  refine O3 [10,7] [[],[7],[10,7]] [(7,([732],[76])),(10,([],[]))] [(0,[]),(1,[]),(2,[]),(3,[]),(4,[]),(5,[]),(6,[]),(7,[]),(8,[7]),(9,[7]),(10,[7])] [(0,[7])] (by kernel_rfl) (by kernel_rfl) (D4 Z Z (by kernel_rfl) Z Z (A5 Z Z) (D4 Z Z (by kernel_rfl) Z Z (A5 Z Z) (D4 Z Z (by kernel_rfl) Z Z (L2 Z) (D4 Z Z (by kernel_rfl) Z Z (N8 Z) (D4 Z Z (by kernel_rfl) Z Z (A21 Z Z (by first | rfl | omega) Z) ?_)))));refine D4 Z Z (by kernel_rfl) Z Z (D2 Z Z Z) (D4 Z Z (by kernel_rfl) Z Z (E2 (c:=rowC) (ys:=[⟨false,0,[]⟩]) (E9 Z Z Z Z I4) Z Z Z) (W0 Z Z (by kernel_rfl) Z Z (A87 (fun frc hU=>A85 (T5 hU Z) Z (T5 hU Z) (.pure _ _ _ _) (by (simp;omega)) Z)) Z (D4 Z Z (by kernel_rfl) Z Z (L2 Z) (D4 Z Z (by kernel_rfl) Z Z (N8 Z) (W0 Z Z (by kernel_rfl) Z Z (C77 (fun frc hU=>E36 TySz.out (T5 hU Z) Z (by first | rfl | omega) (T5 hU Z) Z Z Z)) Z ?_)))));refine C76 (by kernel_rfl) rfl ?_ ?_
  ·refine K6 Z Z (by kernel_rfl) Z Z (A5 Z Z) ?_;exact C08
  refine k1 (k2 ?_)
  refine A4 (A3 (A5 Z Z) Z (A3 (A6 Z Z) Z (A7 ?_)))
  refine k1 (k10 ?_)
  exact H3 (U2 rfl rfl) (by repeat (first | exact C5 | refine tail_cons rfl ?_ | refine D5 _ ?_)) (ObIn.spec (ob':=[(2,T8)]) ⟨rfl,trivial⟩) ⟨rfl,rfl⟩
 | some r =>
  rw [F74 hr] at hR
  refine AL.Met.intro Tryz.func181 (by decide) Z Z Z ?_
  refine k2 ?_
  refine A4 (A3 (A6 Z Z) Z (A7 ?_))
  refine k1 (k2 (k2 ?_))
  refine A4 (A3 (A5 Z Z) Z (B9 (hp) Z Z Z ?_));rintro _ rfl;refine A7 ?_
  refine k1 ?_
  refine B4 rfl (fun ht=>?_) (fun ht=>?_)
  ·cases ht
  refine k5 (k1 (k2 (k2 ?_)))
  refine A4 (A3 (A5 Z Z) Z (A3 (B2 Z) Z (A3 (A8 Z) Z (A3 (A8 Z) Z (A3 (A9 Z Z Z) Z (A3 (y5 Z Z) Z (A3 (J3 Z Z) Z (A7 ?_))))))))
  refine k1 ?_
  refine B4 rfl (fun ht=>?_) (fun ht=>?_)
  ·exact absurd (A0 ht) (by omega)
  refine k5 (k1 (k2 ?_))
  refine D7 (by kernel_rfl) (by kernel_rfl) (B1 (A5 Z Z) Z Z (B1 (B2 Z) Z Z (B1 (A8 Z) Z Z (B1 (A8 Z) Z Z (B1 (A9 Z Z Z) Z Z (B1 (A5 Z Z) Z Z (B1 (B2 Z) Z Z (B1 (A8 Z) Z Z (B1 (A8 Z) Z Z (B1 (A9 Z Z Z) Z Z (B1 (y5 Z Z) Z Z (B1 (S6 Z Z (by omega)) Z Z (B1 (n5 Z Z Z (by omega) (by omega)) Z Z (B1 (A6 Z Z) Z Z (M2 ?_)))))))))))))))
  refine k1 (k2 (k2 ?_))
  refine A4 (A3 (A5 Z Z) Z (A3 (T9 Z Z) Z (A7 ?_)))
  refine k1 ?_
  refine B4 rfl (fun ht=>?_) (fun ht=>?_)
  ·exact absurd (A0 ht) hno
  refine L8 [(0,.s (.one (.ref 730 0))),(1,J0 x),(5,.s (.one (.mref 731 2 ((hs.length:Int) - 1).toNat 0))),(1000032,J0 x),(1000031,.s (.one (.ref 730 0))),(1000004,.s (.one (.ref 730 0))),(1000002,.s (.one (.ref 2 0))),(1000025,D3 Str 1 L0 R),(1000026,C2 R.length),(1000027,C2 k),(1000006,J0 x)] (X0 w d N hs a rs) (K19 ⟨le1 rfl,le1 rfl,le1 rfl,le1 rfl,le1 rfl,le1 rfl,le1 rfl,le1 rfl,le1 rfl,le1 rfl,le1 rfl,trivial⟩ ⟨rfl,rfl,rfl,rfl,trivial⟩) ?_
  refine k5 (k1 (k2 ?_))
  refine A4 (A3 (A5 Z Z) Z (A3 (I2 Z Z (by (simp;omega))) Z (A3 (A5 Z Z) Z (A3 (B2 Z) Z (A3 (A8 Z) Z (A3 (A8 Z) Z (A3 (A9 Z Z Z) Z (B9 (hR) Z Z Z ?_))))))));rintro _ rfl;refine A3 (A5 Z Z) Z (A3 (B3 Z Z) Z (A3 (B3 Z Z) Z (C7 (G4 733 Z) Z (E1 (B7 TySz.out Z Z Z Z Z Z) (A3 (A6 Z Z) Z (A7 ?_))))))
  refine k1 (k2 ?_)
  refine O3 [10,7] [[],[7],[10,7]] [(7,([732],[76])),(10,([],[]))] [(0,[]),(1,[]),(2,[]),(3,[]),(4,[]),(5,[]),(6,[]),(7,[]),(8,[7]),(9,[7]),(10,[7])] [(0,[7])] (by kernel_rfl) (by kernel_rfl) (D4 Z Z (by kernel_rfl) Z Z (A5 Z Z) (D4 Z Z (by kernel_rfl) Z Z (A5 Z Z) (D4 Z Z (by kernel_rfl) Z Z (L2 Z) (D4 Z Z (by kernel_rfl) Z Z (N8 Z) (D4 Z Z (by kernel_rfl) Z Z (A21 Z Z (by first | rfl | omega) Z) ?_)))));refine D4 Z Z (by kernel_rfl) Z Z (D2 Z Z Z) (D4 Z Z (by kernel_rfl) Z Z (E2 (c:=rowC) (ys:=[r]) (E9 Z Z Z Z I4) Z Z Z) (W0 Z Z (by kernel_rfl) Z Z (A87 (fun frc hU=>A85 (T5 hU Z) Z (T5 hU Z) (.pure _ _ _ _) (by (simp;omega)) Z)) Z (D4 Z Z (by kernel_rfl) Z Z (L2 Z) (D4 Z Z (by kernel_rfl) Z Z (N8 Z) (W0 Z Z (by kernel_rfl) Z Z (C77 (fun frc hU=>E36 TySz.out (T5 hU Z) Z (by first | rfl | omega) (T5 hU Z) Z Z Z)) Z ?_)))));refine C76 (by kernel_rfl) rfl ?_ ?_
  ·refine K6 Z Z (by kernel_rfl) Z Z (A5 Z Z) ?_;exact C08
  refine k1 (k2 ?_)
  refine A4 (A3 (A5 Z Z) Z (A3 (A6 Z Z) Z (A7 ?_)))
  refine k1 (k10 ?_)
  exact H3 (U2 rfl rfl) (by repeat (first | exact C5 | refine tail_cons rfl ?_ | refine D5 _ ?_)) (ObIn.spec (ob':=X0 w d N hs a (rs++[r])) ⟨rfl,rfl,rfl,rfl,trivial⟩) ⟨rfl,rfl⟩
def F34 (w:Str) (d:Bool) (n:Int) (hs:List CHunk):Obs:=match hs.getLast? with
 | some h=>(match h.Rows with
  | []=>W9 w d n hs
  | _::_=>X0 w d n hs h.At h.Rows)
 | none=>W9 w d n hs
section
variable {P:Program} {nt:Nat} {fr:Fr} {w:Str} {d:Bool} {n:Int} {hs:List CHunk}
theorem shutC {h:CHunk} (hf:G3 732 fr=true) (hl:hs.getLast?=some h) (hne:h.Rows≠[]):Sees P nt fr (X0 w d n hs h.At h.Rows) fr (W9 w d n hs):=by
 have h1:=Sees.freezeG (P:=P) (nt:=nt) (fr:=fr) (ob:=X0 w d n hs h.At h.Rows) (k:=732) rfl rfl
 rw [F47 hf] at h1
 refine h1.trans ?_
 have hset:hs.set (hs.length - 1) h=hs:=by
  have h2:=E49 hl
  have hlen:hs.length - 1=hs.dropLast.length:=by rw [List.length_dropLast]
  conv=>lhs;rw [hlen];arg 1;rw [h2]
  rw [List.set_append_right _ _ (Nat.le_refl _),L12,List.set_cons_zero,←h2]
 have h3:=K45 (P:=P) (nt:=nt) (fr:=fr) (ob:=K23 (Ob.freeze 732 Row 3 rowC h.Rows) (Obs.drop 732 (X0 w d n hs h.At h.Rows))) 731 h rfl (by
  obtain ⟨a,ls⟩:=h
  cases ls with
  | nil=>exact absurd rfl hne
  | cons x r=>rfl)
 rw [hset] at h3
 refine h3.trans (K24 (ObIn.spec ⟨rfl,rfl,rfl,trivial⟩))
theorem openC2 {h:CHunk} (hf:G3 732 fr=true) (hl:hs.getLast?=some h) (hne:h.Rows=[]):Sees P nt fr (W9 w d n hs) fr (X0 w d n hs h.At []):=by
 have hv:hs[hs.length - 1]?=some h:=by rw [←List.getLast?_eq_getElem?];exact hl
 refine (K51 731 (hs.length - 1) (v:=h) Z hv).trans ?_
 have hcells:(cellsOf A58 h 0 2).map TC.p=[.p (.list Int 1 G9 h.At),.p (.v (.slice none 0 0))]:=by
  obtain ⟨a,ls⟩:=h
  have hne:ls=[]:=hne
  subst hne;rfl
 rw [hcells]
 refine (K47 732 Row 3 rowC 69 (kb:=731) (o:=1) Z Z (by rw [hf];rfl)).trans ?_
 exact K24 (ObIn.spec ⟨rfl,rfl,rfl,rfl,trivial⟩)
theorem G42 (hf:G3 732 fr=true):Sees P nt fr (F34 w d n hs) fr (W9 w d n hs):=by
 unfold F34
 cases hl:hs.getLast? with
 | none=>exact K24 fun _ _ h=>h
 | some h =>
  dsimp only
  cases hh:h.Rows with
  | nil=>exact K24 fun _ _ h=>h
  | cons x r =>
   dsimp only
   rw [←hh]
   exact shutC hf hl (by rw [hh];simp)
theorem toOpenC {h:CHunk} (hf:G3 732 fr=true) (hl:hs.getLast?=some h):Sees P nt fr (F34 w d n hs) fr (X0 w d n hs h.At h.Rows):=by
 unfold F34
 rw [hl]
 dsimp only
 cases hh:h.Rows with
 | nil=>dsimp only;exact openC2 hf hl hh
 | cons x r=>exact K24 fun _ _ h=>h
theorem ofShutC {a:List Int}:F34 w d n (hs++[⟨a,[]⟩])=W9 w d n (hs++[⟨a,[]⟩]):=by unfold F34;simp
theorem I71 {h:CHunk} {ls:List Row} (hl:hs.getLast?=some h) (hne:ls≠[]):Sees P nt fr (X0 w d n hs h.At ls) fr (F34 w d n (hs.dropLast++[⟨h.At,ls⟩])):=by
 have h2:=E49 hl
 have hlen:(hs.dropLast++[(⟨h.At,ls⟩:CHunk)]).length=hs.length:=by
  conv=>rhs;rw [h2]
  simp
 have hO:F34 w d n (hs.dropLast++[⟨h.At,ls⟩])=X0 w d n (hs.dropLast++[⟨h.At,ls⟩]) h.At ls:=by
  unfold F34
  cases ls with
  | nil=>exact absurd rfl hne
  | cons x r=>simp
 rw [hO]
 have h3:=Sees.reA (P:=P) (nt:=nt) (fr:=fr) (ob:=X0 w d n hs h.At ls) 731 (hs.dropLast++[⟨h.At,ls⟩]) rfl hlen (by
  intro i hi
  have hd:hs.dropLast.length=hs.length - 1:=by rw [List.length_dropLast]
  rcases Nat.lt_or_ge i (hs.length - 1) with h4 | h4
  ·rw [K69 (by omega)]
   conv=>rhs;rw [h2]
   rw [K69 (by omega)]
  ·rw [K79 (by omega),K79 (by omega)])
 rw [show (hs.length - 1)=(hs.dropLast++[(⟨h.At,ls⟩:CHunk)]).length - 1 by rw [hlen]] at h3
 exact h3.trans (K24 (ObIn.spec ⟨rfl,rfl,rfl,rfl,trivial⟩))
end
theorem I18 {x:CHunk} (j:Nat) (rd:Rd) (u:Value) (h:(A58 x j).rep rd u):(L5 x j).rep rd u:=by
 match j with
 | 0=>exact h
 | j+1 =>
  obtain ⟨a,ls⟩:=x
  cases ls with
  | nil =>
   have h:(Cell.v (.slice none 0 0)).rep rd u:=h
   obtain ⟨rfl,_⟩:=h
   exact P1 _ _ _
  | cons y r=>exact h
def Z5 (l:List Str):List PV:=match Z1 l with
 | some p=>[N7 p,E8 true]
 | none=>[N7 comb0,E8 false]
set_option maxHeartbeats 4000000
theorem J24 (l:List Str) (hw:(l.map A43).sum≤268435456) (hsz:∀s∈l,s.length≤4194304):FnOk Tryz.prog 118 [Z6 l] (fun rs=>rs=Z5 l):=by
 have hll:420*l.length≤(l.map A43).sum:=by
  clear hw hsz
  induction l with
  | nil=>simp
  | cons x r ih =>
   have e:A43 x=420*(x.length+1):=rfl
   simp only [K63,K85,K58,e];omega
 by_cases hlen:l.length < 2
 ·have hp:Z1 l=none:=by
   match l,hlen with
   | [],_=>rfl
   | [_],_=>rfl
  have hb:decide ((l.length:Int) < 2)=true:=decide_eq_true (by omega)
  refine FnOk.intro Tryz.func118 (by decide) Z Z Z Z ?_
  refine k2 ?_
  refine A4 (C7 (G4 2 Z) Z (A3 (A6 Z Z) Z (A7 ?_)))
  refine k1 (k2 ?_)
  refine A4 (A3 (F3 Z) Z (C7 (T7 730 Z Z Z) Z (A3 (A6 Z Z) Z (A7 ?_))))
  refine k1 (k2 (k2 ?_))
  refine D7 (by kernel_rfl) (by kernel_rfl) (B1 (A5 Z Z) Z Z (B1 (F4 Z (.pure _ _ _ _)) Z Z (B1 (E5 Z Z) Z Z (B1 (A5 Z Z) Z Z (A54 Z Z (by rw [hb];decide) Z Z ?_)))));refine A54 Z Z (by rw [hb];decide) Z Z ?_;refine A54 Z Z (by rw [hb];decide) Z Z ?_;refine A54 Z Z (by rw [hb];decide) Z Z ?_;refine A54 Z Z (by rw [hb];decide) Z Z ?_;refine A54 Z Z (by rw [hb];decide) Z Z ?_;refine A54 Z Z (by rw [hb];decide) Z Z ?_;refine A54 Z Z (by rw [hb];decide) Z Z ?_;refine A54 Z Z (by rw [hb];decide) Z Z ?_;refine B1 (G90 Z (hb) Z) Z Z (M2 ?_)
  refine k1 ?_
  refine B4 rfl (fun ht=>?_) (fun ht=>?_)
  rotate_left
  ·cases ht
  refine k2 ?_
  refine A4 (A3 (F3 Z) Z (E1 (B7 TySz.out Z Z Z Z Z Z) (A3 (A6 Z Z) Z (A7 ?_))))
  refine k1 ?_
  refine E6 (K21 CHunk 2 L5 2 3 Z Z) ?_
  refine k10 (k11 ?_)
  exact B8 (rs:=[N7 comb0,E8 false]) (Q3 rfl rfl rfl rfl rfl rfl rfl) (by unfold Z5;rw [hp])
 obtain ⟨l0,l1,R,rfl⟩:∃a b r,l=a::b::r:=by
  match l,hlen with
  | a::b::r,_=>exact ⟨a,b,r,rfl⟩
  | [],h=>exact absurd (by simp) h
  | [_],h=>exact absurd (by simp) h
 have z0:=hsz l0 (by simp)
 have z1:=hsz l1 (by simp)
 have hWR:(R.map A43).sum≤268435456:=by simp only [K63,K85] at hw;omega
 have hRl:R.length≤16777216:=by simp only [K58] at hll;omega
 clear hw hll
 have hb:decide (((l0::l1::R).length:Int) < 2)=false:=decide_eq_false (by simp only [K58];omega)
 have hg0:(l0::l1::R)[(0:Int).toNat]?=some l0:=rfl
 have hg1:(l0::l1::R)[(1:Int).toNat]?=some l1:=rfl
 have hm:=fun gf=>I16 (gf:=gf) l0 l1 z0 z1
 cases hT:s5 true l0 l1 with
 | none =>
  rw [hT] at hm
  have hp:Z1 (l0::l1::R)=none:=by unfold Z1;dsimp only;rw [hT]
  refine FnOk.intro Tryz.func118 (by decide) Z Z Z Z ?_
  refine k2 ?_
  refine A4 (C7 (G4 2 Z) Z (A3 (A6 Z Z) Z (A7 ?_)))
  refine k1 (k2 ?_)
  refine A4 (A3 (F3 Z) Z (C7 (T7 730 Z Z Z) Z (A3 (A6 Z Z) Z (A7 ?_))))
  refine k1 (k2 (k2 ?_))
  refine B43 11 (by kernel_rfl) (by kernel_rfl) Z (B1 (A5 Z Z) Z Z (B1 (F4 Z (.pure _ _ _ _)) Z Z (B1 (E5 Z Z) Z Z (B1 (A5 Z Z) Z Z (B99 Z Z hb Z (B1 (A5 Z Z) Z Z (B99 Z Z hb Z (B1 (A5 Z Z) Z Z (B99 Z Z hb Z (B1 (C0 Z (.pure _ _ _ _) Z (by omega) hg0) Z Z (B99 Z Z hb Z (B1 (C9 Z Z) Z Z (B99 Z Z hb Z (B1 (A5 Z Z) Z Z (B99 Z Z hb Z (B1 (C0 Z (.pure _ _ _ _) Z (by omega) hg1) Z Z (B99 Z Z hb Z (B1 (C9 Z Z) Z Z (M2 (F55 Z Z hb (C71 (hm _) Z Z Z ?_)))))))))))))))))))));rintro _ _ ⟨w,d,n,ok,rfl,rfl,rfl⟩;refine ⟨_,rfl,?_⟩;refine B99 Z Z hb Z (B1 (F7 Z) Z Z (B1 (C72 Z (hb) Z) Z Z (M2 ?_)))
  refine k1 ?_
  refine B4 rfl (fun ht=>?_) (fun ht=>?_)
  rotate_left
  ·cases ht
  refine k2 ?_
  refine A4 (A3 (F3 Z) Z (E1 (B7 TySz.out Z Z Z Z Z Z) (A3 (A6 Z Z) Z (A7 ?_))))
  refine k1 ?_
  refine E6 (K21 CHunk 2 L5 2 3 Z Z) ?_
  refine k10 (k11 ?_)
  exact B8 (rs:=[N7 comb0,E8 false]) (Q3 rfl rfl rfl rfl rfl rfl rfl) (by unfold Z5;rw [hp])
 | some q =>
  obtain ⟨d,w,n⟩:=q
  rw [hT] at hm
  have hn:=F77 hT
  obtain ⟨N,rfl⟩:∃N:Nat,n=N:=⟨n.toNat,by omega⟩
  have hN:1≤N∧N≤32:=by omega
  have hPs:∀hs,Z0 N [] R=some hs→[N7 ⟨w,d,N,hs⟩,E8 true]=Z5 (l0::l1::R):=by
   intro hs h
   have:Z1 (l0::l1::R)=some ⟨w,d,N,hs⟩:=by unfold Z1;dsimp only;rw [hT];dsimp only;rw [K62,h]
   unfold Z5;rw [this]
  have hnone:Z0 N [] R=none→[N7 comb0,E8 false]=Z5 (l0::l1::R):=by
   intro h
   have:Z1 (l0::l1::R)=none:=by unfold Z1;dsimp only;rw [hT];dsimp only;rw [K62,h]
   unfold Z5;rw [this]
  refine FnOk.intro Tryz.func118 (by decide) Z Z Z Z ?_
  refine k2 ?_
  refine A4 (C7 (G4 2 Z) Z (A3 (A6 Z Z) Z (A7 ?_)))
  refine k1 (k2 ?_)
  refine A4 (A3 (F3 Z) Z (C7 (T7 730 Z Z Z) Z (A3 (A6 Z Z) Z (A7 ?_))))
  refine k1 (k2 (k2 ?_))
  refine B43 11 (by kernel_rfl) (by kernel_rfl) Z (B1 (A5 Z Z) Z Z (B1 (F4 Z (.pure _ _ _ _)) Z Z (B1 (E5 Z Z) Z Z (B1 (A5 Z Z) Z Z (B99 Z Z hb Z (B1 (A5 Z Z) Z Z (B99 Z Z hb Z (B1 (A5 Z Z) Z Z (B99 Z Z hb Z (B1 (C0 Z (.pure _ _ _ _) Z (by omega) hg0) Z Z (B99 Z Z hb Z (B1 (C9 Z Z) Z Z (B99 Z Z hb Z (B1 (A5 Z Z) Z Z (B99 Z Z hb Z (B1 (C0 Z (.pure _ _ _ _) Z (by omega) hg1) Z Z (B99 Z Z hb Z (B1 (C9 Z Z) Z Z (M2 (F55 Z Z hb (C71 (hm _) Z Z Z ?_)))))))))))))))))))));rintro _ _ ⟨w',d',n',ok,rfl,rfl,rfl,rfl,rfl,rfl⟩;refine ⟨_,rfl,?_⟩;refine B99 Z Z hb Z (B1 (F7 Z) Z Z (B1 (C72 Z (hb) Z) Z Z (M2 ?_)))
  refine k1 ?_
  refine B4 rfl (fun ht=>?_) (fun ht=>?_)
  ·cases ht
  refine k5 (k1 (k2 (k2 ?_)))
  refine A4 (A3 (A5 Z Z) Z (A3 (A63 Z (.pure _ _ _ _) Z (by (first | omega | (simp only [K58];omega))) (by (first | omega | (simp only [K58];omega)))) Z (A3 (F4 Z (.pure _ _ _ _)) Z (A3 (A5 Z Z) Z (A7 ?_)))))
  refine k1 (k3 ?_)
  refine E6 (K35 731 CHunk 2 A58 59 (kb:=730) (o:=3) Z Z Z) ?_
  refine E4 (X:=Nat × List CHunk) (fun x=>([(4,.s (.one (.ref 730 0))),(2,.s (.one (.ref 2 0))),(25,D3 Str 1 L0 R),(26,C2 R.length),(27,C2 x.1)],F34 w' d' N x.2)) (fun x=>x.1≤R.length∧CInv N x.2∧szC x.2≤wgTo R x.1∧Z0 N x.2 (R.drop x.1)=Z0 N [] R) (fun x=>R.length - x.1) (0,[]) ⟨Nat.zero_le _,(fun h hh=>(by cases hh)),(by simp [szC]),rfl⟩ (K19 ⟨le1 rfl,le1 rfl,le1 rfl,le1 rfl,le1 rfl,trivial⟩ ⟨rfl,rfl,rfl,trivial⟩) ?_
  rintro ⟨k,hs⟩ ⟨hk,hci,hz,hf⟩
  dsimp only at hk hci hz hf ⊢
  have hzb:wgTo R k≤(R.map A43).sum:=by
   unfold wgTo
   conv=>rhs;rw [←K95 k R,K73,K99]
   omega
  have hsl:=D07 hs
  refine k2 ?_
  refine A4 (A3 (E5 Z Z) Z (A7 ?_))
  refine k1 (k2 ?_)
  refine B4 rfl (fun ht=>?_) (fun ht=>?_)
  ·have hlt:k < R.length:=by have:=A0 ht;omega
   obtain ⟨x,hx⟩:∃x,x=R[k]:=⟨_,rfl⟩
   have hv:R[k]?=some x:=by rw [hx];simp [hlt]
   have hxz:=hsz x (by simp [K75 hv])
   have hwk:=J17 hlt
   rw [←hx] at hwk
   rw [K64 hlt,←hx,Z0] at hf
   have hstep:∀{g},V2 N hs x=some g→Z0 N g (R.drop (k+1))=Z0 N [] R∧szC g≤wgTo R (k+1)∧CInv N g:=by
    intro g hg
    rw [hg] at hf
    have h3:=H14 hN hg hci
    exact ⟨hf,by omega,h3.2⟩
   have hfail:V2 N hs x=none→Z0 N [] R=none:=by intro h;rw [h] at hf;exact hf.symm
   clear hf hx
   refine k5 (k1 (k2 (k3 (k2 ?_))))
   refine A4 (A3 (C0 Z (.pure _ _ _ _) Z (by omega) hv) Z (A3 (C9 Z Z) Z (A3 (A6 Z Z) Z (A7 ?_))))
   refine k1 (k2 ?_)
   by_cases h64:x.take 1=[64]
   ·refine E6 (G42 Z) ?_
    refine L8 [(4,.s (.one (.ref 730 0))),(2,.s (.one (.ref 2 0))),(25,D3 Str 1 L0 R),(26,C2 R.length),(27,C2 k),(6,J0 x)] (W9 w' d' N hs) (K19 ⟨le1 rfl,le1 rfl,le1 rfl,le1 rfl,le1 rfl,le1 rfl,trivial⟩ ⟨rfl,rfl,rfl,trivial⟩) ?_
    have hm:=J88 x R k w' d' N hs hN (by omega) hxz h64
    cases hh:A35 N x with
    | none =>
     rw [hh] at hm
     have hst:V2 N hs x=none:=by unfold V2;rw [if_pos h64,hh]
     refine A4 (A3 (A5 Z Z) Z (A3 (A5 Z Z) Z (U3 (hm) Z Z Z ?_)));rintro _ _ ⟨rfl,rfl⟩;refine A3 (F7 Z) Z (A7 ?_)
     refine k1 ?_
     refine B4 rfl (fun ht=>?_) (fun ht=>?_)
     ·refine k2 ?_
      refine A4 (A3 (F3 Z) Z (E1 (B7 TySz.out Z Z Z Z Z Z) (A3 (A6 Z Z) Z (A7 ?_))))
      refine k1 ?_
      refine E6 (K21 CHunk 2 L5 2 3 Z Z) ?_
      refine k10 (k12 (k11 (k11 (k12 (k11 ?_)))))
      exact B8 (rs:=[N7 comb0,E8 false]) (Q3 rfl rfl rfl rfl rfl rfl rfl) (hnone (hfail hst))
     ·cases ht
    | some a =>
     rw [hh] at hm
     have hst:V2 N hs x=some (hs++[⟨a,[]⟩]):=by unfold V2;rw [if_pos h64,hh]
     obtain ⟨s1,s2,s3⟩:=hstep hst
     refine A4 (A3 (A5 Z Z) Z (A3 (A5 Z Z) Z (U3 (hm) Z Z Z ?_)));rintro _ _ ⟨rfl,rfl⟩;refine A3 (F7 Z) Z (A7 ?_)
     refine k1 ?_
     refine B4 rfl (fun ht=>?_) (fun ht=>?_)
     ·cases ht
     refine k5 (k4 (k1 ?_))
     refine A4 (A3 (C6 Z Z (by omega)) Z (A3 (A5 Z Z) Z (A7 ?_)))
     refine k1 ?_
     refine ⟨(k+1,hs++[⟨a,[]⟩]),⟨hlt,s3,s2,s1⟩,by dsimp only;omega,?_⟩
     dsimp only
     rw [ofShutC]
     exact K19 ⟨le1 rfl,le1 rfl,le1 rfl,le1 rfl,le1 rfl,trivial⟩ ⟨rfl,rfl,rfl,trivial⟩
   cases hl:hs.getLast? with
   | none =>
    have hn0:hs=[]:=List.getLast?_eq_none_iff.1 hl
    subst hn0
    have hst:V2 N [] x=none:=by unfold V2;rw [if_neg h64,if_pos rfl]
    have hm:=J21 x R k w' d' N h64
    refine E6 (G42 Z) ?_
    refine L8 [(4,.s (.one (.ref 730 0))),(2,.s (.one (.ref 2 0))),(25,D3 Str 1 L0 R),(26,C2 R.length),(27,C2 k),(6,J0 x)] (W9 w' d' N []) (K19 ⟨le1 rfl,le1 rfl,le1 rfl,le1 rfl,le1 rfl,le1 rfl,trivial⟩ ⟨rfl,rfl,rfl,trivial⟩) ?_
    refine A4 (A3 (A5 Z Z) Z (A3 (A5 Z Z) Z (U3 (hm) Z Z Z ?_)));rintro _ _ ⟨rfl,rfl⟩;refine A3 (F7 Z) Z (A7 ?_)
    refine k1 ?_
    refine B4 rfl (fun ht=>?_) (fun ht=>?_)
    ·refine k2 ?_
     refine A4 (A3 (F3 Z) Z (E1 (B7 TySz.out Z Z Z Z Z Z) (A3 (A6 Z Z) Z (A7 ?_))))
     refine k1 ?_
     refine E6 (K21 CHunk 2 L5 2 3 Z Z) ?_
     refine k10 (k12 (k11 (k11 (k12 (k11 ?_)))))
     exact B8 (rs:=[N7 comb0,E8 false]) (Q3 rfl rfl rfl rfl rfl rfl rfl) (hnone (hfail hst))
    ·cases ht
   | some h =>
    have hne:hs≠[]:=by intro e;rw [e] at hl;cases hl
    have h0:0 < hs.length:=List.length_pos_iff.2 hne
    have hmem:=D06 (List.mem_of_getLast? hl)
    have hrl:=l4 h.Rows
    have hmem2:(h.Rows.map Q4).sum≤szC hs:=by
     rw [B87] at hmem;omega
    refine E6 (toOpenC Z hl) ?_
    refine L8 [(4,.s (.one (.ref 730 0))),(2,.s (.one (.ref 2 0))),(25,D3 Str 1 L0 R),(26,C2 R.length),(27,C2 k),(6,J0 x)] (X0 w' d' N hs h.At h.Rows) (K19 ⟨le1 rfl,le1 rfl,le1 rfl,le1 rfl,le1 rfl,le1 rfl,trivial⟩ ⟨rfl,rfl,rfl,rfl,trivial⟩) ?_
    by_cases hno:x=noNl
    ·subst hno
     have hm:=J22 R k w' d' N hs h.At h.Rows h0 (by omega) (by omega) (fun r hr=>by
      have h5:=D47 hr
      have h6:Q4 r=r.Text.length+96:=rfl
      omega)
     cases hx2:h.Rows.getLast? with
     | none =>
      rw [hx2] at hm
      have hst:V2 N hs noNl=none:=by
       unfold V2;rw [if_neg h64,if_neg hne,if_pos rfl];unfold E89;rw [hl];dsimp only;rw [hx2]
      refine A4 (A3 (A5 Z Z) Z (A3 (A5 Z Z) Z (U3 (hm) Z Z Z ?_)));rintro _ _ ⟨rfl,rfl⟩;refine A3 (F7 Z) Z (A7 ?_)
      refine k1 ?_
      refine B4 rfl (fun ht=>?_) (fun ht=>?_)
      ·refine k2 ?_
       refine A4 (A3 (F3 Z) Z (E1 (B7 TySz.out Z Z Z Z Z Z) (A3 (A6 Z Z) Z (A7 ?_))))
       refine k1 ?_
       refine E6 (K21 CHunk 2 L5 2 3 Z Z) ?_
       refine k10 (k12 (k11 (k11 (k12 (k11 ?_)))))
       exact B8 (rs:=[N7 comb0,E8 false]) (Q3 rfl rfl rfl rfl rfl rfl rfl) (hnone (hfail hst))
      ·cases ht
     | some r =>
      rw [hx2] at hm
      have hst:V2 N hs noNl=some (hs.dropLast++[⟨h.At,h.Rows.dropLast++[⟨r.Lost,r.Marks,B66 r.Text⟩]⟩]):=by
       unfold V2;rw [if_neg h64,if_neg hne,if_pos rfl];unfold E89;rw [hl];dsimp only;rw [hx2]
      obtain ⟨s1,s2,s3⟩:=hstep hst
      refine A4 (A3 (A5 Z Z) Z (A3 (A5 Z Z) Z (U3 (hm) Z Z Z ?_)));rintro _ _ ⟨rfl,rfl⟩;refine A3 (F7 Z) Z (A7 ?_)
      refine k1 ?_
      refine B4 rfl (fun ht=>?_) (fun ht=>?_)
      ·cases ht
      refine k5 (k4 (k1 ?_))
      refine A4 (A3 (C6 Z Z (by omega)) Z (A3 (A5 Z Z) Z (A7 ?_)))
      refine k1 ?_
      refine ⟨(k+1,hs.dropLast++[⟨h.At,h.Rows.dropLast++[⟨r.Lost,r.Marks,B66 r.Text⟩]⟩]),⟨hlt,s3,s2,s1⟩,by dsimp only;omega,?_⟩
      refine Sees.trans ?_ (I71 hl (by simp))
      exact K19 ⟨le1 rfl,le1 rfl,le1 rfl,le1 rfl,le1 rfl,trivial⟩ ⟨rfl,rfl,rfl,rfl,trivial⟩
    ·have hm:=J23 x R k w' d' N hs h.At h.Rows h0 (by omega) (by omega) hxz h64 hno
     have hro:AL.rowAt (x++[10]) N=A76 (x++[10]) (N:Int):=by unfold A76;rw [if_neg (by omega),K62]
     cases hr:A76 (x++[10]) (N:Int) with
     | none =>
      rw [hr] at hm hro
      have hst:V2 N hs x=none:=by unfold V2;rw [if_neg h64,if_neg hne,if_neg hno,hro]
      refine A4 (A3 (A5 Z Z) Z (A3 (A5 Z Z) Z (U3 (hm) Z Z Z ?_)));rintro _ _ ⟨rfl,rfl⟩;refine A3 (F7 Z) Z (A7 ?_)
      refine k1 ?_
      refine B4 rfl (fun ht=>?_) (fun ht=>?_)
      ·refine k2 ?_
       refine A4 (A3 (F3 Z) Z (E1 (B7 TySz.out Z Z Z Z Z Z) (A3 (A6 Z Z) Z (A7 ?_))))
       refine k1 ?_
       refine E6 (K21 CHunk 2 L5 2 3 Z Z) ?_
       refine k10 (k12 (k11 (k11 (k12 (k11 ?_)))))
       exact B8 (rs:=[N7 comb0,E8 false]) (Q3 rfl rfl rfl rfl rfl rfl rfl) (hnone (hfail hst))
      ·cases ht
     | some r =>
      rw [hr] at hm hro
      have hst:V2 N hs x=some (hs.dropLast++[⟨h.At,h.Rows++[r]⟩]):=by unfold V2;rw [if_neg h64,if_neg hne,if_neg hno,hro];dsimp only;unfold G68;rw [hl]
      obtain ⟨s1,s2,s3⟩:=hstep hst
      refine A4 (A3 (A5 Z Z) Z (A3 (A5 Z Z) Z (U3 (hm) Z Z Z ?_)));rintro _ _ ⟨rfl,rfl⟩;refine A3 (F7 Z) Z (A7 ?_)
      refine k1 ?_
      refine B4 rfl (fun ht=>?_) (fun ht=>?_)
      ·cases ht
      refine k5 (k4 (k1 ?_))
      refine A4 (A3 (C6 Z Z (by omega)) Z (A3 (A5 Z Z) Z (A7 ?_)))
      refine k1 ?_
      refine ⟨(k+1,hs.dropLast++[⟨h.At,h.Rows++[r]⟩]),⟨hlt,s3,s2,s1⟩,by dsimp only;omega,?_⟩
      refine Sees.trans ?_ (I71 hl (by simp))
      exact K19 ⟨le1 rfl,le1 rfl,le1 rfl,le1 rfl,le1 rfl,trivial⟩ ⟨rfl,rfl,rfl,rfl,trivial⟩
  ·have hk2:k=R.length:=by have:=A1 ht;omega
   subst hk2
   rw [K66 (Nat.le_refl _)] at hf
   have hf:some hs=Z0 N [] R:=hf
   refine k6 (k2 ?_)
   refine E6 (G42 Z) ?_
   refine E6 (K46 731 L5 Z (fun x _ j _ rd u=>I18 j rd u)) ?_
   refine E6 (Sees.freezeG (k:=731) Z Z) ?_
   refine L8 [(4,.s (.one (.ref 730 0))),(2,.s (.one (.ref 2 0)))] [(730,.box [.p (.v (.string ⟨w'.toArray⟩)),.p (.v (.bool d')),.p (.v (.int .i64 N)),.p (.list CHunk 2 L5 hs)]),(2,T8)] (K19 ⟨le1 rfl,le1 rfl,trivial⟩ ⟨rfl,rfl,trivial⟩) ?_
   refine A4 (A3 (A5 Z Z) Z (A3 (B2 Z) Z (A3 (A8 Z) Z (A3 (D2 Z Z Z) Z (E1 (B7 TySz.out Z Z Z Z Z Z) (A3 (A6 Z Z) Z (A7 ?_)))))))
   refine k1 (k10 ?_)
   exact B8 (rs:=[N7 ⟨w',d',N,hs⟩,E8 true]) (Q3 rfl rfl rfl rfl rfl rfl rfl) (hPs hs hf.symm)
theorem J89 {s:Str} {l:List Str} (h:x3 s=some l):(l.map A43).sum≤420*s.length:=by
 unfold x3 at h
 split at h
 ·cases h;simp
 ·split at h
  ·have h:(C1 s).map List.dropLast=l:=Option.some.inj h
   obtain ⟨f1,f2⟩:=C45 s
   have hsum:∀L:List Str,(∀x∈L,x≠[])→((L.map List.dropLast).map A43).sum≤420*L.flatten.length:=by
    intro L
    induction L with
    | nil=>intro _;simp
    | cons x r ih =>
     intro hne
     have ih:=ih (fun y hy=>hne y (by simp [hy]))
     have hx:=List.length_pos_iff.2 (hne x (by simp))
     simp only [K63,K85,K72,K56]
     have e:A43 x.dropLast=420*(x.dropLast.length+1):=rfl
     rw [e,List.length_dropLast]
     omega
   have hs:=hsum (C1 s) (fun x hx=>((w8 x).1 ((i8 s).1 x hx)).1)
   rw [h] at hs
   omega
  ·cases h
def H18 (f:List Str→Option Comb) (s:Str):List PV:=[N7 (B14 f s).1,F0 (B14 f s).2]
end Go.Proofs.YtbiadkkamhpdnaaGreatDoor
