
/- Walks of the program's functions. -/
import Derived.Test.YtmbpmaofnddkoaaGreatDoorFd
set_option linter.all false
namespace Go.Proofs.YtmbpmaofnddkoaaGreatDoor
open Go Go.AL
open Go.Proofs.Tryz (prog)
set_option maxRecDepth 100000
set_option maxHeartbeats 4000000
abbrev lE(ns:List AL.Node)(w:List Int):Ob:=.box [.p (.list AL.Node 8 gF ns),.p (.list Int 1 E0 w),.mut 821]
abbrev bK(l:List AL.State):Ob:=.grow 209 AL.State 7 gI l
abbrev lF:S1:=.one (.ref 820 0)
theorem ZL{K:List Nat}{T rest:Obs}{k:Nat}(c:B0 rest k=none)(h:∀j x,E8 K j=false->B0 rest j=some x->B0 T j=some x):∀j x,E8 K j=false->B0 rest j=some x->B0 (Obs.drop k T) j=some x:=by
 intro j x b a;have:j≠k:=fun e=>by rw[e,c]at a;cases a
 rw[jY this];exact h j x b a
theorem cO{gf:Fr}{ob:Obs}{ns:List AL.Node}{w:List Int}(l:List AL.State)(q:AL.State)(m:l.length<=100000)(i:B0 ob 820=some (lE ns w))(k:B0 ob 821=some (bK l)) :
  AL.Met prog 109 [lF,(VN q).s1] gf ob [821] (fun rs ob'=>rs=[Q5 l.length]/\ob'=(820,lE ns w)::(821,bK (l++[q]))::Obs.forget 821 ob):=by
 refine AL.Met.introH Tryz.func109 F5 rfl rfl rfl (fun d=>?_);refine C3 (A92 821 (l:=[(0,.s lF),(1,.s (VN q).s1)]) (L:=[(820,_),(821,_)]) lf d L6 ⟨i,k,trivial⟩) ?_;refine N0 ?_;refine C3 (A91 (gf':=Fr.forget 821 gf) (l:=[(0,.s lF),(3,.s (.one (.eref Unit 7 (fun _ j=>(cellsOf gI q 0 7).getD j (.v undef)) () 0)))]) (ob':=[(820,lE ns w),(821,bK l)]++Obs.forget 821 ob) lf (P1 d) L6 (fun _ _ h=>h)) ?_;refine L8 [10,7] [[],[7],[10,7]] [(7,([821],[9])),(10,([],[]))] [(0,[]),(1,[]),(2,[]),(3,[]),(4,[]),(5,[]),(6,[]),(7,[]),(8,[7]),(9,[7]),(10,[7])] [(0,[7])] E7 E7 (C8 A0 A0 E7 A0 A0 (C4 A0 A0) (C8 A0 A0 E7 A0 A0 (C4 A0 A0) (C8 A0 A0 E7 A0 A0 (C9 A0) (C8 A0 A0 E7 A0 A0 (D3 A0) (C8 A0 A0 E7 A0 A0 (D1 A0 A0 A0) (C8 A0 A0 E7 A0 A0 (I1 A0 A0) (C8 A0 A0 E7 A0 A0 (B8 (c:=gI) (ys:=[q]) (C5 A0 A0 A0 A0 E5) A0 A0 A0) (Y4 A0 A0 E7 A0 A0 (vX (fun b a=>R5 (T4 a A0) A0 (T4 a A0) (.pure _ _ _ _) NZ A0)) A0 (C8 A0 A0 E7 A0 A0 (C9 A0) (C8 A0 A0 E7 A0 A0 (D3 A0) (Y4 A0 A0 E7 A0 A0 (gS (fun b a=>I9 TySz.out (T4 a A0) A0 (T4 a A0) A0 A0 A0)) A0 ?_)))))))))));refine vY (ks:=[821]) rfl E7 rfl ?_ ?_
 ·refine J1 A0 A0 E7 A0 A0 (C4 A0 A0) ?_;exact jT
 refine J5 ?_;refine A9 (S7 A0 A0 (by (simp only[B25,B41];omega))) A0 (H8 ?_);refine D7 Y5 b9w (D4 (L:=[(820,_),(821,_)]) ⟨rfl,rfl,trivial⟩ b7w) ⟨?_,rfl⟩;rw[B25,B41]
 congr 5
 omega
section
variable (ns:List AL.Node) (w:List Int)
theorem u9:∀f:Nat,(∀i next st st' r,X5 ns w f i next st=some (st',r)->st.length<=st'.length)/\(∀c next st st' r,RB ns w f c next st=some (st',r)->st.length<=st'.length)/\(∀c next s0 st st' r,LV ns w f c next s0 st=some (st',r)->st.length<=st'.length) /\
  (∀b m last next st st' r,EA ns w f b m last next st=some (st',r)->st.length<=st'.length)/\(∀b m next st st' r,EB ns w f b m next st=some (st',r)->st.length<=st'.length)
 | 0=>⟨(fun _ _ _ _ _ h=>by cases h),(fun _ _ _ _ _ h=>by cases h),(fun _ _ _ _ _ _ h=>by cases h),(fun _ _ _ _ _ _ _ h=>by cases h),(fun _ _ _ _ _ _ h=>by cases h)⟩
 | f + 1=>by
  obtain⟨d,n,l,o,j⟩:=u9 f;refine⟨fun i next st st' r h=>?_,fun c next st st' r h=>?_,fun c next s0 st st' r h=>?_,fun b m last next st st' r h=>?_,fun b m next st st' r h=>?_⟩
  ·rw[X5]at h;dsimp only at h;split at h
   ·cases h;exact B29 _
   split at h
   ·cases h;simp
   split at h
   ·cases h;simp
   split at h
   ·cases h;simp
   split at h
   ·exact n _ _ _ _ _ h
   split at h
   ·split at h
    ·cases h
    ·split at h
     ·cases h
     ·rename_i a;exact B72 (d _ _ _ _ _ a) (l _ _ _ _ _ _ h)
   split at h
   ·split at h
    ·split at h
     ·cases h
     ·rename_i a;have g:=d _ _ _ _ _ a;have e:=j _ _ _ _ _ _ h;rw[B25,B41]at g;rw[B76]at e;omega
    ·split at h
     ·cases h
     ·rename_i a;exact B72 (o _ _ _ _ _ _ _ a) (j _ _ _ _ _ _ h)
   ·cases h;exact B29 _
  ·cases c with
   | nil=>rw[RB]at h;cases h;exact B29 _
   | cons k c =>
    rw[RB]at h;split at h
    ·cases h
    ·rename_i a;exact B72 (d _ _ _ _ _ a) (n _ _ _ _ _ h)
  ·cases c with
   | nil=>rw[LV]at h;cases h;exact B29 _
   | cons k c =>
    rw[LV]at h;split at h
    ·cases h
    ·rename_i a;have g:=d _ _ _ _ _ a;have e:=l _ _ _ _ _ _ h;rw[B25,B41]at e;omega
  ·cases m with
   | zero=>rw[EA]at h;cases h;exact B29 _
   | succ m =>
    rw[EA]at h;split at h
    ·cases h
    ·rename_i a;have g:=d _ _ _ _ _ a;have e:=o _ _ _ _ _ _ _ h;rw[B25,B41]at e;omega
  ·cases m with
   | zero=>rw[EB]at h;cases h;exact B29 _
   | succ m =>
    rw[EB]at h;split at h
    ·cases h
    ·rename_i a;exact B72 (d _ _ _ _ _ a) (j _ _ _ _ _ _ h)
end
def BV(ns:List AL.Node)(w:List Int)(f:Nat):Prop:=∀(i:Int) (next:Int) (st st':List AL.State) (r:Int),X5 ns w f i next st=some (st',r)->(0<=i/\i<ns.length)->st'.length<=20000 ->
 ∀{gf:Fr} {ob:Obs},B0 ob 820=some (lE ns w)->B0 ob 821=some (bK st)->B0 ob 824=none ->
  AL.Met prog 110 [lF,Q5 i,Q5 next] gf ob [821,824] (fun a ob'=>a=[Q5 r]/\ob'=(820,lE ns w)::(821,bK st')::F2 [821,824] ob)
theorem taker{a:List Int}{j:Nat}{k:Int}(h:a[j]?=some k):(a.take (j+1)).reverse=k::(a.take j).reverse:=by
 rw[B48,h,B54,List.reverse_append];rfl
theorem EM{p:Prop}(h:p:=by repeat (first | exact N7 | refine R8 rfl ?_ | refine G8 (by assumption) ?_ | refine TL _ rfl ?_ | refine ZL (by assumption) ?_)):p:=h
theorem jN{p:Prop}(h:p:=by repeat (first | exact R0 | refine tail_drop rfl ?_ | refine P0 rfl ?_ | refine pI _ rfl ?_)):p:=h
theorem TV{ns:List AL.Node}{w:List Int}{F:Nat}(IH:∀g,g<=F->BV ns w g)(d:List Int)(next:Int)(st q st':List AL.State)(s0 r k:Int)(m:List Int)(I:d.reverse=k::m)(B:∀k∈d,0<=k/\k<ns.length)(hkl:d.length<=4000)(hb:X5 ns w F k next st=some (q,s0))(ha:LV ns w F m next s0 q=some (st',r))(hl:st'.length<=20000)
  {gf:Fr}{ob:Obs}(S:B0 ob 820=some (lE ns w))(T:B0 ob 821=some (bK st))(U:B0 ob 824=none) :
  AL.Met prog 146 [lF,.one (.p (.list Int 1 E0 d)),Q5 next] gf ob [821,824] (fun rs ob'=>rs=[Q5 r]/\ob'=(820,lE ns w)::(821,bK st')::F2 [821,824] ob):=by
 have R:d.length=m.length+1:=by have:=congrArg List.length I;rwa[B97,B31]at this
 have K:m=(d.take m.length).reverse:=by
  have E:d=m.reverse++[k]:=by rw[<-List.reverse_reverse d,I,List.reverse_cons]
  rw[E,List.take_append_of_le_length eR,B77 eR,List.reverse_reverse]
 have M:d[(((d.length:Nat):Int)-1).toNat]?=some k:=by
  have E:d=m.reverse++[k]:=by rw[<-List.reverse_reverse d,I,List.reverse_cons]
  rw[show (((d.length:Nat):Int)-1).toNat=m.reverse.length by rw[B97];omega,E];exact List.getElem?_concat_length
 have Z:=(u9 ns w F).2.2.1 _ _ _ _ _ _ ha;refine AL.Met.introH Tryz.func146 F5 rfl rfl rfl (fun C=>?_);refine C3 (A92 821 (l:=[(0,.s lF),(1,B9 Int 1 E0 d),(2,.s (Q5 next))]) (L:=[(820,_),(821,_)]) lf C L6 ⟨S,T,trivial⟩) ?_;refine C3 (Sees.forget 824) ?_;have A:B0 (F2 [821,824] ob) 824=none:=X2 U;refine C3 (A91 (gf':=B2 [821,824] gf) (l:=[(0,.s lF),(1,B9 Int 1 E0 d),(2,.s (Q5 next))]) (ob':=[(820,lE ns w),(821,bK st)]++F2 [821,824] ob) lf (B7 C) jN (D4 (L:=[(820,_),(821,_)]) ⟨rfl,rfl,trivial⟩ SY)) ?_;refine zz 19 ?_;refine M9 (IH F (B29 _) k next st q s0 hb (B k (B43 M)) B3 A0 A0 A) A0 A0 A0 (R9 ?_);refine C1 (X:=Nat×Nat×Int×List AL.State) (fun x=>([(0,.s lF),(1,B9 Int 1 E0 d),(2,.s (Q5 next)),(8,B1 x.2.2.1),(9,B1 ((x.2.1:Int)-1))]++B2 [821,824] gf,[(820,lE ns w),(821,bK x.2.2.2)]++F2 [821,824] ob)) (fun x=>x.1<=F/\x.2.1<=m.length/\LV ns w x.1 (d.take x.2.1).reverse next x.2.2.1 x.2.2.2=some (st',r)) (fun x=>x.2.1) (F,m.length,s0,q) ⟨B29 _,B29 _,by dsimp only;rw[<-K];exact ha⟩ ?_ ?_
 ·dsimp only;rw[show ((m.length:Int)-1)=((d.length:Int)-1-1) by omega];exact A91 lf (B7 C) jN (D4 (L:=[(820,_),(821,_)]) ⟨rfl,rfl,trivial⟩ EM)
 rintro⟨f,c,s1,sx⟩ ⟨Y,V,h⟩;dsimp only at Y V h ⊢;refine zc 6 (fun P=>?_) fun P=>?_;rotate_left
 ·have G:c=0:=by have:=A2 P;omega
  subst G;have H:f≠0:=fun e=>by rw[e]at h;cases h
  obtain⟨f,rfl⟩:∃g,f=g+1:=⟨f-1,by omega⟩
  rw[B68,List.reverse_nil,LV]at h;cases h;refine J5 ?_;exact D7 Y5 jN (D4 (L:=[(820,_),(821,_)]) ⟨rfl,rfl,trivial⟩ EM) ⟨rfl,rfl⟩
 have W:0<c:=by have:=A1 P;omega
 obtain⟨c,rfl⟩:∃g,c=g+1:=⟨c-1,by omega⟩
 obtain⟨z,J⟩:∃z,z=d[c]'B3:=⟨_,rfl⟩
 have j:d[c]?=some z:=by rw[J];exact B23 B3
 have Q:d[(((c+1:Nat):Int)-1).toNat]?=some z:=by rw[show (((c+1:Nat):Int)-1).toNat=c by omega];exact j
 rw[taker j]at h;have H:f≠0:=fun e=>by rw[e]at h;cases h
 obtain⟨f,rfl⟩:∃g,f=g+1:=⟨f-1,by omega⟩
 rw[LV]at h;cases u:X5 ns w f z next sx with
 | none=>rw[u]at h;cases h
 | some y =>
  obtain⟨D,b⟩:=y;rw[u]at h;dsimp only at h;have O:=(u9 ns w f).2.2.1 _ _ _ _ _ _ h;rw[B25,B41]at O;refine o9 ?_;refine M9 (IH f B3 z next sx D b u (B z (B43 j)) B3 A0 A0 A) A0 A0 A0 (H2 ?_);refine M9 (cO D ⟨1,⟨0,0,0,0⟩,b,s1⟩ B3 A0 A0) A0 A0 A0 (J5 ?_);refine⟨(f,c,(D.length:Int),D++[⟨1,⟨0,0,0,0⟩,b,s1⟩]),⟨by dsimp only;omega,by dsimp only;omega,h⟩,by dsimp only;omega,?_⟩;dsimp only;rw[show ((c:Int)-1)=(((c+1:Nat):Int)-1-1) by omega];exact A91 lf (B7 C) jN (D4 (L:=[(820,_),(821,_)]) ⟨rfl,rfl,trivial⟩ EM)
theorem OU{ns:List AL.Node}{w:List Int}{F:Nat}(IH:∀g,g<=F->BV ns w g)(n:AL.Node)(d next:Int)(st p A st':List AL.State)(q M r:Int)(ad:n.Kids[(0:Int).toNat]?=some d)(E:0<=d/\d<ns.length)(ac:0<=n.Min/\n.Min<=100/\(n.Max = -1\/n.Min<=n.Max/\n.Max<=100))
  (W:n.Max<0->∃z a,X5 ns w F d st.length (st++[⟨1,⟨0,0,0,0⟩,0,next⟩])=some (z,a)/\p=z.set st.length { (z.getD st.length cY) with Next:=a }/\q=st.length)(V:¬n.Max<0->p=st/\q=next)
  (K:EA ns w F d (n.Max-n.Min).toNat q q p=some (A,M))(J:EB ns w F d n.Min.toNat M A=some (st',r))(hl:st'.length<=20000)
  {gf:Fr}{ob:Obs}(h0:B0 ob 820=some (lE ns w))(h1:B0 ob 821=some (bK st))(h2:B0 ob 824=none) :
  AL.Met prog 147 [lF,(vF n).s1,Q5 next] gf ob [821,824] (fun rs ob'=>rs=[Q5 r]/\ob'=(820,lE ns w)::(821,bK st')::F2 [821,824] ob):=by
 have ae:=(u9 ns w F).2.2.2.2 _ _ _ _ _ _ J;have Y:=(u9 ns w F).2.2.2.1 _ _ _ _ _ _ _ K;refine AL.Met.introH Tryz.func147 F5 rfl rfl rfl (fun u=>?_);refine C3 (A92 821 (l:=[(0,.s lF),(1,.s (vF n).s1),(2,.s (Q5 next))]) (L:=[(820,_),(821,_)]) lf u L6 ⟨h0,h1,trivial⟩) ?_;refine C3 (Sees.forget 824) ?_;have C:B0 (F2 [821,824] ob) 824=none:=X2 h2;refine C3 (A91 (gf':=B2 [821,824] gf) (l:=[(0,.s lF),(1,.s (vF n).s1),(2,.s (Q5 next))]) (ob':=[(820,lE ns w),(821,bK st)]++F2 [821,824] ob) lf (B7 u) jN (D4 (L:=[(820,_),(821,_)]) ⟨rfl,rfl,trivial⟩ SY)) ?_;refine zz 20 ?_;refine kT ([(0,.s lF),(2,B1 q),(4,.s (.one (.eref Unit 8 (fun _ j=>(cellsOf gF n 0 8).getD j (.v undef)) () 0))),(7,B1 d)]++B2 [821,824] gf) ([(820,lE ns w),(821,bK p)]++F2 [821,824] ob) ?_ ?_
 ·skip;refine zc 0 (fun m=>?_) fun m=>?_
  ·obtain⟨z,a,H,O,P⟩:=W (A1 m);subst O P;have Z:=(u9 ns w F).1 _ _ _ _ _ H;rw[B25,B41]at Z;rw[B76]at Y;refine I0 ?_;refine M9 (cO st ⟨1,⟨0,0,0,0⟩,0,next⟩ B3 A0 A0) A0 A0 A0 (H8 ?_);have U:B0 (Obs.forget 821 (F2 [821,824] ob)) 824=none:=by rw[I8,C];rfl
   refine R6 ?_;refine M9 (IH F (B29 _) d st.length (st++[⟨1,⟨0,0,0,0⟩,0,next⟩]) z a H E B3 A0 A0 U) A0 A0 A0 (H8 ?_);have ab:z[((st.length:Nat):Int).toNat]?=some (z.getD st.length cY):=by
    rw[B26,B30,B23 B3];rfl
   refine C3 (A91 (gf':=B2 [821,824] gf) (l:=[(0,.s lF),(4,.s (.one (.eref Unit 8 (fun _ j=>(cellsOf gF n 0 8).getD j (.v undef)) () 0))),(7,B1 d),(8,B1 st.length),(9,B1 a)]) (ob':=[(820,lE ns w),(821,bK z)]++F2 [821,824] ob) lf (B7 u) jN (D4 (L:=[(820,_),(821,_)]) ⟨rfl,rfl,trivial⟩ EM)) ?_;refine U7 ?_;refine V2 (o8 ({ (z.getD st.length cY) with Next:=a }) TySz.out A0 A0 ab A0 A0 A0 A0 (fun _ _ _ h=>m8 h) (by intro j h1 h2;rcases j with _ | _ | _ | _ | _ | _ | _ | j<;>first | rfl | omega)) ?_;refine I0 ?_;exact A91 lf (B7 u) jN (D4 (L:=[(820,_),(821,_)]) ⟨rfl,rfl,trivial⟩ EM)
  ·obtain⟨O,P⟩:=V (A2 m);subst O P;refine F8 ?_;exact A91 lf (B7 u) jN (D4 (L:=[(820,_),(821,_)]) ⟨rfl,rfl,trivial⟩ EM)
 refine zz 16 ?_;refine C1 (X:=Nat×Nat×Int×List AL.State) (fun x=>([(0,.s lF),(2,B1 x.2.2.1),(4,.s (.one (.eref Unit 8 (fun _ j=>(cellsOf gF n 0 8).getD j (.v undef)) () 0))),(7,B1 d),(10,B1 q),(40,B1 (n.Max-n.Min)),(41,B1 (((n.Max-n.Min).toNat:Int)-x.2.1))]++B2 [821,824] gf,[(820,lE ns w),(821,bK x.2.2.2)]++F2 [821,824] ob)) (fun x=>x.1<=F/\x.2.1<=(n.Max-n.Min).toNat/\EA ns w x.1 d x.2.1 q x.2.2.1 x.2.2.2=some (A,M)) (fun x=>x.2.1) (F,(n.Max-n.Min).toNat,q,p) ⟨B29 _,B29 _,K⟩ ?_ ?_
 ·dsimp only;rw[Int.sub_self];exact A91 lf (B7 u) jN (D4 (L:=[(820,_),(821,_)]) ⟨rfl,rfl,trivial⟩ EM)
 rintro⟨f,c,s1,sx⟩ ⟨S,Q,i⟩;dsimp only at S Q i ⊢;have T:f≠0:=fun e=>by rw[e]at i;cases i
 obtain⟨f,rfl⟩:∃g,f=g+1:=⟨f-1,by omega⟩
 refine zc 5 (fun m=>?_) fun m=>?_
 ·have R:0<c:=by have:=A1 m;omega
  obtain⟨c,rfl⟩:∃g,c=g+1:=⟨c-1,by omega⟩
  rw[EA]at i;cases k:X5 ns w f d s1 sx with
  | none=>rw[k]at i;cases i
  | some y =>
   obtain⟨G,b⟩:=y;rw[k]at i;dsimp only at i;have I:=(u9 ns w f).2.2.2.1 _ _ _ _ _ _ _ i;rw[B25,B41]at I;refine X0 ?_;refine M9 (IH f B3 d s1 sx G b k E B3 A0 A0 C) A0 A0 A0 (H2 ?_);refine M9 (cO G ⟨1,⟨0,0,0,0⟩,b,q⟩ B3 A0 A0) A0 A0 A0 (N0 ?_);refine⟨(f,c,(G.length:Int),G++[⟨1,⟨0,0,0,0⟩,b,q⟩]),⟨by dsimp only;omega,by dsimp only;omega,i⟩,by dsimp only;omega,?_⟩;dsimp only;rw[show (((n.Max-n.Min).toNat:Int)-(c:Int))=((n.Max-n.Min).toNat:Int)-((c+1:Nat):Int)+1 by omega];exact A91 lf (B7 u) jN (D4 (L:=[(820,_),(821,_)]) ⟨rfl,rfl,trivial⟩ EM)
 have B:c=0:=by have:=A2 m;omega
 subst B;rw[EA]at i;cases i;refine U7 ?_;refine C1 (X:=Nat×Nat×Int×List AL.State) (fun x=>([(0,.s lF),(2,B1 x.2.2.1),(7,B1 d),(53,B1 n.Min),(54,B1 (n.Min-x.2.1))]++B2 [821,824] gf,[(820,lE ns w),(821,bK x.2.2.2)]++F2 [821,824] ob)) (fun x=>x.1<=F/\x.2.1<=n.Min.toNat/\EB ns w x.1 d x.2.1 x.2.2.1 x.2.2.2=some (st',r)) (fun x=>x.2.1) (F,n.Min.toNat,M,A) ⟨B29 _,B29 _,J⟩ ?_ ?_
 ·dsimp only;rw[show n.Min-(n.Min.toNat:Int)=0 by omega];exact A91 lf (B7 u) jN (D4 (L:=[(820,_),(821,_)]) ⟨rfl,rfl,trivial⟩ EM)
 rintro⟨f,c,s1,sx⟩ ⟨S,Q,i⟩;dsimp only at S Q i ⊢;have T:f≠0:=fun e=>by rw[e]at i;cases i
 obtain⟨f,rfl⟩:∃g,f=g+1:=⟨f-1,by omega⟩
 refine zc 5 (fun m=>?_) fun m=>?_
 ·have R:0<c:=by have:=A1 m;omega
  obtain⟨c,rfl⟩:∃g,c=g+1:=⟨c-1,by omega⟩
  rw[EB]at i;cases k:X5 ns w f d s1 sx with
  | none=>rw[k]at i;cases i
  | some y =>
   obtain⟨G,b⟩:=y;rw[k]at i;dsimp only at i;have I:=(u9 ns w f).2.2.2.2 _ _ _ _ _ _ i;refine J5 ?_;refine M9 (IH f B3 d s1 sx G b k E B3 A0 A0 C) A0 A0 A0 (N0 ?_);refine⟨(f,c,b,G),⟨by dsimp only;omega,by dsimp only;omega,i⟩,by dsimp only;omega,?_⟩;dsimp only;rw[show (n.Min-(c:Int))=n.Min-((c+1:Nat):Int)+1 by omega];exact A91 lf (B7 u) jN (D4 (L:=[(820,_),(821,_)]) ⟨rfl,rfl,trivial⟩ EM)
 have B:c=0:=by have:=A2 m;omega
 subst B;rw[EB]at i;cases i;refine J5 ?_;exact D7 Y5 jN (D4 (L:=[(820,_),(821,_)]) ⟨rfl,rfl,trivial⟩ EM) ⟨rfl,rfl⟩
theorem TW{ns:List AL.Node}{w:List Int}{F:Nat}(hc:oW ns=0)(hkl:∀n∈ns,n.Kids.length<=4000)(ba:w.length=ns.length)(IH:∀g,g<=F->BV ns w g):BV ns w (F+1):=by
 obtain⟨ax,ay,P⟩:=fP hc;intro i next st st' r d hi S gf ob h0 h1 h2;obtain⟨n,hn⟩:∃n,n=ns[i.toNat]'B3:=⟨_,rfl⟩
 have hv:ns[i.toNat]?=some n:=by rw[hn];exact B23 B3
 obtain⟨ak,hX⟩:=lB (P i.toNat n hv);have I:∀k∈n.Kids,0<=k/\k<ns.length:=fun k hk=>by have:=ak k hk;omega
 have al:=hkl n (B43 hv);have af:ns.getD i.toNat eU=n:=by rw[B30,hv];rfl
 have bc:w[i.toNat]?=some (I6 w i.toNat):=by unfold I6;rw[B23 B3];rfl
 have ap:=(u9 ns w (F+1)).1 _ _ _ _ _ d;rw[X5,af]at d;dsimp only at d;refine AL.Met.introH Tryz.func110 F5 rfl rfl rfl (fun O=>?_);refine C3 (A92 821 (l:=[(0,.s lF),(1,.s (Q5 i)),(2,.s (Q5 next))]) (L:=[(820,_),(821,_)]) lf O L6 ⟨h0,h1,trivial⟩) ?_;refine C3 (Sees.forget 824) ?_;have C:B0 (F2 [821,824] ob) 824=none:=X2 h2;refine C3 (A91 (gf':=B2 [821,824] gf) (l:=[(0,.s lF),(1,.s (Q5 i)),(2,.s (Q5 next))]) (ob':=[(820,lE ns w),(821,bK st)]++F2 [821,824] ob) lf (B7 O) jN (D4 (L:=[(820,_),(821,_)]) ⟨rfl,rfl,trivial⟩ SY)) ?_;refine zc 16 (fun p=>?_) fun p=>?_
 ·rw[A5 (A1 p)]at d;cases d;refine N0 ?_;exact D7 Y5 jN (D4 (L:=[(820,_),(821,_)]) ⟨rfl,rfl,trivial⟩ EM) ⟨rfl,rfl⟩
 rw[A6 (A2 p)]at d;refine R9 ?_;refine B6 (eV 824 C F5) A0 (H2 ?_);refine C3 (B10 (t:=7) (k:=824) (cs:=cellsOf gF n 0 8) A0 A0 A0 A0) (C3 (A91 (gf':=B2 [821,824] gf) (l:=[(0,.s lF),(1,.s (Q5 i)),(2,.s (Q5 next)),(7,.s (.one (.eref Unit 8 (fun _ j=>(cellsOf gF n 0 8).getD j (.v undef)) () 0)))]) (ob':=[(820,lE ns w),(821,bK st)]++F2 [821,824] ob) lf (B7 O) jN (D4 (L:=[(820,_),(821,_)]) ⟨rfl,rfl,trivial⟩ EM)) ?_);refine zc 12 (fun p=>?_) fun p=>?_
 ·have z:=A1 p;rw[A5 z]at d;cases d;refine J5 ?_;refine tE (cO st ⟨0,n.Set,next,0⟩ (by simp only[B25,B41]at S;omega) A0 A0) A0 A0 A0 ?_;rintro _ _ ⟨rfl,rfl⟩;refine H8 ?_;exact D7 Y5 jN (D4 (L:=[(820,_),(821,_)]) ⟨rfl,rfl,trivial⟩ EM) ⟨rfl,rfl⟩
 have V:=A2 p;rw[A6 V]at d;refine zc 5 (fun p=>?_) fun p=>?_
 ·have z:=A1 p;rw[A5 z]at d;cases d;refine I0 ?_;refine tE (cO st ⟨2,⟨0,0,0,0⟩,next,0⟩ (by simp only[B25,B41]at S;omega) A0 A0) A0 A0 A0 ?_;rintro _ _ ⟨rfl,rfl⟩;refine H8 ?_;exact D7 Y5 jN (D4 (L:=[(820,_),(821,_)]) ⟨rfl,rfl,trivial⟩ EM) ⟨rfl,rfl⟩
 have W:=A2 p;rw[A6 W]at d;refine zc 5 (fun p=>?_) fun p=>?_
 ·have z:=A1 p;rw[A5 z]at d;cases d;refine I0 ?_;refine tE (cO st ⟨3,⟨0,0,0,0⟩,next,0⟩ (by simp only[B25,B41]at S;omega) A0 A0) A0 A0 A0 ?_;rintro _ _ ⟨rfl,rfl⟩;refine H8 ?_;exact D7 Y5 jN (D4 (L:=[(820,_),(821,_)]) ⟨rfl,rfl,trivial⟩ EM) ⟨rfl,rfl⟩
 have Y:=A2 p;rw[A6 Y]at d;refine zc 5 (fun p=>?_) fun p=>?_
 ·have z:=A1 p;rw[A5 z]at d;refine U7 ?_;refine C1 (X:=Nat×Nat×Int×List AL.State) (fun x=>([(0,.s lF),(2,B1 x.2.2.1),(7,.s (.one (.eref Unit 8 (fun _ j=>(cellsOf gF n 0 8).getD j (.v undef)) () 0))),(8,B1 ((x.2.1:Int)-1))]++B2 [821,824] gf,[(820,lE ns w),(821,bK x.2.2.2)]++F2 [821,824] ob)) (fun x=>x.1<=F/\x.2.1<=n.Kids.length/\RB ns w x.1 (n.Kids.take x.2.1).reverse x.2.2.1 x.2.2.2=some (st',r)) (fun x=>x.2.1) (F,n.Kids.length,next,st) ⟨B29 _,B29 _,by dsimp only;rw[B38];exact d⟩ ?_ ?_
  ·exact A91 lf (B7 O) jN (D4 (L:=[(820,_),(821,_)]) ⟨rfl,rfl,trivial⟩ EM)
  rintro⟨f,c,s1,sx⟩ ⟨hf,ad,u⟩;dsimp only at hf ad u ⊢;have aw:f≠0:=fun e=>by rw[e]at u;cases u
  obtain⟨f,rfl⟩:∃g,f=g+1:=⟨f-1,by omega⟩
  refine zc 6 (fun p=>?_) fun p=>?_
  ·have av:0<c:=by have:=A1 p;omega
   obtain⟨c,rfl⟩:∃g,c=g+1:=⟨c-1,by omega⟩
   obtain⟨J,ai⟩:∃J,J=n.Kids[c]'B3:=⟨_,rfl⟩
   have A:n.Kids[c]?=some J:=by rw[ai];exact B23 B3
   have au:n.Kids[(((c+1:Nat):Int)-1).toNat]?=some J:=by rw[show (((c+1:Nat):Int)-1).toNat=c by omega];exact A
   rw[taker A,RB]at u;cases m:X5 ns w f J s1 sx with
   | none=>rw[m]at u;cases u
   | some y =>
    obtain⟨sy,b⟩:=y;rw[m]at u;dsimp only at u;have az:=(u9 ns w f).2.1 _ _ _ _ _ u;refine o9 ?_;refine M9 (IH f B3 J s1 sx sy b m (I J (B43 A)) B3 A0 A0 C) A0 A0 A0 (J5 ?_);refine⟨(f,c,b,sy),⟨by dsimp only;omega,by dsimp only;omega,u⟩,by dsimp only;omega,?_⟩;dsimp only;rw[show ((c:Int)-1)=(((c+1:Nat):Int)-1-1) by omega];exact A91 lf (B7 O) jN (D4 (L:=[(820,_),(821,_)]) ⟨rfl,rfl,trivial⟩ EM)
  have ae:c=0:=by have:=A2 p;omega
  subst ae;rw[B68,List.reverse_nil,RB]at u;cases u;refine J5 ?_;exact D7 Y5 jN (D4 (L:=[(820,_),(821,_)]) ⟨rfl,rfl,trivial⟩ EM) ⟨rfl,rfl⟩
 have Z:=A2 p;rw[A6 Z]at d;refine zc 5 (fun p=>?_) fun p=>?_
 ·have z:=A1 p;rw[A5 z]at d;cases H:n.Kids.reverse with
  | nil=>rw[H]at d;cases d
  | cons k kr =>
   rw[H]at d;dsimp only at d;cases m:X5 ns w F k next st with
   | none=>rw[m]at d;cases d
   | some y =>
    obtain⟨ar,s0⟩:=y;rw[m]at d;dsimp only at d;refine N0 ?_;refine M9 (TV IH n.Kids next st ar st' s0 r k kr H I al m d S A0 A0 C) A0 A0 A0 (H8 ?_);exact D7 Y5 jN (D4 (L:=[(820,_),(821,_)]) ⟨rfl,rfl,trivial⟩ EM) ⟨rfl,rfl⟩
 have ab:=A2 p;rw[A6 ab]at d;refine zc 5 (fun p=>?_) fun p=>?_
 ·have z:=A1 p;rw[A5 z]at d;obtain⟨ah,an⟩:n.Kids.length=1/\0<=n.Min/\n.Min<=100/\(n.Max = -1\/n.Min<=n.Max/\n.Max<=100):=by omega
  obtain⟨q,G⟩:∃q,n.Kids=[q]:=by
   match hq:n.Kids,ah with
   | [q],_=>exact⟨q,rfl⟩
  have aj:n.Kids.getD 0 0=q:=by rw[G];rfl
  have Q:n.Kids[(0:Int).toNat]?=some q:=by rw[G];rfl
  have R:=I q (B43 Q);rw[aj]at d;obtain⟨B,K,E,U,am,ag,aq,ao⟩:∃(B:List AL.State) (K:Int) (E:List AL.State) (U:Int),(n.Max<0->∃M a,X5 ns w F q st.length (st++[⟨1,⟨0,0,0,0⟩,0,next⟩])=some (M,a)/\B=M.set st.length { (M.getD st.length cY) with Next:=a }/\K=st.length)/\(¬n.Max<0->B=st/\K=next)/\EA ns w F q (n.Max-n.Min).toNat K K B=some (E,U)/\EB ns w F q n.Min.toNat U E=some (st',r):=by
   by_cases T:n.Max<0
   ·rw[A5 T]at d;cases m:X5 ns w F q st.length (st++[⟨1,⟨0,0,0,0⟩,0,next⟩]) with
    | none=>erw [m]at d;cases d
    | some y =>
     obtain⟨M,a⟩:=y
     erw [m]at d
     dsimp only at d;have hF:F≠0:=fun e=>by rw[e]at m;cases m
     obtain⟨F',rfl⟩:∃g,F=g+1:=⟨F-1,by omega⟩
     refine⟨_,_,_,_,fun _=>⟨M,a,rfl,rfl,rfl⟩,fun h=>absurd T h,?_,d⟩;rw[show (n.Max-n.Min).toNat=0 by omega];rfl
   ·rw[A6 T]at d;cases m:EA ns w F q (n.Max-n.Min).toNat next next st with
    | none=>rw[m]at d;cases d
    | some y =>
     obtain⟨M,a⟩:=y;rw[m]at d;dsimp only at d;exact⟨_,_,_,_,fun h=>absurd h T,fun _=>⟨rfl,rfl⟩,m,d⟩
  refine I0 ?_;refine M9 (OU IH n q next st B E st' K U r Q R an am ag aq ao S A0 A0 C) A0 A0 A0 (H8 ?_);exact D7 Y5 jN (D4 (L:=[(820,_),(821,_)]) ⟨rfl,rfl,trivial⟩ EM) ⟨rfl,rfl⟩
 have ac:=A2 p;rw[A6 ac]at d;cases d;refine J5 ?_;exact D7 Y5 jN (D4 (L:=[(820,_),(821,_)]) ⟨rfl,rfl,trivial⟩ EM) ⟨rfl,rfl⟩
theorem rZ{ns:List AL.Node}{w:List Int}(b:oW ns=0)(hkl:∀n∈ns,n.Kids.length<=4000)(a:w.length=ns.length):∀F,∀g,g<=F->BV ns w g
 | 0,g,hg=>by
  obtain rfl:g=0:=by omega
  intro i next st st' r c;cases c
 | F+1,g,hg=>by
  rcases Nat.lt_or_ge g (F+1) with h | h
  ·exact rZ b hkl a F g B3
  ·obtain rfl:g=F+1:=by omega
   exact TW b hkl a (rZ b hkl a F)
theorem TX(L:List AL.Node)(st:List AL.State)(r:Int)(F:Nat)(b:oW L=0)(hkl:∀n∈L,n.Kids.length<=4000)(p:YU L<=4000)(hb:X5 L (j6 L) F ((L.length:Int)-1) 0 [⟨4,⟨0,0,0,0⟩,0,0⟩]=some (st,r))(d:st.length<=20000) :
  FnOk prog 67 [cW L] (fun rs=>rs=[mP ⟨st,r⟩,E2 0]):=by
 obtain⟨i,j,m⟩:=fP b;have f:(j6 L).length=L.length:=by rw[<-KD];exact KC L _
 refine FnOk.intro Tryz.func67 F5 A0 A0 A0 A0 (H2 ?_);refine B6 (E6 2 A0) A0 (I0 ?_);refine F0 (OE L b hkl) ?_;refine zc 14 (fun a=>?_) fun a=>?_
 ·cases a
 refine zc 6 (fun a=>?_) fun a=>?_
 ·have:=A1 a;omega
 refine I0 ?_;refine F0 (xI L b hkl) (F8 ?_);refine B6 (V5 820 A0 A0 A0) A0 (H2 ?_);refine C3 (A96 821 AL.State 7 gI 209 (kb:=820) (o:=2) A0 A0 A0) (R6 ?_);refine M9 (cO [] ⟨4,⟨0,0,0,0⟩,0,0⟩ F5 A0 A0) A0 A0 A0 (U7 ?_);refine M9 (rZ b hkl f F F (B29 _) ((L.length:Int)-1) 0 [⟨4,⟨0,0,0,0⟩,0,0⟩] st r hb ⟨by omega,by omega⟩ d A0 A0 A0) A0 A0 A0 (zz 13 ?_);refine C3 (Sees.freezeG (k:=821) (α:=AL.State) (ec:=7) (c:=gI) (xs:=st) (e:=209) A0 A0) (k10 ?_);exact A8 (rs:=[mP ⟨st,r⟩,E2 0]) (zY rfl rfl rfl rfl rfl rfl rfl) rfl
theorem OV(p:Str)(L:List AL.Node)(A:AL.Auto)(b:FnOk prog 66 [G5 p] (fun rs=>rs=[cW L,E2 0]))(hb:FnOk prog 67 [cW L] (fun rs=>rs=[mP A,E2 0])) :
  FnOk prog 34 [G5 p] (fun rs=>rs=[mP A,E2 0]):=by
 refine FnOk.intro Tryz.func34 F5 A0 A0 A0 A0 (H2 ?_);refine B6 (E6 2 A0) A0 (I0 ?_);refine F0 (b) ?_;refine zc 12 (fun a=>?_) fun a=>?_
 ·cases a
 refine R6 ?_;refine F0 (hb) (N0 ?_);exact A8 (rs:=[mP A,E2 0]) (zY rfl rfl rfl rfl rfl rfl rfl) rfl
theorem KK{x:Int}(l:0<=x/\x<18446744073709551616)(c:Nat):IntKind.u64.wrap ((BitVec.ofInt IntKind.u64.bits x ||| BitVec.ofInt IntKind.u64.bits (IntKind.u64.wrap (1*2 ^ (min ((c:Int).tmod 64).toNat IntKind.u64.bits)))).toNat:Int)=orI x (2 ^ (c % 64)):=by
 obtain⟨p,f⟩:∃p:Nat,p=2 ^ (c % 64):=⟨_,rfl⟩
 have e:p<2 ^ 64:=by rw[f];exact Nat.pow_lt_pow_right F5 (Nat.mod_lt _ F5)
 have k:p<18446744073709551616:=e;have g:((2:Int) ^ (c % 64))=(p:Int):=by rw[f];simp
 have h:IntKind.u64.wrap (1*2 ^ (c % 64))=(p:Int):=by
  rw[Int.one_mul,g];exact u64_id ⟨by omega,by omega⟩
 rw[rem64,h,g];have b:=Nat.or_lt_two_pow (x:=x.toNat) (y:=p) (n:=64) (show x.toNat<18446744073709551616 by omega) e;have j:x.toNat ||| p<18446744073709551616:=b;have i:(BitVec.ofInt IntKind.u64.bits x ||| BitVec.ofInt IntKind.u64.bits (p:Int)).toNat=x.toNat ||| p:=by
  rw[BitVec.toNat_or,BitVec.toNat_ofInt,BitVec.toNat_ofInt,show ((2 ^ IntKind.u64.bits:Nat):Int)=18446744073709551616 by rfl];rw[show (x % 18446744073709551616).toNat=x.toNat by omega,show ((p:Int) % 18446744073709551616).toNat=p by omega]
 rw[i,u64_id ⟨by omega,by omega⟩];unfold orI;rw[B26]
theorem tW(z:Set4)(f:S5 z)(c:UInt8):FnOk prog 219 [W9 z,pByte c] (fun rs=>rs=[W9 (z.with_ c.toNat)]):=by
 obtain⟨g,z2,z3,z4⟩:=f;have a:c.toNat / 64=0\/c.toNat / 64=1\/c.toNat / 64=2\/c.toNat / 64=3:=by have:=c.toNat_lt;omega
 have e:0<=(c.toNat:Int).tmod 64:=Int.tmod_nonneg _ B3;refine FnOk.intro Tryz.func219 F5 A0 A0 A0 A0 (H2 ?_);refine B6 (V5 2 A0 A0 A0) A0 (B6 (E6 4 A0) A0 (H2 ?_));rcases a with a | a | a | a
 all_goals
  have b:=quo64 c.toNat_lt a;refine H2 ?_;refine A9 (IX A0 A0 F5) A0 (A9 (bY A0 A0 (b) F5) A0 (H2 ?_));refine A9 (FT A0 A0 F5) A0 (A9 (n_shl A0 A0 (by (exact e))) A0 ?_);refine F8 ?_;refine A9 (bY A0 A0 (b) F5) A0 (X0 ?_);refine A8 b0y ?_;unfold Set4.with_;rw[a];simp only[KK g,KK z2,KK z3,KK z4]
theorem fF:S5 set0:=⟨⟨by decide,by decide⟩,⟨by decide,by decide⟩,⟨by decide,by decide⟩,⟨by decide,by decide⟩⟩
theorem TY{gf:Fr}{ob:Obs}(s:Str)(a d:Nat)(l:List AL.Node)(b:Int)(j:l.length<=1000)(f:B0 ob 810=some (qD s a d))(g:B0 ob 811=some (nU l)) :
  AL.Met prog 143 [K7,Q5 b,.one (.p (.list Int 1 E0 []))] gf ob [811] (fun k ob'=>k=[Q5 l.length]/\ob'=(810,qD s a d)::(811,nU (l++[eU]))::Obs.forget 811 ob):=by
 refine AL.Met.introH Tryz.func143 F5 rfl rfl rfl (fun h=>?_);refine C3 (A92 811 (l:=[(0,.s K7),(1,.s (Q5 b)),(2,B9 Int 1 E0 [])]) (L:=[(810,_),(811,_)]) lf h L6 ⟨f,g,trivial⟩) ?_;refine zc 16 (fun c=>?_) fun c=>?_;rotate_left
 ·exact absurd rfl (A2 c)
 refine R6 ?_;refine zZ ((A99 Int 1 E0 12 7 A0 A0)) (M9 (tR s a d l eU j A0 A0) A0 A0 A0 (H8 ?_));exact D7 Y5 b9w (D4 (L:=[(810,_),(811,_)]) ⟨rfl,rfl,trivial⟩ b7w) ⟨rfl,rfl⟩
theorem gD{s:Str}{i:Nat}(h:i<s.length):s[i]?=some (s.getD i 0):=by simp[h]
def tX(s:Str)(i:Nat):Bool:=decide ((i<s.length/\48<=(s.getD i 0).toNat)/\(s.getD i 0).toNat<=57)
theorem TZ(s:Str)(i:Nat):tX s i=match s[i]? with | some c=>sM c | none=>false:=by
 unfold tX sM;by_cases h:i<s.length
 ·rw[gD h];simp[h]
 ·rw[B58 B3];simp[h]
theorem digs_le(s:Str)(i:Nat):(P4 (s.drop i)).length<=s.length-i:=by
 unfold P4;have:=(List.takeWhile_sublist sM (l:=s.drop i)).length_le;rw[B47]at this;exact this
theorem tY{p:UInt8->Bool}:∀(s:Str) (k:Nat),k<=(s.takeWhile p).length->(match s[k]? with | some c=>p c | none=>false)=decide (k<(s.takeWhile p).length)
 | [],k,h=>by simp at h ⊢
 | c::r,0,h=>by by_cases a:p c=true<;>simp[List.takeWhile_cons,a]
 | c::r,k+1,h=>by
  by_cases a:p c=true
  ·rw[List.takeWhile_cons,A5 a,B31]at h ⊢;have:=tY (p:=p) r k B3;rw[List.getElem?_cons_succ,this];simp
  ·rw[List.takeWhile_cons,A6 a]at h;simp at h
theorem rB{p:UInt8->Bool}:∀(s:Str) (k:Nat),k<(s.takeWhile p).length->s[k]?=(s.takeWhile p)[k]?
 | [],k,h=>by simp at h
 | c::r,k,h=>by
  by_cases a:p c=true
  ·rw[List.takeWhile_cons,A5 a]at h ⊢;cases k with
   | zero=>rfl
   | succ k=>rw[List.getElem?_cons_succ,List.getElem?_cons_succ];exact rB (p:=p) r k (by simpa using h)
  ·rw[List.takeWhile_cons,A6 a]at h;simp at h
theorem HG(s:Str)(i k:Nat)(h:k<=(P4 (s.drop i)).length):tX s (i+k)=decide (k<(P4 (s.drop i)).length):=by
 rw[TZ,<-B85];exact tY (s.drop i) k h
theorem ZM{s:Str}{i k:Nat}(h:k<(P4 (s.drop i)).length):s[i+k]?=some ((P4 (s.drop i)).getD k 0)/\48<=((P4 (s.drop i)).getD k 0).toNat/\((P4 (s.drop i)).getD k 0).toNat<=57 /\
  mU ((P4 (s.drop i)).take (k+1))=10*mU ((P4 (s.drop i)).take k)+(((P4 (s.drop i)).getD k 0).toNat-48):=by
 have d:s[i+k]?=(P4 (s.drop i))[k]?:=by rw[<-B85];exact rB _ _ h
 have c:=gD h;have b:sM ((P4 (s.drop i)).getD k 0)=true:=by
  have m:(P4 (s.drop i)).getD k 0∈(s.drop i).takeWhile sM:=B43 c;exact B27.1 List.all_takeWhile _ m
 unfold sM at b;have b:=A1 b;refine⟨by rw[d,c],b.1,b.2,?_⟩;obtain⟨j,f⟩:=B28.1 c;rw[B57 j,A23,f]
theorem A63(n:Nat)(h:48<=n)(b:n<=57):IntKind.i64.wrap (IntKind.u8.wrap ((n:Int)-48))=((n-48:Nat):Int):=by
 have:∀k:Fin 10,IntKind.i64.wrap (IntKind.u8.wrap (((k.1+48:Nat):Int)-48))=((k.1:Nat):Int):=by decide
 have a:=this ⟨n-48,by omega⟩;dsimp only at a;rw[show n-48+48=n by omega]at a;exact a
def OW(s:Str)(i:Nat):List PV:=match rM (s.drop i) with
 | none=>[E2 0,E2 0,F6 false]
 | some (n,k)=>[E2 n,E2 ((i+k:Nat):Int),F6 true]
theorem HH(s:Str)(i:Nat):FnOk prog 241 [G5 s,E2 i] (fun rs=>rs=[F6 (tX s i)]):=by
 refine FnOk.intro Tryz.func241 F5 A0 A0 A0 A0 (zz 13 ?_);refine E3 A0 A0 A0 A0 (fun a=>by have b:=a;(try simp at b);rw[a];exact P9 A0 A0 B3 (gD B3)) ?_;refine I0 ?_;refine E3 A0 A0 A0 A0 (fun a=>by have b:=a;(try simp at b);rw[a];exact P9 A0 A0 B3 (gD B3)) ?_;refine I0 ?_;refine A8 M3 ?_;simp only[and_pick];unfold tX
 congr 4
 congr 1
 simp;omega
theorem UA(s:Str)(i:Nat)(Y:i<=s.length)(Z:s.length<=1073741824):FnOk prog 235 [G5 s,E2 i] (fun rs=>rs=OW s i):=by
 obtain⟨b,f⟩:∃b,b=P4 (s.drop i):=⟨_,rfl⟩
 have M:=digs_le s i;have I:=HG s i 0 (B37 _);rw[Nat.add_zero]at I;rw[<-f]at M I;refine FnOk.intro Tryz.func235 F5 A0 A0 A0 A0 (zz 14 ?_);refine E3 A0 A0 A0 A0 (fun u=>by have C:=u;(try simp at C);rw[u];exact I2 (HH s i) A0 A0) ?_;refine H8 ?_;rw[I];refine GO ?_;by_cases P:b.length=0
 ·refine zc 0 (fun j=>?_) fun j=>?_;rotate_left
  ·exfalso;revert j;simp[P]
  refine J5 ?_;refine A8 (rs:=[E2 0,E2 0,F6 false]) b1y ?_;unfold OW rM;rw[<-f,A5 (.inl (List.length_eq_zero_iff.1 P))]
 refine zc 0 (fun j=>?_) fun j=>?_
 ·exfalso;revert j;simp[show 0<b.length by omega]
 refine U7 ?_;refine C1 (X:=Nat) (fun k=>([(0,T0 s),(1,B1 i),(7,B1 ((min (mU (b.take k)) 2147483648:Nat):Int)),(8,B1 ((i+k:Nat):Int))],[])) (fun k=>k<=b.length) (fun k=>b.length-k) 0 (B37 _) (C6) ?_;intro k R;dsimp only at R ⊢;have w:=HG s i k (by rw[<-f];exact R);rw[<-f]at w;refine I0 ?_;refine F0 (HH s (i+k)) (F8 ?_);rw[w];refine zc 0 (fun j=>?_) fun j=>?_
 ·have A:k<b.length:=A1 j;obtain⟨g1,F,G,H⟩:=ZM (s:=s) (i:=i) (k:=k) (by rw[<-f];exact A);rw[<-f]at g1 F G H;obtain⟨c,U⟩:∃c,c=b.getD k 0:=⟨_,rfl⟩
  rw[<-U]at g1 F G H;obtain⟨v,O⟩:∃v,v=min (mU (b.take k)) 2147483648:=⟨_,rfl⟩
  have V:v<=2147483648:=by omega
  have B:min (mU (b.take (k+1))) 2147483648=min (10*v+(c.toNat-48)) 2147483648:=by rw[H];omega
  rw[<-O];have x:=A63 c.toNat F G;refine X0 ?_;refine A9 (P9 A0 A0 B3 g1) A0 (A9 (VX A0 A0) A0 (F8 ?_));refine A9 (X6 A0 A0 (by (rw[x];omega))) A0 ?_;refine X0 ?_;refine⟨k+1,A,by omega,?_⟩;rw[B];refine Sees.of ⟨⟨_,rfl,.same _⟩,⟨_,rfl,.same _⟩,⟨_,rfl,.eq ?_⟩,⟨_,rfl,.eq ?_⟩,trivial⟩ trivial
  ·rw[x]
   congr 6
   split<;>omega
  ·congr 6
 ·have L:k=b.length:=by have:¬k<b.length:=A2 j;omega
  subst L;rw[B38];have D:i<s.length:=by omega
  refine U7 ?_;refine E3 A0 A0 A0 A0 (fun u=>by have C:=u;(try simp at C);rw[u];exact P9 A0 A0 B3 (gD D)) ?_;refine R6 ?_;refine M4 A0 A0 A0 (.gd (.val _)) A0 (fun u=>by have C:=u;(try simp at C);obtain⟨y,z⟩:=bE u;(try rw[y]);(try rw[z]);exact X6 A0 A0 B3) ?_;refine M4 A0 A0 A0 (.gd (.val _)) A0 (fun u=>by obtain⟨y,z⟩:=bE u;(try rw[y]);(try rw[z]);exact sW A0 A0) ?_;refine H8 ?_;have K:(s.drop i).head?=some (s.getD i 0):=by rw[List.head?_drop,gD D]
  simp only[and_pick,or_pick];have p:(P4 (s.drop i)=[]\/((s.drop i).head?=some 48/\1<(P4 (s.drop i)).length)\/2147483647<mU (P4 (s.drop i)))↔(2147483647<((min (mU b) 2147483648:Nat):Int)\/(((s.getD i 0).toNat:Int)=48/\(i:Int)+1<((i+b.length:Nat):Int))):=by
   rw[<-f,K];have S:b≠[]:=fun e=>P (by rw[e];rfl);have T:(some (s.getD i 0)=some 48)↔((s.getD i 0).toNat:Int)=48:=by
    rw[Option.some.injEq,<-B88];have:(48:UInt8).toNat=48:=rfl;omega
   simp only[S,false_or,T];omega
  refine zc 0 (fun j=>?_) fun j=>?_
  ·have E:=A1 j;refine J5 ?_;refine A8 (rs:=[E2 0,E2 0,F6 false]) b1y ?_;unfold OW rM;rw[A5 (p.2 (by first | exact E | simpa using E))]
  ·have E:=A2 j;have J:¬(P4 (s.drop i)=[]\/((s.drop i).head?=some 48/\1<(P4 (s.drop i)).length)\/2147483647<mU (P4 (s.drop i))):=fun Q=>E (by first | exact p.1 Q | simpa using p.1 Q);refine R9 ?_;refine A8 (rs:=[E2 ((min (mU b) 2147483648:Nat):Int),E2 ((i+b.length:Nat):Int),F6 true]) b1y ?_;unfold OW rM;rw[A6 J,<-f];have W:mU b<=2147483647:=by
    rw[<-f]at J;by_cases O:mU b<=2147483647
    ·exact O
    ·exact absurd (.inr (.inr B3)) J
   rw[show min (mU b) 2147483648=mU b by omega]
def octOk(c:UInt8):Prop:=48<=c.toNat/\c.toNat<=55
def OX(s:Str)(i q:Nat):Prop:=i+q<s.length/\octOk (s.getD (i+q) 0)
instance (s:Str) (i q:Nat):Decidable (OX s i q):=by unfold OX octOk;exact inferInstance
theorem FF(s p:Str):FnOk prog 242 [G5 s,G5 p] (fun rs=>rs=[F6 (decide (s.take p.length=p))]):=by
 refine FnOk.intro Tryz.func242 F5 A0 A0 A0 A0 (zz 15 ?_);refine E3 A0 A0 A0 A0 (fun a=>by have b:=a;(try simp at b);rw[a];exact sY A0 A0 B3 B3) ?_;refine F8 ?_;refine E3 A0 A0 A0 A0 (fun a=>by rw[a];exact IY A0 A0) ?_;refine H8 ?_;simp only[and_pick,B26];refine F8 ?_;refine A8 M3 ?_
 congr 4
 congr 1
 apply propext;constructor
 ·intro h;exact h.2
 ·intro h;refine⟨?_,h⟩;have:=congrArg List.length h;rw[B42]at this;omega
def UB(s p:Str):List PV:=if s.take p.length=p then [G5 (s.drop p.length),F6 true] else [G5 s,F6 false]
theorem FG(s p:Str):FnOk prog 239 [G5 s,G5 p] (fun rs=>rs=UB s p):=by
 refine FnOk.intro Tryz.func239 F5 A0 A0 A0 A0 (R9 ?_);refine F0 (FF s p) ?_;refine zc 2 (fun a=>?_) fun a=>?_
 ·have h:¬s.take p.length=p:=by intro h;rw[A3 h]at a;cases a
  refine J5 ?_;exact A8 (rs:=[G5 s,F6 false]) nP (by unfold UB;rw[A6 h])
 ·have h:s.take p.length=p:=by
   by_cases h:s.take p.length=p
   ·exact h
   ·rw[A4 h]at a;cases a
  have b:p.length<=s.length:=by
   have:=congrArg List.length h;rw[B42]at this;omega
  refine N0 ?_;refine A9 (pB A0 A0 B3 B3) A0 (R6 ?_);exact A8 (rs:=[G5 (s.drop p.length),F6 true]) nP (by unfold UB;rw[A5 h])
theorem KL(s p:Str):FnOk prog 231 [G5 s,G5 p] (fun b=>b=UB s p):=by
 have a:=FG s p;unfold UB at a ⊢;by_cases h:s.take p.length=p
 ·rw[A5 h]at a ⊢;refine FnOk.intro Tryz.func231 F5 A0 A0 A0 A0 (U7 ?_);refine F0 (a) (N0 ?_);exact A8 nP rfl
 ·rw[A6 h]at a ⊢;refine FnOk.intro Tryz.func231 F5 A0 A0 A0 A0 (U7 ?_);refine F0 (a) (N0 ?_);exact A8 nP rfl
theorem A64(z:Set4)(f:S5 z)(n:Int)(g:0<=n)(h:n<=255):FnOk prog 219 [W9 z,.one (.v (.int .u8 n))] (fun rs=>rs=[W9 (z.with_ n.toNat)]):=by
 have b:=tW z f (UInt8.ofNat n.toNat);have c:(UInt8.ofNat n.toNat).toNat=n.toNat:=by rw[UInt8.toNat_ofNat'];omega
 rw[c]at b;have d:((n.toNat:Nat):Int)=n:=by omega
 rwa[show pByte (UInt8.ofNat n.toNat)=.one (.v (.int .u8 n)) by show PV.one (.v (.int .u8 ((UInt8.ofNat n.toNat).toNat:Int)))=_;rw[c,d]]at b
theorem u8_in{n:Int}(a:0<=n)(b:n<=255):IntKind.u8.wrap n=n:=by simp[IntKind.wrap,IntKind.signed,IntKind.bits];omega
theorem BW(z:Set4)(C:S5 z)(a b:UInt8)(y:a.toNat<=b.toNat):FnOk prog 234 [W9 z,pByte a,pByte b] (fun rs=>rs=[W9 (z.through a.toNat b.toNat)]):=by
 have ha:=a.toNat_lt;have hb:=b.toNat_lt;refine FnOk.intro Tryz.func234 F5 A0 A0 A0 A0 (H2 ?_);refine B6 (V5 3 A0 A0 A0) A0 (B6 (E6 6 A0) A0 (I0 ?_));refine A9 (kN A0 (nB B3)) A0 (H8 ?_);refine C1 (X:=Nat) (fun i=>([(2,.s (eS b)),(3,.s (.one (.ref 3 0))),(6,.s (.one (.ref 6 0))),(7,B1 ((a.toNat:Int)+i))],[(3,.box [.p (.v (.int .u64 (V1 i a.toNat z).a)),.p (.v (.int .u64 (V1 i a.toNat z).b)),.p (.v (.int .u64 (V1 i a.toNat z).c)),.p (.v (.int .u64 (V1 i a.toNat z).d))]),(6,.box [.p (.v (.int .u64 0)),.p (.v (.int .u64 0)),.p (.v (.int .u64 0)),.p (.v (.int .u64 0))])])) (fun i=>i<=b.toNat+1-a.toNat) (fun i=>b.toNat+1-a.toNat-i) 0 (B37 _) ?_ ?_
 ·rw[show (a.toNat:Int)+((0:Nat):Int)=(a.toNat:Int) by omega];exact C6
 intro i A;dsimp only at A ⊢;have l:=gE i a.toNat C;have h:=oU i a.toNat z;obtain⟨w,m⟩:∃w,w=V1 i a.toNat z:=⟨_,rfl⟩
 rw[<-m]at l h ⊢;refine I0 ?_;refine A9 (kN A0 (nB B3)) A0 ?_;refine zc 2 (fun k=>?_) fun k=>?_
 ·have B:=A1 k;have q:((a.toNat:Int)+(i:Int)).toNat=a.toNat+i:=by omega
  refine N0 ?_;refine A9 (kN A0 (u8_in B3 B3)) A0 (F0 (A64 w l ((a.toNat:Int)+(i:Int)) B3 B3) (H2 ?_));rw[q,<-h];refine I0 ?_;refine⟨i+1,by omega,by omega,?_⟩;rw[show (a.toNat:Int)+((i+1:Nat):Int)=(a.toNat:Int)+(i:Int)+1 by omega];exact C6
 have j:i=b.toNat+1-a.toNat:=by have:=A2 k;omega
 have g:w=z.through a.toNat b.toNat:=by rw[m,j];rfl
 rw[g];refine J5 ?_;exact A8 (rs:=[W9 (z.through a.toNat b.toNat)]) b0y rfl
theorem KM(s a:Str)(d:s.length<4294967281):FnOk prog 162 [G5 s,G5 a] (fun rs=>rs=[E2 (Lib.index s a)]) :=
 B02 (xs:=[.string ⟨s.toArray⟩,.string ⟨a.toArray⟩]) ⟨_,rfl,rfl,rfl⟩ rfl fun w b=>by
  obtain⟨m,c⟩:=NR b;refine (Tryz.stringslite_Index ⟨s.toArray⟩ ⟨a.toArray⟩ m w d c).mono ?_;rintro e w' ⟨rfl,rfl⟩;exact⟨by simp,rfl,rfl,rfl,B29 _,fun _ _=>rfl⟩
theorem UC{P:Program}{fn:Func}{fr:Fr}{ob:Obs}{t:Tmp}{k n:Nat}{tt:TypeId}{i:List TC}[hty:TyAgg P tt n](C:fn.results=#[.cell t tt])(ht:Z3 fr t=some (.s (.one (.ref k 0))))(A:B0 ob k=some (.box i))(B:i.length=n):RetS P fn fr ob [.agg i]:=by
 unfold RetS;intro S G a w h;obtain⟨b,v,m⟩:=h.slot ht;obtain⟨F,p,E,d,y,ha⟩:=h.box A;rw[v]at d;cases d;have q:(loadVar tt ⟨b,0,none⟩).run P w=.ok (.agg (List.toArray p)) w:=d6 (ht:=hty) (by rw[<-ha.length,B]) (fun j z D=>by rw[B70];exact L7 y (by simpa using D));rw[B35]at m;exact⟨_,by simp[results,C,m,asAddr,q],⟨p,rfl,ha⟩⟩
structure KOk (K:List Nat):Prop where
 h811:E8 K 811=true
 h810:E8 K 810=false
theorem sA{a b:Nat}(h:a≠b):Nat.beq a b=false:=P3 h
structure ZOk (K:List Nat) (Z ob:Obs):Prop where
 k8:KOk K
 sub:∀k o,B0 Z k=some o->B0 ob k=some o
 key:∀k o,B0 Z k=some o->k≠810/\E8 K k=false
 free:∀k o,B0 Z k=some o->∀j,E8 K j=true->o.free j=true
theorem ZOk.none{K:List Nat}{Z ob:Obs}(h:ZOk K Z ob){k:Nat}(a:k=810\/E8 K k=true):B0 Z k=none:=by
 cases d:B0 Z k with
 | none=>rfl
 | some o =>
  obtain⟨b,c⟩:=h.key k o d;rcases a with a | a
  ·exact absurd a b
  ·rw[c]at a;cases a
theorem ZOk.cons{K:List Nat}{Z ob:Obs}(h:ZOk K Z ob){i:Nat}{x:Ob}(c:i=810\/E8 K i=true):ZOk K Z ((i,x)::ob) where
 k8:=h.k8
 sub:=fun k o b=>by
  have a:i≠k:=fun e=>by
   subst e;rw[h.none c]at b;cases b
  rw[A7 a];exact h.sub k o b
 key:=h.key
 free:=h.free
theorem ZOk.consZ{K:List Nat}{Z ob:Obs}(h:ZOk K Z ob){i:Nat}{x:Ob}(c:B0 Z i=Option.none):ZOk K Z ((i,x)::ob) where
 k8:=h.k8
 sub:=fun k o b=>by
  have a:i≠k:=fun e=>by
   subst e;rw[c]at b;cases b
  rw[A7 a];exact h.sub k o b
 key:=h.key
 free:=h.free
theorem ZOk.self{K:List Nat}{Z ob:Obs}(h:ZOk K Z ob):ZOk K Z Z:=⟨h.k8,fun _ _ h=>h,h.key,h.free⟩
theorem ZOk.own{K:List Nat}{Z ob:Obs}(h:ZOk K Z ob){i:Nat}{x:Ob}(c:i≠810/\E8 K i=false)(d:∀j,E8 K j=true->x.free j=true)(b:B0 ob i=some x):ZOk K ((i,x)::Z) ob where
 k8:=h.k8
 sub:=fun k o a=>by
  by_cases e:i=k
  ·subst e;rw[B4]at a;cases a;exact b
  ·rw[A7 e]at a;exact h.sub k o a
 key:=fun k o a=>by
  by_cases e:i=k
  ·subst e;exact c
  ·rw[A7 e]at a;exact h.key k o a
 free:=fun k o a=>by
  by_cases e:i=k
  ·subst e;rw[B4]at a;cases a;exact d
  ·rw[A7 e]at a;exact h.free k o a
theorem ZOk.less{J K:List Nat}{Z ob:Obs}(h:ZOk K Z ob)(f:KOk J)(d:∀k,E8 J k=true->E8 K k=true):ZOk J Z ob where
 k8:=f
 sub:=h.sub
 key:=fun k o b=>by
  obtain⟨e,c⟩:=h.key k o b;refine⟨e,?_⟩;cases a:E8 J k
  ·rfl
  ·rw[d k a]at c;cases c
 free:=fun k o b j a=>h.free k o b j (d j a)
abbrev PObs(s:Str)(st:PSt)(Z:Obs):Obs:=(810,qD s st.at_ st.depth)::(811,nU st.nodes)::Z
structure PIn (K:List Nat) (s:Str) (st:PSt) (Z ob:Obs):Prop where
 h0:B0 ob 810=some (qD s st.at_ st.depth)
 h1:B0 ob 811=some (nU st.nodes)
 z:ZOk K Z ob
abbrev eT:TypeId:=29
abbrev postP{α:Type}(s:Str)(R:Ps α)(sv:α->List S1)(Z:Obs):List S1->Obs->Prop:=fun a ob'=>∃st' v,R=.ok (st',v)/\a=sv v/\ob'=PObs s st' Z
abbrev panP{α:Type}(R:Ps α)(Z:Obs):Int->Obs->Prop:=fun e ob'=>R=.error e/\ob'=Z
def PX{α:Type}(f:FuncId)(a:List S1)(K:List Nat)(s:Str)(st:PSt)(R:Ps α)(sv:α->List S1):Prop :=
 ∀(gf:Fr) (ob Z:Obs),PIn K s st Z ob->MetX prog eT f a gf ob K (postP s R sv Z) (panP R Z)
structure SOk (s:Str) (st:PSt):Prop where
 len:s.length<=256
 at_:st.at_<=s.length
 nds:st.nodes.length<=st.at_+2
theorem SOk.gr{s:Str}{a b:Nat}{x y:PSt}(h:SOk s x)(g:Gr s a b x y)(hb:b<=a):SOk s y:=⟨h.len,g.len,by have:=h.nds;have:=g.cnt;have:=g.at_;omega⟩
abbrev iZ:Int->List S1:=fun n=>[Q5 n]
theorem PIn.start{K:List Nat}{s:Str}{st:PSt}{Z:Obs}(h:ZOk K Z Z):PIn K s st Z (PObs s st Z) :=
 ⟨rfl,rfl,(h.cons (i:=811) (.inr h.k8.h811)).cons (i:=810) (.inl rfl)⟩
theorem s7{K:List Nat}{s:Str}{st:PSt}{Z ob:Obs}(b:PIn K s st Z ob){nt:Nat}{fr l gf:Fr}(f:FrLe fr l)(e:High gf)(g:Tail gf fr):Sees prog nt fr ob (l++B2 K gf) (PObs s st Z) :=
 B20 K f e g fun k o a=>by
  by_cases c:810=k
  ·subst c;rw[B4]at a;cases a;exact b.h0
  rw[A7 c]at a;by_cases d:811=k
  ·subst d;rw[B4]at a;cases a;exact b.h1
  rw[A7 d]at a;exact b.z.sub k o a
theorem ks_sub{K:List Nat}:∀k,E8 K k=true->E8 K k=true:=fun _ h=>h
theorem ks_lit{a:List Nat}{s:SV}(h:a.all (fun k=>s.free k)=true):∀k,E8 a k=true->s.free k=true:=fun k b=>B27.1 h k (t8.1 b)
theorem ks_in{a K:List Nat}(h:a.all (E8 K)=true):∀k,E8 a k=true->E8 K k=true:=fun k b=>B27.1 h k (t8.1 b)
theorem lG{K:List Nat}(b:KOk K):∀k,E8 K k=true->(SV.s K7).free k=true:=fun k a=>by
 show (!Nat.beq 810 k)=true;rw[sA (fun e=>by rw[<-e,b.h810]at a;cases a)];rfl
theorem ks_clo{K:List Nat}(b:KOk K){f:Nat}:∀k,E8 K k=true->(SV.s (.one (.clo f [(810,0)] []))).free k=true:=fun k a=>by
 show (!(gM k [(810,0)]||gM k []))=true;have h:810≠k:=fun e=>by rw[<-e,b.h810]at a;cases a
 simp[gM,sA h]
theorem N5{K:List Nat}{s:Str}{st:PSt}{Z b:Obs}(c:PIn K s st Z b):∀k o,B0 (PObs s st Z) k=some o->B0 b k=some o:=fun k o a=>by
 by_cases d:810=k
 ·subst d;rw[B4]at a;cases a;exact c.h0
 rw[A7 d]at a;by_cases e:811=k
 ·subst e;rw[B4]at a;cases a;exact c.h1
 rw[A7 e]at a;exact c.z.sub k o a
theorem ZOk.pin{K:List Nat}{s:Str}{st:PSt}{Z:Obs}(h:ZOk K Z Z):ZOk K Z (PObs s st Z):=(h.cons (i:=811) (.inr h.k8.h811)).cons (i:=810) (.inl rfl)
theorem ZOk.pobs{K:List Nat}{s:Str}{st:PSt}{Z:Obs}(h:ZOk K Z Z):∀k o,B0 Z k=some o->B0 (PObs s st Z) k=some o:=((h.cons (i:=811) (.inr h.k8.h811)).cons (i:=810) (.inl rfl)).sub
theorem MetX.ofMet{α:Type}{f:FuncId}{a:List S1}{gf:Fr}{ob Z:Obs}{K:List Nat}{d:List Nat}{s:Str}{st':PSt}{v:α}{sv:α->List S1}{e:List S1->Obs->Prop}(h:AL.Met prog f a gf ob d e)(j:∀k,E8 d k=true->E8 K k=true)
  (m:∀b ob',e b ob'->b=sv v/\PIn K s st' Z ob'):MetX prog eT f a gf ob K (postP s (.ok (st',v):Ps α) sv Z) (panP (.ok (st',v):Ps α) Z) :=
 AL.Met.toX ((AL.Met.more h j).conv fun b ob' l=>by
  obtain⟨g,i⟩:=m b ob' l
  exact⟨PObs s st' Z,⟨st',v,rfl,g,rfl⟩,N5 i⟩)
theorem OY{s:Str}{st:PSt}{e:Int}(h:mO s st=.error e):s[st.at_]?=none/\e=40:=by
 unfold mO at h;cases a:s[st.at_]? with
 | none=>rw[a]at h;cases h;exact⟨rfl,rfl⟩
 | some c=>rw[a]at h;cases h
theorem KN{K:List Nat}{s:Str}{st:PSt}(g:SOk s st):PX 220 [K7] K s st (mO s st) (fun c=>[eS c]):=by
 intro gf ob Z e;have k:=e.z.self;have a:=PIn.start (s:=s) (st:=st) k;have f:=g.len;refine MetX.introH Tryz.func220 F5 rfl rfl rfl (fun j=>?_);refine C3 (s7 (l:=[(0,.s K7)]) e ⟨cL rfl,trivial⟩ j L6) ?_;refine J5 ?_;refine M9 (jX s st.at_ st.depth g.at_ B3 A0) A0 A0 A0 (eI ?_);by_cases h:st.at_<s.length
 ·have d:s[st.at_]?=some (s.getD st.at_ 0):=by rw[B30,B23 h];rfl
  rw[A3 h];refine zc 0 (fun b=>?_) fun b=>?_
  ·cases b
  refine zz 18 ?_;exact I3 Y5 L6 (N5 (st:=st.skip 1) ⟨rfl,rfl,a.z.cons (.inl rfl)⟩) ⟨st.skip 1,s.getD st.at_ 0,by unfold mO;rw[d],rfl,rfl⟩
 ·have d:s[st.at_]?=none:=B58 B3;rw[A4 h];refine zc 0 (fun b=>?_) fun b=>?_
  ·skip;refine H2 ?_;refine N8 A0 ?_;exact H1 L6 a.z.sub ⟨by unfold mO;rw[d],rfl⟩
  ·cases b
theorem n5{p:Prop}(h:p:=by repeat (first | exact by assumption | refine ZOk.cons ?_ (.inl rfl) | refine ZOk.cons ?_ (.inr (ZOk.k8 (by assumption)).h811))):p:=h
theorem HI{K:List Nat}{s:Str}{st:PSt}(n:SOk s st):PX 221 [K7] K s st (vG s J3 st) iZ:=by
 intro gf ob Z i;have q:=i.z.self;have j:=n.len;have c:=UA s st.at_ n.at_ B3;refine MetX.introH Tryz.func221 F5 rfl rfl rfl (fun t=>?_);refine C3 (s7 (l:=[(0,.s K7)]) i ⟨cL rfl,trivial⟩ t L6) ?_;refine k2 (dM (A9 (Y0 A0 A0) A0 (FS ?_)));refine k1 (k2 ?_);cases d:rM (s.drop st.at_) with
 | none =>
  have u:vG s J3 st=.error 40:=by unfold vG J3;rw[d];rfl
  rw[show OW s st.at_=[E2 0,E2 0,F6 false] by unfold OW;rw[d]]at c;refine iO E7 E7 (D2 (C4 A0 A0) A0 A0 (D2 (C9 A0) A0 A0 (D2 (D3 A0) A0 A0 (D2 (D1 A0 A0 A0) A0 A0 (D2 (C4 A0 A0) A0 A0 (D2 (C9 A0) A0 A0 (D2 (D3 A0) A0 A0 (D2 (D1 A0 A0 A0) A0 A0 (D2 (I2 (c) A0 A0) A0 A0 (D2 (C4 A0 A0) A0 A0 (D2 (aG A0 A0) A0 A0 (D2 (aG A0 A0) A0 A0 (D2 (aG A0 A0) A0 A0 (D2 (Y0 A0 A0) A0 A0 (D2 (Y0 A0 A0) A0 A0 (D2 (Y0 A0 A0) A0 A0 (d_nil ?_)))))))))))))))));refine k1 (k2 (k2 (dM (A9 (C4 A0 A0) A0 (A9 (VZ A0) A0 (A9 (C4 A0 A0) A0 (E3 A0 A0 A0 A0 (fun a=>by rw[a];exact C4 A0 A0) ?_)))))));refine E3 A0 A0 A0 A0 (fun a=>by rw[a];exact sW A0 A0) ?_;refine A9 (aE A0 (fun h=>by first | rfl | (rw[h];rfl)) (fun h=>by first | rfl | (rw[h];rfl))) A0 ?_;refine FS ?_;refine k1 ?_;refine zc 0 (fun b=>?_) fun b=>?_
  ·skip;refine dM (A9 (rU A0 E7) A0 (N8 A0 ?_));exact H1 L6 q.pobs ⟨u,rfl⟩
  ·cases b
 | some p =>
  obtain⟨m,k⟩:=p;have g:J3 s st.at_=some ((m:Int),st.at_+k):=by unfold J3;rw[d];rfl
  rw[show OW s st.at_=[E2 m,E2 ((st.at_+k:Nat):Int),F6 true] by unfold OW;rw[d]]at c;refine iO E7 E7 (D2 (C4 A0 A0) A0 A0 (D2 (C9 A0) A0 A0 (D2 (D3 A0) A0 A0 (D2 (D1 A0 A0 A0) A0 A0 (D2 (C4 A0 A0) A0 A0 (D2 (C9 A0) A0 A0 (D2 (D3 A0) A0 A0 (D2 (D1 A0 A0 A0) A0 A0 (D2 (I2 (c) A0 A0) A0 A0 (D2 (C4 A0 A0) A0 A0 (D2 (aG A0 A0) A0 A0 (D2 (aG A0 A0) A0 A0 (D2 (aG A0 A0) A0 A0 (D2 (Y0 A0 A0) A0 A0 (D2 (Y0 A0 A0) A0 A0 (D2 (Y0 A0 A0) A0 A0 (d_nil ?_)))))))))))))))));refine k1 (k2 (k2 (dM (A9 (C4 A0 A0) A0 (A9 (VZ A0) A0 (A9 (C4 A0 A0) A0 (E3 A0 A0 A0 A0 (fun a=>by rw[a];exact C4 A0 A0) ?_)))))));refine E3 A0 A0 A0 A0 (fun a=>by rw[a];exact sW A0 A0) ?_;refine A9 (aE A0 (fun h=>by first | rfl | (rw[h];rfl)) (fun h=>by first | rfl | (rw[h];rfl))) A0 ?_;refine FS ?_;refine k1 ?_;refine zc 0 (fun b=>?_) fun b=>?_
  ·have f:(m:Int)>100:=A1 b;skip;refine dM (A9 (rU A0 E7) A0 (N8 A0 ?_));exact H1 L6 q.pobs ⟨by unfold vG;rw[g];exact A5 f,rfl⟩
  ·have f:¬(m:Int)>100:=A2 b;refine k5 (k1 (k2 (dM (A9 (C4 A0 A0) A0 (A9 (C4 A0 A0) A0 (A9 (C9 A0) A0 (A9 (D3 A0) A0 (V2 (I9 TySz.out A0 A0 A0 A0 A0 A0) (FS ?_)))))))));refine k1 (k2 (dM (A9 (C4 A0 A0) A0 (A9 (Y0 A0 A0) A0 (FS ?_)))));refine k1 (k10 ?_);exact I3 Y5 L6 (N5 (K:=K) (st:={ st with at_:=st.at_+k }) ⟨rfl,rfl,n5⟩) ⟨{ st with at_:=st.at_+k },(m:Int),by unfold vG;rw[g];exact A6 f,rfl,rfl⟩
def qE(s:Str)(a:Int)(st:PSt)(b:Int):Ps (Int×Int):=if U5 s 125 st=false\/(0<=b/\b<a) then .error 40 else .ok (st.skip 1,(a,b))
theorem bL(b:Bool){a c:Int}:(if (!b)=true then true else if decide (0<=a)=true then decide (a<c) else false)=decide (b=false\/(0<=a/\a<c)):=by
 cases b<;>by_cases d:0<=a<;>by_cases e:a<c<;>simp[d,e]
theorem ZN{c:UInt8}(h:¬c=125):(if true=true then decide (¬(c.toNat:Int)=125) else false)=true:=by
 rw[A5 rfl];exact A3 fun e=>h (B88.1 (by have:(125:UInt8).toNat=125:=rfl;omega))
theorem mS{p:Prop}(h:p:=by repeat (first | exact FreeKs.nil | exact FreeKs.gf ks_sub | exact FreeKs.gf (ks_in rfl) | exact FreeKs.gf (HJ (ZOk.k8 (by assumption))) | exact FreeKs.gf (by assumption) | refine FreeKs.cons (fun _ _=>rfl) ?_ | refine FreeKs.cons (lG (ZOk.k8 (by assumption))) ?_ | refine FreeKs.cons (ks_clo (ZOk.k8 (by assumption))) ?_ | refine FreeKs.cons (by assumption) ?_ | refine FreeKs.cons (ks_lit rfl) ?_)):p:=h
theorem ZO{K:List Nat}{s:Str}{st:PSt}(L:SOk s st):PX 200 [K7] K s st (p8 s J3 st) (fun b=>[Q5 b.1,Q5 b.2]):=by
 intro gf ob Z O;have T:=O.z.self;have Q:=L.len;refine MetX.introH Tryz.func200 F5 rfl rfl rfl (fun M=>?_);refine C3 (s7 (l:=[(0,.s K7)]) O ⟨cL rfl,trivial⟩ M L6) ?_;refine X0 ?_;refine L2 (HI (K:=K) L _ _ Z ⟨rfl,rfl,n5⟩) mS rfl rfl rfl ?_ ?_
 ·(rintro e ob' ⟨G,rfl⟩;exact H1 L6 (fun _ _ h=>h) ⟨by unfold p8;rw[G],rfl⟩)
 rintro _ _ ⟨m,d,G,rfl,rfl⟩;refine H2 ?_;obtain⟨g1,U,V⟩:=LX L.at_ G;have I:=L.gr g1 B3
 have w:p8 s J3 st=if U5 s 44 m=true then (match s[(m.skip 1).at_]? with
   | none=>qE s d (m.skip 1) (-1)
   | some c=>if c=125 then qE s d (m.skip 1) (-1) else match vG s J3 (m.skip 1) with
    | .error e=>.error e
    | .ok (q,p)=>qE s d q p) else qE s d m d:=by unfold p8;rw[G];rfl
 refine U7 ?_;refine M9 (x7 s m.at_ m.depth 44 I.at_ B3 A0) A0 A0 A0 (F8 ?_);by_cases C:s[m.at_]?=some 44
 ·rw[A3 C,A5 C];have P:U5 s 44 m=true:=A3 C;have R:=M7 (s:=s) (x:=m) 1 (t6 P);have u:=I.gr R B3;obtain⟨g,B⟩:∃g,g=m.skip 1:=⟨_,rfl⟩
  rw[A5 P,<-B]at w;rw[<-B]at u;refine zc 0 (fun j=>?_) fun j=>?_;rotate_left
  ·cases j
  refine C3 (fr':=[(0,.s K7),(2,B1 d),(3,B1 d)]++B2 K gf) (ob':=PObs s g Z) (A91 lf (B7 M) L6 (N5 (K:=K) ⟨by rw[B];rfl,by rw[B];rfl,(T.pin).cons (.inl rfl)⟩)) ?_;refine J5 ?_;refine M9 (jX s g.at_ g.depth u.at_ B3 A0) A0 A0 A0 (zz 14 ?_);by_cases A:g.at_<s.length/\¬s.getD g.at_ 0=125
  ·obtain⟨v,J⟩:=A;have N:s[g.at_]?=some (s.getD g.at_ 0):=by rw[B30,B23 v];rfl
   rw[N]at w;dsimp only at w;rw[A6 J]at w;refine zc 0 (fun j=>?_) fun j=>?_;rotate_left
   ·exfalso;rw[A3 v,ZN J]at j;cases j
   skip;refine C3 (fr':=[(0,.s K7),(2,B1 d)]++B2 K gf) (ob':=PObs s g Z) (A91 lf (B7 M) L6 (N5 (K:=K) ⟨rfl,rfl,n5⟩)) ?_;refine H2 ?_;refine L2 (HI (K:=K) u _ _ Z ⟨rfl,rfl,n5⟩) mS rfl rfl rfl ?_ ?_
   ·(rintro e ob' ⟨H,rfl⟩;exact H1 L6 (fun _ _ h=>h) ⟨by rw[w,H],rfl⟩)
   rintro _ _ ⟨q,p,H,rfl,rfl⟩;refine H2 ?_;obtain⟨S,m1,W⟩:=LX u.at_ H;have u:=u.gr S B3;have D:p8 s J3 st=qE s d q p:=by rw[w,H]
   refine R6 ?_;refine M9 (x7 s q.at_ q.depth 125 u.at_ B3 A0) A0 A0 A0 (o9 ?_);by_cases f:s[q.at_]?=some 125
   ·rw[A3 f,A5 f];have E:U5 s 125 q=true:=A3 f;refine zc 0 (fun j=>?_) fun j=>?_
    ·have y:0<=p/\p<d:=by
      rw[bL true]at j;rcases A1 j with h | h
      ·cases h
      ·exact h
     skip;refine H2 ?_;refine N8 A0 ?_;exact H1 L6 (ZOk.sub (K:=K) n5) ⟨by rw[D,qE,A5 (.inr y)],rfl⟩
    ·have F:¬(U5 s 125 q=false\/(0<=p/\p<d)):=by
      rw[bL true]at j;rw[E];exact A2 j
     refine U7 ?_;exact I3 b4y L6 (N5 (K:=K) (st:=q.skip 1) ⟨rfl,rfl,n5⟩) ⟨q.skip 1,(d,p),by rw[D,qE,A6 F],rfl,rfl⟩
   ·rw[A4 f,A6 f];have E:U5 s 125 q=false:=A4 f;refine zc 0 (fun j=>?_) fun j=>?_
    ·skip;refine H2 ?_;refine N8 A0 ?_;exact H1 L6 (ZOk.sub (K:=K) n5) ⟨by rw[D,qE,A5 (.inl E)],rfl⟩
    ·rw[bL false]at j;exact absurd (.inl rfl) (A2 j)
  ·have D:p8 s J3 st=qE s d g (-1):=by
    rw[w];by_cases v:g.at_<s.length
    ·have N:s[g.at_]?=some (s.getD g.at_ 0):=by rw[B30,B23 v];rfl
     rw[N];exact A5 (B84.1 fun h=>A ⟨v,h⟩)
    ·rw[B58 B3]
   refine zc 0 (fun j=>?_) fun j=>?_
   ·exfalso;by_cases v:g.at_<s.length
    ·have f:s.getD g.at_ 0=125:=B84.1 fun h=>A ⟨v,h⟩;rw[A3 v,f]at j;cases j
    ·rw[A4 v]at j;cases j
   refine I0 ?_;refine M9 (x7 s g.at_ g.depth 125 u.at_ B3 A0) A0 A0 A0 (o9 ?_);by_cases f:s[g.at_]?=some 125
   ·rw[A3 f,A5 f];have E:U5 s 125 g=true:=A3 f;refine zc 0 (fun j=>?_) fun j=>?_
    ·have y:0<=(-1:Int)/\(-1:Int)<d:=by
      rw[bL true]at j;rcases A1 j with h | h
      ·cases h
      ·exact h
     skip;refine H2 ?_;refine N8 A0 ?_;exact H1 L6 (ZOk.sub (K:=K) n5) ⟨by rw[D,qE,A5 (.inr y)],rfl⟩
    ·have F:¬(U5 s 125 g=false\/(0<=(-1:Int)/\(-1:Int)<d)):=by
      rw[bL true]at j;rw[E];exact A2 j
     refine U7 ?_;exact I3 b4y L6 (N5 (K:=K) (st:=g.skip 1) ⟨rfl,rfl,n5⟩) ⟨g.skip 1,(d,(-1:Int)),by rw[D,qE,A6 F],rfl,rfl⟩
   ·rw[A4 f,A6 f];have E:U5 s 125 g=false:=A4 f;refine zc 0 (fun j=>?_) fun j=>?_
    ·skip;refine H2 ?_;refine N8 A0 ?_;exact H1 L6 (ZOk.sub (K:=K) n5) ⟨by rw[D,qE,A5 (.inl E)],rfl⟩
    ·rw[bL false]at j;exact absurd (.inl rfl) (A2 j)
 ·rw[A4 C,A6 C];have D:p8 s J3 st=qE s d m d:=by rw[w,A6 (by unfold U5;rw[A4 C];decide)]
  have u:=I;refine zc 0 (fun j=>?_) fun j=>?_
  ·cases j
  refine I0 ?_;refine M9 (x7 s m.at_ m.depth 125 u.at_ B3 A0) A0 A0 A0 (o9 ?_);by_cases f:s[m.at_]?=some 125
  ·rw[A3 f,A5 f];have E:U5 s 125 m=true:=A3 f;refine zc 0 (fun j=>?_) fun j=>?_
   ·have y:0<=d/\d<d:=by
     rw[bL true]at j;rcases A1 j with h | h
     ·cases h
     ·exact h
    skip;refine H2 ?_;refine N8 A0 ?_;exact H1 L6 (ZOk.sub (K:=K) n5) ⟨by rw[D,qE,A5 (.inr y)],rfl⟩
   ·have F:¬(U5 s 125 m=false\/(0<=d/\d<d)):=by
     rw[bL true]at j;rw[E];exact A2 j
    refine U7 ?_;exact I3 b4y L6 (N5 (K:=K) (st:=m.skip 1) ⟨rfl,rfl,n5⟩) ⟨m.skip 1,(d,d),by rw[D,qE,A6 F],rfl,rfl⟩
  ·rw[A4 f,A6 f];have E:U5 s 125 m=false:=A4 f;refine zc 0 (fun j=>?_) fun j=>?_
   ·skip;refine H2 ?_;refine N8 A0 ?_;exact H1 L6 (ZOk.sub (K:=K) n5) ⟨by rw[D,qE,A5 (.inl E)],rfl⟩
   ·rw[bL false]at j;exact absurd (.inl rfl) (A2 j)
theorem b1z{p:Prop}(h:p:=by exact rets3 rfl rfl rfl rfl):p:=h
theorem BX{K:List Nat}{s:Str}{st:PSt}(t:SOk s st):PX 187 [K7] K s st (bX s J3 st) (fun b=>match b with
  | none=>[Q5 0,Q5 0,qY false]
  | some q=>[Q5 q.1,Q5 q.2,qY true]):=by
 intro gf ob Z A;have D:=A.z.self;have C:=t.len;refine MetX.introH Tryz.func187 F5 rfl rfl rfl (fun y=>?_);refine C3 (s7 (l:=[(0,.s K7)]) A ⟨cL rfl,trivial⟩ y L6) ?_;refine o9 ?_;refine M9 (x7 s st.at_ st.depth 42 t.at_ B3 A0) A0 A0 A0 (H2 ?_);by_cases f:s[st.at_]?=some 42
 ·rw[A3 f,A5 f];have m:U5 s 42 st=true:=A3 f;refine zc 0 (fun a=>?_) fun a=>?_;rotate_left
  ·cases a
  refine J5 ?_;exact I3 b1z L6 (N5 (K:=K) (st:=st.skip 1) ⟨rfl,rfl,n5⟩) ⟨st.skip 1,some (0,-1),by rw[bX,A5 m],rfl,rfl⟩
 rw[A4 f,A6 f];have d:¬U5 s 42 st=true:=fun h=>f (A1 h);refine zc 0 (fun a=>?_) fun a=>?_
 ·cases a
 refine H8 ?_;refine M9 (x7 s st.at_ st.depth 43 t.at_ B3 A0) A0 A0 A0 (H2 ?_);by_cases g:s[st.at_]?=some 43
 ·rw[A3 g,A5 g];have m:U5 s 43 st=true:=A3 g;refine zc 0 (fun a=>?_) fun a=>?_;rotate_left
  ·cases a
  refine J5 ?_;exact I3 b1z L6 (N5 (K:=K) (st:=st.skip 1) ⟨rfl,rfl,n5⟩) ⟨st.skip 1,some (1,-1),by rw[bX,A6 d,A5 m],rfl,rfl⟩
 rw[A4 g,A6 g];have j:¬U5 s 43 st=true:=fun h=>g (A1 h);refine zc 0 (fun a=>?_) fun a=>?_
 ·cases a
 refine H8 ?_;refine M9 (x7 s st.at_ st.depth 63 t.at_ B3 A0) A0 A0 A0 (H2 ?_);by_cases i:s[st.at_]?=some 63
 ·rw[A3 i,A5 i];have m:U5 s 63 st=true:=A3 i;refine zc 0 (fun a=>?_) fun a=>?_;rotate_left
  ·cases a
  refine J5 ?_;exact I3 b1z L6 (N5 (K:=K) (st:=st.skip 1) ⟨rfl,rfl,n5⟩) ⟨st.skip 1,some (0,1),by rw[bX,A6 d,A6 j,A5 m],rfl,rfl⟩
 rw[A4 i,A6 i];have n:¬U5 s 63 st=true:=fun h=>i (A1 h);refine zc 0 (fun a=>?_) fun a=>?_
 ·cases a
 refine H8 ?_;refine M9 (x7 s st.at_ st.depth 123 t.at_ B3 A0) A0 A0 A0 (H2 ?_);by_cases c:s[st.at_]?=some 123
 ·rw[A3 c,A5 c];have m:U5 s 123 st=true:=A3 c;have w:=t.gr (M7 (s:=s) (x:=st) 1 (t6 m)) B3
  have B:bX s J3 st=match p8 s J3 (st.skip 1) with
    | .error e=>.error e
    | .ok (st',b)=>.ok (st',some b):=by rw[bX,A6 d,A6 j,A6 n,A5 m];rfl
  refine zc 0 (fun a=>?_) fun a=>?_;rotate_left
  ·cases a
  refine k2 (C3 (fr':=[(0,.s K7)]++B2 K gf) (ob':=PObs s (st.skip 1) Z) (A91 ⟨cL rfl,trivial⟩ (B7 y) L6 (N5 (K:=K) (st:=st.skip 1) ⟨rfl,rfl,n5⟩)) ?_);refine H2 ?_;refine L2 (ZO (K:=K) w _ _ Z ⟨rfl,rfl,n5⟩) mS rfl rfl rfl ?_ ?_
  ·(rintro e ob' ⟨v,rfl⟩;exact H1 L6 (fun _ _ h=>h) ⟨by rw[B,v],rfl⟩)
  rintro _ _ ⟨u,b,v,rfl,rfl⟩;refine N0 ?_;refine U7 ?_;exact I3 b1z L6 (N5 (K:=K) (st:=u) ⟨rfl,rfl,n5⟩) ⟨u,some b,by rw[B,v],rfl,rfl⟩
 rw[A4 c,A6 c];have p:¬U5 s 123 st=true:=fun h=>c (A1 h);refine zc 0 (fun a=>?_) fun a=>?_
 ·cases a
 refine X0 ?_;exact I3 b1z L6 (N5 (K:=K) (st:=st) ⟨rfl,rfl,n5⟩) ⟨st,none,by rw[bX,A6 d,A6 j,A6 n,A6 p],rfl,rfl⟩
theorem HJ{K:List Nat}(h:KOk K):∀k,E8 [811] k=true->E8 K k=true:=fun k a=>by
 have:=t8.1 a;rw[B33.1 this];exact h.h811
theorem ZOk.fgt{K:List Nat}{Z ob:Obs}(h:ZOk K Z ob){j:Nat}(b:E8 K j=true):ZOk K Z (Obs.forget j ob) where
 k8:=h.k8
 sub:=fun k o a=>by
  rw[I8,h.sub k o a];show some (o.forget j)=some o;rw[Ob.forget_free (h.free k o a j b)]
 key:=h.key
 free:=h.free
theorem add_pm{K:List Nat}{s:Str}{st:PSt}(b:AL.Node)(e:st.nodes.length<=1000){gf:Fr}{ob Z:Obs}(a:PIn K s st Z ob) :
  AL.Met prog 172 [K7,(vF b).s1] gf ob K (fun d ob'=>d=[Q5 (sP b st).2]/\ob'=PObs s (sP b st).1 Z) :=
 (AL.Met.more (tR s st.at_ st.depth st.nodes b e a.h0 a.h1) (HJ a.z.k8)).conv fun d ob' f=>by
  obtain⟨rfl,rfl⟩:=f;exact⟨_,⟨rfl,rfl⟩,N5 ⟨rfl,rfl,((a.z.fgt a.z.k8.h811).cons (.inr a.z.k8.h811)).cons (.inl rfl)⟩⟩
theorem KO{K:List Nat}{s:Str}{st:PSt}(z:Set4)(d:st.nodes.length<=1000){gf:Fr}{ob Z:Obs}(a:PIn K s st Z ob) :
  AL.Met prog 218 [K7,(W9 z).s1] gf ob K (fun b ob'=>b=[Q5 (qI z st).2]/\ob'=PObs s (qI z st).1 Z) :=
 (AL.Met.more (A51 s st.at_ st.depth st.nodes z d a.h0 a.h1) (HJ a.z.k8)).conv fun b ob' e=>by
  obtain⟨rfl,rfl⟩:=e;exact⟨_,⟨rfl,rfl⟩,N5 ⟨rfl,rfl,((a.z.fgt a.z.k8.h811).cons (.inr a.z.k8.h811)).cons (.inl rfl)⟩⟩
theorem BY{K:List Nat}{s:Str}{st:PSt}(a:Int)(kids:List Int)(g:kids.length<=100000)(j:st.nodes.length<=1000){gf:Fr}{ob Z:Obs}(b:PIn K s st Z ob) :
  AL.Met prog 143 [K7,Q5 a,.one (.p (.list Int 1 E0 kids))] gf ob K (fun f ob'=>f=[Q5 (oV a kids st).2]/\ob'=PObs s (oV a kids st).1 Z):=by
 match kids,g with
 | [],_ =>
  exact (AL.Met.more (TY s st.at_ st.depth st.nodes a j b.h0 b.h1) (HJ b.z.k8)).conv fun f ob' d=>by
   obtain⟨rfl,rfl⟩:=d;exact⟨_,⟨rfl,rfl⟩,N5 ⟨rfl,rfl,((b.z.fgt b.z.k8.h811).cons (.inr b.z.k8.h811)).cons (.inl rfl)⟩⟩
 | [k],_ =>
  exact (AL.Met.more (TF a k) (fun _ h=>by cases h)).conv fun f ob' d=>by
   obtain⟨rfl,rfl⟩:=d;exact⟨_,⟨rfl,rfl⟩,N5 b⟩
 | k::l::r,g =>
  exact (AL.Met.more (TE s st.at_ st.depth st.nodes a (k::l::r) eR j b.h0 b.h1) (HJ b.z.k8)).conv fun f ob' d=>by
   obtain⟨rfl,rfl⟩:=d;exact⟨_,⟨rfl,rfl⟩,N5 ⟨rfl,rfl,((b.z.fgt b.z.k8.h811).cons (.inr b.z.k8.h811)).cons (.inl rfl)⟩⟩
theorem ZP{K:List Nat}{s:Str}{st:PSt}(g:SOk s st):PX 199 [K7] K s st (l7 s st) iZ:=by
 intro gf ob Z i;have p:=i.z.self;have j:=g.len;refine MetX.introH Tryz.func199 F5 rfl rfl rfl (fun k=>?_);refine C3 (s7 (l:=[(0,.s K7)]) i ⟨cL rfl,trivial⟩ k L6) ?_;refine U7 ?_;refine L2 (KN (K:=K) g _ _ Z ⟨rfl,rfl,n5⟩) mS rfl rfl rfl ?_ ?_
 ·(rintro e ob' ⟨f,rfl⟩;exact H1 L6 (fun _ _ h=>h) ⟨by unfold l7;rw[f],rfl⟩)
 rintro _ _ ⟨b,c,f,rfl,rfl⟩;refine F0 (tW set0 fF c) (JN (KO (K:=K) (s:=s) (st:=b) (Z:=Z) (set0.with_ c.toNat) (by have m:=(g.gr (pZ f) B3).nds;have o:=(g.gr (pZ f) B3).at_;omega) ⟨rfl,rfl,n5⟩) mS A0 A0 A0 ?_);rintro _ _ ⟨rfl,rfl⟩;refine H2 ?_;refine F8 ?_;exact I3 Y5 L6 (fun _ _ h=>h) ⟨(qI (set0.with_ c.toNat) b).1,(qI (set0.with_ c.toNat) b).2,by unfold l7;rw[f],rfl,rfl⟩
end Go.Proofs.YtmbpmaofnddkoaaGreatDoor
