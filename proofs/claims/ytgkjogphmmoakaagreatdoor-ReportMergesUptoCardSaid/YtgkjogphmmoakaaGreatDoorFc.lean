
/- Walks of the program's functions. -/
import Derived.Test.YtgkjogphmmoakaaGreatDoorFb
set_option linter.all false
namespace Go.Proofs.YtgkjogphmmoakaaGreatDoor
open Go Go.AL
set_option maxRecDepth 100000
set_option maxHeartbeats 4000000
theorem HH:FnOk Tryz.prog 57 [] (fun rs=>rs=[pForms formsL]):=by
 refine FnOk.intro Tryz.func57 G6 Z Z Z Z (zz 2 ?_);refine A7 (K7 _ 6 DB) Z (zz 13 ?_);refine A7 (C6 (c:=DB) (ys:=formsL) (D1 Z Z Z Z (D1 Z Z Z Z (D1 Z Z Z Z (D1 Z Z Z Z (D1 Z Z Z Z (D1 Z Z Z Z (D1 Z Z Z Z (D1 Z Z Z Z (D1 Z Z Z Z (D1 Z Z Z Z F2)))))))))) Z Z Z) Z (zz 3 ?_);exact A8 (rs:=[pForms formsL]) (F7 rfl rfl rfl) rfl
abbrev refsT(l:List Nat):List TC:=l.map fun o=>.ref 6 o
abbrev ptrG(l:List Nat):Ob:=.growT 122 l.length 1 (refsT l)
theorem b5q{p:Prop}(h:p:=by repeat (first | exact bX | refine tail_drop rfl ?_ | refine tail_cons rfl ?_ | refine YJ _ rfl ?_)):p:=h
theorem b9q{p:Prop}(h:p:=by repeat (first | exact mA | refine sS rfl ?_ | refine A19 (by assumption) ?_ | refine obs_in _ rfl ?_)):p:=h
theorem tA{gf:Fr}{ob:Obs}(f:CForm)(z:B4 ob 751=none)(A:B4 ob 752=none) :
  AL.Met Tryz.prog 58 [(pForm f).s1,.one (.ref 6 0)] gf ob [751,752] (fun rs ob'=>rs=[.one (.mut 751)]/\ob'=(751,ptrG (i8 f))::P8 [751,752] ob):=by
 obtain⟨q,a⟩:∃l:List Nat,l=if f.b=true then [1,2] else [1]:=⟨_,rfl⟩
 have w:i8 f=if f.c=true then q++[3] else q:=by rw[a];unfold i8;cases f.b<;>cases f.c<;>rfl
 have B:q.length<=2:=by rw[a];split<;>decide
 have x:B4 (P8 [751,752] ob) 751=none:=gT z;have d:B4 (P8 [751,752] ob) 752=none:=gT A;refine AL.Met.introH Tryz.func58 G6 rfl rfl rfl (fun p=>?_);refine E2 (Sees.forget 751) (E2 (Sees.forget 752) (E2 (B91 (gf':=C8 [751,752] gf) (l:=[(0,.s (pForm f).s1),(1,.s (.one (.ref 6 0)))]) (ob':=P8 [751,752] ob) lf (G8 p) b5q (fun _ _ h=>h)) ?_));refine zz 2 ?_;refine A7 (n_boxA Z Z Z) Z (zz 7 ?_);refine B8 (A13 751 Z Z Z Z x Z) Z (zz 8 ?_);refine sX ([(1,.s (.one (.ref 6 0))),(2,.s (.one (.eref Unit 6 (fun _ j=>(cellsOf DB f 0 6).getD j (.v undef)) () 0))),(5,.s (.one (.mut 751)))]++C8 [751,752] gf) ([(751,ptrG q)]++P8 [751,752] ob) ?_ ?_
 ·skip;refine zc 0 (fun k=>?_) fun k=>?_
  ·have hb:f.b=true:=k;rw[A5 hb]at a;subst a;skip;refine zz 5 ?_;refine B8 (BD 752 Z Z Z Z (by rw[B0 G6,M1,d];rfl) Z) Z ?_;refine B8 (eD Z Z Z Z G6 Z) Z (zz 2 ?_);exact B91 lf (G8 p) b5q (r9 (L:=[(751,_)]) ⟨rfl,trivial⟩ b9q)
  ·have hb:f.b=false:=k;rw[A6 (by rw[hb];decide)]at a;subst a;refine zz 1 ?_;exact B91 lf (G8 p) b5q (r9 (L:=[(751,_)]) ⟨rfl,trivial⟩ b9q)
 refine zz 6 ?_;refine sX ([(5,.s (.one (.mut 751)))]++C8 [751,752] gf) ([(751,ptrG (i8 f))]++P8 [751,752] ob) ?_ ?_
 ·skip;refine zc 0 (fun k=>?_) fun k=>?_
  ·have hb:f.c=true:=k;rw[A5 hb]at w;rw[w];have y:q=[1]\/q=[1,2]:=by
    rw[a];split
    ·exact .inr rfl
    ·exact .inl rfl
   clear a w B;rcases y with rfl | rfl
   ·skip;refine zz 5 ?_;refine B8 (BD 752 Z Z Z Z d Z) Z (B8 (eD Z Z Z Z G6 Z) Z (zz 2 ?_));exact B91 ⟨jH rfl,trivial⟩ (G8 p) b5q (r9 (L:=[(751,_)]) ⟨rfl,trivial⟩ b9q)
   ·skip;refine zz 5 ?_;refine B8 (BD 752 Z Z Z Z d Z) Z (B8 (eD Z Z Z Z G6 Z) Z (zz 2 ?_));exact B91 ⟨jH rfl,trivial⟩ (G8 p) b5q (r9 (L:=[(751,_)]) ⟨rfl,trivial⟩ b9q)
  ·have hb:f.c=false:=k;rw[A6 (by rw[hb];decide)]at w;rw[w];refine zz 1 ?_;exact B91 ⟨jH rfl,trivial⟩ (G8 p) b5q (r9 (L:=[(751,_)]) ⟨rfl,trivial⟩ b9q)
 refine zz 6 ?_;exact F1 (O3 rfl rfl) b5q (r9 (L:=[(751,_)]) ⟨rfl,trivial⟩ b9q) ⟨rfl,rfl⟩
theorem A20(c:Cmd)(P:c.Text.length<=1048576):FnOk Tryz.prog 20 [kJ c] (fun rs=>rs=[E5 (rE c).1,D2 (rE c).2]):=by
 refine FnOk.intro Tryz.func20 G6 Z Z Z Z (zz 2 ?_);refine B8 (P3 1 Z Z Z) Z (zz 6 ?_);refine D3 (HH) (zz 4 ?_);refine C5 (X:=Nat) (fun i=>([(1,.s (.one (.ref 1 0))),(10,C0 CForm 6 DB formsL),(11,B2 10),(12,B2 i)],[(1,.box (oR c))])) (fun i=>i<=10/\rE c=RE c (formsL.drop i)) (fun i=>10-i) 0 ⟨Nat.zero_le _,rfl⟩ (Sees.of lf lo) ?_;rintro i ⟨hi,z⟩;dsimp only at hi z ⊢;refine zc 5 (fun d=>?_) fun d=>?_;rotate_left
 ·have S:i=10:=by have:=A1 d;omega
  subst S;refine zz 7 ?_;exact A8 (rs:=[E5 [],D2 2]) (S8 rfl rfl rfl rfl rfl) (by rw[z];rfl)
 have C:i<formsL.length:=by have h:=A0 d;show i<10;omega
 obtain⟨f,G⟩:∃f,f=formsL[i]:=⟨_,rfl⟩
 have hv:formsL[i]?=some f:=by rw[G];exact C29 C
 have hw:=A73 (C53 hv);rw[C38 C,<-G,RE]at z;refine zz 5 ?_;refine A7 (A9 Z (.pure _ _ _ _) Z B1 hv) Z (zz 1 ?_);refine B8 (E6 5 Z) Z (zz 2 ?_);have w:((if decide (f.kind≠c.Kind)=true then true else !(f.dense == c.Dense))=true)↔(f.kind≠c.Kind\/f.dense≠c.Dense):=by cases f.dense<;>cases c.Dense<;>simp
 refine zz 13 ?_;refine C3 Z Z Z Z (fun R=>by rw[R];exact n_neq_b Z Z TyBool.out) ?_;refine zc 2 (fun d=>?_) fun d=>?_
 ·have D:f.kind≠c.Kind\/f.dense≠c.Dense:=w.1 d;rw[A5 D]at z;refine zz 5 ?_;exact⟨i+1,⟨C,z⟩,by have:formsL.length=10:=rfl;omega,Sees.of lf lo⟩
 have D:¬(f.kind≠c.Kind\/f.dense≠c.Dense):=fun h=>by rw[w.2 h]at d;cases d
 rw[A6 D]at z;refine K4 [(1,.s (.one (.ref 1 0))),(5,.s (.one (.ref 5 0))),(10,C0 CForm 6 DB formsL),(11,B2 10),(12,B2 i)] [(1,.box (oR c)),(5,.box (formT f))] (Sees.of lf lo) (zz 4 ?_);refine B8 (E6 6 Z) Z (zz 12 ?_);refine S9 (tA f Z Z) Z Z Z ?_;rintro _ _ ⟨rfl,rfl⟩;refine A7 (OQ Z Z) Z (zz 3 ?_);obtain⟨L,M⟩:∃L,L=i8 f:=⟨_,rfl⟩
 have O:=RC f;rw[<-M]at O ⊢;refine C5 (X:=Nat×Cmd×Str) (fun x=>([(5,.s (.one (.ref 5 0))),(6,.s (.one (.ref 6 0))),(7,H6 x.2.2),(32,.s (.one (.mut 751))),(33,B2 L.length),(34,B2 x.1)],[(5,.box (formT f)),(6,.box (oR x.2.1)),(751,ptrG L)])) (fun x=>x.1<=L.length/\x.2.2.length<=8+11*x.1/\x.2.1.Text=c.Text/\kK L c f.word=kK (L.drop x.1) x.2.1 x.2.2) (fun x=>L.length-x.1) (0,c,f.word) ⟨Nat.zero_le _,by dsimp only;omega,rfl,rfl⟩ (Sees.of lf lo) ?_;rintro⟨j,g,s⟩ ⟨hj,hs,q,y⟩;dsimp only at hj hs q y ⊢;refine zc 5 (fun d=>?_) fun d=>?_
 ·have B:j<L.length:=by have:=A0 d;omega
  obtain⟨o,Y⟩:∃o,o=L[j]:=⟨_,rfl⟩
  have K:L[j]?=some o:=by rw[Y];exact C29 B
  have E:=ZR (f:=f) (o:=o) (by rw[<-M];exact C53 K);have A:=B53 (c:=g) E;have V:(refsT L)[((j:Nat):Int).toNat*1+0]?=some (.ref 6 o):=by rw[C31,Nat.mul_one,Nat.add_zero,C63,K];rfl
  have H:Nat.ble (o+1) 6=true:=by rcases E with rfl | rfl | rfl<;>rfl
  rw[C38 B,<-Y,kK]at y;refine zz 5 ?_;refine A7 (eZ Z Z Z B1 B1) Z (A7 (vC Z Z V) Z (zz 7 ?_));refine A7 (C2 Z Z (A)) Z (zz 4 ?_);refine C3 Z Z Z Z (fun R=>by rw[R];exact C2 Z Z (A)) ?_;refine zc 3 (fun d=>?_) fun d=>?_
  ·have F:g.get o<0\/2147483647<g.get o:=A0 (or_pick.symm.trans d);rw[A5 F]at y;refine zz 6 ?_;exact A8 (rs:=[E5 [],D2 2]) (S8 rfl rfl rfl rfl rfl) (by rw[z];unfold zR;rw[<-M,y])
  have U:¬(g.get o<0\/2147483647<g.get o):=A1 (or_pick.symm.trans d);rw[A6 U]at y;have ab:=X7 (g.get o);refine zz 6 ?_;refine A7 (C2 Z Z (A)) Z (D3 (Z1 (g.get o)) (zz 7 ?_));refine O2 (H0 TySz.out Z Z Z Z Z (H)) (zz 5 ?_);refine⟨(j+1,g.put o 0,s++([32]++J4 (g.get o))),⟨B,?_,?_,y⟩,by dsimp only;omega,(by dsimp only;rw[<-RD 0 E];exact (Sees.of lf lo))⟩
  ·dsimp only;simp only[C32,C34,C43];omega
  ·dsimp only;rw[MX];exact q
 have T:j=L.length:=by have:=A1 d;omega
 rw[T,List.drop_length,kK]at y;obtain⟨v,k⟩:∃v:Cmd,v=if f.text=true then { g with Text:=[] } else g:=⟨_,rfl⟩
 obtain⟨s2,l⟩:∃s2:Str,s2=if f.text=true then s++([32]++I5 g.Text) else s:=⟨_,rfl⟩
 have J:rE c=wC f v s2:=by
  rw[z];unfold zR;rw[<-M,y,k,l];dsimp only;split<;>rfl
 have ac:=xR g.Text;have W:g.Text.length<=1048576:=by rw[q];exact P
 refine zz 7 ?_;refine sX [(5,.s (.one (.ref 5 0))),(6,.s (.one (.ref 6 0))),(7,H6 s2)] [(5,.box (formT f)),(6,.box (oR v))] ?_ ?_
 ·skip;refine zc 0 (fun d=>?_) fun d=>?_
  ·have hb:f.text=true:=d;rw[A5 hb]at k l;subst k l;refine zz 5 ?_;refine x7 (iM g.Text (by rw[q];omega)) Z Z Z ?_;rintro _ rfl;refine zz 8 ?_;exact Sees.of lf lo
  ·have hb:f.text=false:=d;rw[A6 (by rw[hb];decide)]at k l;subst k l;refine zz 1 ?_;exact Sees.of lf lo
 refine zz 9 ?_;refine A7 (B18 (cmdV v) (cmdV ⟨f.kind,0,0,0,f.dense,[]⟩) Z Z Z Z (cmd_eq v ⟨f.kind,0,0,0,f.dense,[]⟩)) Z ?_;refine zc 1 (fun d=>?_) fun d=>?_
 ·have I:¬v=⟨f.kind,0,0,0,f.dense,[]⟩:=by simpa using d
  refine zz 6 ?_;exact A8 (rs:=[E5 [],D2 2]) (S8 rfl rfl rfl rfl rfl) (by rw[J];unfold wC;rw[A6 I])
 ·have Q:v=⟨f.kind,0,0,0,f.dense,[]⟩:=by simpa using d
  refine zz 8 ?_;exact A8 (rs:=[E5 s2,D2 0]) (S8 rfl rfl rfl rfl rfl) (by rw[J];unfold wC;rw[A5 Q])
theorem gD{s:Str}{i:Nat}(h:i<s.length):s[i]?=some (s.getD i 0):=by simp[h]
def tB(s:Str)(i:Nat):Bool:=decide ((i<s.length/\48<=(s.getD i 0).toNat)/\(s.getD i 0).toNat<=57)
theorem UT(s:Str)(i:Nat):tB s i=match s[i]? with | some c=>u5 c | none=>false:=by
 unfold tB u5;by_cases h:i<s.length
 ·rw[gD h];simp[h]
 ·rw[C49 B1];simp[h]
theorem digs_le(s:Str)(i:Nat):(M2 (s.drop i)).length<=s.length-i:=by
 unfold M2;have:=(List.takeWhile_sublist u5 (l:=s.drop i)).length_le;rw[C45]at this;exact this
theorem aR{p:UInt8->Bool}:∀(s:Str) (k:Nat),k<=(s.takeWhile p).length->(match s[k]? with | some c=>p c | none=>false)=decide (k<(s.takeWhile p).length)
 | [],k,h=>by simp at h ⊢
 | c::r,0,h=>by by_cases a:p c=true<;>simp[List.takeWhile_cons,a]
 | c::r,k+1,h=>by
  by_cases a:p c=true
  ·rw[List.takeWhile_cons,A5 a,C34]at h ⊢;have:=aR (p:=p) r k B1;rw[List.getElem?_cons_succ,this];simp
  ·rw[List.takeWhile_cons,A6 a]at h;simp at h
theorem pO{p:UInt8->Bool}:∀(s:Str) (k:Nat),k<(s.takeWhile p).length->s[k]?=(s.takeWhile p)[k]?
 | [],k,h=>by simp at h
 | c::r,k,h=>by
  by_cases a:p c=true
  ·rw[List.takeWhile_cons,A5 a]at h ⊢;cases k with
   | zero=>rfl
   | succ k=>rw[List.getElem?_cons_succ,List.getElem?_cons_succ];exact pO (p:=p) r k (by simpa using h)
  ·rw[List.takeWhile_cons,A6 a]at h;simp at h
theorem HI(s:Str)(i k:Nat)(h:k<=(M2 (s.drop i)).length):tB s (i+k)=decide (k<(M2 (s.drop i)).length):=by
 rw[UT,<-C61];exact aR (s.drop i) k h
theorem A21{s:Str}{i k:Nat}(h:k<(M2 (s.drop i)).length):s[i+k]?=some ((M2 (s.drop i)).getD k 0)/\48<=((M2 (s.drop i)).getD k 0).toNat/\((M2 (s.drop i)).getD k 0).toNat<=57 /\
  fO ((M2 (s.drop i)).take (k+1))=10*fO ((M2 (s.drop i)).take k)+(((M2 (s.drop i)).getD k 0).toNat-48):=by
 have d:s[i+k]?=(M2 (s.drop i))[k]?:=by rw[<-C61];exact pO _ _ h
 have c:=gD h;have b:u5 ((M2 (s.drop i)).getD k 0)=true:=by
  have m:(M2 (s.drop i)).getD k 0∈(s.drop i).takeWhile u5:=C53 c;exact List.all_eq_true.1 List.all_takeWhile _ m
 unfold u5 at b;have b:=A0 b;refine⟨by rw[d,c],b.1,b.2,?_⟩;obtain⟨j,f⟩:=List.getElem?_eq_some_iff.1 c;rw[C48 j,IK,f]
theorem PH(n:Nat)(h:48<=n)(b:n<=57):IntKind.i64.wrap (IntKind.u8.wrap ((n:Int)-48))=((n-48:Nat):Int):=by
 have:∀k:Fin 10,IntKind.i64.wrap (IntKind.u8.wrap (((k.1+48:Nat):Int)-48))=((k.1:Nat):Int):=by decide
 have a:=this ⟨n-48,by omega⟩;dsimp only at a;rw[show n-48+48=n by omega]at a;exact a
def LG(s:Str)(i:Nat):List PV:=match j8 (s.drop i) with
 | none=>[D2 0,D2 0,D5 false]
 | some (n,k)=>[D2 n,D2 ((i+k:Nat):Int),D5 true]
theorem HJ{s:Str}{n k:Nat}(h:j8 s=some (n,k)):k=(M2 s).length/\n=fO (M2 s)/\0<k/\k<=s.length/\n<=2147483647:=by
 unfold j8 at h;split at h
 ·cases h
 ·rename_i a;cases h;have b:M2 s≠[]:=fun e=>a (.inl e);have c:=List.length_pos_iff.2 b;have d:(M2 s).length<=s.length:=by unfold M2;exact (List.takeWhile_sublist u5).length_le
  refine⟨rfl,rfl,c,d,?_⟩;by_cases f:fO (M2 s)<=2147483647
  ·exact f
  ·exact absurd (.inr (.inr B1)) a
theorem HL(s:Str)(i:Nat):FnOk Tryz.prog 236 [E5 s,D2 i] (fun rs=>rs=[D5 (tB s i)]):=by
 refine FnOk.intro Tryz.func236 G6 Z Z Z Z (zz 13 ?_);refine C3 Z Z Z Z (fun a=>by have b:=a;(try simp at b);rw[a];exact J9 Z Z B1 (gD B1)) ?_;refine zz 5 ?_;refine C3 Z Z Z Z (fun a=>by have b:=a;(try simp at b);rw[a];exact J9 Z Z B1 (gD B1)) ?_;refine zz 5 ?_;refine A8 (F7 Z Z Z) ?_;simp only[and_pick];unfold tB
 congr 4
 congr 1
 simp;omega
theorem fB(s:Str)(i:Nat)(Y:i<=s.length)(hs:s.length<=1073741824):FnOk Tryz.prog 157 [E5 s,D2 i] (fun rs=>rs=LG s i):=by
 obtain⟨b,f⟩:∃b,b=M2 (s.drop i):=⟨_,rfl⟩
 have M:=digs_le s i;have I:=HI s i 0 (Nat.zero_le _);rw[Nat.add_zero]at I;rw[<-f]at M I;refine FnOk.intro Tryz.func157 G6 Z Z Z Z (zz 14 ?_);refine C3 Z Z Z Z (fun u=>by have C:=u;(try simp at C);rw[u];exact I4 (HL s i) Z Z) ?_;refine zz 3 ?_;rw[I];refine zz 0 ?_;by_cases P:b.length=0
 ·refine zc 0 (fun j=>?_) fun j=>?_;rotate_left
  ·exfalso;revert j;simp[P]
  refine zz 7 ?_;refine A8 (rs:=[D2 0,D2 0,D5 false]) (ret3 Z Z Z Z Z Z Z) ?_;unfold LG j8;rw[<-f,A5 (.inl (List.length_eq_zero_iff.1 P))]
 refine zc 0 (fun j=>?_) fun j=>?_
 ·exfalso;revert j;simp[show 0<b.length by omega]
 refine zz 9 ?_;refine C5 (X:=Nat) (fun k=>([(0,H6 s),(1,B2 i),(7,B2 ((min (fO (b.take k)) 2147483648:Nat):Int)),(8,B2 ((i+k:Nat):Int))],[])) (fun k=>k<=b.length) (fun k=>b.length-k) 0 (Nat.zero_le _) (Sees.of lf lo) ?_;intro k R;dsimp only at R ⊢;have w:=HI s i k (by rw[<-f];exact R);rw[<-f]at w;refine zz 5 ?_;refine D3 (HL s (i+k)) (zz 1 ?_);rw[w];refine zc 0 (fun j=>?_) fun j=>?_
 ·have A:k<b.length:=A0 j;obtain⟨g1,F,G,H⟩:=A21 (s:=s) (i:=i) (k:=k) (by rw[<-f];exact A);rw[<-f]at g1 F G H;obtain⟨c,U⟩:∃c,c=b.getD k 0:=⟨_,rfl⟩
  rw[<-U]at g1 F G H;obtain⟨v,O⟩:∃v,v=min (fO (b.take k)) 2147483648:=⟨_,rfl⟩
  have V:v<=2147483648:=by omega
  have B:min (fO (b.take (k+1))) 2147483648=min (10*v+(c.toNat-48)) 2147483648:=by rw[H];omega
  rw[<-O];have x:=PH c.toNat F G;refine zz 8 ?_;refine A7 (J9 Z Z B1 g1) Z (A7 (JY Z Z) Z (zz 1 ?_));refine A7 (y8 Z Z (by (rw[x];omega))) Z ?_;refine zz 8 ?_;refine⟨k+1,A,by omega,?_⟩;rw[B];refine Sees.of ⟨⟨_,rfl,.same _⟩,⟨_,rfl,.same _⟩,⟨_,rfl,.eq ?_⟩,⟨_,rfl,.eq ?_⟩,trivial⟩ trivial
  ·rw[x]
   congr 6
   split<;>omega
  ·congr 6
 ·have L:k=b.length:=by have:¬k<b.length:=A1 j;omega
  subst L;rw[C44];have D:i<s.length:=by omega
  refine zz 9 ?_;refine C3 Z Z Z Z (fun u=>by have C:=u;(try simp at C);rw[u];exact J9 Z Z B1 (gD D)) ?_;refine zz 4 ?_;refine P7 Z Z Z (.gd (.val _)) Z (fun u=>by have C:=u;(try simp at C);obtain⟨y,z⟩:=W8 u;(try rw[y]);(try rw[z]);exact y8 Z Z B1) ?_;refine P7 Z Z Z (.gd (.val _)) Z (fun u=>by obtain⟨y,z⟩:=W8 u;(try rw[y]);(try rw[z]);exact wS Z Z) ?_;refine zz 3 ?_;have K:(s.drop i).head?=some (s.getD i 0):=by rw[List.head?_drop,gD D]
  simp only[and_pick,or_pick];have p:(M2 (s.drop i)=[]\/((s.drop i).head?=some 48/\1<(M2 (s.drop i)).length)\/2147483647<fO (M2 (s.drop i)))↔(2147483647<((min (fO b) 2147483648:Nat):Int)\/(((s.getD i 0).toNat:Int)=48/\(i:Int)+1<((i+b.length:Nat):Int))):=by
   rw[<-f,K];have S:b≠[]:=fun e=>P (by rw[e];rfl);have T:(some (s.getD i 0)=some 48)↔((s.getD i 0).toNat:Int)=48:=by
    rw[Option.some.injEq,<-UInt8.toNat_inj];have:(48:UInt8).toNat=48:=rfl;omega
   simp only[S,false_or,T];omega
  refine zc 0 (fun j=>?_) fun j=>?_
  ·have E:=A0 j;refine zz 7 ?_;refine A8 (rs:=[D2 0,D2 0,D5 false]) (ret3 Z Z Z Z Z Z Z) ?_;unfold LG j8;rw[A5 (p.2 (by first | exact E | simpa using E))]
  ·have E:=A1 j;have J:¬(M2 (s.drop i)=[]\/((s.drop i).head?=some 48/\1<(M2 (s.drop i)).length)\/2147483647<fO (M2 (s.drop i))):=fun Q=>E (by first | exact p.1 Q | simpa using p.1 Q);refine zz 10 ?_;refine A8 (rs:=[D2 ((min (fO b) 2147483648:Nat):Int),D2 ((i+b.length:Nat):Int),D5 true]) (ret3 Z Z Z Z Z Z Z) ?_;unfold LG j8;rw[A6 J,<-f];have W:fO b<=2147483647:=by
    rw[<-f]at J;by_cases O:fO b<=2147483647
    ·exact O
    ·exact absurd (.inr (.inr B1)) J
   rw[show min (fO b) 2147483648=fO b by omega]
def LH(s:Str)(i:Nat):List PV:=match bO (s.drop i) with
 | none=>[D2 0,D2 0,D2 0,D5 false]
 | some (a,n,k)=>[D2 a,D2 n,D2 ((i+k:Nat):Int),D5 true]
theorem nW{s:Str}{i n k:Nat}(h:j8 (s.drop i)=some (n,k)):LG s i=[D2 n,D2 ((i+k:Nat):Int),D5 true]:=by unfold LG;rw[h]
theorem nX{s:Str}{i:Nat}(h:j8 (s.drop i)=none):LG s i=[D2 0,D2 0,D5 false]:=by unfold LG;rw[h]
theorem HM(s:Str)(i:Nat)(I:i<=s.length)(hs:s.length<=1073741824):FnOk Tryz.prog 238 [E5 s,D2 i] (fun rs=>rs=LH s i):=by
 have A:=fB s i I hs;cases y:j8 (s.drop i) with
 | none =>
  rw[nX y]at A;refine FnOk.intro Tryz.func238 G6 Z Z Z Z (zz 11 ?_);refine D3 (A) ?_;refine zc 14 (fun f=>?_) fun f=>?_
  ·refine zz 8 ?_;exact A8 (ret4 rfl rfl rfl rfl rfl rfl rfl rfl rfl) (by unfold LH bO;rw[y])
  ·cases f
 | some p =>
  obtain⟨a,k⟩:=p;rw[nW y]at A;obtain⟨_,_,J,D,ha⟩:=HJ y;rw[C45]at D;have m:(s.drop i)[k]?=s[i+k]?:=by rw[C61]
  have B:(s.drop i).drop (k+1)=s.drop (i+k+1):=by rw[List.drop_drop];rfl
  have x:decide (((i+k:Nat):Int)<(s.length:Int)/\((s.getD (i+k) 0).toNat:Int)=44)=decide (s[i+k]?=some 44):=by
   have:(44:UInt8).toNat=44:=rfl
   congr 1
   by_cases w:i+k<s.length
   ·rw[gD w,Option.some.injEq,<-UInt8.toNat_inj];apply propext;constructor<;>intro h<;>omega
   ·rw[C49 B1];apply propext;constructor<;>intro h
    ·omega
    ·cases h
  have z:(s[i+k]?=some 44/\j8 (s.drop (i+k+1))=none)\/(∃c e,((∃kb,s[i+k]?=some 44/\j8 (s.drop (i+k+1))=some (c,kb)/\e=k+1+kb)\/(s[i+k]?≠some 44/\c=1/\e=k))/\i+e<=s.length/\c<=2147483647/\bO (s.drop i)=vZ (s.drop i) a c e):=by
   by_cases b:s[i+k]?=some 44
   ·have w:=(List.getElem?_eq_some_iff.1 b).1;cases u:j8 (s.drop (i+k+1)) with
    | none=>exact .inl ⟨b,rfl⟩
    | some q =>
     obtain⟨c,kb⟩:=q;obtain⟨_,_,K,E,g⟩:=HJ u;rw[C45]at E;refine .inr ⟨c,k+1+kb,.inl ⟨kb,b,rfl,rfl⟩,by omega,g,?_⟩;unfold bO;rw[y];dsimp only;rw[m,A5 b,B,u]
   ·refine .inr ⟨1,k,.inr ⟨b,rfl,rfl⟩,by omega,by omega,?_⟩;unfold bO;rw[y];dsimp only;rw[m,A6 b]
  rcases z with ⟨b,u⟩ | ⟨c,e,hce,hel,hcb,hfin⟩
  ·have w:=(List.getElem?_eq_some_iff.1 b).1;have g:=fB s (i+k+1) B1 hs;rw[nX u,show ((i+k+1:Nat):Int)=((i+k:Nat):Int)+1 by omega]at g;refine FnOk.intro Tryz.func238 G6 Z Z Z Z (zz 11 ?_);refine D3 (A) ?_;refine zc 14 (fun f=>?_) fun f=>?_
   ·cases f
   refine zz 15 ?_;refine C3 Z Z Z Z (fun C=>by have F:=C;(try simp at F);rw[C];exact J9 Z Z B1 (gD B1)) ?_;refine zz 3 ?_;simp only[and_pick,C31];rw[x];refine zc 0 (fun f=>?_) fun f=>?_
   ·refine zz 5 ?_;refine D3 (g) ?_;refine zc 13 (fun f=>?_) fun f=>?_
    ·refine zz 8 ?_;refine A8 (rs:=[D2 0,D2 0,D2 0,D5 false]) (ret4 Z Z Z Z Z Z Z Z Z) ?_;unfold LH bO;rw[y];dsimp only;rw[m,A5 b,B,u]
    ·cases f
   ·exact absurd b (A1 f)
  ·obtain⟨st,j⟩:∃st:Int,st=if 0<c then (a:Int)-1 else a:=⟨_,rfl⟩
   have H:-1<=st/\st<=2147483647:=by rw[j];split<;>omega
   have G:=vF st c B1 B1;refine FnOk.intro Tryz.func238 G6 Z Z Z Z (zz 11 ?_);refine D3 (A) ?_;refine zc 14 (fun f=>?_) fun f=>?_
   ·cases f
   refine zz 5 ?_;refine bV [(0,H6 s),(1,B2 i),(8,B2 a),(9,B2 ((i+e:Nat):Int)),(11,B2 c)] [] ?_ ?_
   ·refine zz 9 ?_;refine C3 Z Z Z Z (fun C=>by have F:=C;(try simp at F);rw[C];exact J9 Z Z B1 (gD B1)) ?_;refine zz 3 ?_;simp only[and_pick,C31];rw[x];refine zc 0 (fun f=>?_) fun f=>?_
    ·have b:=A0 f;have w:=(List.getElem?_eq_some_iff.1 b).1;rcases hce with ⟨kb,_,u,L⟩ | ⟨hn,_⟩
     ·have g:=fB s (i+k+1) B1 hs;rw[nW u,show ((i+k+1:Nat):Int)=((i+k:Nat):Int)+1 by omega,show i+k+1+kb=i+e by omega]at g;refine zz 5 ?_;refine D3 (g) ?_;refine zc 13 (fun f=>?_) fun f=>?_
      ·cases f
      refine zz 1 ?_;exact Sees.of lf lo
     ·exact absurd b hn
    ·have b:=A1 f;rcases hce with ⟨kb,v,_⟩ | ⟨_,u,v⟩
     ·exact absurd v b
     ·subst u;subst v;refine zz 1 ?_;exact Sees.of lf lo
   refine bV [(0,H6 s),(1,B2 i),(8,B2 st),(9,B2 ((i+e:Nat):Int)),(11,B2 c)] [] ?_ ?_
   ·refine zc 5 (fun f=>?_) fun f=>?_
    ·have v:(0:Int)<(c:Int):=A0 f;rw[A5 B1]at j;skip;refine zz 5 ?_;rw[<-j];refine zz 0 ?_;exact Sees.of lf lo
    ·have v:¬(0:Int)<(c:Int):=A1 f;rw[A6 B1]at j;rw[j];refine zz 1 ?_;exact Sees.of lf lo
   unfold vZ at hfin;rw[<-j]at hfin;refine zz 5 ?_;refine D7 (I4 (G) Z Z) Z Z (zz 4 ?_);refine D7 (jB Z Z) Z Z (zz 1 ?_);rw[show ((i:Int)).toNat=i by omega,show (((i+e:Nat):Int)).toNat-i=e by omega];refine zc 0 (fun f=>?_) fun f=>?_
   ·have v:¬J3 st c=(s.drop i).take e:=A0 f;refine zz 8 ?_;refine A8 (rs:=[D2 0,D2 0,D2 0,D5 false]) (ret4 Z Z Z Z Z Z Z Z Z) ?_;rw[A6 v]at hfin;unfold LH;rw[hfin]
   ·have v:J3 st c=(s.drop i).take e:=Decidable.not_not.1 (A1 f);refine zz 12 ?_;refine A8 (rs:=[D2 st,D2 c,D2 ((i+e:Nat):Int),D5 true]) (ret4 Z Z Z Z Z Z Z Z Z) ?_;rw[A5 v]at hfin;unfold LH;rw[hfin]
abbrev X5(s:Str)(i:Nat):Ob:=.box [.p (.v (.string ⟨s.toArray⟩)),.p (.v (.int .i64 (i:Int)))]
abbrev t8(x:Int):S1:=.one (.p (.v (.int .u8 x)))
abbrev UU(b:Bool):S1:=.one (.p (.v (.bool b)))
def PI(c:UInt8):Prop:=48<=c.toNat/\c.toNat<=55
def oP(s:Str)(i:Nat):Nat->Nat
 | 0=>0
 | q+1=>8*oP s i q+((s.getD (i+q) 0).toNat-48)
def R3(s:Str)(i q:Nat):Prop:=i+q<s.length/\PI (s.getD (i+q) 0)
instance (s:Str) (i q:Nat):Decidable (R3 s i q):=by unfold R3 PI;exact inferInstance
def FJ(s:Str)(i:Nat):Option UInt8:=if (R3 s i 0/\R3 s i 1/\R3 s i 2)/\oP s i 3<256 then some (UInt8.ofNat (oP s i 3)) else none
theorem vH{s:Str}{i q:Nat}(d:q<3)(h:¬R3 s i q):FJ s i=none:=by
 unfold FJ;rw[A6];rintro⟨⟨a,b,c⟩,_⟩;rcases (show q=0\/q=1\/q=2 by omega) with rfl | rfl | rfl<;>exact h ‹_›
theorem YT{s:Str}{i:Nat}:∀q,q<=3->(∀p,p<q->R3 s i p)->oP s i q<=8 ^ q-1
 | 0,_,_=>by simp[oP]
 | q+1,hq,h=>by
  have c:=YT q B1 (fun p b=>h p B1);have a:=(h q B1).2;unfold PI at a;simp only[oP];rcases (show q=0\/q=1\/q=2 by omega) with rfl | rfl | rfl<;>omega
theorem B24{s:Str}{i:Nat}(h:∀p,p<3->R3 s i p):FJ s i=if oP s i 3<256 then some (UInt8.ofNat (oP s i 3)) else none:=by
 unfold FJ;by_cases a:oP s i 3<256
 ·rw[A5 ⟨⟨h 0 B1,h 1 B1,h 2 B1⟩,a⟩,A5 a]
 ·rw[A6 (fun b=>a b.2),A6 a]
theorem PJ{b:Nat}{x:Ob}{ob:Obs}(h:B4 ob b=some x):∀k o,B4 ((b,x)::ob) k=some o->B4 ob k=some o:=by
 intro k o a;by_cases c:b=k
 ·subst c;rw[C4]at a;cases a;exact h
 ·rw[B0 c]at a;exact a
theorem vI{b:Nat}{x y:Ob}{ob:Obs}:∀k o,B4 ((b,x)::ob) k=some o->B4 ((b,x)::(b,y)::ob) k=some o:=by
 intro k o a;by_cases c:b=k
 ·subst c;rw[C4]at a ⊢;exact a
 ·rw[B0 c]at a ⊢;rw[B0 c];exact a
theorem A22{gf:Fr}{ob:Obs}(s:Str)(i:Nat)(T:i<=s.length)(hs:s.length<=1073741824)(E:B4 ob 705=some (X5 s i)) :
  AL.Met Tryz.prog 344 [.one (.ref 705 0)] gf ob []
   (fun Q ob'=>∃(x:Int) (b:Bool) (j:Nat),Q=[t8 x,UU b]/\ob'=(705,X5 s j)::ob/\j<=s.length/\match FJ s i with
    | some c=>b=true/\x=c.toNat/\j=i+3
    | none=>b=false):=by
 refine AL.Met.introH Tryz.func344 G6 rfl rfl rfl (fun K=>?_);refine zz 15 ?_;refine C5 (X:=Nat) (fun q=>([(0,.s (.one (.ref 705 0))),(4,B2 (oP s i q:Int)),(5,B2 q)]++gf,(705,X5 s (i+q))::ob)) (fun q=>q<=3/\∀p,p<q->R3 s i p) (fun q=>3-q) 0 ⟨by omega,by omega⟩ ?_ ?_
 ·exact B91 lf K rT (PJ E)
 rintro q ⟨y,k⟩;dsimp only at y k ⊢;have P:=YT q y k;have B:q=0\/i+q<=s.length:=by
  rcases Nat.eq_zero_or_pos q with h | h
  ·exact .inl h
  ·have:=(k (q-1) B1).1;exact .inr B1
 have A:i+q<=s.length:=by rcases B with rfl | h<;>omega
 have S:oP s i q<=512:=by rcases (show q=0\/q=1\/q=2\/q=3 by omega) with rfl | rfl | rfl | rfl<;>omega
 refine zc 5 (fun w=>?_) fun w=>?_
 ·have F:q<3:=by have:=A0 w;omega
  refine zz 15 ?_;refine D7 (YE Z Z) Z Z (zz 9 ?_);refine J5 Z Z (fun m=>by have y:=m;(try simp at y);rw[m];exact J9 Z Z B1 (gD B1)) Z Z ?_;refine J5 Z Z (fun m=>by rw[m];exact iD Z Z) Z Z ?_;refine zz 10 ?_;refine J5 Z Z (fun m=>by have y:=m;(try simp at y);rw[m];exact J9 Z Z B1 (gD B1)) Z Z ?_;refine J5 Z Z (fun m=>by rw[m];exact wS Z Z) Z Z ?_;refine zz 2 ?_;simp only[or_pick,C31];have C:decide ((((s.length:Int)<=((i+q:Nat):Int))\/((s.getD (i+q) 0).toNat:Int)<48)\/(55:Int)<((s.getD (i+q) 0).toNat:Int))=decide (¬R3 s i q):=by
   congr 1
   unfold R3 PI;apply propext;constructor
   ·intro J R;omega
   ·intro J;by_cases M:i+q<s.length
    ·by_cases O:48<=(s.getD (i+q) 0).toNat
     ·by_cases E:(s.getD (i+q) 0).toNat<=55
      ·exact absurd ⟨M,O,E⟩ J
      ·exact .inr B1
     ·exact .inl (.inr B1)
    ·exact .inl (.inl B1)
  rw[C];refine zc 0 (fun w=>?_) fun w=>?_
  ·have z:¬R3 s i q:=A0 w;refine zz 6 ?_;refine F1 (dW rfl rfl rfl) cQ (fun _ _ h=>h) ⟨0,false,i+q,rfl,rfl,A,?_⟩;rw[vH F z]
  ·have d:R3 s i q:=Decidable.not_not.1 (A1 w);obtain⟨g1,I,L⟩:=d;have d:R3 s i q:=⟨g1,I,L⟩
   have u:=PH (s.getD (i+q) 0).toNat I B1;refine zz 2 ?_;have D:s[i+q]?=some (s.getD (i+q) 0):=gD g1;refine zz 2 ?_;refine D7 (rV Z Z B1) Z Z (zz 8 ?_);refine D7 (J9 Z Z B1 D) Z Z (D7 (JY Z Z) Z Z (D7 (GM Z) Z Z (D7 (y8 Z Z (by (rw[u];omega))) Z Z ?_)));refine zz 2 ?_;rw[u];refine zz 14 ?_;refine⟨q+1,⟨by omega,fun p U=>?_⟩,by omega,?_⟩
   ·by_cases G:p=q
    ·rw[G];exact d
    ·exact k p B1
   rw[show ((oP s i (q+1):Nat):Int)=8*((oP s i q:Nat):Int)+(((s.getD (i+q) 0).toNat-48:Nat):Int) by simp only[oP];omega,show X5 s (i+(q+1))=.box [.p (.v (.string ⟨s.toArray⟩)),.p (.v (.int .i64 (((i+q:Nat):Int)+1)))] by unfold X5;congr 6];exact B91 lf K rT vI
 ·have H:q=3:=by have:=A1 w;omega
  subst H;refine zz 11 ?_;refine F1 (dW rfl rfl rfl) cQ (fun _ _ h=>h) ⟨_,_,i+3,rfl,rfl,A,?_⟩;rw[B24 k];by_cases D:oP s i 3<256
  ·rw[A5 D];refine⟨A3 B1,?_,rfl⟩;rw[UInt8.toNat_ofNat'];have:∀n:Fin 256,IntKind.u8.wrap ((n.1:Nat):Int)=((n.1 % 2 ^ 8:Nat):Int):=by decide
   exact this ⟨_,D⟩
  ·rw[A6 D];exact A4 B1
def LI(s:Str)(i:Nat):Option (UInt8×Nat):=if i<s.length then
  (if (s.getD i 0).toNat=34\/(s.getD i 0).toNat=92 then some (s.getD i 0,i+1) else if (s.getD i 0).toNat=110 then some (10,i+1) else if (s.getD i 0).toNat=116 then some (9,i+1) else (FJ s i).map fun x=>(x,i+3))
 else none
theorem zK(s:Str)(i:Nat):LI s i=(lE (s.drop i)).map fun p=>(p.1,i+p.2):=by
 unfold LI;by_cases t:i<s.length
 ·rw[A5 t];have l:(s.drop i)[0]?=some (s.getD i 0):=by rw[C61];exact gD t
  have c:∀q,(s.drop i)[q]?=s[i+q]?:=fun q=>C61;obtain⟨d,r,o⟩:∃d r,s.drop i=d::r:=by
   cases h:s.drop i with
   | nil=>rw[h]at l;cases l
   | cons d r=>exact⟨d,r,rfl⟩
  rw[o]at l c ⊢;have v:s.getD i 0=d:=by simpa using l.symm
  rw[v];simp only[lE];by_cases g:d.toNat=34\/d.toNat=92
  ·rw[A5 g,A5 g];rfl
  ·rw[A6 g,A6 g];by_cases j:d.toNat=110
   ·rw[A5 j,A5 j];rfl
   ·rw[A6 j,A6 j];by_cases k:d.toNat=116
    ·rw[A5 k,A5 k];rfl
    ·rw[A6 k,A6 k];cases r with
     | nil =>
      have:¬R3 s i 1:=fun h=>by have:=h.1;have b:=c 1;rw[C29 this]at b;simp at b
      rw[vH (q:=1) B1 this];rfl
     | cons e C =>
      cases C with
      | nil =>
       have:¬R3 s i 2:=fun h=>by have:=h.1;have b:=c 2;rw[C29 this]at b;simp at b
       rw[vH (q:=2) B1 this];rfl
      | cons f D =>
       have n:=c 1;have b:=c 2;simp only[List.getElem?_cons_succ,List.getElem?_cons_zero]at n b;have A:=(List.getElem?_eq_some_iff.1 n.symm).1;have B:=(List.getElem?_eq_some_iff.1 b.symm).1;have w:s.getD (i+1) 0=e:=by have:=gD A;rw[<-n]at this;exact (Option.some.inj this).symm
       have x:s.getD (i+2) 0=f:=by have:=gD B;rw[<-b]at this;exact (Option.some.inj this).symm
       have z:FJ s i=octV d e f:=by
        unfold FJ octV R3 PI;simp only[oP,Nat.add_zero,v,w,x];by_cases u:(((((d.toNat<48\/55<d.toNat)\/e.toNat<48)\/55<e.toNat)\/f.toNat<48)\/55<f.toNat)\/256<=64*(d.toNat-48)+8*(e.toNat-48)+(f.toNat-48)
        ·rw[A5 u,A6 B1]
        ·rw[A6 u,A5 B1]
         congr 2;omega
       rw[z];show (octV d e f).map _=((octV d e f).map _).map _;rw[Option.map_map];rfl
 ·rw[A6 t,C51 B1];rfl
theorem escI_le{s:Str}{i j:Nat}{x:UInt8}(h:LI s i=some (x,j)):i<j/\j<=s.length:=by
 rw[zK]at h;cases a:lE (s.drop i) with
 | none=>rw[a]at h;cases h
 | some p =>
  obtain⟨y,k⟩:=p;rw[a]at h;simp at h;have:=IL a;rw[C45]at this;omega
theorem BK{gf:Fr}{ob:Obs}(s:Str)(i:Nat)(A:i<=s.length)(hs:s.length<=1073741824)(D:B4 ob 705=some (X5 s i)) :
  AL.Met Tryz.prog 319 [.one (.ref 705 0)] gf ob []
   (fun G ob'=>∃(x:Int) (b:Bool) (j:Nat),G=[t8 x,UU b]/\ob'=(705,X5 s j)::ob/\j<=s.length/\match LI s i with
    | some (c,j')=>b=true/\x=c.toNat/\j=j'
    | none=>b=false):=by
 refine AL.Met.introH Tryz.func319 G6 rfl rfl rfl (fun w=>?_);refine E2 (fr':=[(0,.s (.one (.ref 705 0)))]++gf) (ob':=(705,X5 s i)::ob) (B91 ⟨jH rfl,trivial⟩ w rT (PJ D)) ?_;refine zz 17 ?_;refine D7 (YE Z Z) Z Z ?_;refine zc 1 (fun d=>?_) fun d=>?_
 ·have t:¬i<s.length:=by have:=A0 d;omega
  refine zz 6 ?_;refine F1 (dW rfl rfl rfl) cQ (fun _ _ h=>h) ⟨0,false,i,rfl,rfl,A,?_⟩;unfold LI;rw[A6 t]
 have g:i<s.length:=by have:=A1 d;omega
 obtain⟨c,z⟩:∃c,c=s.getD i 0:=⟨_,rfl⟩
 have F:s[i]?=some c:=by rw[z];exact gD g
 have k:LI s i=(if c.toNat=34\/c.toNat=92 then some (c,i+1) else if c.toNat=110 then some (10,i+1) else if c.toNat=116 then some (9,i+1) else (FJ s i).map fun x=>(x,i+3)):=by unfold LI;rw[A5 g,<-z]
 refine zz 12 ?_;refine D7 (J9 Z Z B1 F) Z Z (zz 6 ?_);refine YB ?_;refine bV ([(0,.s (.one (.ref 705 0))),(4,.s (t8 c.toNat)),(24,.s (t8 c.toNat)),(25,I6 (.bool (decide (c.toNat=34\/c.toNat=92))))]++gf) ((705,X5 s i)::ob) ?_ ?_
 ·refine zc 5 (fun d=>?_) fun d=>?_
  ·have t:(c.toNat:Int)=34:=A0 d;refine zz 1 ?_;exact B91 ⟨jH rfl,jH rfl,jH rfl,⟨_,rfl,.eq (by congr 4;apply propext;constructor<;>intro _<;>omega)⟩,trivial⟩ w rT (fun _ _ h=>h)
  ·have t:¬(c.toNat:Int)=34:=A1 d;skip;refine zz 4 ?_;exact B91 ⟨jH rfl,jH rfl,jH rfl,⟨_,rfl,.eq (by congr 4;apply propext;constructor<;>intro _<;>omega)⟩,trivial⟩ w rT (fun _ _ h=>h)
 skip;refine zc 0 (fun d=>?_) fun d=>?_
 ·have t:=A0 d;rw[A5 t]at k;refine zz 18 ?_;refine F1 (dW rfl rfl rfl) cQ vI ⟨c.toNat,true,i+1,rfl,rfl,g,?_⟩;rw[k];exact⟨rfl,rfl,rfl⟩
 have t:=A1 d;rw[A6 t]at k;refine zc 5 (fun d=>?_) fun d=>?_
 ·have B:(c.toNat:Int)=110:=A0 d;rw[A5 B1]at k;refine zz 17 ?_;refine F1 (dW rfl rfl rfl) cQ vI ⟨10,true,i+1,rfl,rfl,g,?_⟩;rw[k];exact⟨rfl,rfl,rfl⟩
 have B:¬(c.toNat:Int)=110:=A1 d;rw[A6 B1]at k;refine zc 5 (fun d=>?_) fun d=>?_
 ·have C:(c.toNat:Int)=116:=A0 d;rw[A5 B1]at k;refine zz 17 ?_;refine F1 (dW rfl rfl rfl) cQ vI ⟨9,true,i+1,rfl,rfl,g,?_⟩;rw[k];exact⟨rfl,rfl,rfl⟩
 have C:¬(c.toNat:Int)=116:=A1 d;rw[A6 B1]at k;refine zz 4 ?_;refine S9 (A22 s i A hs Z) Z Z Z ?_;rintro _ _ ⟨x,b,j,rfl,rfl,E,v⟩;refine zz 5 ?_;refine zz 1 ?_;refine F1 (dW rfl rfl rfl) cQ vI ⟨x,b,j,rfl,rfl,E,?_⟩;rw[k];cases u:FJ s i with
 | none=>rw[u]at v;exact v
 | some y=>rw[u]at v;exact v
def goOn(s a:Str):Option (UInt8×Nat)->Option (Str×Nat)
 | none=>none
 | some (x,j)=>M8 s j (a++[x])
theorem mF{s:Str}{i:Nat}{b:Str}(h:i<s.length):M8 s i b=if (s.getD i 0).toNat=34 then some (b,i+1) else if (s.getD i 0).toNat=92 then goOn s b (LI s (i+1)) else M8 s (i+1) (b++[s.getD i 0]):=by
 have f:s[i]=s.getD i 0:=by have:=gD h;rw[C29 h]at this;exact Option.some.inj this
 rw[M8,dif_pos h,f,zK];by_cases c:(s.getD i 0).toNat=34
 ·rw[A5 c,A5 c]
 ·rw[A6 c,A6 c];by_cases d:(s.getD i 0).toNat=92
  ·rw[A5 d,A5 d];split
   ·rename_i e;rw[e];rfl
   ·rename_i x k e;rw[e];rfl
  ·rw[A6 d,A6 d]
theorem fC{s:Str}{i:Nat}{a:Str}(h:s.length<=i):M8 s i a=none:=by rw[M8,dif_neg B1]
theorem b5w{p:Prop}(h:p:=by repeat (first | exact bX | refine tail_cons rfl ?_ | refine jG _ ?_ | refine fP _ ?_)):p:=h
theorem BL{gf:Fr}(s:Str)(i:Nat)(P:i<=s.length)(hs:s.length<=1073741824) :
  AL.Met Tryz.prog 288 [.one (.ref 705 0)] gf [(705,X5 s i)] [706]
   (fun S ob'=>∃(w:Str) (b:Bool) (j:Nat),S=[.one (.p (.v (.string ⟨w.toArray⟩))),UU b]/\ob'=[(705,X5 s j)]/\j<=s.length/\match M8 s i [] with
    | some (w',N)=>b=true/\w=w'/\j=N
    | none=>b=false):=by
 refine AL.Met.introH Tryz.func288 G6 rfl rfl rfl (fun H=>?_);refine zz 7 ?_;refine B8 (OL 706 _ rX Z Z) Z (zz 3 ?_);refine C5 (X:=Nat×Str) (fun z=>([(0,.s (.one (.ref 705 0))),(4,.s (.one (.mut 706)))]++Fr.forget 706 gf,[(706,.grow 5 UInt8 1 rX z.2),(705,X5 s z.1)])) (fun z=>z.1<=s.length/\z.2.length<=z.1/\M8 s z.1 z.2=M8 s i []) (fun z=>s.length-z.1) (i,[]) ⟨P,Nat.zero_le _,rfl⟩ ?_ ?_
 ·exact B91 lf (Y2 H) b5w (ObIn.spec (ob':=[(706,_),(705,_)]) ⟨rfl,rfl,trivial⟩)
 rintro⟨p,B⟩ ⟨M,I,h⟩;dsimp only at M I h ⊢;refine zc 14 (fun d=>?_) fun d=>?_
 ·have A:p<s.length:=by have:=A0 d;omega
  obtain⟨c,L⟩:∃c,c=s.getD p 0:=⟨_,rfl⟩
  have R:s[p]?=some c:=by rw[L];exact gD A
  rw[mF A,<-L]at h;refine zz 12 ?_;refine D7 (J9 Z Z B1 R) Z Z ?_;refine zc 19 (fun d=>?_) fun d=>?_
  ·have O:(c.toNat:Int)=34:=A0 d;rw[A5 B1]at h;refine k2 (E2 (C13 (t:=4) Z Z Z) (zz 2 ?_));refine A7 (aJ TyStr.out Z (.buf _ _ _ _ _)) Z (zz 4 ?_);refine F1 (dW rfl rfl rfl) cQ (ObIn.spec (ob':=[(705,X5 s (p+1))]) ⟨rfl,trivial⟩) ⟨B,true,p+1,rfl,rfl,A,?_⟩;rw[<-h];exact⟨rfl,rfl,rfl⟩
  have O:¬(c.toNat:Int)=34:=A1 d;rw[A6 B1]at h;obtain⟨G,a⟩:∃G:Option (UInt8×Nat),G=if c.toNat=92 then LI s (p+1) else some (c,p+1):=⟨_,rfl⟩
  have l:goOn s B G=M8 s i []:=by
   rw[<-h,a];by_cases k:c.toNat=92
   ·rw[A5 k,A5 k]
   ·rw[A6 k,A6 k];rfl
  have K:∀x j,G=some (x,j)->p<j/\j<=s.length:=by
   intro x j C;rw[a]at C;by_cases k:c.toNat=92
   ·rw[A5 k]at C;have:=escI_le C;omega
   ·rw[A6 k]at C;cases C;omega
  cases E:G with
  | none =>
   refine zz 7 ?_;rw[E]at l;have k:c.toNat=92:=by
    by_cases k:c.toNat=92
    ·exact k
    ·rw[A6 k,E]at a;cases a
   rw[A5 k,E]at a;refine zc 0 (fun d=>?_) fun d=>?_;rotate_left
   ·exact absurd (show (c.toNat:Int)=92 by omega) (A1 d)
   refine zz 7 ?_;refine S9 (BK s (p+1) A hs Z) Z Z Z ?_;rintro _ _ ⟨x,b,j,rfl,rfl,C,D⟩;refine zz 6 ?_;rw[<-a]at D;have D:b=false:=D;subst D;refine zc 5 (fun d=>?_) fun d=>?_
   ·refine zz 6 ?_;refine F1 (dW rfl rfl rfl) cQ (ObIn.spec (ob':=[(705,X5 s j)]) ⟨rfl,trivial⟩) ⟨[],false,j,rfl,rfl,C,?_⟩;rw[<-l];exact (rfl:false=false)
   ·cases d
  | some q =>
   obtain⟨y,j⟩:=q;obtain⟨Q,J⟩:=K y j E;rw[E]at l;refine TR (zz 0 ?_);refine bV ([(0,.s (.one (.ref 705 0))),(4,.s (.one (.mut 706))),(5,.s (t8 y.toNat))]++Fr.forget 706 gf) [(706,.grow 5 UInt8 1 rX B),(705,X5 s j)] ?_ ?_
   ·refine zc 5 (fun d=>?_) fun d=>?_
    ·have k:c.toNat=92:=by have:(c.toNat:Int)=92:=A0 d;omega
     rw[A5 k,E]at a;refine zz 7 ?_;refine S9 (BK s (p+1) A hs Z) Z Z Z ?_;rintro _ _ ⟨x,b,N,rfl,rfl,C,D⟩;refine zz 6 ?_;rw[<-a]at D;obtain⟨rfl,rfl,rfl⟩:=D;refine zc 5 (fun d=>?_) fun d=>?_
     ·cases d
     refine zz 1 ?_;exact B91 lf (Y2 H) rT (ObIn.spec (ob':=[(706,_),(705,_)]) ⟨rfl,rfl,trivial⟩)
    ·have k:¬c.toNat=92:=by have:¬(c.toNat:Int)=92:=A1 d;omega
     rw[A6 k,E]at a;obtain⟨rfl,rfl⟩:y=c/\j=p+1:=by simpa using a
     refine zz 1 ?_;exact B91 lf (Y2 H) rT (ObIn.spec (ob':=[(706,_),(705,_)]) ⟨rfl,rfl,trivial⟩)
   skip;refine zz 3 ?_;refine A7 (C6 (c:=rX) (ys:=[y]) (D1 Z Z Z Z F2) Z Z Z) Z (B8 (x8 Z Z Z (.pure _ _ _ _) TQ Z) Z (zz 2 ?_));refine⟨(j,B++[y]),⟨J,by simp;omega,l⟩,by dsimp only;omega,?_⟩;exact B91 lf (Y2 H) (by repeat (first | exact bX | refine tail_cons rfl ?_ | refine jG _ ?_)) (ObIn.spec (ob':=[(706,_),(705,_)]) ⟨rfl,rfl,trivial⟩)
 ·have F:s.length<=p:=by have:=A1 d;omega
  rw[fC F]at h;refine zz 7 ?_;refine F1 (dW rfl rfl rfl) cQ (ObIn.spec (ob':=[(705,X5 s p)]) ⟨rfl,trivial⟩) ⟨[],false,p,rfl,rfl,M,?_⟩;rw[<-h]
theorem b2x{p:Prop}(h:p:=by rw[C45];omega):p:=h
theorem A23{s:Str}{i k:Nat}(h:i+k<s.length):(s.drop i).getD k 0=s.getD (i+k) 0:=by
 have a:=gD (s:=s.drop i) (i:=k) b2x;rw[C61,gD h]at a;exact (Option.some.inj a).symm
theorem xA(s:Str)(i:Nat)(n:Nat):∀(k:Nat) (b:Str),s.length-(i+k)<=n->M8 (s.drop i) k b=(M8 s (i+k) b).map fun p=>(p.1,p.2-i):=by
 induction n with
 | zero =>
  intro k b h;rw[fC b2x,fC B1];rfl
 | succ n g =>
  intro k b h;by_cases c:i+k<s.length
  ·rw[mF b2x,mF c,A23 c];by_cases d:(s.getD (i+k) 0).toNat=34
   ·rw[A5 d,A5 d];simp;omega
   ·rw[A6 d,A6 d];by_cases f:(s.getD (i+k) 0).toNat=92
    ·rw[A5 f,A5 f,zK,zK,List.drop_drop,show i+(k+1)=i+k+1 by omega];cases j:lE (s.drop (i+k+1)) with
     | none=>rfl
     | some q =>
      obtain⟨x,e⟩:=q;simp only[Option.map_some];show M8 (s.drop i) (k+1+e) (b++[x])=Option.map _ (M8 s (i+k+1+e) (b++[x]));rw[g (k+1+e) _ B1,show i+(k+1+e)=i+k+1+e by omega]
    ·rw[A6 f,A6 f,g (k+1) _ B1,show i+(k+1)=i+k+1 by omega]
  ·rw[fC b2x,fC B1];rfl
theorem head_drop{s:Str}{i:Nat}:(s.drop i).head?=some 34↔(i<s.length/\(s.getD i 0).toNat=34):=by
 rw[List.head?_drop];by_cases h:i<s.length
 ·rw[gD h,Option.some.injEq,<-UInt8.toNat_inj];have:(34:UInt8).toNat=34:=rfl;constructor
  ·intro b;exact⟨h,by omega⟩
  ·intro b;omega
 ·rw[C49 B1];constructor
  ·intro b;cases b
  ·intro b;exact absurd b.1 h
theorem jP{p:UInt8->Bool}(s:Str)(i:Nat):((s.drop i).takeWhile p).length<=s.length-i:=by
 have:=(List.takeWhile_sublist p (l:=s.drop i)).length_le;rw[C45]at this;exact this
theorem aS{p:UInt8->Bool}:∀(s:Str),s.take (s.takeWhile p).length=s.takeWhile p
 | []=>rfl
 | c::r=>by
  by_cases a:p c=true
  ·rw[List.takeWhile_cons,A5 a,C34,List.take_succ_cons,aS r]
  ·rw[List.takeWhile_cons,A6 a];rfl
theorem UV{s:Str}{i j:Nat}{w:Str}(h:M8 s i []=some (w,j)):i<j/\j<=s.length/\w.length+i<=j:=by
 have:=WS (s:=s) (s.length-i) (Nat.le_refl _) h;simpa using this
theorem B25{gf:Fr}(s:Str)(i:Nat)(Q:i<=s.length)(hs:s.length<=16777216) :
  AL.Met Tryz.prog 235 [.one (.ref 705 0)] gf [(705,X5 s i)] [706]
   (fun rs ob'=>∃(w:Str) (b:Bool) (j:Nat),rs=[.one (.p (.v (.string ⟨w.toArray⟩))),UU b]/\ob'=[(705,X5 s j)]/\j<=s.length/\match p5 (s.drop i) with
    | some (w',k)=>b=true/\w=w'/\j=i+k
    | none=>b=false):=by
 have A:(i<s.length/\(s.getD i 0).toNat=34/\M8 s (i+1) []=none) \/
   ∃w j,((i<s.length/\(s.getD i 0).toNat=34/\M8 s (i+1) []=some (w,j))\/(¬(i<s.length/\(s.getD i 0).toNat=34)/\w=(s.drop i).takeWhile K8/\j=i+w.length)) /\
    i<=j/\j<=s.length/\w.length<=s.length/\p5 (s.drop i)=if I5 w=(s.drop i).take (j-i) then some (w,j-i) else none:=by
  by_cases d:i<s.length/\(s.getD i 0).toNat=34
  ·cases m:M8 s (i+1) [] with
   | none=>exact .inl ⟨d.1,d.2,rfl⟩
   | some p =>
    obtain⟨w,j⟩:=p;have J:=UV m;refine .inr ⟨w,j,.inl ⟨d.1,d.2,rfl⟩,by omega,by omega,by omega,?_⟩;unfold p5;rw[A5 (head_drop.2 d),xA s i s.length 1 [] B1,m];rfl
  ·have L:=jP (p:=K8) s i;refine .inr ⟨(s.drop i).takeWhile K8,_,.inr ⟨d,rfl,rfl⟩,by omega,by omega,by omega,?_⟩;unfold p5;rw[A6 (fun h=>d (head_drop.1 h)),show i+((s.drop i).takeWhile K8).length-i=((s.drop i).takeWhile K8).length by omega,aS];by_cases E:(s.drop i).takeWhile K8=[]
   ·rw[A5 E,E];rfl
   ·rw[A6 E];have:I5 ((s.drop i).takeWhile K8)=(s.drop i).takeWhile K8:=by unfold I5;rw[A5 ⟨E,List.all_takeWhile⟩]
    rw[this,A5 rfl]
 have x:decide ((i:Int)<(s.length:Int)/\((s.getD i 0).toNat:Int)=34)=decide (i<s.length/\(s.getD i 0).toNat=34):=by congr 1;apply propext;constructor<;>intro h<;>omega
 refine AL.Met.introH Tryz.func235 G6 rfl rfl rfl (fun D=>?_);refine zz 17 ?_;rcases A with ⟨u,F,m⟩ | ⟨w,j,hwj,hij,hjl,hwl,hW⟩
 ·refine zz 16 ?_;refine C3 Z Z Z Z (fun m=>by have d:=m;(try simp at d);rw[m];exact J9 Z Z B1 (gD B1)) ?_;refine zz 3 ?_;simp only[and_pick,C31];rw[x];refine zc 0 (fun q=>?_) fun q=>?_;rotate_left
  ·exact absurd ⟨u,F⟩ (A1 q)
  refine zz 12 ?_;refine E2 (fr':=[(0,.s (.one (.ref 705 0))),(4,B2 i)]++gf) (ob':=[(705,X5 s (i+1))]) (B91 lf D rT (ObIn.spec (ob':=[(705,_)]) ⟨rfl,trivial⟩)) ?_;refine zz 6 ?_;refine S9 (BL s (i+1) u B1) Z Z Z ?_;rintro _ _ ⟨w,b,j,rfl,rfl,G,B⟩;refine zz 6 ?_;rw[m]at B;have B:b=false:=B;subst B;refine zc 5 (fun q=>?_) fun q=>?_
  ·refine zz 6 ?_;refine F1 (dW rfl rfl rfl) cQ (fun _ _ h=>h) ⟨[],false,j,rfl,rfl,G,?_⟩;have:p5 (s.drop i)=none:=by
    unfold p5;rw[A5 (head_drop.2 ⟨u,F⟩),xA s i s.length 1 [] B1,m];rfl
   rw[this]
  ·cases q
 ·refine zz 0 ?_;refine bV ([(0,.s (.one (.ref 705 0))),(4,B2 i),(5,H6 w)]++Fr.forget 706 gf) [(705,X5 s j)] ?_ ?_
  ·refine zz 15 ?_;refine C3 Z Z Z Z (fun m=>by have d:=m;(try simp at d);rw[m];exact J9 Z Z B1 (gD B1)) ?_;refine zz 3 ?_;simp only[and_pick,C31];rw[x];refine zc 0 (fun q=>?_) fun q=>?_
   ·have d:=A0 q;rcases hwj with ⟨_,_,m⟩ | ⟨E,_⟩
    ·refine zz 12 ?_;refine E2 (fr':=[(0,.s (.one (.ref 705 0))),(4,B2 i)]++gf) (ob':=[(705,X5 s (i+1))]) (B91 lf D rT (ObIn.spec (ob':=[(705,_)]) ⟨rfl,trivial⟩)) ?_;refine zz 6 ?_;refine S9 (BL s (i+1) d.1 B1) Z Z Z ?_;rintro _ _ ⟨w',b,R,rfl,rfl,G,B⟩;refine zz 6 ?_;rw[m]at B;obtain⟨rfl,rfl,rfl⟩:=B;refine zc 5 (fun q=>?_) fun q=>?_
     ·cases q
     refine zz 1 ?_;exact B91 lf (Y2 D) b5w (ObIn.spec (ob':=[(705,_)]) ⟨rfl,trivial⟩)
    ·exact absurd d E
   ·have d:=A1 q;rcases hwj with ⟨J,O,_⟩ | ⟨_,hw,G⟩
    ·exact absurd ⟨J,O⟩ d
    have L:=jP (p:=K8) s i;rw[<-hw]at L;refine zz 2 ?_;refine C5 (X:=Nat) (fun k=>([(0,.s (.one (.ref 705 0))),(4,B2 i)]++gf,[(705,X5 s (i+k))])) (fun k=>k<=w.length) (fun k=>w.length-k) 0 (Nat.zero_le _) ?_ ?_
    ·exact B91 lf D rT (ObIn.spec (ob':=[(705,_)]) ⟨rfl,trivial⟩)
    intro k K;dsimp only at K ⊢;have z:=aR (p:=K8) (s.drop i) k (by rw[<-hw];exact K);rw[<-hw,C61]at z;obtain⟨c,P⟩:∃c,c=s.getD (i+k) 0:=⟨_,rfl⟩
    have M:i+k<s.length->s[i+k]?=some c:=fun h=>by rw[P];exact gD h
    have C:(if decide (((i+k:Nat):Int)<(s.length:Int))=true then K8 c else false)=decide (k<w.length):=by
     rw[<-z];by_cases u:i+k<s.length
     ·rw[M u,A5 (A3 B1)]
     ·rw[C49 B1,A6 YN]
    refine zz 22 ?_;refine J5 Z Z (fun m=>by have d:=m;(try simp at d);rw[m];exact J9 Z Z B1 (M B1)) Z Z ?_;refine J5 Z Z (fun m=>by have d:=m;(try simp at d);rw[m];exact I4 (vE c) Z Z) Z Z ?_;refine zz 2 ?_;rw[C];refine zc 0 (fun q=>?_) fun q=>?_
    ·have u:=A0 q;refine zz 12 ?_;exact⟨k+1,u,by omega,B91 lf D rT (ObIn.spec (ob':=[(705,_)]) ⟨rfl,trivial⟩)⟩
    ·have H:k=w.length:=by have:=A1 q;omega
     subst H;refine zz 14 ?_;have I:(s.drop i).take (i+w.length-i)=w:=by rw[Nat.add_sub_cancel_left,hw];exact aS _
     rw[C31,C31,I];refine zz 0 ?_;refine Sees.trans (Sees.forget 706) ?_;subst G;exact B91 lf (Y2 D) b5w (ObIn.spec (ob':=[(705,_)]) ⟨rfl,trivial⟩)
  ·refine zz 4 ?_;refine D7 (I4 (iM w B1) Z Z) Z Z (zz 10 ?_);refine D7 (zF Z Z) Z Z (zz 3 ?_);rw[C31,C31];refine zz 1 ?_;refine F1 (dW rfl rfl rfl) cQ (fun _ _ h=>h) ⟨w,_,j,rfl,rfl,hjl,?_⟩;rw[hW];by_cases y:I5 w=(s.drop i).take (j-i)
   ·rw[A5 y];exact⟨A3 y,rfl,by omega⟩
   ·rw[A6 y];exact A4 y
def xB(s:Str)(i:Nat):List PV:=match p5 (s.drop i) with
 | none=>[E5 [],D2 0,D5 false]
 | some (w,k)=>[E5 w,D2 ((i+k:Nat):Int),D5 true]
theorem xC(s:Str)(i:Nat)(e:i<=s.length)(hs:s.length<=16777216):FnOk Tryz.prog 156 [E5 s,D2 i] (fun rs=>rs=xB s i):=by
 refine FnOk.intro Tryz.func156 G6 Z Z Z Z ?_;refine zc 18 (fun a=>?_) fun a=>?_
 ·exfalso;revert a;simp only[or_pick];simp;omega
 refine zz 6 ?_;refine B8 (P3 705 Z Z Z) Z (zz 5 ?_);refine S9 (B25 s i e hs) Z Z Z ?_;rintro _ _ ⟨w,b,j,rfl,rfl,f,c⟩;refine zz 6 ?_;refine zz 6 ?_;cases d:p5 (s.drop i) with
 | none =>
  rw[d]at c;have c:b=false:=c;subst c;refine zc 0 (fun a=>?_) fun a=>?_
  ·refine zz 7 ?_;exact A8 (rs:=[E5 [],D2 0,D5 false]) (ret3 rfl rfl rfl rfl rfl rfl rfl) (by unfold xB;rw[d])
  ·cases a
 | some q =>
  obtain⟨w',k⟩:=q;rw[d]at c;obtain⟨rfl,rfl,rfl⟩:=c;refine zc 0 (fun a=>?_) fun a=>?_
  ·cases a
  refine zz 13 ?_;exact A8 (rs:=[E5 w,D2 ((i+k:Nat):Int),D5 true]) (ret3 rfl rfl rfl rfl rfl rfl rfl) (by unfold xB;rw[d])
theorem A24{gf:Fr}{ob:Obs}(s:Str)(i:Nat)(w:Str)(J:i<s.length)(hs:s.length<=16777216)(m:(s.drop i).takeWhile K8=w)(v:w≠[])(F:B4 ob 705=some (X5 s i)) :
  AL.Met Tryz.prog 235 [.one (.ref 705 0)] gf ob [] (fun rs ob'=>rs=[(E5 w).s1,UU true]/\ob'=(705,X5 s (i+w.length))::ob):=by
 have K:=jP (p:=K8) s i;rw[m]at K;have B:w.all K8=true:=by rw[<-m];exact List.all_takeWhile
 have q:¬(s.getD i 0).toNat=34:=by
  intro H;have D:=aR (p:=K8) (s.drop i) 0 (Nat.zero_le _);rw[m,C61,Nat.add_zero,gD J]at D;have G:K8 (s.getD i 0)=true:=by
   have A:K8 (s.getD i 0)=decide (0<w.length):=D;rw[A];exact A3 (List.length_pos_iff.2 v)
  have M:=A0 G;omega
 refine AL.Met.introH Tryz.func235 G6 rfl rfl rfl (fun y=>?_);refine E2 (B91 (l:=[(0,.s (.one (.ref 705 0)))]) (ob':=(705,X5 s i)::ob) ⟨jH rfl,trivial⟩ y rT (r9 (L:=[(705,_)]) ⟨F,trivial⟩ mA)) ?_;refine zz 33 ?_;refine C3 Z Z Z Z (fun b=>by have q:=b;(try simp at q);rw[b];exact J9 Z Z B1 (gD B1)) ?_;refine zz 3 ?_;simp only[and_pick,C31];refine zc 0 (fun u=>?_) fun u=>?_
 ·exfalso;have:=A0 u;omega
 refine zz 2 ?_;refine C5 (X:=Nat) (fun k=>([(0,.s (.one (.ref 705 0))),(4,B2 i)]++gf,(705,X5 s (i+k))::ob)) (fun k=>k<=w.length) (fun k=>w.length-k) 0 (Nat.zero_le _) ?_ ?_
 ·exact B91 lf y rT (fun _ _ h=>h)
 intro k C;dsimp only at C ⊢;have d:=aR (p:=K8) (s.drop i) k (by rw[m];exact C);rw[m,C61]at d;obtain⟨c,I⟩:∃c,c=s.getD (i+k) 0:=⟨_,rfl⟩
 have E:i+k<s.length->s[i+k]?=some c:=fun h=>by rw[I];exact gD h
 have j:(if decide (((i+k:Nat):Int)<(s.length:Int))=true then K8 c else false)=decide (k<w.length):=by
  rw[<-d];by_cases g:i+k<s.length
  ·rw[E g,A5 (A3 B1)]
  ·rw[C49 B1,A6 YN]
 refine zz 22 ?_;refine J5 Z Z (fun b=>by have q:=b;(try simp at q);rw[b];exact J9 Z Z B1 (E B1)) Z Z ?_;refine J5 Z Z (fun b=>by have q:=b;(try simp at q);rw[b];exact I4 (vE c) Z Z) Z Z ?_;refine zz 2 ?_;rw[j];refine zc 0 (fun u=>?_) fun u=>?_
 ·have g:=A0 u;refine zz 12 ?_;exact⟨k+1,g,by omega,B91 lf y rT vI⟩
 have z:k=w.length:=by have:=A1 u;omega
 subst z;refine zz 14 ?_;have x:(s.drop i).take (i+w.length-i)=w:=by
  rw[Nat.add_sub_cancel_left]
  conv=>rhs;rw[<-m]
  rw[<-m];exact aS _
 rw[C31,C31,x];refine zz 4 ?_;refine D7 (I4 (iM w B1) Z Z) Z Z (zz 10 ?_);refine D7 (zF Z Z) Z Z (zz 3 ?_);rw[C31,C31,x,RG v B];refine zz 1 ?_;exact F1 (dW rfl rfl rfl) cQ (fun _ _ h=>h) ⟨(by rw[A3 rfl];rfl),rfl⟩
theorem UW(d:List Str)(B:d≠[])(F:∀w∈d,w≠[]/\w.all K8=true)(hs:(Q1 d).length<=1048576) :
  FnOk Tryz.prog 179 [E5 (Q1 d)] (fun rs=>rs=[Z7 d,D5 true]):=by
 obtain⟨s,q⟩:∃s,s=Q1 d:=⟨_,rfl⟩
 have C:s≠[]:=by
  obtain⟨w,r,rfl⟩:=List.exists_cons_of_ne_nil B;have z:=RF w r;have L:=List.length_pos_iff.2 (F w (List.mem_cons_self ..)).1;intro e;rw[<-q,e]at z;simp only[C43]at z;omega
 rw[<-q]at hs ⊢;refine FnOk.intro Tryz.func179 G6 Z Z Z Z ?_;refine zc 11 (fun j=>?_) fun j=>?_
 ·exact absurd (A0 j) C
 refine zz 5 ?_;refine B8 (P3 705 Z Z Z) Z (zz 10 ?_);refine B8 (w9 850 _ L2 Z) Z (zz 2 ?_);refine C5 (X:=Nat×Nat) (fun x=>([(0,H6 s),(4,.s (.one (.ref 705 0))),(5,.s (.one (.clo 235 [(705,0)] []))),(6,.s (.one (.buf 850 Str 1 L2 (d.take x.1))))],[(705,X5 s x.2),(850,.spare (d.take x.1).length 1 9)])) (fun x=>x.1<d.length/\s.drop x.2=Q1 (d.drop x.1)/\x.2<s.length) (fun x=>d.length-x.1) (0,0) ⟨List.length_pos_iff.2 B,by rw[List.drop_zero,List.drop_zero];exact q,List.length_pos_iff.2 C⟩ (Sees.of lf lo) ?_;rintro⟨k,i⟩ ⟨G,v,M⟩;dsimp only at G v M ⊢;obtain⟨w,E⟩:∃w,w=d[k]:=⟨_,rfl⟩
 have N:d[k]?=some w:=by rw[E];exact C29 G
 obtain⟨J,K⟩:=F w (C53 N);rw[C38 G,<-E]at v;have I:(s.drop i).takeWhile K8=w:=by rw[v];exact A74 K _
 have D:d.take (k+1)=d.take k++[w]:=by rw[List.take_add_one,N];rfl
 have hkl:(d.take k).length<=1048576:=by
  have z:=List.length_take_le' k d;have L:=DF d fun w P=>(F w P).1;rw[<-q]at L;omega
 have m:=congrArg List.length v;rw[C45]at m;refine zz 4 ?_;refine eW (A24 s i w M B1 I J Z) Z Z Z Z ?_;rintro _ _ ⟨rfl,rfl⟩;refine zc 12 (fun j=>?_) fun j=>?_
 ·cases j
 refine zz 5 ?_;refine A7 (C6 (c:=L2) (ys:=[w]) (D1 Z Z Z Z F2) Z Z Z) Z (zz 14 ?_);rcases y:d.drop (k+1) with _ | ⟨x,r⟩
 ·rw[y]at v m;rw[DC]at m;refine zc 0 (fun j=>?_) fun j=>?_;rotate_left
  ·exact absurd (show ((i+w.length:Nat):Int)=s.length by omega) (A1 j)
  refine zz 7 ?_;refine A8 (rs:=[Z7 (d.take k++[w]),D5 true]) (S8 Z Z Z Z Z) ?_;have O:d=d.take (k+1):=by
   have z:=C70 (k+1) d;rw[y,C60]at z;exact z.symm
  rw[<-D,<-O]
 ·rw[y,iU]at v;rw[y,iU,C32,C34]at m;have H:s[i+w.length]?=some 32:=by
   rw[<-C61,v,C52 (Nat.le_refl _),C86];rfl
  refine zc 0 (fun j=>?_) fun j=>?_
  ·have:=A0 j;omega
  refine zz 9 ?_;refine A7 (J9 Z Z B1 (by rw[C31];exact H)) Z ?_;refine zc 2 (fun j=>?_) fun j=>?_
  ·exact absurd rfl (A0 j)
  refine zz 11 ?_;have A:k+1<d.length:=by
   have:=congrArg List.length y;rw[C45,C34]at this;omega
  refine⟨(k+1,i+w.length+1),⟨A,?_,by dsimp only;have:=RF x r;have:=List.length_pos_iff.2 (F x (List.mem_of_mem_drop (by rw[y];exact List.mem_cons_self ..))).1;omega⟩,by dsimp only;omega,?_⟩
  ·dsimp only;rw[y,Nat.add_assoc,<-List.drop_drop,v];exact A79 _ _ _
  ·dsimp only;rw[D];exact Sees.of lf lo
theorem B26(f:CForm)(c:List Str)(hw:∀w∈c,w.length<=1048576)(hl:c.length<=1048576) :
  FnOk Tryz.prog 180 [pForm f,Z7 c] (fun rs=>rs=[kJ ((fG f c).getD rD),D5 (fG f c).isSome]):=by
 have k:=RI f c;obtain⟨L,U⟩:∃L,L=i8 f:=⟨_,rfl⟩
 obtain⟨W,J⟩:∃W,W=pW f c:=⟨_,rfl⟩
 obtain⟨H,B⟩:∃H,H=DE f c:=⟨_,rfl⟩
 obtain⟨R,hR⟩:∃R,R=fG f c:=⟨_,rfl⟩
 have ac:∀w∈W,w.length<=1048576:=fun w h=>hw w (A77 (by rw[<-J];exact h));have ab:=A78 f c;have V:=RC f;rw[<-U,<-J,<-B,<-hR]at k;rw[<-J]at ab;rw[<-U]at V;rw[<-hR];refine FnOk.intro Tryz.func180 G6 Z Z Z Z (k2 (B7 (B8 (P3 2 Z Z Z) Z (B8 (E6 4 Z) Z (A7 (C1 Z Z) Z (E4 ?_))))));refine k1 (k2 (B7 (A7 (B5 Z) Z (A7 (C2 Z Z Z) Z (A7 (B5 Z) Z (A7 (C2 Z Z Z) Z (A7 (Y9 Z) Z (B8 (E6 6 Z) Z (O2 (H0 TySz.out Z Z Z Z Z Z) (E4 ?_))))))))));refine k1 (k2 (B7 (A7 (I0 Z Z Z) Z (S9 (tA f Z Z) Z Z Z ?_))));rintro _ _ ⟨rfl,rfl⟩;refine A7 (C1 Z Z) Z (E4 ?_);rw[<-U];refine k1 (k2 (k2 (B7 (A7 (B5 Z) Z (A7 (C2 Z Z Z) Z (E4 ?_))))));refine k1 ?_;refine BC (X:=Unit) (fun _=>([(1,C0 Str 1 L2 W),(4,.s (.one (.ref 4 0))),(6,.s (.one (.ref 6 0))),(7,.s (.one (.mut 751)))],[(4,.box (oR rD)),(6,.box (oR H)),(751,ptrG L)])) (fun _=>¬(f.text=true/\c=[])) ?_ ?_
 ·skip;refine zc 0 (fun d=>?_) fun d=>?_
  ·have hb:f.text=true:=d;refine k2 (k2 (B7 (A7 (B3 Z Z) Z (A7 (y9 Z (.pure _ _ _ _)) Z (A7 (rW Z Z) Z (E4 ?_))))));refine k1 ?_;refine zc 0 (fun d=>?_) fun d=>?_
   ·have he:c=[]:=by
     have I:=A0 d;exact List.length_eq_zero_iff.1 B1
    rw[A5 ⟨hb,he⟩]at k;refine k2 (B7 (A7 (Y9 Z) Z (O2 (H0 TySz.out Z Z Z Z Z Z) (A7 (C1 Z Z) Z (E4 ?_)))));refine k1 (yR (cO (cO ?_)));exact A8 (rs:=[kJ rD,D5 false]) (S0 rfl rfl rfl rfl rfl rfl rfl) (by rw[k];rfl)
   have q:¬c=[]:=fun e=>by
    have I:=A1 d;rw[e]at I;exact I rfl
   have ag:=List.length_pos_iff.2 q;have F:c[((c.length:Int)-1).toNat]?=some (c.getLastD []):=by
    rw[show ((c.length:Int)-1).toNat=c.length-1 by omega,<-List.getLast?_eq_getElem?,List.getLastD_eq_getLast?];cases h:c.getLast? with
    | none=>exact absurd (List.getLast?_eq_none_iff.1 h) q
    | some x=>rfl
   have ae:c.take ((c.length:Int)-1).toNat=W:=by
    rw[J];unfold pW;rw[A5 hb,List.dropLast_eq_take,show ((c.length:Int)-1).toNat=c.length-1 by omega]
   have C:H=⟨f.kind,0,0,0,f.dense,c.getLastD []⟩:=by rw[B];unfold DE;rw[A5 hb]
   subst C;refine k5 (k1 (k2 (B7 (A7 (B3 Z Z) Z (A7 (B3 Z Z) Z (A7 (y9 Z (.pure _ _ _ _)) Z (A7 (lI Z Z B1) Z (A7 (A9 Z (.pure _ _ _ _) Z B1 F) Z (A7 (L3 Z Z) Z (A7 (B5 Z) Z (O2 (H0 TySz.out Z Z Z Z Z Z) (E4 ?_))))))))))));refine k1 (B7 (A7 (B3 Z Z) Z (A7 (B3 Z Z) Z (A7 (y9 Z (.pure _ _ _ _)) Z (A7 (lI Z Z B1) Z (A7 (nN Z (.pure _ _ _ _) Z B1 B1) Z (A7 (C1 Z Z) Z (E4 ?_))))))));rw[ae];refine k1 ?_;exact⟨(),(fun h=>q h.2),(Sees.of lf lo)⟩
  ·have hb:f.text=false:=d;have C:H=⟨f.kind,0,0,0,f.dense,[]⟩:=by rw[B];unfold DE;rw[A6 (by rw[hb];decide)]
   have Y:W=c:=by rw[J];unfold pW;rw[A6 (by rw[hb];decide)]
   subst C Y;refine k5 (k1 ?_);exact⟨(),(fun h=>by rw[hb]at h;cases h.1),(Sees.of lf lo)⟩
 rintro _ K;dsimp only;rw[A6 K]at k;refine k2 (k2 (B7 (A7 (B3 Z Z) Z (A7 (y9 Z (.pure _ _ _ _)) Z (A7 (B3 Z Z) Z (A7 (OQ Z Z) Z (A7 (iE Z Z) Z (E4 ?_))))))));refine k1 ?_;refine zc 0 (fun d=>?_) fun d=>?_
 ·have q:W.length≠L.length:=fun e=>by
   have I:=A0 d;omega
  rw[A5 q]at k;refine k2 (B7 (A7 (Y9 Z) Z (O2 (H0 TySz.out Z Z Z Z Z Z) (A7 (C1 Z Z) Z (E4 ?_)))));refine k1 (yR (cO ?_));exact A8 (rs:=[kJ rD,D5 false]) (S0 rfl rfl rfl rfl rfl rfl rfl) (by rw[k];rfl)
 have A:W.length=L.length:=by have I:=A1 d;omega
 rw[A6 (fun e=>e A)]at k;refine k5 (k1 (k2 (k2 (B7 (A7 (B3 Z Z) Z (A7 (y9 Z (.pure _ _ _ _)) Z (A7 (B3 Z Z) Z (E4 ?_))))))));refine k1 (k3 (C5 (X:=Nat×Cmd) (fun x=>([(4,.s (.one (.ref 4 0))),(6,.s (.one (.ref 6 0))),(7,.s (.one (.mut 751))),(44,C0 Str 1 L2 W),(45,B2 W.length),(46,B2 x.1)],[(4,.box (oR rD)),(6,.box (oR x.2)),(751,ptrG L)])) (fun x=>x.1<=L.length/\R=kL (L.drop x.1) (W.drop x.1) x.2) (fun x=>L.length-x.1) (0,H) ⟨Nat.zero_le _,k⟩ (Sees.of lf lo) ?_));rintro⟨j,cj⟩ ⟨hj,y⟩;dsimp only at hj y ⊢;refine k2 (B7 (A7 (iD Z Z) Z (E4 ?_)));refine k1 (k2 ?_);refine zc 0 (fun d=>?_) fun d=>?_;rotate_left
 ·have ad:j=L.length:=by have:=A1 d;omega
  rw[ad,List.drop_length,<-A,List.drop_length]at y;unfold kL at y;refine k6 (k2 (B7 (A7 (I0 Z Z Z) Z (O2 (H0 TySz.out Z Z Z Z Z Z) (A7 (C1 Z Z) Z (E4 ?_))))));refine k1 (yR ?_);exact A8 (rs:=[kJ cj,D5 true]) (S0 rfl rfl rfl rfl rfl rfl rfl) (by rw[y];rfl)
 have E:j<L.length:=by have:=A0 d;omega
 have O:j<W.length:=by omega
 obtain⟨o,ho⟩:∃o,o=L[j]:=⟨_,rfl⟩
 have Q:L[j]?=some o:=by rw[ho];exact C29 E
 obtain⟨w,T⟩:∃w,w=W[j]:=⟨_,rfl⟩
 have G:W[j]?=some w:=by rw[T];exact C29 O
 have ah:=ac w (C53 G);have P:=ZR (f:=f) (o:=o) (by rw[<-U];exact C53 Q);have af:(refsT L)[((j:Nat):Int).toNat*1+0]?=some (.ref 6 o):=by rw[C31,Nat.mul_one,Nat.add_zero,C63,Q];rfl
 have M:Nat.ble (o+1) 6=true:=by rcases P with rfl | rfl | rfl<;>rfl
 rw[C38 E,<-ho,C38 O,<-T,kL]at y;have v:=fB w 0 (Nat.zero_le _) B1;cases z:j8 w with
 | none =>
  rw[z]at y;rw[nX (by rw[List.drop_zero];exact z)]at v;refine k5 (k1 (k2 (k3 (k2 (B7 (A7 (B3 Z Z) Z (A7 (A9 Z (.pure _ _ _ _) Z B1 G) Z (A7 (L3 Z Z) Z (A7 (C1 Z Z) Z (A7 (C1 Z Z) Z (E4 ?_)))))))))));refine k1 (k2 (B7 (A7 (B3 Z Z) Z (D3 (v) (A7 (B3 Z Z) Z (A7 (C9 Z Z) Z (A7 (C9 Z Z) Z (A7 (C9 Z Z) Z (A7 (C1 Z Z) Z (A7 (C1 Z Z) Z (A7 (C1 Z Z) Z (E4 ?_))))))))))));refine k1 (k2 (k2 (B7 (A7 (B3 Z Z) Z (A7 (S7 Z) Z (A7 (B3 Z Z) Z (C3 Z Z Z Z (fun l=>by rw[l];exact B3 Z Z) ?_)))))));refine C3 Z Z Z Z (fun l=>by rw[l];exact B3 Z Z) ?_;refine C3 Z Z Z Z (fun l=>by rw[l];exact cM Z) ?_;refine C3 Z Z Z Z (fun l=>by rw[l];exact iE Z Z) ?_;refine A7 (H9 Z (fun h=>by first | rfl | (rw[h];rfl)) (fun h=>by first | rfl | (rw[h];rfl))) Z ?_;refine E4 ?_;refine k1 ?_;refine zc 0 (fun d=>?_) fun d=>?_;rotate_left
  ·exact absurd d s6
  refine k2 (B7 (A7 (Y9 Z) Z (O2 (H0 TySz.out Z Z Z Z Z Z) (A7 (C1 Z Z) Z (E4 ?_)))));refine k1 (yR (cO (sK (cO (cO (sK (cO ?_)))))));exact A8 (rs:=[kJ rD,D5 false]) (S0 rfl rfl rfl rfl rfl rfl rfl) (by rw[y];rfl)
 | some p =>
  obtain⟨n,e⟩:=p;rw[z]at y;rw[nW (by rw[List.drop_zero];exact z)]at v;dsimp only at y;refine k5 (k1 (k2 (k3 (k2 (B7 (A7 (B3 Z Z) Z (A7 (A9 Z (.pure _ _ _ _) Z B1 G) Z (A7 (L3 Z Z) Z (A7 (C1 Z Z) Z (A7 (C1 Z Z) Z (E4 ?_)))))))))));refine k1 (k2 (B7 (A7 (B3 Z Z) Z (D3 (v) (A7 (B3 Z Z) Z (A7 (C9 Z Z) Z (A7 (C9 Z Z) Z (A7 (C9 Z Z) Z (A7 (C1 Z Z) Z (A7 (C1 Z Z) Z (A7 (C1 Z Z) Z (E4 ?_))))))))))));refine k1 (k2 (k2 (B7 (A7 (B3 Z Z) Z (A7 (S7 Z) Z (A7 (B3 Z Z) Z (C3 Z Z Z Z (fun l=>by rw[l];exact B3 Z Z) ?_)))))));refine C3 Z Z Z Z (fun l=>by rw[l];exact B3 Z Z) ?_;refine C3 Z Z Z Z (fun l=>by rw[l];exact cM Z) ?_;refine C3 Z Z Z Z (fun l=>by rw[l];exact iE Z Z) ?_;refine A7 (H9 Z (fun h=>by first | rfl | (rw[h];rfl)) (fun h=>by first | rfl | (rw[h];rfl))) Z ?_;refine E4 ?_;refine k1 ?_;refine zc 0 (fun d=>?_) fun d=>?_
  ·have q:¬e=w.length:=fun h=>by
    revert d;simp[h]
   rw[A6 q]at y;refine k2 (B7 (A7 (Y9 Z) Z (O2 (H0 TySz.out Z Z Z Z Z Z) (A7 (C1 Z Z) Z (E4 ?_)))));refine k1 (yR (cO (sK (cO (cO (sK (cO ?_)))))));exact A8 (rs:=[kJ rD,D5 false]) (S0 rfl rfl rfl rfl rfl rfl rfl) (by rw[y];rfl)
  have he:e=w.length:=by
   apply Classical.byContradiction;intro h;revert d;simp;omega
  rw[A5 he]at y;refine k5 (k1 (B7 (A7 (B3 Z Z) Z (A7 (B3 Z Z) Z (A7 (eZ Z Z Z B1 B1) Z (A7 (vC Z Z af) Z (A7 (B3 Z Z) Z (A7 (E8 Z) Z (O2 (H0 TySz.out Z Z Z Z Z (M)) (E4 ?_))))))))));refine k4 (k1 (B7 (A7 (y8 Z Z B1) Z (A7 (B3 Z Z) Z (E4 ?_)))));refine k1 ?_;exact⟨(j+1,cj.put o n),⟨E,y⟩,by dsimp only;omega,(by dsimp only;rw[<-RD (n:Int) P];exact (Sees.of lf lo))⟩
theorem b2w{p:Prop}(h:p:=by ((try simp only[C34]);omega)):p:=h
theorem A25(l:Str)(q:List Str)(C:q≠[])(J:∀w∈q,w.length<=1048576)(H:q.length<=1048576)(F:FnOk Tryz.prog 179 [E5 l] (fun rs=>rs=[Z7 q,D5 true])) :
  FnOk Tryz.prog 107 [E5 l] (fun rs=>rs=[kJ (rF q).1,D2 (rF q).2]):=by
 obtain⟨w,r,rfl⟩:=List.exists_cons_of_ne_nil C;obtain⟨R,E⟩:∃R,R=rF (w::r):=⟨_,rfl⟩
 have v:R=match kM w r formsL with
  | some c=>(c,0)
  | none=>(rD,320):=E
 rw[<-E];refine FnOk.intro Tryz.func107 G6 Z Z Z Z (zz 2 ?_);refine B8 (E6 2 Z) Z (zz 5 ?_);refine D3 (F) ?_;refine zc 17 (fun d=>?_) fun d=>?_
 ·exfalso;revert d;simp
  try omega
 refine zz 4 ?_;refine D3 (HH) (zz 4 ?_);refine C5 (X:=Nat) (fun i=>([(2,.s (.one (.ref 2 0))),(4,C0 Str 1 L2 (w::r)),(23,C0 CForm 6 DB formsL),(24,B2 10),(25,B2 i)],[(2,.box (oR rD))])) (fun i=>i<=10/\kM w r formsL=kM w r (formsL.drop i)) (fun i=>10-i) 0 ⟨Nat.zero_le _,rfl⟩ (Sees.of lf lo) ?_;rintro i ⟨G,j⟩;dsimp only at G j ⊢;refine zc 5 (fun d=>?_) fun d=>?_;rotate_left
 ·have B:i=10:=by have:=A1 d;omega
  subst B;have m:R=(rD,320):=by rw[v,j];rfl
  refine zz 8 ?_;exact A8 (rs:=[kJ rD,D2 320]) (S0 rfl rfl rfl rfl rfl rfl rfl) (by rw[m])
 have k:i<formsL.length:=by have h:=A0 d;show i<10;omega
 obtain⟨f,y⟩:∃f,f=formsL[i]:=⟨_,rfl⟩
 have I:formsL[i]?=some f:=by rw[y];exact C29 k
 rw[C38 k,<-y,kM]at j;refine zz 5 ?_;refine A7 (A9 Z (.pure _ _ _ _) Z B1 I) Z (zz 1 ?_);refine B8 (E6 7 Z) Z (zz 8 ?_);refine D7 (A9 Z (.pure _ _ _ _) Z B1 (show (w::r)[(0:Int).toNat]?=some w from Z)) Z Z (zz 1 ?_);refine D7 (jB Z Z) Z Z ?_;refine zc 1 (fun d=>?_) fun d=>?_
 ·have D:f.word≠w:=A0 d;rw[A5 D]at j;refine zz 5 ?_;exact⟨i+1,⟨k,j⟩,by have:formsL.length=10:=rfl;omega,Sees.of lf lo⟩
 have A:¬f.word≠w:=A1 d;rw[A6 A]at j;have g:=B26 f r (fun x K=>J x (by simp[K])) (by simp only[C34]at H;omega);cases z:fG f r with
 | some c =>
  rw[z]at g j;have m:R=(c,0):=by rw[v,j]
  refine zz 2 ?_;refine jI [8,7] [[],[7],[8,7]] [(0,[7]),(1,[7]),(2,[7]),(3,[7]),(4,[7]),(5,[7]),(6,[7]),(6,[8,7])] F6 F6 (S2 Z (I0 Z Z Z) (S2 Z (B3 Z Z) (S2 Z (bT Z (.pure _ _ _ _) Z b2w b2w) (S2 Z (I4 (g) Z Z) (S2 Z (B3 Z Z) (S2 Z (C9 Z Z) (S2 Z (C9 Z Z) (KO 8 Z Z (KP (lS TySz.out Z Z Z Z Z Z) (S2 Z (C1 Z Z) ?_))))))))));refine a_nil rfl ?_ ?_
  ·refine S3 Z Z (I0 Z Z Z) (S3 Z Z (B3 Z Z) (S3 Z Z (bT Z (.pure _ _ _ _) Z b2w b2w) (S3 Z Z (I4 (g) Z Z) (S3 Z Z (B3 Z Z) (S3 Z Z (C9 Z Z) (S3 Z Z (C9 Z Z) (S3 Z Z (C9 Z Z) ?_)))))));exact o_nil
  refine zc 4 (fun d=>?_) fun d=>?_;rotate_left
  ·cases d
  refine zz 7 ?_;exact A8 (rs:=[kJ c,D2 0]) (S0 rfl rfl rfl rfl rfl rfl rfl) (by rw[m])
 | none =>
  rw[z]at g j;refine zz 2 ?_;refine jI [8,7] [[],[7],[8,7]] [(0,[7]),(1,[7]),(2,[7]),(3,[7]),(4,[7]),(5,[7]),(6,[7]),(6,[8,7])] F6 F6 (S2 Z (I0 Z Z Z) (S2 Z (B3 Z Z) (S2 Z (bT Z (.pure _ _ _ _) Z b2w b2w) (S2 Z (I4 (g) Z Z) (S2 Z (B3 Z Z) (S2 Z (C9 Z Z) (S2 Z (C9 Z Z) (KO 8 Z Z (KP (lS TySz.out Z Z Z Z Z Z) (S2 Z (C1 Z Z) ?_))))))))));refine a_nil rfl ?_ ?_
  ·refine S3 Z Z (I0 Z Z Z) (S3 Z Z (B3 Z Z) (S3 Z Z (bT Z (.pure _ _ _ _) Z b2w b2w) (S3 Z Z (I4 (g) Z Z) (S3 Z Z (B3 Z Z) (S3 Z Z (C9 Z Z) (S3 Z Z (C9 Z Z) (S3 Z Z (C9 Z Z) ?_)))))));exact o_nil
  refine zc 4 (fun d=>?_) fun d=>?_
  ·cases d
  refine zz 5 ?_;exact⟨i+1,⟨k,j⟩,by have:formsL.length=10:=rfl;omega,Sees.of lf lo⟩
theorem BM(a:List Str)(c:a≠[])(d:∀w∈a,w≠[]/\w.all K8=true/\w.length<=1048576)(hs:(Q1 a).length<=1048576) :
  FnOk Tryz.prog 107 [E5 (Q1 a)] (fun f=>f=[kJ (rF a).1,D2 (rF a).2]) :=
 A25 (Q1 a) a c (fun w b=>(d w b).2.2) (Nat.le_trans (DF a fun w b=>(d w b).1) hs) (UW a c (fun w b=>⟨(d w b).1,(d w b).2.1⟩) hs)
theorem A26(s:Str)(hs:s.length<=536870912):FnOk Tryz.prog 48 [E5 s] (fun rs=>rs=[Z7 (EE s).1,D2 (EE s).2]):=by
 obtain⟨R,E⟩:∃R,R=EE s:=⟨_,rfl⟩
 have b:=E;unfold EE at b;rw[<-E];refine FnOk.intro Tryz.func48 G6 Z Z Z Z (zz 2 ?_);refine A7 (K7 _ 1 L2) Z ?_;refine zc 9 (fun d=>?_) fun d=>?_
 ·have q:65536<s.length:=by have:=A0 d;omega
  rw[A5 q]at b;refine zz 2 ?_;refine A7 (K7 _ 1 L2) Z (zz 3 ?_);exact A8 (rs:=[Z7 [],D2 1]) (S8 rfl rfl rfl rfl rfl) (by rw[b])
 have q:¬65536<s.length:=by have:=A1 d;omega
 rw[A6 q]at b;obtain⟨P,D⟩:∃P,P=X4 s:=⟨_,rfl⟩
 have A:∀t∈P.1,t.length<=1048576:=by
  intro t p;rw[D]at p;unfold X4 at p;split at p
  ·cases p
  ·have x:=(rA s).1;have L:t.length<=(B6 s).flatten.length:=(List.sublist_flatten_of_mem p).length_le;omega
 have F:=BI s hs;rw[<-D]at F b;refine zz 4 ?_;refine wW (F) Z Z Z Z ?_;rintro _ _ ⟨rfl,rfl⟩;refine⟨rfl,?_⟩;refine zz 6 ?_;refine zz 7 ?_;refine C3 Z Z Z Z (fun H=>by rw[H];exact KH Z Z) ?_;refine zc 3 (fun d=>?_) fun d=>?_
 ·have x:P.2≠0\/100<P.1.length:=by
   rw[or_pick]at d;have:=A0 d;omega
  rw[A5 x]at b;refine zz 2 ?_;refine A7 (K7 _ 1 L2) Z (zz 3 ?_);exact A8 (rs:=[Z7 [],D2 1]) (S8 rfl rfl rfl rfl rfl) (by rw[b])
 have x:¬(P.2≠0\/100<P.1.length):=by
  rw[or_pick]at d;have:=A1 d;omega
 rw[A6 x]at b;have G:P.1.length<=100:=by omega
 refine zz 9 ?_;refine C5 (X:=Nat) (fun i=>([(4,.s (.one (.mut 9))),(23,.s (.one (.mut 9))),(24,B2 P.1.length),(25,B2 i)],[(9,nV (gM P.1 i))])) (fun i=>i<=P.1.length) (fun i=>P.1.length-i) 0 (Nat.zero_le _) (by dsimp only;rw[XO];exact (Sees.of lf lo)) ?_;intro i I;dsimp only at I ⊢;have y:=A98 P.1 i;refine zc 5 (fun d=>?_) fun d=>?_
 ·have v:i<P.1.length:=by have q:=A0 d;(try dsimp only at q);omega
  obtain⟨t,w⟩:∃t,t=P.1[i]:=⟨_,rfl⟩
  have K:(gM P.1 i)[i]?=some t:=by rw[w];exact A99 v
  have z:(gM P.1 i)[((i:Nat):Int).toNat]?=some t:=by rw[C31];exact K
  have r:=B00 v;rw[<-w]at r;have J:t.length<=1048576:=A t (by rw[w];exact C35 v);have B:FnOk Tryz.prog 106 [E5 t,E5 [10]] (fun rs=>rs=[E5 (nH t)]):=gS t [10] B1;refine zz 6 ?_;refine A7 (U2 Z Z Z B1 (by (rw[y];omega))) Z ?_;refine A7 (sU Z Z z Z) Z (zz 7 ?_);refine D3 (B) (A7 (U2 Z Z Z B1 (by (rw[y];omega))) Z ?_);refine O2 (iJ ((nH t)) TySz.out Z Z z Z Z Z Z (fun _ _ _ h=>eS h) (by intro j q x;rcases j with _ | _ | _ | _ | _ | _ | _ | j<;>first | rfl | omega)) ?_;refine zz 5 ?_;exact⟨i+1,by omega,by omega,(by rw[<-r];exact (Sees.of lf lo))⟩
 have C:i=P.1.length:=by have q:=A1 d;(try dsimp only at q);omega
 rw[C,B01];refine zz 7 ?_;refine E2 (Sees.freezeG (k:=9) (α:=Str) (ec:=1) (c:=L2) (xs:=P.1.map nH) (e:=9) Z Z) (yR ?_);exact A8 (rs:=[Z7 (P.1.map nH),D2 0]) (S8 rfl rfl rfl rfl rfl) (by rw[b])
theorem UX(ns:List Int)(h:ns.length<=8):FnOk Tryz.prog 61 [L0 ns] (fun rs=>rs=[E5 (kO ns++[10])]):=by
 have g:gG ns 0=[99,111,109,109,105,116]:=by simp[gG,zS]
 refine FnOk.intro Tryz.func61 G6 Z Z Z Z (zz 16 ?_);refine C5 (X:=Nat) (fun i=>([(3,H6 (gG ns i)),(6,C0 Int 1 E3 ns),(7,B2 ns.length),(8,B2 i)],[])) (fun i=>i<=ns.length) (fun i=>ns.length-i) 0 (Nat.zero_le _) (by dsimp only;rw[g];exact (Sees.of lf lo)) ?_;intro i k;dsimp only at k ⊢;have l:=oF ns i;refine zc 5 (fun d=>?_) fun d=>?_
 ·have c:i<ns.length:=by have a:=A0 d;(try dsimp only at a);omega
  obtain⟨n,m⟩:∃n,n=ns[i]:=⟨_,rfl⟩
  have f:ns[i]?=some n:=by rw[m];exact C29 c
  have j:=X7 n;have hs:=DG f;refine zz 5 ?_;refine A7 (A9 Z (.pure _ _ _ _) Z B1 f) Z (zz 6 ?_);refine D3 (Z1 n) (zz 4 ?_);rw[<-hs];refine zz 4 ?_;exact⟨i+1,by omega,by omega,Sees.of lf lo⟩
 have b:i=ns.length:=by have a:=A1 d;(try dsimp only at a);omega
 rw[b]at l ⊢;refine zz 8 ?_;exact A8 (rs:=[E5 (gG ns ns.length++[10])]) (F7 rfl rfl rfl) rfl
theorem mG(l:List Int)(e:Int)(h:l.length<=1000):FnOk Tryz.prog 22 [L0 l,D2 e] (fun rs=>rs=[E5 (repOf (l.map fun c=>[c])),D2 e]):=by
 obtain⟨L,a⟩:∃L:List (List Int),L=l.map fun c=>[c]:=⟨_,rfl⟩
 have v:L.length=l.length:=by rw[a,C55]
 have x:∀ns∈L,ns.length<=1:=fun ns b=>by
  rw[a]at b;obtain⟨c,_,rfl⟩:=C54.1 b;exact Nat.le_refl _
 rw[<-a];refine FnOk.intro Tryz.func22 G6 Z Z Z Z (zz 17 ?_);refine C5 (X:=Nat) (fun i=>([(1,B2 e),(6,H6 (gH L i)),(9,C0 Int 1 E3 l),(10,B2 l.length),(11,B2 i)],[])) (fun i=>i<=l.length) (fun i=>l.length-i) 0 (Nat.zero_le _) (by dsimp only;rw[A80];exact (Sees.of lf lo)) ?_;intro i w;dsimp only at w ⊢;have y:=IM x i;refine zc 5 (fun m=>?_) fun m=>?_
 ·have k:i<l.length:=by have d:=A0 m;(try dsimp only at d);omega
  obtain⟨n,b⟩:∃n,n=l[i]:=⟨_,rfl⟩
  have s:l[i]?=some n:=by rw[b];exact C29 k
  have o:L[i]?=some [n]:=by rw[a,C63,s];rfl
  have hs:=DH o;have f:=oF [n] 1;have q:(kO [n]).length<=17:=f;refine zz 5 ?_;refine A7 (A9 Z (.pure _ _ _ _) Z B1 s) Z (zz 6 ?_);refine A7 (C6 (c:=E3) (ys:=[n]) (D1 Z Z Z Z F2) Z Z Z) Z (D3 (UX [n] s6) (zz 3 ?_));rw[<-hs];refine zz 4 ?_;exact⟨i+1,by omega,by omega,Sees.of lf lo⟩
 have j:i=L.length:=by have d:=A1 m;(try dsimp only at d);omega
 rw[j];refine zz 9 ?_;exact A8 (rs:=[E5 (gH L L.length),D2 e]) (S8 rfl rfl rfl rfl rfl) rfl
theorem PK(g:Graph)(c:Nat)(b:Str)(h:FewT g)(m:c<g.length):FnOk Tryz.prog 70 [G9 g,D2 c,E5 b] (fun rs=>rs=[E5 (cU (O8 g c) b)]):=by
 obtain⟨f,j⟩:∃f,f=g[c]:=⟨_,rfl⟩
 have d:g[((c:Nat):Int).toNat]?=some f:=by rw[j];simp[m]
 have k:O8 g c=f.Files:=A18 (by rw[C31]at d;exact d);have i:(O8 g c).length<=1073741824:=(h.files c).len;rw[k]at i ⊢;refine FnOk.intro Tryz.func70 G6 Z Z Z Z (zz 8 ?_);refine A7 (A9 Z (.pure _ _ _ _) Z B1 d) Z (zz 3 ?_);refine D3 (B23 f.Files b i) (zz 12 ?_);exact A8 (rs:=[E5 (cU f.Files b)]) (F7 rfl rfl rfl) rfl
def s7(l:List Int):Str:=repOf (l.map fun c=>[c])
structure DoArm (g:Graph) (c:Cmd) (out:Str) (e:Int):Prop where
 log:c.Kind=1->∃l:List Int,l.length<=1000/\out=s7 l/\FnOk Tryz.prog 23 [G9 g,L0 [c.A]] (fun rs=>rs=[L0 l,D2 e])
 diff:c.Kind=3->FnOk Tryz.prog 25 [G9 g,kJ c] (fun rs=>rs=[E5 out,D2 e])
 merge:c.Kind=4->FnOk Tryz.prog 26 [G9 g,kJ c] (fun rs=>rs=[E5 out,D2 e])
 lit:c.Kind=5->∃l:List Int,l.length<=1000/\out=s7 l/\FnOk Tryz.prog 27 [G9 g,D2 c.A,E5 c.Text] (fun rs=>rs=[L0 l,D2 e])
 lines:c.Kind=7->FnOk Tryz.prog 29 [G9 g,kJ c] (fun rs=>rs=[E5 out,D2 e])
 blame:c.Kind=8->FnOk Tryz.prog 30 [G9 g,kJ c] (fun rs=>rs=[E5 out,D2 e])
 bases:c.Kind=9->∃l:List Int,l.length<=1000/\out=s7 l/\FnOk Tryz.prog 31 [G9 g,D2 c.A,D2 c.B] (fun rs=>rs=[L0 l,D2 e])
theorem LJ(g:Graph)(c:Cmd)(q:Str)(e:Int)(h:FewT g)(H:X8 g=0)(z:c.Text.length<=1048576)(I:(rE c).2=0)(C:iY g c.A)(G:c.Kind=3\/c.Kind=9->iY g c.B)(R:1<=c.Kind/\c.Kind<=9/\c.Kind≠2/\c.Kind≠6)(j:DoArm g c q e) :
  FnOk Tryz.prog 8 [G9 g,kJ c] (fun rs=>rs=[E5 q,D2 e]):=by
 have D:=LF g h;rw[H]at D;have E:=A20 c z;rw[I]at E;refine FnOk.intro Tryz.func8 G6 Z Z Z Z (zz 2 ?_);refine B8 (P3 3 Z Z Z) Z (zz 7 ?_);refine D3 (D) ?_;refine zc 7 (fun i=>?_) fun i=>?_
 ·exact absurd rfl (A0 i)
 refine zz 5 ?_;refine D3 (E) ?_;refine zc 11 (fun i=>?_) fun i=>?_
 ·exact absurd rfl (A0 i)
 refine zz 13 ?_;refine K4 [(0,C0 Commit 3 H8 g),(3,.s (.one (.ref 3 0))),(9,Q4 (decide (c.Kind=3\/c.Kind=9)))] [(3,.box (oR c))] (by rw[<-or_pick];exact (Sees.of lf lo)) ?_;refine zz 6 ?_;refine D3 (UK g c.A) (zz 5 ?_);refine P7 Z Z Z (.gd (.val _)) Z (fun t=>by obtain⟨k,m⟩:=W8 t;(try rw[k]);(try rw[m]);exact B5 Z) ?_;refine P7 Z Z Z (.gd (.val _)) Z (fun t=>by obtain⟨k,m⟩:=W8 t;(try rw[k]);(try rw[m]);exact C2 Z Z Z) ?_;refine P7 Z Z Z (.gd (.val _)) Z (fun t=>by have J:=t;(try simp at J);obtain⟨k,m⟩:=W8 t;(try rw[k]);(try rw[m]);exact I4 (UK g c.B) Z Z) ?_;refine P7 Z Z Z (.gd (.val _)) Z (fun t=>by obtain⟨k,m⟩:=W8 t;(try rw[k]);(try rw[m]);exact S7 Z) ?_;refine zc 3 (fun i=>?_) fun i=>?_
 ·exfalso;revert i;by_cases y:c.Kind=3\/c.Kind=9
  ·simp[C,G y,y]
  ·simp[C,y]
 refine K4 [(0,C0 Commit 3 H8 g),(3,.s (.one (.ref 3 0)))] [(3,.box (oR c))] (Sees.of lf lo) ?_;refine zc 13 (fun i=>?_) fun i=>?_
 ·obtain⟨l,u,w,p⟩:=j.log (A0 i);rw[w];refine zz 5 ?_;refine A7 (C6 (c:=E3) (ys:=[c.A]) (D1 Z Z Z Z F2) Z Z Z) Z (D3 (p) (zz 2 ?_));refine D3 (mG l e u) (zz 6 ?_);exact A8 (rs:=[E5 (s7 l),D2 e]) (S8 rfl rfl rfl rfl rfl) rfl
 refine zc 5 (fun i=>?_) fun i=>?_
 ·have:=A0 i;omega
 refine zc 5 (fun i=>?_) fun i=>?_
 ·have p:=j.diff (A0 i);refine zz 4 ?_;refine D3 (p) (zz 6 ?_);exact A8 (rs:=[E5 q,D2 e]) (S8 rfl rfl rfl rfl rfl) rfl
 refine zc 5 (fun i=>?_) fun i=>?_
 ·have p:=j.merge (A0 i);refine zz 4 ?_;refine D3 (p) (zz 6 ?_);exact A8 (rs:=[E5 q,D2 e]) (S8 rfl rfl rfl rfl rfl) rfl
 refine zc 5 (fun i=>?_) fun i=>?_
 ·obtain⟨l,u,w,p⟩:=j.lit (A0 i);rw[w];refine zz 7 ?_;refine D3 (p) (zz 2 ?_);refine D3 (mG l e u) (zz 6 ?_);exact A8 (rs:=[E5 (s7 l),D2 e]) (S8 rfl rfl rfl rfl rfl) rfl
 refine zc 5 (fun i=>?_) fun i=>?_
 ·have:=A0 i;omega
 refine zc 5 (fun i=>?_) fun i=>?_
 ·have p:=j.lines (A0 i);refine zz 4 ?_;refine D3 (p) (zz 6 ?_);exact A8 (rs:=[E5 q,D2 e]) (S8 rfl rfl rfl rfl rfl) rfl
 refine zc 5 (fun i=>?_) fun i=>?_
 ·have p:=j.blame (A0 i);refine zz 4 ?_;refine D3 (p) (zz 6 ?_);exact A8 (rs:=[E5 q,D2 e]) (S8 rfl rfl rfl rfl rfl) rfl
 rename_i K L M N O P Q;have F:c.Kind=9:=by
  have:=A1 i;have:=A1 K;have:=A1 L;have:=A1 M;have:=A1 N;have:=A1 O;have:=A1 P;have:=A1 Q;omega
 obtain⟨l,u,w,p⟩:=j.bases F;rw[w];refine zz 8 ?_;refine D3 (p) (zz 2 ?_);refine D3 (mG l e u) (zz 6 ?_);exact A8 (rs:=[E5 (s7 l),D2 e]) (S8 rfl rfl rfl rfl rfl) rfl
theorem xD(g:Graph)(a:Str)(c:Cmd)(j:Int)(i:Str)(q:Int)(y:a.length<=65536)(x:i.length<=16777216)(v:FnOk Tryz.prog 107 [E5 a] (fun rs=>rs=[kJ c,D2 j]))
  (t:j=0->FnOk Tryz.prog 8 [G9 g,kJ c] (fun rs=>rs=[E5 i,D2 q])) :
  FnOk Tryz.prog 49 [G9 g,E5 a] (fun rs=>rs=[E5 (iA a i (if j=0 then q else j))]):=by
 obtain⟨o,d⟩:∃o:Str,o=if j=0 then i else []:=⟨_,rfl⟩
 obtain⟨f,b⟩:∃f:Int,f=if j=0 then q else j:=⟨_,rfl⟩
 obtain⟨n,e⟩:∃n:Str,n=if f≠0 then tX f else o:=⟨_,rfl⟩
 have w:=X7 f;have p:o.length<=16777216:=by
  rw[d];split
  ·exact x
  ·simp
 have r:n.length<=16777216:=by
  rw[e];split
  ·unfold tX;simp only[C32,C34,C43];omega
  ·exact p
 have m:iA a i f=[62,32]++a++[10]++n:=by
  unfold iA;rw[e];by_cases h:f≠0
  ·rw[A5 h,A5 h]
  ·rw[A6 h,A6 h];have:j=0:=by
    apply Classical.byContradiction;intro s;rw[b,A6 s]at h;exact h s
   rw[d,A5 this]
 rw[<-b,m];refine FnOk.intro Tryz.func49 G6 Z Z Z Z (zz 7 ?_);refine D3 (v) (zz 3 ?_);refine B8 (E6 5 Z) Z (zz 13 ?_);refine sX [(1,H6 a),(7,H6 o),(6,B2 f)] [] ?_ ?_
 ·skip;refine zc 0 (fun l=>?_) fun l=>?_
  ·have k:j=0:=A0 l;have u:=t k;rw[A5 k]at d b;subst d b;skip;refine zz 3 ?_;refine D3 (u) (zz 6 ?_);exact Sees.of lf lo
  ·have k:¬j=0:=A1 l;rw[A6 k]at d b;subst d b;refine zz 1 ?_;exact Sees.of lf lo
 refine zz 6 ?_;refine sX [(1,H6 a),(7,H6 n)] [] ?_ ?_
 ·skip;refine zc 0 (fun l=>?_) fun l=>?_
  ·have k:f≠0:=A0 l;rw[A5 k]at e;rw[e];skip;refine zz 2 ?_;refine D3 (Z1 f) (zz 4 ?_);exact Sees.of lf lo
  ·have k:¬f≠0:=A1 l;rw[A6 k]at e;rw[e];refine zz 1 ?_;exact Sees.of lf lo
 refine zz 10 ?_;exact A8 (rs:=[E5 ([62,32]++a++[10]++n)]) (F7 rfl rfl rfl) rfl
theorem B27{gf:Fr}{ob:Obs}{c:Str}{a:TC}(d:B4 ob 700=some (.tbx 80 [a,.buf 701 UInt8 1 rX c])) :
  AL.Met Tryz.prog 50 [.one (.ref 700 0)] gf ob [] (fun rs ob'=>rs=[.one (.p (.v (.int .i64 c.length)))]/\ob'=ob):=by
 refine AL.Met.intro Tryz.func50 G6 Z Z Z (zz 9 ?_);refine A7 (lP Z d Z) Z (zz 4 ?_);exact F1 (O3 rfl rfl) cQ (fun _ _ h=>h) ⟨rfl,rfl⟩
def bldA:Bool->TC
 | false=>.p (.v (.pointer none))
 | true=>.ref 700 0
theorem bldA_or(b:Bool):bldA b=.p (.v (.pointer none))\/bldA b=.ref 700 0:=by cases b<;>simp[bldA]
def gU(b:List Str)(i:Nat):Str:=(b.take i).flatten
theorem PL{a:List Str}{i:Nat}{o:Str}(h:a[i]?=some o):gU a (i+1)=gU a i++o:=by
 unfold gU;rw[List.take_add_one,h];simp
theorem BN(a:List Str)(i:Nat):(gU a i).length<=a.flatten.length:=by
 unfold gU
 conv=>rhs;rw[<-C70 i a,C69,C32]
 omega
theorem rrun_ok(g:Graph)(s:Str)(m c:List Str)(h:FewT g)(K:X8 g=0)(hs:s.length<=536870912)(D:EE s=(m,0))(G:c.length=m.length)(J:∀(i:Nat) (d o:Str),m[i]?=some d->c[i]?=some o->FnOk Tryz.prog 49 [G9 g,E5 d] (fun rs=>rs=[E5 o]))
  (H:c.flatten.length<=16777216) (N:m.length<=1000):FnOk Tryz.prog 18 [G9 g,E5 s] (fun rs=>rs=[E5 c.flatten,D2 0]):=by
 have E:=LF g h;rw[K]at E;have F:=A26 s hs;rw[D]at F;have w:c.flatten=gU c c.length:=by unfold gU;rw[C44]
 rw[w];refine FnOk.intro Tryz.func18 G6 Z Z Z Z (zz 9 ?_);refine D3 (E) ?_;refine zc 7 (fun j=>?_) fun j=>?_
 ·exact absurd rfl (A0 j)
 refine zz 4 ?_;refine D3 (F) ?_;refine zc 12 (fun j=>?_) fun j=>?_
 ·exact absurd rfl (A0 j)
 refine zz 3 ?_;refine B8 (sI 700 Z) Z (zz 3 ?_);refine E2 (C02 701 UInt8 1 rX 5 (kb:=700) (o:=1) Z Z Z) (zz 6 ?_);refine C5 (X:=Nat×Bool) (fun x=>([(0,C0 Commit 3 H8 g),(9,.s (.one (.ref 700 0))),(25,C0 Str 1 L2 m),(26,B2 m.length),(27,B2 x.1)],[(700,.tbx 80 [bldA x.2,.buf 701 UInt8 1 rX (gU c x.1)]),(701,.spare (gU c x.1).length 1 5)])) (fun x=>x.1<=m.length) (fun x=>m.length-x.1) (0,false) (Nat.zero_le _) (Sees.of lf lo) ?_;rintro⟨i,a⟩ M;dsimp only at M ⊢;have ha:=bldA_or a;have L:=BN c i;refine zc 5 (fun j=>?_) fun j=>?_;rotate_left
 ·have B:i=c.length:=by have v:=A1 j;(try dsimp only at v);omega
  rw[B];refine zz 3 ?_;refine nR (k:=700) (k':=701) ⟨_,rfl,rfl,rfl⟩ cR Z Z Z Z Z ha Z (zz 4 ?_);exact A8 (rs:=[E5 (gU c c.length),D2 0]) (S8 rfl rfl rfl rfl rfl) rfl
 have z:i<m.length:=by have v:=A0 j;(try dsimp only at v);omega
 obtain⟨d,q⟩:∃d,d=m[i]:=⟨_,rfl⟩
 have I:m[i]?=some d:=by rw[q];exact C29 z
 obtain⟨o,O⟩:∃o,o=c[i]:=⟨_,rfl⟩
 have A:c[i]?=some o:=by rw[O];exact C29 B1
 have C:=J i d o I A;have hs:=PL A;have y:=BN c (i+1);rw[hs,C32]at y;refine zz 5 ?_;refine A7 (A9 Z (.pure _ _ _ _) Z B1 I) Z (zz 7 ?_);refine D3 (C) (S9 (P4 ⟨⟨bldA a,ha,rfl⟩,rfl⟩ B1) Z Z Z ?_);rintro _ _ ⟨rfl,rfl⟩;refine zz 3 ?_;refine S9 (B27 Z) Z Z Z ?_;rintro _ _ ⟨rfl,rfl⟩;refine zc 2 (fun j=>?_) fun j=>?_
 ·exfalso;have v:=A0 j;rw[C32]at v;omega
 refine zz 5 ?_;exact⟨(i+1,true),z,by dsimp only;omega,(by dsimp only;rw[hs];exact (Sees.of lf lo))⟩
theorem PM(g:Graph)(l:List Int)(h:FewT g)(m:X8 g=0)(q:l.length<=1000)(n:∀x∈l,iY g x):FnOk Tryz.prog 80 [G9 g,L0 l] (fun rs=>rs=[D2 0]):=by
 have f:=LF g h;rw[m]at f;refine FnOk.intro Tryz.func80 G6 Z Z Z Z (zz 8 ?_);refine D3 (f) ?_;refine zc 7 (fun a=>?_) fun a=>?_
 ·exact absurd rfl (A0 a)
 refine zz 9 ?_;refine C5 (X:=Nat) (fun i=>([(0,C0 Commit 3 H8 g),(13,C0 Int 1 E3 l),(14,B2 l.length),(15,B2 i)],[])) (fun i=>i<=l.length) (fun i=>l.length-i) 0 (Nat.zero_le _) (Sees.of lf lo) ?_;intro i d;dsimp only at d ⊢;refine zc 5 (fun a=>?_) fun a=>?_;rotate_left
 ·refine zz 6 ?_;exact A8 (rs:=[D2 0]) (F7 rfl rfl rfl) rfl
 have b:i<l.length:=by have k:=A0 a;(try dsimp only at k);omega
 obtain⟨x,j⟩:∃x,x=l[i]:=⟨_,rfl⟩
 have o:l[i]?=some x:=by rw[j];simp[b]
 have c:=UK g x;rw[A3 (n x (by rw[j];exact C35 b))]at c;refine zz 5 ?_;refine A7 (A9 Z (.pure _ _ _ _) Z B1 o) Z (zz 7 ?_);refine D3 (c) ?_;refine zc 2 (fun a=>?_) fun a=>?_
 ·cases a
 refine zz 5 ?_;exact⟨i+1,by omega,by omega,Sees.of lf lo⟩
def muD(a:List Bool)(b:List Int):Nat:=2*a.count false+b.length
theorem b8q{p:Prop}(h:p:=by (simp only[C34,C43];omega)):p:=h
theorem b5x{p:Prop}(h:p:=by dsimp only;omega):p:=h
theorem LK(g:Graph)(c:Nat)(hF:FewG g)(hr:related g=true)(Y:c<g.length):FnOk Tryz.prog 81 [G9 g,D2 c] (fun rs=>rs=[pBools (N0 g [(c:Int)])]):=by
 have hg:=hF.len;obtain⟨z,hz⟩:∃z,z=(List.replicate g.length false).set c true:=⟨_,rfl⟩
 have Q:=Dfs.init Y;have an:muD z [(c:Int)]<=2*g.length:=by
  have J:=EF (l:=List.replicate g.length false) (i:=c) (by rw[C74];exact Y) (by unfold F9;rw[List.getElem?_replicate,A5 Y];rfl);rw[<-hz,List.count_replicate_self]at J;unfold muD;rw[List.length_singleton];omega
 rw[<-hz]at Q;refine FnOk.intro Tryz.func81 G6 Z Z Z Z (zz 2 ?_);refine A7 (K7 _ 1 l4) Z (zz 5 ?_);refine B8 (j5 751 Bool l4 false Z Z B1 B1 (fun _=>by first | exact⟨⟨rfl,rfl⟩,trivial⟩ | exact⟨F0 _ _ _,trivial⟩ | exact⟨F0 _ _ _,⟨rfl,rfl⟩,F0 _ _ _,trivial⟩ | exact⟨⟨rfl,rfl⟩,⟨rfl,rfl⟩,trivial⟩) YR) Z ?_;refine zz 2 ?_;rw[C31];refine zz 4 ?_;refine A7 (E0 Z Z Z B1 (by (rw[C74];omega))) Z ?_;refine O2 (I1 TySz.out Z Z (by (rw[C74];omega)) Z Z) ?_;refine zz 1 ?_;rw[C31,<-hz];refine zz 4 ?_;refine B8 (A12 752 (c:=E3) (ys:=[(c:Int)]) (D1 Z Z Z Z F2) Z Z Z Z Z) Z (zz 3 ?_);refine C5 (X:=List Bool×List Int) (fun x=>([(0,C0 Commit 3 H8 g),(5,.s (.one (.mut 751))),(6,.s (.one (.mut 752)))],[(751,.arr Bool 1 l4 x.1),(752,.grow 3 Int 1 E3 x.2)])) (fun x=>Dfs g c none 0 x.1 x.2/\muD x.1 x.2<=2*g.length) (fun x=>muD x.1 x.2) (z,[(c:Int)]) ⟨Q,an⟩ (Sees.of lf lo) ?_;rintro⟨C,P⟩ ⟨K,E⟩;dsimp only at K E ⊢;have af:P.length<=2*g.length:=by unfold muD at E;omega
 refine zc 7 (fun B=>?_) fun B=>?_;rotate_left
 ·have ah:P=[]:=List.length_eq_zero_iff.1 (by have J:=A1 B;omega);rw[ah]at K;have T:=K.done hr Y;rw[<-T];refine E2 (Sees.freeze (k:=751) Z) (zz 7 ?_);exact A8 (rs:=[pBools C]) (F7 rfl rfl rfl) rfl
 have V:0<P.length:=by have J:=A0 B;omega
 obtain⟨r,x,F⟩:∃(r:List Int) (x:Int),P=r++[x]:=⟨P.dropLast,P.getLast (List.length_pos_iff.1 V),(List.dropLast_concat_getLast _).symm⟩
 have O:=K.opn x (by rw[F];simp);obtain⟨j,am⟩:∃n:Nat,x=(n:Int):=⟨x.toNat,by omega⟩
 rw[am]at F O;rw[C31]at O;have G:=MZ O.2;rw[K.len]at G;rw[F]at K E af;have ab:=K.pop;have ar:(r++[(j:Int)]).length=r.length+1:=by simp
 have al:(r++[(j:Int)])[(((r++[(j:Int)]).length:Int)-1).toNat]?=some (j:Int):=by
  rw[show (((r++[(j:Int)]).length:Int)-1).toNat=r.length by omega,List.getElem?_concat_length]
 have R:(r++[(j:Int)]).take (((r++[(j:Int)]).length:Int)-1).toNat=r:=by
  rw[show (((r++[(j:Int)]).length:Int)-1).toNat=r.length by omega,List.take_left]
 have ae:muD C r+1=muD C (r++[(j:Int)]):=by unfold muD;omega
 obtain⟨q,L⟩:∃q,q=g[j]:=⟨_,rfl⟩
 have ak:g[((j:Nat):Int).toNat]?=some q:=by rw[L,C31];simp[G]
 have M:D8 g j=q.Parents:=by rw[dH G,L]
 have hpr:=(N3 hr j).1;rw[M]at hpr;have aq:=hF.pars q (by rw[L];exact C35 G);subst F;refine zz 8 ?_;refine A7 (U2 Z Z Z B1 B1) Z (A7 (sU Z Z al Z) Z (zz 8 ?_));refine B8 (KS Z Z Z B1 B1 Z) Z (zz 2 ?_);rw[R];refine zz 4 ?_;refine A7 (A9 Z (.pure _ _ _ _) Z B1 ak) Z (zz 6 ?_);refine C5 (X:=Nat×List Bool×List Int) (fun y=>([(0,C0 Commit 3 H8 g),(5,.s (.one (.mut 751))),(6,.s (.one (.mut 752))),(36,C0 Int 1 E3 q.Parents),(37,B2 q.Parents.length),(38,B2 y.1)],[(751,.arr Bool 1 l4 y.2.1),(752,.grow 3 Int 1 E3 y.2.2)])) (fun y=>y.1<=q.Parents.length/\Dfs g c (some j) y.1 y.2.1 y.2.2/\muD y.2.1 y.2.2<=muD C r) (fun y=>q.Parents.length-y.1) (0,C,r) ⟨Nat.zero_le _,ab,Nat.le_refl _⟩ (Sees.of lf lo) ?_;rintro⟨k,d,H⟩ ⟨hk,A,D⟩;dsimp only at hk A D ⊢;have ao:H.length<=2*g.length:=by unfold muD at D ae E;omega
 have f:=A.len;refine zc 5 (fun B=>?_) fun B=>?_;rotate_left
 ·have ad:k=q.Parents.length:=by have J:=A1 B;(try dsimp only at J);omega
  rw[ad,<-M]at A;have ac:=A.close;refine zz 1 ?_;exact⟨(d,H),⟨ac,b5x⟩,b5x,Sees.of lf lo⟩
 have v:k<q.Parents.length:=by have J:=A0 B;(try dsimp only at J);omega
 have ai:=hpr _ (C35 v);obtain⟨p,hp⟩:∃p:Nat,q.Parents[k]=(p:Int):=⟨q.Parents[k].toNat,by omega⟩
 rw[hp]at ai;have W:q.Parents[k]?=some (p:Int):=by rw[C29 v,hp]
 have I:(D8 g j)[k]?=some (p:Int):=by rw[M];exact W
 have U:p<g.length:=by omega
 obtain⟨b,hb⟩:∃b,b=F9 d p:=⟨_,rfl⟩
 have aj:d[((p:Nat):Int).toNat]?=some b:=by rw[hb,C31];exact iN B1
 refine zz 5 ?_;refine A7 (A9 Z (.pure _ _ _ _) Z B1 W) Z (zz 7 ?_);refine A7 (E0 Z Z Z B1 (by (rw[f];omega))) Z ?_;refine A7 (M9 Z Z aj Z) Z ?_;refine zc 2 (fun B=>?_) fun B=>?_
 ·have S:F9 d p=false:=by
   rw[<-hb];cases b
   ·rfl
   ·cases B
  have ap:=EF (l:=d) (i:=p) B1 S;refine zz 4 ?_;refine A7 (E0 Z Z Z B1 (by (rw[f];omega))) Z ?_;refine O2 (I1 TySz.out Z Z (by (rw[f];omega)) Z Z) ?_;refine zz 1 ?_;rw[C31];refine zz 3 ?_;refine A7 (C6 (c:=E3) (ys:=[(p:Int)]) (D1 Z Z Z Z F2) Z Z Z) Z (B8 (x8 Z Z Z (.pure _ _ _ _) b8q Z) Z (zz 6 ?_));refine⟨(k+1,d.set p true,H++[(p:Int)]),⟨v,A.push I U,?_⟩,by dsimp only;omega,(Sees.of lf lo)⟩;dsimp only;unfold muD at D ⊢;rw[C32,List.length_singleton];omega
 ·have ag:F9 d p=true:=by
   rw[<-hb];cases b
   ·cases B
   ·rfl
  refine zz 5 ?_;exact⟨(k+1,d,H),⟨v,A.skip I (by rw[C31];exact ag),D⟩,by dsimp only;omega,(Sees.of lf lo)⟩
abbrev covC(cov:List Bool):Unit->Nat->Cell:=fun _ _=>.list Bool 1 l4 cov
theorem UY(cov:List Bool)(x:Int)(b:Bool)(d:0<=x)(a:cov[x.toNat]?=some b):AL.Met Tryz.prog 152 [intS x,.one (.eref Unit 1 (covC cov) () 0)] [] [] [] (fun rs ob'=>rs=[boolS b]/\ob'=[]):=by
 have c:x.toNat<cov.length:=(List.getElem?_eq_some_iff.1 a).1;refine AL.Met.intro Tryz.func152 G6 Z Z Z (zz 8 ?_);refine A7 (A9 Z (.pure _ _ _ _) Z B1 a) Z (zz 4 ?_);exact F1 (O3 rfl rfl) cQ (ObIn.spec (ob':=[]) trivial) ⟨rfl,rfl⟩
theorem LL(f:FuncId)(α:Type)(d:Nat)(c:α->Nat->Cell)(v:α)(l:List Int)(y:l.length<=1073741824)(m:∀x∈l,AL.Met Tryz.prog f [intS x,.one (.eref α d c v 0)] [] [] [] (fun h ob'=>h=[boolS false]/\ob'=[])) :
  AL.Met Tryz.prog 230 [.one (.p (.list Int 1 E3 l)),.one (.fncE f α d c v)] [] [] [] (fun h ob'=>h=[intS (-1)]/\ob'=[]):=by
 refine AL.Met.intro Tryz.func230 G6 Z Z Z (zz 12 ?_);refine C5 (X:=Nat) (fun i=>([(0,C0 Int 1 E3 l),(1,.s (.one (.fncE f α d c v))),(7,B2 l.length),(8,B2 i)],[])) (fun i=>i<=l.length) (fun i=>l.length-i) 0 (Nat.zero_le _) (Sees.of lf lo) ?_;intro i q;dsimp only at q ⊢;refine zc 5 (fun b=>?_) fun b=>?_;rotate_left
 ·refine zz 6 ?_;exact F1 (O3 rfl rfl) cQ (ObIn.spec (ob':=[]) trivial) ⟨rfl,rfl⟩
 have a:i<l.length:=by have k:=A0 b;(try dsimp only at k);omega
 obtain⟨x,j⟩:∃x,x=l[i]:=⟨_,rfl⟩
 have w:l[i]?=some x:=by rw[j];simp[a]
 have g:=m x (by rw[j];exact C35 a);refine zz 13 ?_;refine A7 (A9 Z (.pure _ _ _ _) Z B1 w) Z (zz 1 ?_);refine A7 (n_callE (g) Z Z Z) Z ?_;refine zc 1 (fun b=>?_) fun b=>?_
 ·cases b
 ·refine zz 5 ?_;exact⟨i+1,by omega,by omega,Sees.of lf lo⟩
theorem FK(f:FuncId)(α:Type)(a:Nat)(c:α->Nat->Cell)(v:α)(l:List Int)(g:l.length<=1073741824)(d:∀x∈l,AL.Met Tryz.prog f [intS x,.one (.eref α a c v 0)] [] [] [] (fun rs ob'=>rs=[boolS false]/\ob'=[])) :
  AL.Met Tryz.prog 151 [.one (.p (.list Int 1 E3 l)),.one (.fncE f α a c v)] [] [] [] (fun rs ob'=>rs=[.one (.p (.list Int 1 E3 l))]/\ob'=[]):=by
 refine AL.Met.intro Tryz.func151 G6 Z Z Z (zz 2 ?_);refine A7 (K7 _ 1 E3) Z (zz 5 ?_);refine wW (LL f α a c v l g d) Z Z Z Z ?_;rintro _ _ ⟨rfl,rfl⟩;refine⟨rfl,?_⟩;refine zz 2 ?_;refine zc 6 (fun b=>?_) fun b=>?_;rotate_left
 ·exact absurd rfl (A1 b)
 refine zz 6 ?_;exact F1 (O3 rfl rfl) cQ (ObIn.spec (ob':=[]) trivial) ⟨rfl,rfl⟩
def aT(g:Graph)(l:List Int)(k:Nat):List Bool:=x5 g (l.take k) (List.replicate g.length false)
theorem tC(g:Graph):∀(l:List Int) (c:Int) (a:List Bool),x5 g (l++[c]) a=O0 g (x5 g l a) c g.length
 | [],_,_=>rfl
 | d::r,c,a=>by
  rw[C57,x5,x5];exact tC g r c _
theorem LM{g:Graph}{l:List Int}{k:Nat}{c:Int}(h:l[k]?=some c):aT g l (k+1)=O0 g (aT g l k) c g.length:=by
 unfold aT;rw[List.take_add_one,h,Option.toList_some,tC]
theorem xE(g:Graph):∀(l:List Int) (a:List Bool),(x5 g l a).length=a.length
 | [],_=>rfl
 | c::r,a=>by rw[x5,xE g r,aD]
theorem PN(g:Graph)(l:List Int)(k:Nat):(aT g l k).length=g.length:=by unfold aT;rw[xE,C74]
theorem A27(g:Graph)(l:List Int)(Y:FewG g)(hr:related g=true)(hl:l.length<=1000)(G:∀x∈l,0<=x/\x<(g.length:Int))(J:∀x∈l,F9 (x5 g l (List.replicate g.length false)) x.toNat=false) :
  FnOk Tryz.prog 82 [G9 g,L0 l] (fun rs=>rs=[L0 l]):=by
 have E:=Y.len;refine FnOk.intro Tryz.func82 G6 Z Z Z Z (zz 2 ?_);refine A7 (K7 _ 1 E3) Z (zz 5 ?_);refine B8 (j5 751 Bool l4 false Z Z B1 B1 (fun _=>by first | exact⟨⟨rfl,rfl⟩,trivial⟩ | exact⟨F0 _ _ _,trivial⟩ | exact⟨F0 _ _ _,⟨rfl,rfl⟩,F0 _ _ _,trivial⟩ | exact⟨⟨rfl,rfl⟩,⟨rfl,rfl⟩,trivial⟩) YR) Z ?_;refine B8 (E6 5 Z) Z (zz 2 ?_);rw[C31];refine zz 8 ?_;refine C5 (X:=Nat) (fun k=>([(0,C0 Commit 3 H8 g),(1,C0 Int 1 E3 l),(5,.s (.one (.ref 5 0))),(13,C0 Int 1 E3 l),(14,B2 l.length),(15,B2 k)],[(5,.box [.mut 751]),(751,.arr Bool 1 l4 (aT g l k))])) (fun k=>k<=l.length) (fun k=>l.length-k) 0 (Nat.zero_le _) (by dsimp only;rw[show aT g l 0=List.replicate g.length false by simp[aT,x5]];exact (Sees.of lf lo)) ?_;intro k hk;dsimp only at hk ⊢;have I:=PN g l k;refine zc 5 (fun H=>?_) fun H=>?_;rotate_left
 ·have Q:k=l.length:=by have B:=A1 H;(try dsimp only at B);omega
  obtain⟨cov,D⟩:∃cov,cov=x5 g l (List.replicate g.length false):=⟨_,rfl⟩
  have O:aT g l k=cov:=by rw[Q,D];unfold aT;rw[C44]
  rw[<-D]at J;rw[O]at I ⊢
  have hM:=FK 152 Unit 1 (covC cov) () l B1 (fun x V=>UY cov x false (G x V).1 (by
   have B:=G x V
   rw[iN B1,J x V]))
  refine E2 (Sees.freeze (k:=751) Z) (E2 (Sees.shutB (t:=5) (k:=5) (cs:=[Cell.list Bool 1 l4 cov]) (α:=Unit) (c:=covC cov) () Z Z (fun j hj=>by cases j with | zero=>rfl | succ j=>exact absurd hj s6)) ?_);refine zz 4 ?_;refine A7 (OT Z) Z (wW (hM) Z Z Z Z ?_);rintro _ _ ⟨rfl,rfl⟩;refine⟨rfl,?_⟩;refine zz 2 ?_;refine zz 1 ?_;exact A8 (rs:=[L0 l]) (F7 rfl rfl rfl) rfl
 have F:k<l.length:=by have B:=A0 H;(try dsimp only at B);omega
 obtain⟨c,hc⟩:∃c,c=l[k]:=⟨_,rfl⟩
 have hv:l[k]?=some c:=by rw[hc];exact C29 F
 have ad:=G c (by rw[hc];exact C35 F);obtain⟨A,M⟩:∃n:Nat,c=(n:Int):=⟨c.toNat,by omega⟩
 subst M;have W:=LK g A Y hr B1;have z:=LM (g:=g) hv;obtain⟨R,L⟩:∃R,R=N0 g [(A:Int)]:=⟨_,rfl⟩
 have ac:R.length=g.length:=by rw[L,gI]
 obtain⟨C,hC⟩:∃C,C=aT g l k:=⟨_,rfl⟩
 rw[<-hC]at z I ⊢;rw[<-L]at W;refine zz 5 ?_;refine A7 (A9 Z (.pure _ _ _ _) Z B1 hv) Z (zz 7 ?_);refine D3 (W) (zz 4 ?_);refine C5 (X:=Nat) (fun i=>([(0,C0 Commit 3 H8 g),(1,C0 Int 1 E3 l),(5,.s (.one (.ref 5 0))),(7,B2 A),(13,C0 Int 1 E3 l),(14,B2 l.length),(15,B2 k),(21,C0 Bool 1 l4 R),(22,B2 R.length),(23,B2 i)],[(5,.box [.mut 751]),(751,.arr Bool 1 l4 (O0 g C A i))])) (fun i=>i<=g.length) (fun i=>g.length-i) 0 (Nat.zero_le _) (by dsimp only;rw[XR];exact (Sees.of lf lo)) ?_;intro i hi;dsimp only at hi ⊢;have q:=aD g C A i;refine zc 5 (fun H=>?_) fun H=>?_;rotate_left
 ·have P:i=g.length:=by have B:=A1 H;(try dsimp only at B);omega
  refine zz 5 ?_;refine⟨k+1,by omega,by omega,?_⟩;rw[z,<-P];exact (Sees.of lf lo)
 have ab:i<g.length:=by have B:=A0 H;(try dsimp only at B);omega
 obtain⟨b,hb⟩:∃b,b=F9 R i:=⟨_,rfl⟩
 have T:R[i]?=some b:=by rw[hb];exact iN B1
 obtain⟨o,ho⟩:∃o,o=F9 (O0 g C A i) i:=⟨_,rfl⟩
 have U:(O0 g C A i)[((i:Nat):Int).toNat]?=some o:=by rw[ho,C31];exact iN (by rw[q];omega)
 have K:=XS (g:=g) (cov:=C) (c:=(A:Int)) (n:=i) B1;rw[<-ho,<-L,<-hb]at K;refine zz 6 ?_;refine A7 (A9 Z (.pure _ _ _ _) Z B1 T) Z (zz 9 ?_);refine D7 (E0 Z Z Z B1 (by (rw[q];omega))) Z Z ?_;refine D7 (M9 Z Z U Z) Z Z (zz 3 ?_);refine AD Z Z (.gd (.val _)) (fun E=>by obtain⟨w,y⟩:=W8 E;(try rw[w]);(try rw[y]);exact B3 Z Z) Z Z ?_;refine AD Z Z (.gd (.val _)) (fun E=>by obtain⟨w,y⟩:=W8 E;(try rw[w]);(try rw[y]);exact B3 Z Z) Z Z ?_;refine AD Z Z (.gd (.val _)) (fun E=>by obtain⟨w,y⟩:=W8 E;(try rw[w]);(try rw[y]);exact iE Z Z) Z Z ?_;refine J5 Z Z (fun E=>by rw[E];exact H9 Z (fun h=>by first | rfl | (rw[h];rfl)) (fun h=>by first | rfl | (rw[h];rfl))) Z Z ?_;refine zz 1 ?_;refine D7 (E0 Z Z Z B1 (by (rw[q];omega))) Z Z ?_;refine NX (I1 TySz.out Z Z (by (rw[q];omega)) Z Z) Z ?_;refine zz 1 ?_;have S:(if o=true then true else if b=true then decide ((i:Int)≠(A:Int)) else false)=(o||(b&&decide ((i:Int)≠(A:Int)))):=by cases o<;>cases b<;>rfl
 rw[S,C31];refine zz 4 ?_;refine⟨i+1,by omega,by omega,?_⟩;rw[<-K];exact (Sees.of lf lo)
theorem A28(g:Graph)(a b:Nat)(h:FewT g)(G:X8 g=0)(ha:a<g.length)(hb:b<g.length)(F:FnOk Tryz.prog 82 [G9 g,L0 (W5 g a b g.length)] (fun rs=>rs=[L0 (uJ g a b)])) :
  FnOk Tryz.prog 31 [G9 g,D2 a,D2 b] (fun rs=>rs=[L0 (uJ g a b),D2 0]):=by
 have v:=h.few;have m:=v.len;have I:=DJ G
 have J:=PM g [(a:Int),(b:Int)] h G s6 (fun x k=>by
  rcases C36.1 k with rfl | k
  ·exact⟨by omega,by omega⟩
  ·rw[List.mem_singleton.1 k];exact⟨by omega,by omega⟩)
 have D:=LK g a v I.rel ha;have E:=LK g b v I.rel hb;obtain⟨R,K⟩:∃R,R=uJ g a b:=⟨_,rfl⟩
 obtain⟨x,k⟩:∃x,x=N0 g [(a:Int)]:=⟨_,rfl⟩
 obtain⟨y,C⟩:∃y,y=N0 g [(b:Int)]:=⟨_,rfl⟩
 have O:x.length=g.length:=by rw[k,gI]
 have P:y.length=g.length:=by rw[C,gI]
 rw[<-k]at D;rw[<-C]at E;rw[<-K]at F ⊢;refine FnOk.intro Tryz.func31 G6 Z Z Z Z (zz 2 ?_);refine A7 (K7 _ 1 E3) Z (zz 8 ?_);refine A7 (C6 (c:=E3) (ys:=[(a:Int),(b:Int)]) (D1 Z Z Z Z (D1 Z Z Z Z F2)) Z Z Z) Z (D3 (J) ?_);refine zc 7 (fun j=>?_) fun j=>?_
 ·exact absurd rfl (A0 j)
 refine zz 5 ?_;refine D3 (D) (zz 2 ?_);refine D3 (E) (zz 5 ?_);refine B8 (w9 11 _ E3 Z) Z (zz 9 ?_);refine C5 (X:=Nat) (fun i=>([(0,C0 Commit 3 H8 g),(9,C0 Bool 1 l4 x),(10,C0 Bool 1 l4 y),(11,.s (.one (.buf 11 Int 1 E3 (W5 g a b i)))),(28,B2 g.length),(29,B2 i)],[(11,.spare (W5 g a b i).length 1 3)])) (fun i=>i<=g.length) (fun i=>g.length-i) 0 (Nat.zero_le _) (Sees.of lf lo) ?_;intro i M;dsimp only at M ⊢;have L:=XQ g a b i;refine zc 5 (fun j=>?_) fun j=>?_;rotate_left
 ·have z:i=g.length:=by have q:=A1 j;(try dsimp only at q);omega
  rw[z];refine zz 5 ?_;refine D3 (F) (zz 4 ?_);exact A8 (rs:=[L0 R,D2 0]) (S8 rfl rfl rfl rfl rfl) rfl
 have H:i<g.length:=by have q:=A0 j;(try dsimp only at q);omega
 have A:x[i]?=some (F9 x i):=iN B1;have B:y[i]?=some (F9 y i):=iN B1;have d:=SO g a b i;have w:EG g a b i=(F9 x i&&F9 y i):=by unfold EG;rw[k,C]
 rw[w]at d;refine zz 12 ?_;refine A7 (A9 Z (.pure _ _ _ _) Z B1 A) Z (zz 4 ?_);refine C3 Z Z Z Z (fun m=>by have N:=m;(try simp at N);rw[m];exact A9 Z (.pure _ _ _ _) Z B1 B) ?_;refine C3 Z Z Z Z (fun m=>by rw[m];exact L3 Z Z) ?_;refine zc 2 (fun j=>?_) fun j=>?_
 ·rw[xS]at j;rw[A5 j]at d;refine K4 [(0,C0 Commit 3 H8 g),(9,C0 Bool 1 l4 x),(10,C0 Bool 1 l4 y),(11,.s (.one (.buf 11 Int 1 E3 (W5 g a b i)))),(12,B2 i),(28,B2 g.length),(29,B2 i)] [(11,.spare (W5 g a b i).length 1 3)] (Sees.of lf lo) ?_;skip;refine zz 3 ?_;refine A7 (C6 (c:=E3) (ys:=[(i:Int)]) (D1 Z Z Z Z F2) Z Z Z) Z (zz 3 ?_);rw[<-d];refine zz 4 ?_;refine⟨i+1,by omega,by omega,?_⟩;rw[d];exact (Sees.of lf lo)
 ·rw[xS]at j;rw[A6 (by rw[j];decide)]at d;refine zz 5 ?_;refine⟨i+1,by omega,by omega,?_⟩;rw[d];exact (Sees.of lf lo)
abbrev UZ:Graph:=[⟨[],0,[⟨[120],[97,10,98,10]⟩]⟩,⟨[0],0,[⟨[120],[97,10,99,10]⟩]⟩]
theorem g33_few:FewT UZ:=⟨⟨by decide,by decide⟩,fun c a=>by
 rcases C36.1 a with rfl | a
 ·exact⟨by decide,by decide,by decide⟩
 ·rw[List.mem_singleton.1 a];exact⟨by decide,by decide,by decide⟩⟩
abbrev wB:List Str:=[[98,97,115,101,115],[48],[49]]
abbrev cB:Cmd:=⟨9,0,1,0,false,[]⟩
abbrev wZ:List Str:=[[122,97,112]]
theorem rep0:s7 [0]=[99,111,109,109,105,116,32,48,10]:=by
 unfold s7 repOf gH kO gG zS;simp only[C34,C43,List.take,C39,C77,A66 0 G6 G6];decide
theorem fmt320:J4 320=[51,50,48]:=by
 unfold J4 Lib.itoa;rw[A6 G6,A6 G6];have h:Lib.decDigits (320:Int).toNat=[51,50,48]:=by
  rw[Lib.decDigits,dif_neg G6,Lib.decDigits,dif_neg G6,Lib.decDigits,dif_pos G6];decide
 exact h
theorem err320:tX 320=[101,114,114,111,114,32,51,50,48,10]:=by unfold tX;rw[fmt320];rfl
theorem bases33:FnOk Tryz.prog 31 [G9 UZ,D2 0,D2 1] (fun d=>d=[L0 [0],D2 0]):=by
 have b:W5 UZ 0 1 2=[0]:=by kernel_rfl
 have a:=A27 UZ [0] g33_few.few F6 G6 G6 (fun x c=>by rw[List.mem_singleton.1 c];kernel_rfl)
 have h:=A28 UZ 0 1 g33_few F6 G6 G6 (by
  show FnOk _ _ [G9 UZ,L0 (W5 UZ 0 1 2)] _;rw[b,show uJ UZ 0 1=[0] by kernel_rfl]
  exact a)
 rw[show uJ UZ 0 1=[0] by kernel_rfl]at h;exact h
theorem B28:FnOk Tryz.prog 49 [G9 UZ,E5 (Q1 wB)] (fun rs=>rs=[E5 (iA (Q1 wB) (s7 [0]) 0)]):=by
 have a:=BM wB G6 G6 G6;rw[show rF wB=(cB,0) by kernel_rfl]at a;have b:=LJ UZ cB (s7 [0]) 0 g33_few F6 G6 F6 G6 (fun _=>by decide) G6 ⟨fun h=>absurd h G6,fun h=>absurd h G6,fun h=>absurd h G6,fun h=>absurd h G6,fun h=>absurd h G6,fun h=>absurd h G6,fun _=>⟨[0],by decide,rfl,bases33⟩⟩;exact xD UZ (Q1 wB) cB 0 (s7 [0]) 0 G6 (by rw[rep0];decide) a fun _=>b
theorem B29(g:Graph)(a:List Str)(b:a≠[])(d:∀w∈a,w≠[]/\w.all K8=true/\w.length<=1048576)(hs:(Q1 a).length<=65536)(h:rF a=(rD,320)) :
  FnOk Tryz.prog 49 [G9 g,E5 (Q1 a)] (fun rs=>rs=[E5 (iA (Q1 a) [] 320)]):=by
 have c:=BM a b d B1;rw[h]at c;exact xD g (Q1 a) rD 320 [] 320 hs s6 c fun h=>absurd h G6
abbrev out33:Str:=[62,32,98,97,115,101,115,32,48,32,49,10,99,111,109,109,105,116,32,48,10,62,32,122,97,112,10,101,114,114,111,114,32,51,50,48,10]
theorem qQ:FnOk Tryz.prog 6 [] (fun rs=>rs=[D5 true]):=by
 have k:=B29 UZ wZ G6 G6 G6 F6;have h:[iA (Q1 wB) (s7 [0]) 0,iA (Q1 wZ) [] 320].flatten=out33:=by
  unfold iA;rw[rep0,err320];decide
 have g:=rrun_ok UZ [98,97,115,101,115,32,48,32,49,10,122,97,112] [Q1 wB,Q1 wZ] [iA (Q1 wB) (s7 [0]) 0,iA (Q1 wZ) [] 320] g33_few F6 G6 F6 rfl (fun i j o b d=>by
  match i,b,d with
  | 0,b,d=>cases b;cases d;exact B28
  | 1,b,d=>cases b;cases d;exact k
  | i+2,b,_=>simp at b) (by rw[h];decide) G6
 rw[h]at g;refine FnOk.intro Tryz.func6 G6 Z Z Z Z (zz 7 ?_);refine A7 (C6 (c:=v6) (ys:=[(⟨[120],[97,10,98,10]⟩:File)]) (D1 Z Z Z Z F2) Z Z Z) Z (zz 1 ?_);refine A7 (C6 (c:=E3) (ys:=[(0:Int)]) (D1 Z Z Z Z F2) Z Z Z) Z (zz 1 ?_);refine A7 (C6 (c:=v6) (ys:=[(⟨[120],[97,10,99,10]⟩:File)]) (D1 Z Z Z Z F2) Z Z Z) Z (zz 1 ?_);refine l_sees ((C15 Int 1 E3 6 0 Z Z)) (A7 (C6 (c:=H8) (ys:=UZ) (D1 Z Z Z Z (D1 Z Z Z Z F2)) Z Z Z) Z (zz 5 ?_));refine D3 (g) (zz 17 ?_);exact A8 (rs:=[D5 true]) (F7 rfl rfl rfl) rfl
end Go.Proofs.YtgkjogphmmoakaaGreatDoor
