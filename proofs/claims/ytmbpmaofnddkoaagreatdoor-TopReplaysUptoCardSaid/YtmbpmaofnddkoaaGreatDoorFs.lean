/- Plain facts about data; no project text. -/
import Derived.Test.YtmbpmaofnddkoaaGreatDoorD
import Derived.Lib.Strings
import Derived.Lib.Bytealg
import Derived.Lib.Join
import Derived.Lib.ItoaNum
import Derived.Test.YtmbpmaofnddkoaaGreatDoorAn
import Derived.Lib.IndexMore
set_option linter.all false
namespace Go.AL
open Go
theorem u8_lf(c:UInt8):((c.toNat:Int)=10)↔c=10:=by
 constructor
 ·intro h;have:c.toNat=10:=by omega
  exact B88.1 (by simpa using this)
 ·rintro rfl;rfl
def G4(a:Str):Str->List Str
 | []=>if a=[] then [] else [a]
 | c::r=>if c=10 then (a++[c])::G4 [] r else G4 (a++[c]) r
def D5(b:Str):List Str:=G4 [] b
theorem mN(a:Str)(s:Str):(G4 a s).length<=s.length+1:=by
 induction s generalizing a with
 | nil=>unfold G4;split<;>simp
 | cons c r b=>unfold G4;split<;>simp<;>(have:=b [];have:=b (a++[c]);omega)
theorem qF(s:Str):(G4 [] s).length<=s.length:=by
 have key:∀(s a:Str),a≠[]->(G4 a s).length<=s.length+1:=fun s a _=>mN a s;induction s with
 | nil=>simp[G4]
 | cons c r b=>unfold G4;split<;>simp<;>(have:=mN ([]++[c]) r;simp at this;omega)
theorem fS(b:Str):(D5 b).length<=b.length:=qF b
theorem dE(a r:Str)(c:UInt8):G4 a (c::r)=if c=10 then (a++[c])::G4 [] r else G4 (a++[c]) r:=rfl
theorem KX(a:Str)(h:a≠[]):G4 a []=[a]:=by simp[G4,h]
theorem or_pick{p q:Prop}[Decidable p][Decidable q]:(if decide p=true then true else decide q)=decide (p\/q):=by by_cases p<;>simp[*]
theorem and_pick{p q:Prop}[Decidable p][Decidable q]:(if decide p=true then decide q else false)=decide (p/\q):=by by_cases p<;>simp[*]
theorem bM{α:Type}(l:List (List α))(i:Nat)(h:i<l.length):(l.take (i+1)).flatten=(l.take i).flatten++l[i]:=by
 rw[B48,B23 h,B54,B64];simp
theorem x8{α:Type}(l:List (List α))(i:Nat):(l.take i).flatten.length<=l.flatten.length:=by
 conv=>rhs;rw[<-B87 i l,B64,B25]
 omega
theorem UV(i:Nat):((i:Int)+1).toNat=i+1:=by omega
theorem HR{α:Type}(b:List α)(f i:Nat)(d:f<=i)(c:i<b.length):(b.drop f).take (i-f)++[b[i]]=(b.drop f).take (i+1-f):=by
 rw[show i+1-f=(i-f)+1 by omega,B48,B85,show f+(i-f)=i by omega,B23 c];rfl
def ended(s:Str):Bool:=s.getLast? == some 10
def L9:List Str->Str->Int->Int
 | [],_,_ => -1
 | x::r,s,i=>if x=s then i else L9 r s (i+1)
def N1(s:Str):Bool:=s.dropLast.all (·≠10)&&s != []
def cP:List Str->Bool
 | []=>true
 | s::r=>N1 s&&(r.isEmpty||ended s)&&cP r
def P5(b:Str):Int:=if b.length>1048576\/(D5 b).length>4096 then 1 else 0
def y9(l:List Str):Str×Int:=if cP l=false then ([],2) else if l.flatten.length>1048576\/l.length>4096 then ([],1) else (l.flatten,0)
def M8(a:List Str)(s:Str):List Str:=if s∈a then a else a++[s]
def D6(files:List (List Str)):List Str:=files.flatten.foldl M8 []
def F4(names:List Str)(a:List Str):List Int:=a.map (fun s=>L9 names s 0)
theorem wG(a:List Str)(s:Str):(M8 a s).length<=a.length+1:=by unfold M8;split<;>simp
theorem sC(l a:List Str):(l.foldl M8 a).length<=a.length+l.length:=by
 induction l generalizing a with
 | nil=>simp
 | cons s r b=>have c:=b (M8 a s);have d:=wG a s;simp only[B82,B31];omega
theorem CL(a:List (List Str)):(D6 a).length<=a.flatten.length:=by have:=sC a.flatten [];simpa[D6] using this
structure File where
 Path:Str
 Blob:Str
 deriving DecidableEq
structure Delta where
 Path:Str
 Kind:Int
 deriving DecidableEq
structure Commit where
 Parents:List Int
 Date:Int
 Files:List File
 deriving DecidableEq
def Z7:File->Nat->Cell:=fun f j=>match j with
 | 0=>.v (.string ⟨f.Path.toArray⟩)
 | _=>.v (.string ⟨f.Blob.toArray⟩)
def lJ:Delta->Nat->Cell:=fun d j=>match j with
 | 0=>.v (.string ⟨d.Path.toArray⟩)
 | _=>.v (.int .i64 d.Kind)
def H0:Commit->Nat->Cell:=fun c j=>match j with
 | 0=>.list Int 1 E0 c.Parents
 | 1=>.v (.int .i64 c.Date)
 | _=>.list File 2 Z7 c.Files
abbrev nZ:List File->Nat->Cell:=fun l _=>.list File 2 Z7 l
abbrev lK:List Delta->Nat->Cell:=fun l _=>.list Delta 2 lJ l
abbrev XB(f:File):PV:=.agg [.v (.string ⟨f.Path.toArray⟩),.v (.string ⟨f.Blob.toArray⟩)]
abbrev pDelta(d:Delta):PV:=.agg [.v (.string ⟨d.Path.toArray⟩),.v (.int .i64 d.Kind)]
abbrev uA(c:Commit):PV:=.agg [.list Int 1 E0 c.Parents,.v (.int .i64 c.Date),.list File 2 Z7 c.Files]
abbrev b9(l:List File):PV:=.one (.list File 2 Z7 l)
abbrev KY(l:List Delta):PV:=.one (.list Delta 2 lJ l)
abbrev N2(l:List Commit):PV:=.one (.list Commit 3 H0 l)
abbrev KZ(l:List (List File)):PV:=.one (.list (List File) 1 nZ l)
theorem xP(a b:Bool):(if a=true then b else false)=(a&&b):=by cases a<;>rfl
theorem PK(a b:Bool):(if a=true then true else b)=(a||b):=by cases a<;>rfl
abbrev jO(a b:Str):Bool:=Op.bytesLess a b
theorem XC(a:Str):jO a []=false:=by cases a<;>rfl
theorem kB(a b:UInt8)(x y:Str):jO (a::x) (b::y)=(decide (a<b)||(a == b&&jO x y)):=rfl
theorem n6:∀a:Str,jO a a=false
 | []=>rfl
 | c::r=>by
  rw[kB,n6 r];have:¬c<c:=by rw[UInt8.lt_iff_toNat_lt];omega
  simp[this]
theorem cQ:∀{a b c:Str},jO a b=true->jO b c=true->jO a c=true
 | _,[],_,h,_=>by rw[XC]at h;cases h
 | _,_::_,[],_,h=>by rw[XC]at h;cases h
 | [],_::_,_::_,_,_=>rfl
 | a::x,b::y,c::z,e,d=>by
  rw[kB,B63,B24,decide_eq_true_eq,UInt8.lt_iff_toNat_lt,beq_iff_eq]at e d;rw[kB,B63,B24,decide_eq_true_eq,UInt8.lt_iff_toNat_lt,beq_iff_eq];rcases e with e | ⟨rfl,e⟩
  ·rcases d with d | ⟨rfl,d⟩
   ·left;omega
   ·left;omega
  ·rcases d with d | ⟨rfl,d⟩
   ·left;omega
   ·right;exact⟨rfl,cQ e d⟩
theorem pM:∀{a b:Str},jO a b=false->jO b a=false->a=b
 | [],[],_,_=>rfl
 | [],_::_,h,_=>by cases h
 | _::_,[],_,h=>by cases h
 | a::x,b::y,h1,h2=>by
  rw[kB,B89,decide_eq_false_iff_not,UInt8.lt_iff_toNat_lt]at h1 h2;have e:a=b:=B88.1 (by omega);subst e;simp only[beq_self_eq_true,B79]at h1 h2;rw[pM h1.2 h2.2]
theorem A04{a b:Str}(h:jO a b=true):jO b a=false:=by
 cases c:jO b a
 ·rfl
 ·have:=cQ h c;rw[n6]at this;cases this
theorem XD:∀(a:Str) (c:UInt8) (t:Str),jO a (a++c::t)=true
 | [],_,_=>rfl
 | x::r,c,t=>by rw[B66,kB,XD r c t];simp
def U8(s:Str):Bool:=decide (s≠[]/\s≠[46]/\s≠[46,46])
def J6(a:Str):Str->List Str
 | []=>[a]
 | c::r=>if c=47 then a::J6 [] r else J6 (a++[c]) r
def cpGo(a:Str):Str->Bool
 | []=>U8 a
 | c::r=>if c=0 then false else if c=47 then U8 a&&cpGo [] r else cpGo (a++[c]) r
def aM(p:Str):Int:=if p.length<1\/p.length>200\/cpGo [] p=false then 210 else 0
theorem sD:∀(s b:Str),cpGo b s=(!s.contains 0&&(J6 b s).all U8)
 | [],b=>by simp[cpGo,J6]
 | c::r,b=>by
  rw[cpGo,J6];by_cases d:c=0
  ·subst d;simp
  ·rw[A6 d];have f:(c::r).contains 0=r.contains 0:=by
    rw[List.contains_cons];have:((0:UInt8) == c)=false:=by simpa using fun e=>d e.symm
    rw[this,B83]
   rw[f];split
   ·rw[sD r [],List.all_cons];cases U8 b<;>cases r.contains 0<;>rfl
   ·rw[sD r]
theorem LA(p:Str):aM p=if p.length>200\/p.contains 0=true then 210 else if (J6 [] p).all U8=true then 0 else 210:=by
 unfold aM;rw[sD];by_cases b:p.length>200
 ·rw[A5 (.inr (.inl b)),A5 (.inl b)]
 ·cases d:p.contains 0
  ·rw[A6 (show ¬(p.length>200\/false=true) by simp[b])];cases c:(J6 [] p).all U8
   ·simp
   ·have:¬p.length<1:=by
     intro h;have:p=[]:=List.length_eq_zero_iff.1 (by omega);subst this;simp[J6,U8]at c
    rw[A6 (fun h=>by
     rcases h with h | h | h
     ·exact this h
     ·exact b h
     ·cases h)];rfl
  ·rw[A5 (show p.length>200\/true=true from .inr rfl),A5 (.inr (.inr (by simp)))]
def above(a b:Str):Bool:=decide (b.length>a.length/\b.take a.length=a/\b[a.length]?=some 47)
theorem A73{a b:Str}(h:above a b=true):jO a b=true:=by
 obtain⟨c,f,d⟩:=A1 h;have e:b=a++47::b.drop (a.length+1):=by
  conv=>lhs;rw[<-B87 a.length b,f]
  rw[B40 c];rw[B23 c]at d;rw[B81 d]
 rw[e];exact XD _ _ _
def p5:List File->Bool
 | []=>true
 | f::r=>r.all (fun x=>jO f.Path x.Path&&!above f.Path x.Path)&&p5 r
def F3(l:List File):Int:=if l.length>200 then 1 else if l.any (fun f=>decide (aM f.Path≠0))=true then 210 else if p5 l=false then 211 else if l.any (fun f=>decide (P5 f.Blob≠0))=true then 1 else 0
def S0(p:Str)(ps:List Str):Bool:=(List.range p.length).any fun i=>decide (p.take i∈ps)&&decide (p[i]?=some 47)
def ascend:List File->Bool
 | []=>true
 | [_]=>true
 | f::g::r=>jO f.Path g.Path&&ascend (g::r)
def dX(l:List File):Bool:=ascend l&&l.all fun f=>!S0 f.Path (l.map (·.Path))
theorem CM(p:Str)(ps:List Str):S0 p ps=true↔∃a∈ps,above a p=true:=by
 unfold S0;rw[List.any_eq_true];constructor
 ·rintro⟨i,k,h⟩;rw[B24,decide_eq_true_eq,decide_eq_true_eq]at h;have c:i<p.length:=B44.1 k;have b:(p.take i).length=i:=by rw[B42];omega
  exact⟨_,h.1,A3 ⟨by rw[b];exact c,by rw[b],by rw[b];exact h.2⟩⟩
 ·rintro⟨a,ha,h⟩;obtain⟨d,f,j⟩:=A1 h;exact⟨a.length,B44.2 d,by rw[B24,decide_eq_true_eq,decide_eq_true_eq,f];exact⟨ha,j⟩⟩
theorem aN:∀{f:File} {r:List File},ascend (f::r)=true->∀x∈r,jO f.Path x.Path=true
 | _,[],_,_,hx=>by cases hx
 | f,g::r,h,x,hx=>by
  unfold ascend at h;rw[B24]at h;rcases B34.1 hx with rfl | hx
  ·exact h.1
  ·exact cQ h.1 (aN h.2 x hx)
theorem iA{f:File}{r:List File}(h:ascend (f::r)=true):ascend r=true:=by
 cases r with
 | nil=>rfl
 | cons g r=>unfold ascend at h;rw[B24]at h;exact h.2
theorem bN:∀{l:List File},p5 l=true->ascend l=true
 | [],_=>rfl
 | [_],_=>rfl
 | f::g::r,h=>by
  unfold p5 at h;rw[B24,B27]at h;have a:=h.1 g (by simp);rw[B24]at a;unfold ascend;rw[a.1,bN h.2];rfl
theorem rD:∀{l:List File},p5 l=true->∀x∈l,∀y∈l,above x.Path y.Path=false
 | [],_,x,hx,_,_=>by cases hx
 | f::r,h,x,hx,y,hy=>by
  have ha:=bN h;unfold p5 at h;rw[B24,B27]at h;cases a:above x.Path y.Path
  ·rfl
  have b:=A73 a;rcases B34.1 hx with rfl | hx0
  ·rcases B34.1 hy with rfl | hy
   ·rw[n6]at b;cases b
   ·have:=h.1 y hy;rw[a,Bool.not_true,Bool.and_false]at this;cases this
  ·have c:=hx0;rcases B34.1 hy with d | hy2
   ·have:=aN ha x c;rw[<-d,A04 b]at this;cases this
   ·rw[rD h.2 x c y hy2]at a;cases a
theorem sE:∀{l:List File},ascend l=true->(∀x∈l,∀y∈l,above x.Path y.Path=false)->p5 l=true
 | [],_,_=>rfl
 | f::r,h,ha=>by
  unfold p5;rw[B24,B27];refine⟨fun x a=>?_,sE (iA h) fun x a y b=>ha x (by simp[a]) y (by simp[b])⟩;rw[aN h x a,ha f (by simp) x (by simp[a])];rfl
theorem UW(l:List File):dX l=p5 l:=by
 cases h:p5 l
 ·cases c:dX l
  ·rfl
  unfold dX at c;rw[B24,B27]at c;have:p5 l=true:=sE c.1 fun x d y e=>by
   cases b:above x.Path y.Path
   ·rfl
   have f:=c.2 y e;rw[(CM _ _).2 ⟨x.Path,List.mem_map_of_mem d,b⟩]at f;cases f
  rw[this]at h;cases h
 ·unfold dX;rw[B24,B27];refine⟨bN h,fun y e=>?_⟩;cases g:S0 y.Path (l.map (·.Path))
  ·rfl
  obtain⟨a,ha,b⟩:=(CM _ _).1 g;obtain⟨x,d,rfl⟩:=B62.1 ha;rw[rD h x d y e]at b;cases b
def K0:List File->Str->Option Str
 | [],_=>none
 | f::r,p=>if f.Path=p then some f.Blob else K0 r p
def dF(a:Str)(k:List Str->List Str):List Str->List Str
 | []=>a::k []
 | b::bs=>if jO a b=true then a::k (b::bs) else if jO b a=true then b::dF a k bs else a::k bs
def fT:List Str->List Str->List Str
 | [],bs=>bs
 | a::as,bs=>dF a (fT as) bs
def lL(a b:List File)(p:Str):Option Delta:=match K0 a p,K0 b p with
 | none,_=>some ⟨p,1⟩
 | some _,none=>some ⟨p,2⟩
 | some x,some y=>if x≠y then some ⟨p,3⟩ else none
def i6(a b:List File):List Delta:=(fT (a.map (·.Path)) (b.map (·.Path))).filterMap (lL a b)
def jC(b:List File)(f:File):Option Delta:=match K0 b f.Path with
 | none=>some ⟨f.Path,2⟩
 | some y=>if y≠f.Blob then some ⟨f.Path,3⟩ else none
def qG(a:List File)(f:File):Option Delta:=match K0 a f.Path with
 | none=>some ⟨f.Path,1⟩
 | some _=>none
def dG(a b:List File):List Delta:=a.filterMap (jC b)++b.filterMap (qG a)
def qH(x:Delta):List Delta->List Delta
 | []=>[x]
 | y::r=>if jO x.Path y.Path=true then y::qH x r else x::y::r
def cD:List Delta->List Delta->List Delta
 | acc,[]=>acc
 | acc,x::r=>cD (qH x acc) r
def rE(l:List Delta):List Delta:=(cD [] l).reverse
def diffOf(a b:List File):List Delta:=rE (dG a b)
theorem uB(x:Delta):∀(l:List Delta) (y:Delta),y∈qH x l↔y=x\/y∈l
 | [],y=>by simp[qH]
 | z::r,y=>by
  unfold qH;split
  ·rw[B34,uB x r,B34];constructor
   ·rintro (h | h | h)
    ·exact .inr (.inl h)
    ·exact .inl h
    ·exact .inr (.inr h)
   ·rintro (h | h | h)
    ·exact .inr (.inl h)
    ·exact .inl h
    ·exact .inr (.inr h)
  ·rw[B34]
theorem xQ(x:Delta):∀l:List Delta,(qH x l).length=l.length+1
 | []=>rfl
 | y::r=>by
  unfold qH;split
  ·rw[B31,xQ x r,B31]
  ·rfl
theorem HS:∀(l a:List Delta) (y:Delta),y∈cD a l↔y∈a\/y∈l
 | [],a,y=>by simp[cD]
 | x::r,a,y=>by
  unfold cD;rw[HS r,uB,B34];constructor
  ·rintro ((h | h) | h)
   ·exact .inr (.inl h)
   ·exact .inl h
   ·exact .inr (.inr h)
  ·rintro (h | h | h)
   ·exact .inl (.inr h)
   ·exact .inl (.inl h)
   ·exact .inr h
abbrev PL(l:List Delta):Prop:=l.Pairwise fun x y=>jO y.Path x.Path=true
abbrev AscD(l:List Delta):Prop:=l.Pairwise fun x y=>jO x.Path y.Path=true
theorem HT{x:Delta}:∀{l:List Delta},PL l->(∀y∈l,y.Path≠x.Path)->PL (qH x l)
 | [],_,_=>by simp[qH,PL]
 | y::r,h,hn=>by
  unfold qH;have d:=List.pairwise_cons.1 h;split
  ·rename_i b;refine List.pairwise_cons.2 ⟨fun z a=>?_,HT d.2 fun z a=>hn z (by simp[a])⟩;rcases (uB x r z).1 a with rfl | a
   ·exact b
   ·exact d.1 z a
  ·rename_i b;have c:jO y.Path x.Path=true:=by
    cases f:jO y.Path x.Path
    ·exact absurd (pM (by simpa using b) f) fun e=>hn y (by simp) e.symm
    ·rfl
   refine List.pairwise_cons.2 ⟨fun z a=>?_,h⟩;rcases B34.1 a with rfl | a
   ·exact c
   ·exact cQ (d.1 z a) c
theorem CN:∀(l b:List Delta),PL b->(l.map (·.Path)).Nodup->(∀x∈l,∀y∈b,y.Path≠x.Path)->PL (cD b l)
 | [],b,h,_,_=>h
 | x::r,b,h,hn,hd=>by
  unfold cD;rw[B50,List.nodup_cons]at hn;refine CN r _ (HT h (hd x (by simp))) hn.2 fun z f y c=>?_;rcases (uB x b y).1 c with rfl | c
  ·intro e;exact hn.1 (by rw[e];exact List.mem_map_of_mem f)
  ·exact hd z (by simp[f]) y c
theorem A05{l:List Delta}(h:(l.map (·.Path)).Nodup):AscD (rE l):=by
 unfold rE AscD;rw[List.pairwise_reverse];exact CN l [] List.Pairwise.nil h fun _ _ _ b=>by cases b
theorem A06(l:List Delta)(y:Delta):y∈rE l↔y∈l:=by
 unfold rE;rw[List.mem_reverse,HS];simp
theorem XE:∀{l m:List Delta},AscD l->AscD m->(∀y,y∈l↔y∈m)->l=m
 | [],[],_,_,_=>rfl
 | [],y::_,_,_,h=>by have:=(h y).2 (by simp);cases this
 | y::_,[],_,_,h=>by have:=(h y).1 (by simp);cases this
 | x::l,y::m,h1,h2,h=>by
  have b:=List.pairwise_cons.1 h1;have a2:=List.pairwise_cons.1 h2;have e:x=y:=by
   rcases B34.1 ((h x).1 (by simp)) with e | hx
   ·exact e
   rcases B34.1 ((h y).2 (by simp)) with e | hy
   ·exact e.symm
   have:=cQ (b.1 y hy) (a2.1 x hx);rw[n6]at this;cases this
  subst e;refine congrArg (x::·) (XE b.2 a2.2 fun z=>⟨fun a=>?_,fun a=>?_⟩)
  ·rcases B34.1 ((h z).1 (by simp[a])) with rfl | h3
   ·have:=b.1 z a;rw[n6]at this;cases this
   ·exact h3
  ·rcases B34.1 ((h z).2 (by simp[a])) with rfl | h3
   ·have:=a2.1 z a;rw[n6]at this;cases this
   ·exact h3
abbrev CO(l:List Str):Prop:=l.Pairwise fun x y=>jO x y=true
theorem oA{a:Str}{k:List Str->List Str}{as:List Str}(d:∀c p,p∈k c↔p∈as\/p∈c):∀(c:List Str) (p:Str),p∈dF a k c↔p=a\/p∈as\/p∈c
 | [],p=>by rw[dF,B34,d]
 | b :: c,p=>by
  rw[dF];split
  ·rw[B34,d]
  ·split
   ·rw[B34,oA d c p,B34];constructor
    ·rintro (h | h | h | h)
     ·exact .inr (.inr (.inl h))
     ·exact .inl h
     ·exact .inr (.inl h)
     ·exact .inr (.inr (.inr h))
    ·rintro (h | h | h | h)
     ·exact .inr (.inl h)
     ·exact .inr (.inr (.inl h))
     ·exact .inl h
     ·exact .inr (.inr (.inr h))
   ·rename_i f g;have e:a=b:=pM (by simpa using f) (by simpa using g);subst e;rw[B34,d,B34];constructor
    ·rintro (h | h | h)
     ·exact .inl h
     ·exact .inr (.inl h)
     ·exact .inr (.inr (.inr h))
    ·rintro (h | h | h | h)
     ·exact .inl h
     ·exact .inr (.inl h)
     ·exact .inl h
     ·exact .inr (.inr h)
theorem fU:∀(as b:List Str) (p:Str),p∈fT as b↔p∈as\/p∈b
 | [],b,p=>by simp[fT]
 | a::as,b,p=>by
  rw[fT,oA (fun b p=>fU as b p) b p,B34];constructor
  ·rintro (h | h | h)
   ·exact .inl (.inl h)
   ·exact .inl (.inr h)
   ·exact .inr h
  ·rintro ((h | h) | h)
   ·exact .inl h
   ·exact .inr (.inl h)
   ·exact .inr (.inr h)
theorem xR{a:Str}{k:List Str->List Str}{as:List Str}(i:∀d p,p∈k d↔p∈as\/p∈d)(g:∀d,CO d->CO (k d))(ha:∀x∈as,jO a x=true):∀d:List Str,CO d->CO (dF a k d)
 | [],h=>by
  rw[dF];refine List.pairwise_cons.2 ⟨fun x c=>?_,g [] h⟩;rcases (i [] x).1 c with c | c
  ·exact ha x c
  ·cases c
 | b::d,h=>by
  have hb:=List.pairwise_cons.1 h;rw[dF];split
  ·rename_i f;refine List.pairwise_cons.2 ⟨fun x c=>?_,g _ h⟩;rcases (i _ x).1 c with c | c
   ·exact ha x c
   ·rcases B34.1 c with rfl | c
    ·exact f
    ·exact cQ f (hb.1 x c)
  ·split
   ·rename_i _ f;refine List.pairwise_cons.2 ⟨fun x c=>?_,xR i g ha d hb.2⟩;rcases (oA i d x).1 c with rfl | c | c
    ·exact f
    ·exact cQ f (ha x c)
    ·exact hb.1 x c
   ·rename_i j l;have e:a=b:=pM (by simpa using j) (by simpa using l);subst e;refine List.pairwise_cons.2 ⟨fun x c=>?_,g _ hb.2⟩;rcases (i _ x).1 c with c | c
    ·exact ha x c
    ·exact hb.1 x c
theorem CP:∀(as a:List Str),CO as->CO a->CO (fT as a)
 | [],_,_,h=>h
 | _::as,a,h1,h2=>by
  have ha:=List.pairwise_cons.1 h1;exact xR (fun a p=>fU as a p) (fun a hb=>CP as a ha.2 hb) ha.1 a h2
theorem dY:∀{l:List File} {p x:Str},K0 l p=some x->∃f∈l,f.Path=p/\f.Blob=x
 | [],_,_,h=>by cases h
 | f::r,p,x,h=>by
  unfold K0 at h;split at h
  ·rename_i e;exact⟨f,by simp,e,B81 h⟩
  ·obtain⟨g,b,a⟩:=dY h;exact⟨g,by simp[b],a⟩
theorem CQ{p:Str}:∀{l:List File},K0 l p=none↔p∉l.map (·.Path)
 | []=>by simp[K0]
 | f::r=>by
  unfold K0;split
  ·rename_i e;simp[e]
  ·rename_i e;rw[CQ (l:=r),B50,B34,not_or];exact⟨fun h=>⟨fun b=>e b.symm,h⟩,fun h=>h.2⟩
theorem bO:∀{l:List File},ascend l=true->CO (l.map (·.Path))
 | [],_=>List.Pairwise.nil
 | f::r,h=>by
  rw[B50];refine List.pairwise_cons.2 ⟨fun x c=>?_,bO (iA h)⟩;obtain⟨g,b,rfl⟩:=B62.1 c;exact aN h g b
theorem CR{l:List Str}(h:CO l):l.Nodup:=h.imp fun {a b} c e=>by rw[e,n6]at c;cases c
theorem dZ:∀{l:List File},ascend l=true->∀f∈l,K0 l f.Path=some f.Blob
 | [],_,f,hf=>by cases hf
 | g::r,h,f,hf=>by
  unfold K0;rcases B34.1 hf with rfl | hf
  ·rw[A5 rfl]
  ·have:=aN h f hf;rw[A6 (fun e=>by rw[e,n6]at this;cases this)];exact dZ (iA h) f hf
theorem LB{a b:List File}{p:Str}{d:Delta}(h:lL a b p=some d):d.Path=p:=by
 unfold lL at h;split at h
 ·cases h;rfl
 ·cases h;rfl
 ·split at h
  ·cases h;rfl
  ·cases h
theorem rF{f:Str->Option Delta}(a:∀p d,f p=some d->d.Path=p):∀{l:List Str},CO l->AscD (l.filterMap f)
 | [],_=>List.Pairwise.nil
 | p::r,h=>by
  have c:=List.pairwise_cons.1 h;have e:=rF a c.2;rw[List.filterMap_cons];cases g:f p with
  | none=>exact e
  | some d =>
   refine List.pairwise_cons.2 ⟨fun y j=>?_,e⟩;obtain⟨q,i,b⟩:=List.mem_filterMap.1 j;rw[a p d g,a q y b];exact c.1 q i
theorem HU{b:List File}{f:File}{d:Delta}(h:jC b f=some d):d.Path=f.Path:=by
 unfold jC at h;split at h
 ·cases h;rfl
 ·split at h
  ·cases h;rfl
  ·cases h
theorem HV{a:List File}{f:File}{d:Delta}(h:qG a f=some d):d.Path=f.Path/\f.Path∉a.map (·.Path):=by
 unfold qG at h;split at h
 ·rename_i b;cases h;exact⟨rfl,CQ.1 b⟩
 ·cases h
theorem A07{a b:List File}(ha:ascend a=true)(hb:ascend b=true):((dG a b).map (·.Path)).Nodup:=by
 have sub:∀(f:File->Option Delta),(∀x d,f x=some d->d.Path=x.Path)->∀l:List File,((l.filterMap f).map (·.Path)).Sublist (l.map (·.Path)):=by
  intro f k l;induction l with
  | nil=>exact List.Sublist.slnil
  | cons x r n =>
   rw[List.filterMap_cons];cases c:f x with
   | none=>exact n.cons _
   | some d=>rw[B50,B50,k x d c];exact n.cons_cons _
 unfold dG;rw[B65,List.nodup_append];refine⟨(CR (bO ha)).sublist (sub _ (fun _ _ h=>HU h) a),(CR (bO hb)).sublist (sub _ (fun _ _ h=>(HV h).1) b),?_⟩;intro x c y z e;subst e;obtain⟨d,w,q⟩:=B62.1 z;obtain⟨f,k,v⟩:=List.mem_filterMap.1 w;have g:=HV v;have j:=(sub _ (fun _ _ h=>HU h) a).subset c;rw[<-q,g.1]at j;exact g.2 j
theorem raw_mem{a b:List File}(ha:ascend a=true)(_hb:ascend b=true)(y:Delta):y∈dG a b↔y∈i6 a b:=by
 unfold dG i6;rw[B36,List.mem_filterMap,List.mem_filterMap,List.mem_filterMap];constructor
 ·rintro (⟨f,d,h⟩ | ⟨f,d,h⟩)
  ·refine⟨f.Path,(fU _ _ _).2 (.inl (List.mem_map_of_mem d)),?_⟩;unfold jC at h;unfold lL;rw[dZ ha f d];split at h
   ·rename_i c;rw[c];exact h
   ·rename_i z c;rw[c];dsimp only;split at h
    ·rename_i g;rw[A5 (fun e=>g e.symm)];exact h
    ·cases h
  ·refine⟨f.Path,(fU _ _ _).2 (.inr (List.mem_map_of_mem d)),?_⟩;unfold qG at h;unfold lL;split at h
   ·rename_i c;rw[c];exact h
   ·cases h
 ·rintro⟨p,j,h⟩;unfold lL at h;split at h
  ·rename_i c;rcases (fU _ _ _).1 j with j | j
   ·exact absurd j (CQ.1 c)
   ·obtain⟨f,d,rfl⟩:=B62.1 j;exact .inr ⟨f,d,by unfold qG;rw[c];exact h⟩
  ·rename_i x c g;obtain⟨f,d,rfl,rfl⟩:=dY c;exact .inl ⟨f,d,by unfold jC;rw[g];exact h⟩
  ·rename_i x z c g;obtain⟨f,d,rfl,rfl⟩:=dY c;refine .inl ⟨f,d,?_⟩;unfold jC;rw[g];dsimp only;split at h
   ·rename_i k;rw[A5 (fun e=>k e.symm)];exact h
   ·cases h
theorem A08{a b:List File}(ha:ascend a=true)(hb:ascend b=true):diffOf a b=i6 a b :=
 XE (A05 (A07 ha hb)) (rF (fun _ _ h=>LB h) (CP _ _ (bO ha) (bO hb))) fun y=>(A06 _ y).trans (raw_mem ha hb y)
theorem UX(a b:List File):(dG a b).length<=a.length+b.length:=by
 unfold dG;rw[B25];have c:=List.length_filterMap_le (jC b) a;have d:=List.length_filterMap_le (qG a) b;omega
theorem dH{l:List File}(h:F3 l=0):ascend l=true/\l.length<=200/\(∀f∈l,P5 f.Blob=0)/\∀f∈l,aM f.Path=0:=by
 unfold F3 at h;split at h
 ·cases h
 ·rename_i g;split at h
  ·cases h
  ·rename_i b;split at h
   ·cases h
   ·rename_i c;split at h
    ·cases h
    ·rename_i d;refine⟨bN (by simpa using c),by omega,fun f a=>?_,fun f a=>?_⟩
     ·have:=fun e=>d (List.any_eq_true.2 ⟨f,a,e⟩);simpa using this
     ·have:=fun e=>b (List.any_eq_true.2 ⟨f,a,e⟩);simpa using this
theorem pN{α:Type}[DecidableEq α]:∀{l m:List α},l.Nodup->(∀x∈l,x∈m)->l.length<=m.length
 | [],_,_,_=>B37 _
 | x::l,m,h,hs=>by
  have b:=List.nodup_cons.1 h;have d:l.length<=(m.erase x).length:=pN b.2 fun y c=>by
   have a:y≠x:=fun e=>b.1 (e ▸ c);exact (List.mem_erase_of_ne a).2 (hs y (by simp[c]))
  have f:=List.length_erase_of_mem (hs x (by simp));have i:0<m.length:=List.length_pos_of_mem (hs x (by simp));rw[B31];omega
theorem bP{l:List Int}{n:Nat}(h:l.Nodup)(b:∀x∈l,0<=x/\x<n):l.length<=n:=by
 have:=pN (m:=(List.range n).map fun i:Nat=>(i:Int)) h fun x c=>by
  have:=b x c;exact B62.2 ⟨x.toNat,B44.2 (by omega),by omega⟩
 simpa using this
theorem A74{l:List Int}{n:Nat}(h:l.Nodup)(d:∀x∈l,0<=x/\x<n)(f:n<=l.length)(c:Nat)(e:c<n):(c:Int)∈l:=by
 apply B55;intro b;have:=bP (l:=(c:Int)::l) (n:=n) (List.nodup_cons.2 ⟨b,h⟩) fun x a=>by
  rcases B34.1 a with rfl | a
  ·exact⟨by omega,by omega⟩
  ·exact d x a
 rw[B31]at this;omega
theorem sF{q r:Nat->Bool}(x:Nat)(d:∀y,r y=(q y&&decide (y≠x))):∀{L:List Nat},L.Nodup->L.countP q=L.countP r+(if x∈L/\q x=true then 1 else 0)
 | [],_=>by simp
 | y :: L,h=>by
  have c:=List.nodup_cons.1 h;have g:=sF x d c.2;rw[List.countP_cons,List.countP_cons,g,d y];by_cases e:y=x
  ·subst e;have:¬(y∈L/\q y=true):=fun e=>c.1 e.1;rw[A6 this];cases j:q y<;>simp
  ·have f:(x∈y::L/\q x=true)↔(x∈L/\q x=true):=by
    rw[B34];constructor
    ·rintro⟨a | a,b⟩
     ·exact absurd a.symm e
     ·exact⟨a,b⟩
    ·exact fun ⟨a,b⟩=>⟨.inr a,b⟩
   rw[show (if x∈y::L/\q x=true then 1 else 0)=(if x∈L/\q x=true then 1 else 0) by simp only[f]];simp only[e,ne_eq,not_false_eq_true,decide_true,Bool.and_true];omega
abbrev Graph:=List Commit
def D8(g:Graph)(c:Nat):List Int:=(g[c]?.map (·.Parents)).getD []
def oB(n:Int)(a:List Int):List Int->Bool
 | []=>true
 | p::r=>decide (0<=p/\p<n/\p∉a)&&oB n (a++[p]) r
def related(g:Graph):Bool:=g.all fun c=>oB g.length [] c.Parents
theorem PM{n:Int}:∀{ps a:List Int},oB n a ps=true->(∀p∈ps,0<=p/\p<n/\p∉a)/\ps.Nodup
 | [],_,_=>⟨(fun _ h=>by cases h),List.nodup_nil⟩
 | p::r,a,h=>by
  unfold oB at h;rw[B24,decide_eq_true_eq]at h;obtain⟨c,d⟩:=PM h.2;refine⟨fun q b=>?_,List.nodup_cons.2 ⟨fun e=>(c p e).2.2 (by simp),d⟩⟩;rcases B34.1 b with rfl | b
  ·exact h.1
  ·have:=c q b;exact⟨this.1,this.2.1,fun f=>this.2.2 (by simp[f])⟩
theorem bQ{g:Graph}{c:Nat}(b:c<g.length):D8 g c=g[c].Parents:=by unfold D8;rw[B23 b];rfl
theorem oC{g:Graph}{c:Nat}(a:¬c<g.length):D8 g c=[]:=by unfold D8;rw[B58 (by omega)];rfl
theorem K9{g:Graph}(h:related g=true)(c:Nat):(∀p∈D8 g c,0<=p/\p<g.length)/\(D8 g c).Nodup:=by
 by_cases a:c<g.length
 ·rw[bQ a];have:=PM (B27.1 h g[c] (B32 a));exact⟨fun p b=>⟨(this.1 p b).1,(this.1 p b).2.1⟩,this.2⟩
 ·rw[oC a];exact⟨(fun _ h=>by cases h),List.nodup_nil⟩
inductive Reaches (g:Graph):Nat->Nat->Prop
 | one {c p:Nat} (h:(p:Int)∈D8 g c):Reaches g c p
 | more {c d p:Nat} (h:Reaches g c d) (h2:(p:Int)∈D8 g d):Reaches g c p
theorem Reaches.trans{g:Graph}{a b c:Nat}(h:Reaches g a b)(d:Reaches g b c):Reaches g a c:=by
 induction d with
 | one d=>exact .more h d
 | more _ f i=>exact .more i f
theorem Reaches.lt{g:Graph}(f:related g=true){a b:Nat}(h:Reaches g a b):a<g.length/\b<g.length:=by
 have key:∀{c p:Nat},(p:Int)∈D8 g c->c<g.length/\p<g.length:=fun {c p} h=>by
  refine⟨?_,by have:=(K9 f c).1 p h;omega⟩;apply B55;intro e;rw[oC e]at h;cases h
 induction h with
 | one h=>exact key h
 | more _ d i=>exact⟨i.1,(key d).2⟩
def cR(ps:List Int)(l:List Bool):List Bool:=ps.foldl (fun l p=>l.set p.toNat true) l
def L1(l:List Bool)(c:Nat):Bool:=l[c]?.getD false
def cE(g:Graph)(l:List Bool)(c:Nat):List Bool:=if L1 l c=true then cR (D8 g c) l else l
def sG(g:Graph)(l:List Bool):List Bool:=(List.range g.length).foldl (cE g) l
def eC(g:Graph):Nat->List Bool->List Bool
 | 0,l=>l
 | k+1,l=>eC g k (sG g l)
def U3(g:Graph)(a:List Int):List Bool:=eC g g.length (cR a (List.replicate g.length false))
theorem A75{l:List Bool}{i c:Nat}:L1 (l.set i true) c=(L1 l c||decide (i=c/\c<l.length)):=by
 unfold L1;rw[List.getElem?_set];split
 ·rename_i e;subst e;split
  ·rename_i h;simp[h]
  ·rename_i h;simp[h,B58 (Nat.le_of_not_lt h)]
 ·rename_i h;simp[h]
theorem aA:∀(ps:List Int) (l:List Bool),(cR ps l).length=l.length
 | [],_=>rfl
 | p::r,l=>by show (cR r (l.set p.toNat true)).length=_;rw[aA r];simp
theorem aP:∀(ps:List Int) (l:List Bool) (c:Nat),L1 (cR ps l) c=(L1 l c||(decide (c<l.length)&&ps.any fun p=>decide (p.toNat=c)))
 | [],l,c=>by simp[cR]
 | p::r,l,c=>by
  show L1 (cR r (l.set p.toNat true)) c=_;rw[aP r,A75,B76,List.any_cons];by_cases a:p.toNat=c<;>by_cases b:c<l.length<;>simp[a,b]
theorem A09(g:Graph)(l:List Bool)(c:Nat):(cE g l c).length=l.length:=by unfold cE;split<;>simp[aA]
theorem HW(g:Graph):∀(a:List Nat) (l:List Bool),(a.foldl (cE g) l).length=l.length
 | [],_=>rfl
 | c::r,l=>by rw[B82,HW g r,A09]
theorem CS(g:Graph)(l:List Bool):(sG g l).length=l.length:=HW g _ l
theorem wH(g:Graph):∀(k:Nat) (l:List Bool),(eC g k l).length=l.length
 | 0,_=>rfl
 | k+1,l=>by rw[eC,wH g k,CS]
theorem PN(g:Graph)(s:List Int):(U3 g s).length=g.length:=by unfold U3;rw[wH,aA];simp
def LeB(a b:List Bool):Prop:=a.length=b.length/\∀c,L1 a c=true->L1 b c=true
theorem LeB.refl(a:List Bool):LeB a a:=⟨rfl,fun _ h=>h⟩
theorem LeB.trans{a b c:List Bool}(h:LeB a b)(d:LeB b c):LeB a c:=⟨h.1.trans d.1,fun x e=>d.2 x (h.2 x e)⟩
theorem pP:∀{a b:List Bool},LeB a b->a=b\/a.countP id<b.countP id
 | [],[],_=>.inl rfl
 | [],_::_,h=>by have:=h.1;simp at this
 | _::_,[],h=>by have:=h.1;simp at this
 | x::a,y::b,h=>by
  have e:LeB a b:=⟨by simpa using h.1,fun c f=>h.2 (c+1) f⟩
  have d:x=true->y=true:=fun g=>by simpa[L1] using h.2 0 (by simpa[L1] using g)
  rw[List.countP_cons,List.countP_cons];rcases pP e with rfl | h3
  ·cases x<;>cases y
   ·exact .inl rfl
   ·right;simp
   ·exact absurd (d rfl) (by decide)
   ·exact .inl rfl
  ·right;cases x<;>cases y
   ·simpa using h3
   ·simp;omega
   ·exact absurd (d rfl) (by decide)
   ·simpa using h3
theorem PO{a b:List Bool}(h:LeB a b)(d:LeB b a):a=b:=by
 rcases pP h with e | e
 ·exact e
 ·rcases pP d with c | c
  ·exact c.symm
  ·omega
theorem HX(ps:List Int)(l:List Bool):LeB l (cR ps l):=⟨(aA ps l).symm,fun c h=>by rw[aP,h];rfl⟩
theorem PP(g:Graph)(l:List Bool)(c:Nat):LeB l (cE g l c):=by unfold cE;split<;>first | exact HX _ _ | exact LeB.refl _
theorem uC(g:Graph):∀(b:List Nat) (l:List Bool),LeB l (b.foldl (cE g) l)
 | [],l=>LeB.refl l
 | c::r,l=>(PP g l c).trans (uC g r _)
theorem PQ(g:Graph):∀(k:Nat) (l:List Bool),LeB l (eC g k l)
 | 0,l=>LeB.refl l
 | k+1,l=>(uC g _ l).trans (PQ g k _)
def iB(g:Graph)(l:List Bool):Prop:=∀c,L1 l c=true->∀p∈D8 g c,L1 l p.toNat=true
theorem PR(g:Graph):∀(a:List Nat) (l:List Bool),a.foldl (cE g) l=l->∀c∈a,cE g l c=l
 | [],_,_,_,h=>by cases h
 | d::r,l,h,c,hc=>by
  rw[B82]at h;have b:cE g l d=l:=PO (by have:=uC g r (cE g l d);rw[h]at this;exact this) (PP g l d);rcases B34.1 hc with rfl | hc
  ·exact b
  ·rw[b]at h;exact PR g r l h c hc
theorem XF{l:List Bool}{c:Nat}(h:L1 l c=true):c<l.length:=by
 unfold L1 at h;apply B55;intro a;rw[B58 (by omega)]at h;cases h
theorem UY{g:Graph}{l:List Bool}(f:related g=true)(e:l.length=g.length)(h:sG g l=l):iB g l:=by
 intro c b p d;have a:=PR g _ l h c (B44.2 (by rw[<-e];exact XF b));unfold cE at a;rw[A5 b]at a;rw[<-a,aP];have:=(K9 f c).1 p d;rw[B63];right;rw[B24,decide_eq_true_eq,List.any_eq_true];exact⟨by omega,p,d,by simp⟩
theorem uD{g:Graph}{l:List Bool}(h:iB g l):sG g l=l:=by
 have key:∀(b:List Nat),b.foldl (cE g) l=l:=by
  intro b;induction b with
  | nil=>rfl
  | cons c r f =>
   rw[B82];have:cE g l c=l:=by
    unfold cE;split
    ·rename_i d;refine PO ⟨aA _ _,fun x a=>?_⟩ (HX _ _);rw[aP,B63,B24,List.any_eq_true]at a;rcases a with a | ⟨_,p,hp,e⟩
     ·exact a
     ·rw[<-A1 e];exact h c d p hp
    ·rfl
   rw[this];exact f
 exact key _
theorem xS{g:Graph}(b:related g=true):∀(k:Nat) {l:List Bool},l.length=g.length->iB g (eC g k l)\/l.countP id+k<=(eC g k l).countP id
 | 0,l,_=>.inr (by simp[eC])
 | k+1,l,hl=>by
  rw[eC];rcases pP (uC g (List.range g.length) l) with e | e
  ·left;have a:iB g l:=UY b hl e.symm;rw[show sG g l=l from e.symm];have:∀k,eC g k l=l:=fun k=>by
    induction k with
    | zero=>rfl
    | succ k d=>rw[eC,uD a];exact d
   rw[this];exact a
  ·rcases xS b k (l:=sG g l) (by rw[CS];exact hl) with h | h
   ·exact .inl h
   ·right;have e:l.countP id<(sG g l).countP id:=e;omega
theorem lM{g:Graph}(j:related g=true)(s:List Int)(m:∀f∈s,0<=f/\f<g.length):iB g (U3 g s):=by
 by_cases i:s=[]
 ·subst i;have:iB g (List.replicate g.length false):=fun c d=>by
   unfold L1 at d;rw[List.getElem?_replicate]at d;split at d<;>cases d
  have e:∀k,eC g k (List.replicate g.length false)=List.replicate g.length false:=fun k=>by
   induction k with
   | zero=>rfl
   | succ k q=>rw[eC,uD this];exact q
  unfold U3;show iB g (eC g g.length (List.replicate g.length false));rw[e];exact this
 ·rcases xS j g.length (l:=cR s (List.replicate g.length false)) (by rw[aA];simp) with h | h
  ·exact h
  ·obtain⟨f,r,rfl⟩:=List.exists_cons_of_ne_nil i;have v:(eC g g.length (cR (f::r) (List.replicate g.length false))).countP id<=g.length:=by
    have:=List.countP_le_length (p:=id) (l:=eC g g.length (cR (f::r) (List.replicate g.length false)));rw[wH,aA,B86]at this;exact this
   have w:0<(cR (f::r) (List.replicate g.length false)).countP id:=by
    rw[List.countP_pos_iff];have x:=m f (by simp);have a:L1 (cR (f::r) (List.replicate g.length false)) f.toNat=true:=by
     rw[aP,B63];right;rw[B24,decide_eq_true_eq,List.any_eq_true];exact⟨by rw[B86];omega,f,by simp,by simp⟩
    have b:=XF a;unfold L1 at a;rw[B23 b]at a;exact⟨_,B32 b,a⟩
   omega
theorem pQ{g:Graph}(y:related g=true){s:List Int}(u:∀f∈s,0<=f/\f<g.length)(x:Nat):L1 (U3 g s) x=true↔∃f:Nat,(f:Int)∈s/\(f=x\/Reaches g f x):=by
 constructor
 ·let Good:List Bool->Prop:=fun l=>∀x,L1 l x=true->∃f:Nat,(f:Int)∈s/\(f=x\/Reaches g f x)
  have z:∀l c,Good l->Good (cE g l c):=by
   intro l c h x a;unfold cE at a;split at a
   ·rename_i B;rw[aP,B63,B24,List.any_eq_true]at a;rcases a with a | ⟨_,p,hp,e⟩
    ·exact h x a
    ·have e:=A1 e;have C:=(K9 y c).1 p hp;have v:((x:Nat):Int)=p:=by omega
     obtain⟨f,q,b⟩:=h c B;refine⟨f,q,.inr ?_⟩;rcases b with rfl | b
     ·exact .one (by rw[v];exact hp)
     ·exact .more b (by rw[v];exact hp)
   ·exact h x a
  have b:∀(t:List Nat) l,Good l->Good (t.foldl (cE g) l):=by
   intro t;induction t with
   | nil=>exact fun l h=>h
   | cons c r j=>exact fun l h=>j _ (z l c h)
  have A:∀k l,Good l->Good (eC g k l):=by
   intro k;induction k with
   | zero=>exact fun l h=>h
   | succ k j=>exact fun l h=>j _ (b _ l h)
  refine A _ _ (fun x a=>?_) x;rw[aP,B63,B24,List.any_eq_true]at a;rcases a with a | ⟨_,p,hp,e⟩
  ·unfold L1 at a;rw[List.getElem?_replicate]at a;split at a<;>cases a
  ·have e:=A1 e;have:=u p hp;exact⟨x,by rw[show ((x:Nat):Int)=p by omega];exact hp,.inl rfl⟩
 ·rintro⟨f,q,h⟩;have d:=lM y s u;have w:L1 (U3 g s) f=true:=by
   refine (PQ g _ _).2 f ?_;rw[aP,B63];right;rw[B24,decide_eq_true_eq,List.any_eq_true];have:=u f q;exact⟨by rw[B86];omega,f,q,by simp⟩
  rcases h with rfl | h
  ·exact w
  ·induction h with
   | one h=>exact d _ w _ h
   | more _ b j=>exact d _ j _ b
def cyclic(g:Graph):Bool:=(List.range g.length).any fun c=>decide (D8 g c≠[])&&L1 (U3 g (D8 g c)) c
theorem lN{g:Graph}(k:related g=true):cyclic g=true↔∃c,Reaches g c c:=by
 unfold cyclic;rw[List.any_eq_true];constructor
 ·rintro⟨c,_,h⟩;rw[B24]at h;obtain⟨f,j,d⟩:=(pQ k (K9 k c).1 c).1 h.2;rcases d with rfl | d
  ·exact⟨f,.one j⟩
  ·exact⟨c,(Reaches.one j).trans d⟩
 ·rintro⟨c,h⟩;have q:=(h.lt k).1;refine⟨c,B44.2 q,?_⟩;have key:∀{a b:Nat},Reaches g a b->∃f:Nat,(f:Int)∈D8 g a/\(f=b\/Reaches g f b):=by
   intro a b h;induction h with
   | one h=>exact⟨_,h,.inl rfl⟩
   | more _ d u =>
    obtain⟨f,j,p⟩:=u;refine⟨f,j,.inr ?_⟩;rcases p with rfl | p
    ·exact .one d
    ·exact .more p d
  obtain⟨f,j,d⟩:=key h;rw[B24,decide_eq_true_eq];exact⟨(fun e=>by rw[e]at j;cases j),(pQ k (K9 k c).1 c).2 ⟨f,j,d⟩⟩
def uE(g:Graph)(ex:List Int)(p:Nat):Nat:=(List.range g.length).countP fun c:Nat=>decide ((c:Int)∉ex/\(p:Int)∈D8 g c)
theorem HY{g:Graph}{ex:List Int}{x p:Nat}(f:(x:Int)∉ex)(a:x<g.length):uE g ex p=uE g (ex++[(x:Int)]) p+(if (p:Int)∈D8 g x then 1 else 0):=by
 unfold uE;rw[sF (q:=fun c:Nat=>decide ((c:Int)∉ex/\(p:Int)∈D8 g c)) (r:=fun c:Nat=>decide ((c:Int)∉ex++[(x:Int)]/\(p:Int)∈D8 g c)) x (fun y=>?_) List.nodup_range]
 ·congr 1
  simp only[B44,a,true_and,decide_eq_true_eq,f,not_false_eq_true]
 ·simp only[B36,B33];by_cases b:(y:Int)∈ex<;>by_cases d:y=x<;>by_cases e:(p:Int)∈D8 g y<;>simp[b,d,e]<;>omega
theorem A76{g:Graph}{ex:List Int}{p:Nat}(h:0<uE g ex p):∃c,c<g.length/\(c:Int)∉ex/\(p:Int)∈D8 g c:=by
 unfold uE at h;rw[List.countP_pos_iff]at h;obtain⟨c,a,h⟩:=h;have:=A1 h;exact⟨c,B44.1 a,this.1,this.2⟩
theorem HZ{g:Graph}{ex:List Int}{p:Nat}(h:uE g ex p=0){c:Nat}(a:c<g.length)(d:(p:Int)∈D8 g c):(c:Int)∈ex:=by
 apply B55;intro b;have:0<uE g ex p:=by
  unfold uE;rw[List.countP_pos_iff];exact⟨c,B44.2 a,by simp[b,d]⟩
 omega
structure KInv (g:Graph) (k i:Nat) (ch:List Int) (out:List Int):Prop where
 len:ch.length=g.length
 nodup:out.Nodup
 rng:∀x∈out,0<=x/\x<g.length
 cnt:∀p,p<g.length->ch[p]?.getD 0+(if (p:Int)∈(D8 g (out.getD k 0).toNat).take i then 1 else 0)=uE g (out.take k) p
 zero:∀p,p<g.length->((p:Int)∈out↔ch[p]?.getD 0=0)
 kids:∀j (h:j<out.length) (c:Nat),out[j]∈D8 g c->(c:Int)∈out.take j
theorem minimal{R:Nat->Nat->Prop}(i:∀a b c,R a b->R b c->R a c)(g:∀a,¬R a a):∀{M:List Nat},M≠[]->∃m∈M,∀x∈M,¬R x m
 | [],h=>absurd rfl h
 | [a],_=>⟨a,by simp,fun x d=>by rw[B33.1 d];exact g a⟩
 | a::b::r,_=>by
  obtain⟨m,j,h⟩:=minimal i g (M:=b::r) (by simp);by_cases e:R a m
  ·refine⟨a,by simp,fun x d f=>?_⟩;rcases B34.1 d with rfl | d
   ·exact g _ f
   ·exact h x d (i _ _ _ f e)
  ·refine⟨m,B46 _ j,fun x d=>?_⟩;rcases B34.1 d with rfl | d
   ·exact e
   ·exact h x d
theorem KInv.done{g:Graph}(O:related g=true){P b:List Int}(h:KInv g b.length 0 P b):(decide (b.length<g.length))=cyclic g:=by
 cases z:cyclic g
 ·rw[decide_eq_false_iff_not];intro A;have N:∀c,¬Reaches g c c:=fun c d=>by rw[(lN O).2 ⟨c,d⟩]at z;cases z
  let M:=(List.range g.length).filter fun c:Nat=>decide ((c:Int)∉b);have V:M≠[]:=by
   intro e;have w:∀c,c<g.length->(c:Int)∈b:=fun c z=>by
    apply B55;intro T;have:c∈M:=List.mem_filter.2 ⟨B44.2 z,by simp[T]⟩;rw[e]at this;cases this
   have:=pN (l:=(List.range g.length).map fun i:Nat=>(i:Int)) (m:=b) ((List.nodup_range).map (fun i:Nat=>(i:Int)) (fun _ _ L e=>L (Int.ofNat.inj e))) fun x X=>by
    obtain⟨i,k,rfl⟩:=B62.1 X;exact w i (B44.1 k)
   rw[B75,B93]at this;omega
  obtain⟨m,W,B⟩:=minimal (R:=Reaches g) (fun _ _ _ F C=>F.trans C) N V;obtain⟨q,u⟩:=List.mem_filter.1 W;have q:=B44.1 q;have u:=A1 u;have F:=h.cnt m q;have C:¬P[m]?.getD 0=0:=fun e=>u ((h.zero m q).2 e);rw[B38,B68,A6 (by simp),Int.add_zero]at F;obtain⟨c,G,H,I⟩:=A76 (g:=g) (ex:=b) (p:=m) (by omega);exact B c (List.mem_filter.2 ⟨B44.2 G,by simp[H]⟩) (.one I)
 ·rw[decide_eq_true_eq];obtain⟨c,d⟩:=(lN O).1 z;apply B55;intro T;have K:=A74 h.nodup h.rng (by omega) c (d.lt O).1;have key:∀{x y:Nat},Reaches g x y->∀j (s:j<b.length),b[j]=(y:Int)->∃i,∃k:i<b.length,i<j/\b[i]=(x:Int):=by
   have one:∀{x y:Nat},(y:Int)∈D8 g x->∀j (s:j<b.length),b[j]=(y:Int)->∃i,∃k:i<b.length,i<j/\b[i]=(x:Int):=by
    intro x y v j s e;have:=h.kids j s x (by rw[e];exact v);obtain⟨i,k,Q⟩:=List.getElem_of_mem this;rw[B42]at k;rw[List.getElem_take]at Q;exact⟨i,by omega,by omega,Q⟩
   intro x y v;induction v with
   | one h=>exact one h
   | more _ C Z =>
    intro j s e;obtain⟨i,k,A,E⟩:=one C j s e;obtain⟨Y,J,S,U⟩:=Z i k E;exact⟨Y,J,by omega,U⟩
  obtain⟨j,s,e⟩:=List.getElem_of_mem K;obtain⟨i,k,A,E⟩:=key d j s e;have:=(List.getElem_inj (i:=i) (j:=j) (h₀:=k) (h₁:=s) h.nodup).1 (E.trans e.symm);omega
def I6(l:List Int)(p:Nat):Int:=l[p]?.getD 0
def bump(l:List Int)(p:Int):List Int:=l.set p.toNat (I6 l p.toNat+1)
def Z8(l:List Int)(p:Int):List Int:=l.set p.toNat (I6 l p.toNat-1)
def c7(ps:List Int)(l:List Int):List Int:=ps.foldl bump l
def O5(g:Graph)(i:Nat):List Int:=(g.take i).foldl (fun l c=>c7 c.Parents l) (List.replicate g.length 0)
theorem iC{l:List Int}{i p:Nat}{v:Int}(h:i<l.length):I6 (l.set i v) p=if i=p then v else I6 l p:=by
 unfold I6;rw[List.getElem?_set];split
 ·rename_i e;subst e;simp[h]
 ·rfl
theorem oD:∀(ps:List Int) (l:List Int),(c7 ps l).length=l.length
 | [],_=>rfl
 | p::r,l=>by show (c7 r (bump l p)).length=_;rw[oD r];simp[bump]
theorem sH{n:Int}:∀{ps:List Int} {l:List Int},(∀p∈ps,0<=p/\p<l.length)->ps.Nodup->∀p:Nat,I6 (c7 ps l) p=I6 l p+(if (p:Int)∈ps then 1 else 0)
 | [],l,_,_,p=>by simp[c7]
 | q::r,l,h,b,p=>by
  show I6 (c7 r (bump l q)) p=_;have f:=h q (by simp);have b:=List.nodup_cons.1 b;rw[sH (n:=n) (fun x d=>by have:=h x (by simp[d]);simpa[bump] using this) b.2 p];unfold bump;rw[iC (by omega)];by_cases e:q.toNat=p
  ·have a:(p:Int)=q:=by omega
   have c:¬(p:Int)∈r:=by rw[a];exact b.1
   rw[A5 e,A6 c,a,A5 (by simp),e];omega
  ·have a:((p:Int)∈q::r)↔(p:Int)∈r:=by
    rw[B34];exact⟨fun h=>h.resolve_left (by omega),.inr⟩
   rw[A6 e];simp only[a]
theorem eY(g:Graph):∀i,(O5 g i).length=g.length:=by
 intro i;unfold O5;have key:∀(a:List Commit) (l:List Int),(a.foldl (fun l c=>c7 c.Parents l) l).length=l.length:=by
  intro a;induction a with
  | nil=>intro l;rfl
  | cons c r b=>intro l;rw[B82,b,oD]
 rw[key];simp
theorem rG{g:Graph}{i:Nat}(a:i<g.length):O5 g (i+1)=c7 (D8 g i) (O5 g i):=by
 unfold O5;rw[B48,B23 a,B54,C02,bQ a];rfl
theorem oE{g:Graph}(b:related g=true)(p:Nat)(a:p<g.length):∀i,i<=g.length->I6 (O5 g i) p=((List.range i).countP fun c:Nat=>decide ((p:Int)∈D8 g c):Nat)
 | 0,_=>by
  unfold O5 I6;simp[List.getElem?_replicate,a]
 | i+1,hi=>by
  have hpr:=K9 b i;rw[rG (by omega),sH (n:=0) (fun q d=>by rw[eY];exact hpr.1 q d) hpr.2,oE b p a i (by omega),C07,List.countP_append];by_cases h:(p:Int)∈D8 g i<;>simp[h]
theorem xU{g:Graph}(b:related g=true)(p:Nat)(a:p<g.length):I6 (O5 g g.length) p=uE g [] p:=by
 rw[oE b p a _ (B29 _)];unfold uE;simp
def W5(b:List Int)(i:Nat):List Int:=((List.range i).filter fun c=>decide (I6 b c=0)).map fun c:Nat=>(c:Int)
theorem LC(a:List Int)(i:Nat):W5 a (i+1)=if I6 a i=0 then W5 a i++[(i:Int)] else W5 a i:=by
 unfold W5;rw[C07,C04,B65];by_cases h:I6 a i=0<;>simp[h]
theorem xV(a:List Int)(i p:Nat):(p:Int)∈W5 a i↔p<i/\I6 a p=0:=by
 unfold W5;rw[B62];constructor
 ·rintro⟨c,b,e⟩;have e:c=p:=Int.ofNat.inj e;subst e;rw[List.mem_filter,B44,decide_eq_true_eq]at b;exact b
 ·rintro⟨d,f⟩;exact⟨p,by rw[List.mem_filter,B44,decide_eq_true_eq];exact⟨d,f⟩,rfl⟩
theorem oF{b:List Int}{i:Nat}:∀x∈W5 b i,0<=x/\x<i:=by
 intro x a;unfold W5 at a;obtain⟨c,d,rfl⟩:=B62.1 a;have:=B44.1 (List.mem_filter.1 d).1;omega
theorem rH(c:List Int)(i:Nat):(W5 c i).Nodup:=by
 unfold W5;exact (List.nodup_range.filter _).map (fun i:Nat=>(i:Int)) fun _ _ b e=>b (Int.ofNat.inj e)
theorem PS(a:List Int)(i:Nat):(W5 a i).length<=i:=bP (rH a i) oF
theorem KInv.start{g:Graph}(l:related g=true):KInv g 0 0 (O5 g g.length) (W5 (O5 g g.length) g.length) where
 len:=eY g _
 nodup:=rH _ _
 rng:=oF
 cnt:=fun p e=>by
  have:=xU l p e;unfold I6 at this;rw[this,B68,B68];simp
 zero:=fun p e=>by
  have:=xV (O5 g g.length) g.length p;rw[this];exact⟨fun h=>h.2,fun h=>⟨e,h⟩⟩
 kids:=fun j k c b=>by
  have f:=oF _ (B32 k);have i:=(xV (O5 g g.length) g.length ((W5 (O5 g g.length) g.length)[j]).toNat).1 (by rw[Int.toNat_of_nonneg f.1];exact B32 k);rw[xU l _ i.1]at i;have d:c<g.length:=by
   apply B55;intro m;rw[oC m]at b;cases b
  have:=HZ (g:=g) (ex:=[]) (p:=((W5 (O5 g g.length) g.length)[j]).toNat) (by omega) d (by rw[Int.toNat_of_nonneg f.1];exact b);cases this
theorem KInv.le{g:Graph}{k i:Nat}{b a:List Int}(h:KInv g k i b a):a.length<=g.length:=bP h.nodup h.rng
theorem eD{α:Type}{l m:List α}{k:Nat}(h:k<=l.length):(l++m).take k=l.take k:=by rw[List.take_append_of_le_length h]
theorem PT{α:Type}{l m:List α}{k:Nat}{d:α}(h:k<l.length):(l++m).getD k d=l.getD k d:=by
 rw[B30,B30,B59 h]
theorem S9{α:Type}{l:List α}{i:Nat}{x:α}(h:i<l.length):x∈l.take (i+1)↔x∈l.take i\/x=l[i]:=by
 rw[B48,B23 h,B54,B36,B33]
theorem c8{α:Type}{l:List α}(c:l.Nodup){i:Nat}(h:i<l.length):l[i]∉l.take i:=by
 intro b;obtain⟨j,a,e⟩:=List.getElem_of_mem b;rw[B42]at a;rw[List.getElem_take]at e;have:=(List.getElem_inj (i:=j) (j:=i) (h₀:=by omega) (h₁:=h) c).1 e;omega
theorem KInv.step{g:Graph}(Y:related g=true){k i:Nat}{f b:List Int}(h:KInv g k i f b)(E:k<b.length){c p:Nat}(K:b[k]=(c:Int))(G:i<(D8 g c).length)(H:(D8 g c)[i]=(p:Int)) :
  p<g.length/\1<=I6 f p/\I6 f p<=g.length/\KInv g k (i+1) (Z8 f p) (if I6 f p-1=0 then b++[(p:Int)] else b):=by
 have hpr:=K9 Y c;have hpm:(p:Int)∈D8 g c:=by rw[<-H];exact B32 G
 have m:p<g.length:=by have:=hpr.1 p hpm;omega
 have A:c<g.length:=by have:=h.rng b[k] (B32 E);omega
 have v:b.getD k 0=(c:Int):=by rw[B30,B23 E];exact K
 have P:(c:Int)∉b.take k:=by rw[<-K];exact c8 h.nodup E
 have O:(p:Int)∉(D8 g c).take i:=by rw[<-H];exact c8 hpr.2 G
 have S:=h.cnt p m;rw[v,B26,A6 O]at S;have T:=HY (g:=g) (ex:=b.take k) (x:=c) (p:=p) P A;rw[A5 hpm]at T;have W:uE g (b.take k) p<=g.length:=by
  unfold uE;have:=List.countP_le_length (p:=fun c:Nat=>decide ((c:Int)∉b.take k/\(p:Int)∈D8 g c)) (l:=List.range g.length)
  rwa[B93]at this
 have V:I6 f p=f[p]?.getD 0:=rfl;have L:1<=I6 f p:=by omega
 have o:(p:Int)∉b:=fun s=>by have:=(h.zero p m).1 s;omega
 have F:∀q,I6 (Z8 f p) q=if p=q then I6 f p-1 else I6 f q:=fun q=>by
  unfold Z8;rw[B26,iC (by rw[h.len];exact m)]
 refine⟨m,L,by omega,?_⟩;have w:(if I6 f p-1=0 then b++[(p:Int)] else b).take k=b.take k:=by split<;>first | exact eD (by omega) | rfl
 have B:(if I6 f p-1=0 then b++[(p:Int)] else b).getD k 0=b.getD k 0:=by split<;>first | exact PT E | rfl
 refine⟨by unfold Z8;rw[B76];exact h.len,?_,?_,?_,?_,?_⟩
 ·split
  ·exact List.nodup_append.2 ⟨h.nodup,by simp,fun x d y Z e=>by rw[B33.1 Z]at e;exact o (e ▸ d)⟩
  ·exact h.nodup
 ·intro x d;split at d
  ·rcases B36.1 d with d | d
   ·exact h.rng x d
   ·rw[B33.1 d];omega
  ·exact h.rng x d
 ·intro q Q;rw[w,B,v,B26];have I:=F q;have J:I6 (Z8 f p) q=(Z8 f p)[q]?.getD 0:=rfl;rw[<-J,I];by_cases e:p=q
  ·subst e;rw[A5 rfl,A5 ((S9 G).2 (.inr H.symm))];omega
  ·rw[A6 e];have z:=h.cnt q Q;rw[v,B26]at z;have U:((q:Int)∈(D8 g c).take (i+1))↔(q:Int)∈(D8 g c).take i:=by
    rw[S9 G,H];exact⟨fun h=>h.resolve_right (by omega),.inl⟩
   simp only[U];exact z
 ·intro q Q;have I:=F q;have J:I6 (Z8 f p) q=(Z8 f p)[q]?.getD 0:=rfl;rw[<-J,I];by_cases e:p=q
  ·subst e;rw[A5 rfl];split
   ·rename_i u;simp[u]
   ·rename_i u;exact⟨fun s=>absurd s o,fun e=>absurd e u⟩
  ·rw[A6 e];have z:=h.zero q Q;split
   ·rw[B36,B33];exact⟨fun s=>z.1 (s.resolve_right (by omega)),fun e=>.inl (z.2 e)⟩
   ·exact z
 ·intro j M x d;split at M
  ·rename_i u;simp only[u,if_true]at d ⊢;by_cases C:j<b.length
   ·rw[B95 C]at d;rw[eD (by omega)];exact h.kids j C x d
   ·have N:j=b.length:=by rw[B25,B41]at M;omega
    subst N;rw[B96 (B29 _)]at d;simp only[B98,List.getElem_cons_zero]at d;have R:x<g.length:=by
     apply B55;intro X;rw[oC X]at d;cases d
    have hz:uE g (b.take k++[(c:Int)]) p=0:=by omega
    have:=HZ hz R d;rw[eD (B29 _),B38];rcases B36.1 this with s | s
    ·exact B90 s
    ·rw[B33.1 s,<-K];exact B32 E
  ·rename_i u;simp only[u,if_false]at d ⊢;exact h.kids j M x d
theorem KInv.next{g:Graph}{k:Nat}{m a:List Int}(d:k<a.length){c:Nat}(f:a[k]=(c:Int))(h:KInv g k (D8 g c).length m a):KInv g (k+1) 0 m a where
 len:=h.len
 nodup:=h.nodup
 rng:=h.rng
 cnt:=fun p r=>by
  have o:=h.cnt p r;have i:a.getD k 0=(c:Int):=by rw[B30,B23 d];exact f
  have b:c<g.length:=by have:=h.rng a[k] (B32 d);omega
  rw[i,B26,B38]at o;have q:=HY (g:=g) (ex:=a.take k) (x:=c) (p:=p) (by rw[<-f];exact c8 h.nodup d) b;have e:a.take (k+1)=a.take k++[(c:Int)]:=by rw[B48,B23 d,B54,f]
  rw[e,B68,A6 (by simp)];split at o
  ·rename_i j;rw[A5 j]at q;omega
  ·rename_i j;rw[A6 j]at q;omega
 zero:=h.zero
 kids:=h.kids
def n7:List Commit->Int
 | []=>0
 | c::r=>if F3 c.Files≠0 then F3 c.Files else n7 r
def bR(g:Graph):Bool:=decide (g.length<=300)&&!g.any fun c=>decide (c.Parents.length>32)
def uF(g:Graph):Bool:=g.any fun c=>decide (c.Date<0\/c.Date>2147483647)
def O6(g:Graph):Int:=if bR g=false then 1 else if related g=false then 230 else if cyclic g=true then 231 else if uF g=true then 3 else n7 g
theorem rI:∀{g:List Commit},n7 g=0->∀c∈g,F3 c.Files=0
 | [],_,_,hc=>by cases hc
 | d::r,h,c,hc=>by
  unfold n7 at h;split at h
  ·rename_i a;exact absurd h a
  ·rename_i a;rcases B34.1 hc with rfl | hc
   ·simpa using a
   ·exact rI h c hc
structure Valid (g:Graph):Prop where
 len:g.length<=300
 pars:∀c∈g,c.Parents.length<=32
 rel:related g=true
 acyc:∀c,¬Reaches g c c
 tree:∀c∈g,F3 c.Files=0
theorem fV{g:Graph}(h:O6 g=0):Valid g:=by
 unfold O6 at h;split at h
 ·cases h
 ·rename_i a;split at h
  ·cases h
  ·rename_i d;split at h
   ·cases h
   ·rename_i e;split at h
    ·cases h
    ·have a:bR g=true:=by simpa using a
     unfold bR at a;rw[B24,decide_eq_true_eq]at a;have d:related g=true:=by simpa using d
     refine⟨a.1,fun c b=>?_,d,fun c b=>e ((lN d).2 ⟨c,b⟩),fun c b=>rI h c b⟩;apply B55;intro f;have:g.any (fun c=>decide (c.Parents.length>32))=true:=List.any_eq_true.2 ⟨c,b,by simp;omega⟩;rw[this]at a;cases a.2
def j9(i j:Int):List Span->Int->Int->List Change
 | [],m,n=>if m>i\/n>j then [⟨i,m-i,j,n-j⟩] else []
 | x::r,m,n=>(if x.From>i\/x.To>j then [⟨i,x.From-i,j,x.To-j⟩] else [])++j9 (x.From+1) (x.To+1) r m n
def oG(p:List Span)(m n:Int):List Change:=j9 0 0 p m n
theorem rJ(p:List Span)(i j m n:Int):(j9 i j p m n).length<=p.length+1:=by
 induction p generalizing i j with
 | nil=>unfold j9;split<;>simp
 | cons x r a=>unfold j9;have:=a (x.From+1) (x.To+1);split<;>simp<;>omega
def O2(i j:Int)(n:Nat):List Span:=(List.range n).map fun (t:Nat)=>⟨i+(t:Int),j+(t:Int)⟩
theorem n8(i j:Int)(n:Nat):(O2 i j n).length=n:=by simp[O2]
theorem LD(i j:Int)(n:Nat):O2 i j (n+1)=⟨i,j⟩::O2 (i+1) (j+1) n:=by
 unfold O2;rw[List.range_succ_eq_map,B50,B94]
 congr 1
 ·simp
 ·refine B80 fun t _=>?_;simp only[Function.comp,Span.mk.injEq];omega
def Y7(i j:Int):List Change->Int->List Span
 | [],m=>O2 i j (m-i).toNat
 | c::r,m=>O2 i j (c.Old-i).toNat++Y7 (max i c.Old+c.OldLen) (j+(c.Old-i).toNat+c.NewLen) r m
def j5(l:List Change)(m:Int):List Span:=Y7 0 0 l m
def dist:List Int->List Int->Nat
 | [],b=>b.length
 | x::a,[]=>(x::a).length
 | x::a,y::b=>if x=y then dist a b else 1+min (dist a (y::b)) (dist (x::a) b)
theorem uG(a:List Int):dist a []=a.length:=by cases a<;>simp[dist]
theorem LF(a b:List Int):dist a b<=a.length+b.length:=by
 induction a generalizing b with
 | nil=>simp[dist]
 | cons x a c =>
  induction b with
  | nil=>simp[dist]
  | cons y b d =>
   unfold dist;split
   ·have:=c b;simp;omega
   ·have:=c (y::b);have:=d;simp only[B31]at *;omega
def K1(i j:Int):List Int->List Int->List Span
 | [],_=>[]
 | _::_,[]=>[]
 | x::a,y::b=>if x=y then ⟨i,j⟩::K1 (i+1) (j+1) a b else if dist a (y::b)+1=dist (x::a) (y::b) then K1 (i+1) j a (y::b) else K1 i (j+1) (x::a) b
def jD(a b:List Int):List Change:=oG (K1 0 0 a b) a.length b.length
theorem A10(a b:List Int)(i j:Nat)(c:i<a.length)(d:j<b.length) :
  dist (a.drop i) (b.drop j)=if a[i]=b[j] then dist (a.drop (i+1)) (b.drop (j+1)) else 1+min (dist (a.drop (i+1)) (b.drop j)) (dist (a.drop i) (b.drop (j+1))):=by
 rw[B40 c,B40 d]
 conv=>lhs;rw[dist]
theorem xW(a b:List Int)(i j:Nat)(c:i<a.length)(d:j<b.length)(p q:Int) :
  K1 p q (a.drop i) (b.drop j)=if a[i]=b[j] then ⟨p,q⟩::K1 (p+1) (q+1) (a.drop (i+1)) (b.drop (j+1)) else
   if dist (a.drop (i+1)) (b.drop j)+1=dist (a.drop i) (b.drop j) then K1 (p+1) q (a.drop (i+1)) (b.drop j) else K1 p (q+1) (a.drop i) (b.drop (j+1)):=by
 rw[B40 c,B40 d]
 conv=>lhs;rw[K1]
theorem i7(p q:Int)(b:List Int):K1 p q [] b=[]:=by simp[K1]
theorem cS(p q:Int)(a:List Int):K1 p q a []=[]:=by cases a<;>simp[K1]
theorem jE(p q:Int)(a b:List Int):(K1 p q a b).length<=a.length:=by
 induction a generalizing p q b with
 | nil=>simp[K1]
 | cons x a c =>
  induction b generalizing p q with
  | nil=>simp[K1]
  | cons y b d =>
   unfold K1;split
   ·have:=c (p+1) (q+1) b;simp;omega
   ·split
    ·have:=c (p+1) q (y::b);simp;omega
    ·exact d p (q+1)
universe u
theorem IA{α:Type u}(n k:Nat)(f g:Nat->α)(v:α)(i:k<n->g k=v)(h:∀q,q<n->q≠k->g q=f q):((List.range n).map f).set k v=(List.range n).map g:=by
 refine List.ext_getElem (by simp) fun q j d=>?_;have c:q<n:=by simpa using d
 rw[List.getElem_set];by_cases b:k=q
 ·subst b;simp[i c]
 ·rw[A6 b];simp[h q c (Ne.symm b)]
theorem A11{α:Type u}(n k:Nat)(f:Nat->α)(h:k<n):((List.range n).map f)[k]?=some (f k):=by simp[h]
theorem wI(l:List Change)(i j m:Int)(q:0<=i)(B:Nat)(s:m<=B)(b:∀c∈l,c.Old<=B/\0<=c.OldLen):((Y7 i j l m).length:Int)<=max 0 (B-i):=by
 induction l generalizing i j with
 | nil=>simp only[Y7,n8];omega
 | cons c r k =>
  have p:=b c (B52 ..);have:=k (max i c.Old+c.OldLen) (j+(c.Old-i).toNat+c.NewLen) (by omega) (fun d f=>b d (B46 _ f));simp only[Y7,B25,n8];omega
theorem eZ(i j:Int):O2 i j 0=[]:=rfl
theorem uH(i j:Int)(n:Nat):O2 i j (n+1)=O2 i j n++[⟨i+n,j+n⟩]:=by simp[O2,C07]
def Asc(m n:Int):Int->Int->List Span->Prop
 | i,j,[]=>i<=m/\j<=n
 | i,j,x::r=>i<=x.From/\j<=x.To/\Asc m n (x.From+1) (x.To+1) r
theorem Asc.le{m n:Int}:∀{p:List Span} {i j:Int},Asc m n i j p->i<=m/\j<=n
 | [],i,j,h=>h
 | x::r,i,j,h=>by have:=Asc.le h.2.2;have:=h.1;have:=h.2.1;omega
theorem Asc.weaken{m n:Int}{p:List Span}{i j i' j':Int}(h:Asc m n i j p)(a:i'<=i)(b:j'<=j):Asc m n i' j' p:=by
 cases p with
 | nil=>exact⟨by have:=h.1;omega,by have:=h.2;omega⟩
 | cons x r=>exact⟨by have:=h.1;omega,by have:=h.2.1;omega,h.2.2⟩
theorem sJ(a b:List Int):∀(p q:Int),Asc (p+a.length) (q+b.length) p q (K1 p q a b):=by
 induction a generalizing b with
 | nil=>intro p q;rw[i7];simp only[Asc,List.length_nil];omega
 | cons x a c =>
  induction b with
  | nil=>intro p q;rw[cS];simp only[Asc,List.length_nil];omega
  | cons y b d =>
   intro p q;rw[K1];split
   ·have:=c b (p+1) (q+1);refine⟨Int.le_refl _,Int.le_refl _,?_⟩;simp only[B31]
    rwa[show p+((a.length+1:Nat):Int)=p+1+a.length by omega,show q+((b.length+1:Nat):Int)=q+1+b.length by omega]
   ·split
    ·have:=(c (y::b) (p+1) q).weaken (i':=p) (j':=q) (by omega) (Int.le_refl _)
     rwa[show p+((x::a).length:Int)=p+1+a.length by simp;omega]
    ·have:=(d p (q+1)).weaken (i':=p) (j':=q) (Int.le_refl _) (by omega)
     rwa[show q+((y::b).length:Int)=q+1+b.length by simp;omega]
theorem Asc.made{m n:Int}:∀{p:List Span} {i j:Int},Asc m n i j p->∀c∈j9 i j p m n,i<=c.Old/\j<=c.New/\0<=c.OldLen/\0<=c.NewLen/\c.Old+c.OldLen<=m/\c.New+c.NewLen<=n
 | [],i,j,h,c,a=>by
  unfold j9 at a;split at a
  ·simp only[B33]at a;subst a;have:=h.1;have:=h.2;simp only;omega
  ·cases a
 | x::r,i,j,h,c,a=>by
  unfold j9 at a;obtain⟨d,e,b⟩:=h;have f:=b.le;rcases B36.1 a with a | a
  ·split at a
   ·simp only[B33]at a;subst a;simp only;omega
   ·cases a
  ·have:=Asc.made b c a;omega
theorem LG(a b:List Int):∀c∈jD a b,0<=c.Old/\0<=c.New/\0<=c.OldLen/\0<=c.NewLen/\c.Old+c.OldLen<=a.length/\c.New+c.NewLen<=b.length:=by
 have:=sJ a b 0 0;rw[Int.zero_add,Int.zero_add]at this;exact this.made
def bitAt(m:Int)(c:Nat):Bool:=m / 2 ^ c % 2 == 1
def visB(r:Row)(c:Int):Bool:=if c = -1 then !r.Lost else if c < -1\/32<=c then false else bitAt r.Marks c.toNat == r.Lost
def colOf(b:List Row)(c:Int):List Str:=(b.filter (visB · c)).map (·.Text)
def markOk(n:Nat)(r:Row):Bool:=r.Marks / 2 ^ n == 0&&!(r.Lost&&r.Marks == 0)
theorem u64_id{n:Int}(h:0<=n/\n<18446744073709551616):IntKind.u64.wrap n=n:=by simp[IntKind.wrap,IntKind.signed,IntKind.bits];omega
theorem shr_eq(m c:Int)(b:Nat)(a:0<=c/\c<=b):m.fdiv (2 ^ (min c.toNat b))=m / 2 ^ c.toNat:=by
 rw[show min c.toNat b=c.toNat by omega,Int.fdiv_eq_ediv_of_nonneg _ (Int.pow_nonneg (by decide))]
abbrev Loom:=List Int×(Nat->List (List Int))
structure LoomOk (Q:Int->Prop) (B lines n:Nat) (s:Loom):Prop where
 len:s.1.length=lines
 marks:∀m∈s.1,0<=m/\m<4294967296
 gaps:∀k,(s.2 k).length=n/\∀x∈s.2 k,x.length<=B/\∀v∈x,Q v
theorem CT(l:List Str)(s:Str):∀k:Int,0<=k->s∈l->k<=L9 l s k/\L9 l s k<k+l.length:=by
 induction l with
 | nil=>intro k _ h;cases h
 | cons x r b =>
  intro k c h;unfold L9;by_cases a:x=s
  ·rw[A5 a];simp;omega
  ·rw[A6 a];have:=b (k+1) (by omega) (by rcases B34.1 h with rfl | h;exact absurd rfl a;exact h);simp only[B31];omega
theorem yX(l:List Str):∀(a:List Str) (s:Str),s∈a\/s∈l->s∈l.foldl M8 a:=by
 induction l with
 | nil=>intro a s h;rcases h with h | h;exact h;cases h
 | cons x r b =>
  intro a s h;apply b;rcases h with h | h
  ·left;unfold M8;split;exact h;exact List.mem_append_left _ h
  ·rcases B34.1 h with rfl | h
   ·left;unfold M8;split;assumption;simp
   ·exact .inr h
theorem aQ(a:List (List Str))(s:Str)(f:List Str)(b:f∈a)(c:s∈f):s∈D6 a:=yX _ _ _ (.inr (List.mem_flatten.2 ⟨f,b,c⟩))
theorem uI(s:Str):Lib.hasSuffix s [10]=ended s:=by
 unfold Lib.hasSuffix ended;rw[Bool.eq_iff_iff,List.isSuffixOf_iff_suffix,beq_iff_eq];constructor
 ·rintro⟨t,rfl⟩;simp
 ·intro h;obtain⟨a,b⟩:=List.getLast?_eq_some_iff.1 h;exact⟨a,b.symm⟩
def s8(s:Str):Str:=if ended s then s.dropLast else s
theorem FJ(s:Str):Lib.trimSuffix s [10]=s8 s:=by
 unfold Lib.trimSuffix s8;rw[uI,List.dropLast_eq_take];rfl
theorem i8(c:UInt8):∀l:Str,(c∉l/\Lib.indexByte l c = -1)\/∃a b,l=a++c::b/\c∉a/\Lib.indexByte l c=a.length
 | []=>.inl ⟨by simp,rfl⟩
 | x::l=>by
  unfold Lib.indexByte;by_cases d:x=c
  ·exact .inr ⟨[],l,by rw[d];rfl,by simp,by simp[d]⟩
  ·rcases i8 c l with ⟨e,f⟩ | ⟨a,b,e,f,h3⟩
   ·exact .inl ⟨by simp[e,Ne.symm d],by simp[d,f]⟩
   ·refine .inr ⟨x::a,b,by rw[e];rfl,by simp[f,Ne.symm d],?_⟩;have g:¬((a.length:Int) = -1):=by omega
    simp[d,h3,g]
theorem v6(c:UInt8)(l:Str):0<=Lib.indexByte l c↔c∈l:=by
 rcases i8 c l with ⟨d,e⟩ | ⟨a,b,d,e,h3⟩
 ·rw[e];simp[d]
 ·rw[h3,d];simp
theorem LH(a b:Str)(c:UInt8)(h:b≠[]):c∈(a++c::b).dropLast:=by
 rw[List.dropLast_append_of_ne_nil (by simp),List.dropLast_cons_of_ne_nil h];simp
theorem yY(l:Str):(0<=Lib.indexByte l 10/\Lib.indexByte l 10<(l.length:Int)-1)↔10∈l.dropLast:=by
 rcases i8 10 l with ⟨c,d⟩ | ⟨a,b,c,d,h3⟩
 ·rw[d];have:10∉l.dropLast:=fun h=>c (List.dropLast_subset l h);simp[this]
 ·rw[h3];by_cases hb:b=[]
  ·subst hb;have e:l.dropLast=a:=by rw[c];simp
   rw[e,c];simp[d]
  ·have f:=LH a b 10 hb;rw[<-c]at f;have g:0<b.length:=List.length_pos_iff.2 hb;simp only[f,iff_true];rw[c];simp only[B25,B31];omega
theorem lO(s:Str):N1 s=true↔s≠[]/\10∉s.dropLast:=by
 unfold N1;rw[B24,B27];constructor
 ·rintro⟨a,b⟩;exact⟨by simpa using b,fun h=>by have:=a 10 h;simp at this⟩
 ·rintro⟨a,b⟩;exact⟨fun x c=>by simpa using fun e:x=10=>b (e ▸ c),by simpa using a⟩
theorem A77(s:Str):10∈s8 s↔10∈s.dropLast:=by
 unfold s8;split
 ·exact Iff.rfl
 ·rename_i h;by_cases c:s=[]
  ·subst c;simp
  ·constructor
   ·intro a;have e:=(List.dropLast_concat_getLast c).symm;rw[e]at a;rcases B36.1 a with b | b
    ·exact b
    ·exfalso;refine h ?_;unfold ended;rw[List.getLast?_eq_some_getLast c];simp at b;simp[<-b]
   ·exact fun a=>List.dropLast_subset s a
theorem A12(s:Str):(if decide (s≠[])=true then !decide (0<=Lib.indexByte (s8 s) 10) else false)=N1 s:=by
 rw[Bool.eq_iff_iff,lO];have h:=A77 s;have b:=v6 10 (s8 s);by_cases a:s=[]
 ·simp[a]
 ·simp[a,b,h]
theorem A13(s:Str)(h:N1 s=true):ended s=true↔0<=Lib.indexByte s 10:=by
 obtain⟨b,c⟩:=(lO s).1 h;rw[v6];have e:=(List.dropLast_concat_getLast b).symm;unfold ended;rw[List.getLast?_eq_some_getLast b];constructor
 ·intro a;have:s.getLast b=10:=by simpa using a
  rw[<-this];exact List.getLast_mem b
 ·intro a;rw[e]at a;rcases B36.1 a with a | a
  ·exact absurd a c
  ·simp at a;simp[<-a]
def LI(l:Str)(last:Bool):Prop:=l=[]\/(0<=Lib.indexByte l 10/\Lib.indexByte l 10<(l.length:Int)-1)\/(Lib.indexByte l 10<0/\last=false)
theorem PU(l:Str)(r:List Str):LI l r.isEmpty↔(N1 l&&(r.isEmpty||ended l))=false:=by
 unfold LI;rw[yY];by_cases a:N1 l=true
 ·obtain⟨b,c⟩:=(lO l).1 a;have e:=A13 l a;cases g:r.isEmpty
  ·cases d:ended l
   ·have:¬0<=Lib.indexByte l 10:=fun h=>by rw[e.2 h]at d;cases d
    simp[a,b,c];omega
   ·have:=e.1 d;simp[a,b,c];omega
  ·simp[a,b,c]
 ·have:l=[]\/10∈l.dropLast:=by
   by_cases b:l=[]
   ·exact .inl b
   ·exact .inr (B55 fun c=>a ((lO l).2 ⟨b,c⟩))
  have f:N1 l=false:=by simpa using a
  rw[f];constructor
  ·intro _;rfl
  ·intro _;rcases this with h | h
   ·exact .inl h
   ·exact .inr (.inl h)
theorem PW(s:Str)(r:List Str):cP (s::r)=(N1 s&&(r.isEmpty||ended s)&&cP r):=rfl
theorem PY(l:List Str):Lib.join l []=l.flatten:=by
 induction l with
 | nil=>rfl
 | cons s r a =>
  cases r with
  | nil=>simp[Lib.join]
  | cons t r =>
   have e:List.intersperse ([]:Str) (s::t::r)=s::[]::List.intersperse [] (t::r):=rfl;simp only[Lib.join,List.intercalate,e,B69,B74]at a ⊢;rw[a]
def and32(a b:Int):Int:=IntKind.u32.wrap ((BitVec.ofInt IntKind.u32.bits a &&& BitVec.ofInt IntKind.u32.bits b).toNat:Int)
def not32(a:Int):Int:=IntKind.u32.wrap ((BitVec.ofInt IntKind.u32.bits IntKind.u32.max ^^^ BitVec.ofInt IntKind.u32.bits a).toNat:Int)
def inOf(r:Row):Int:=if r.Lost then r.Marks else not32 r.Marks
def addOk(b:Bool)(a:Int)(r:Row):Bool:=decide (and32 a (inOf r)=0)&&(r.Lost||!b)
structure EndsAt (res:Bool) (par:Int) (bad:Int->Bool):Prop where
 res:res=bad (-1)
 par:∃p:Nat,p<4294967296/\par=p/\∀c:Nat,c<32->p.testBit c=bad c
def wJ(c:UInt8):Bool:=decide (33<=c.toNat/\c.toNat<=126/\c.toNat≠34/\c.toNat≠92)
def digs8:Str:=[48,49,50,51,52,53,54,55]
def PZ(c:UInt8):Str:=(digs8.drop (c.toNat / 64)).take 1++(digs8.drop (c.toNat / 8 % 8)).take 1++(digs8.drop (c.toNat % 8)).take 1
def kC(c:UInt8):Str:=if c.toNat=34\/c.toNat=92 then [92,c] else if c.toNat=10 then [92,110] else if c.toNat=9 then [92,116] else if c.toNat<32\/126<c.toNat then 92::PZ c else [c]
def dI(s:Str):Str:=if s≠[]/\s.all wJ=true then s else 34::((s.map kC).flatten++[34])
theorem A14(c:UInt8):(PZ c).length<=3:=by unfold PZ;simp only[B25,B42];omega
theorem IB(c:UInt8):(kC c).length<=4:=by
 have:=A14 c;unfold kC;split
 ·simp
 ·split
  ·simp
  ·split
   ·simp
   ·split
    ·simp only[B31];omega
    ·simp
theorem uJ(s:Str):((s.map kC).flatten).length<=4*s.length:=by
 induction s with
 | nil=>simp
 | cons c r b=>have:=IB c;simp only[B50,B69,B25,B31];omega
theorem iD(s:Str):(dI s).length<=4*s.length+2:=by
 unfold dI;have:=uJ s;split
 ·omega
 ·simp only[B31,B25,List.length_nil];omega
def uK(n:Int):Str:=if n<0\/2147483647<n then [] else Lib.itoa n
def dJ(a n:Int):Str:=if a<0\/n<0\/2147483647<a\/2147483647-a<n then [] else if n=0 then uK a++[44,48] else if n=1 then uK (a+1) else uK (a+1)++[44]++uK n
theorem rK:∀(k u:Nat),u<10 ^ (k+1)->(Lib.decDigits u).length<=k+1
 | 0,u,h=>by rw[Lib.decDigits,dif_pos (by omega)];simp
 | k+1,u,h=>by
  rw[Lib.decDigits];split
  ·simp
  ·have:=rK k (u / 10) (by rw[Nat.div_lt_iff_lt_mul (by omega)];rw[Nat.pow_succ]at h;omega);simp only[B25,B31,List.length_nil];omega
theorem fG(n:Int):(uK n).length<=10:=by
 unfold uK;split
 ·simp
 ·unfold Lib.itoa;rw[A6 (by omega)];exact rK 9 n.toNat (by omega)
theorem iE(a n:Int):(dJ a n).length<=21:=by
 have:=fG a;have:=fG (a+1);have:=fG n;unfold dJ;split
 ·simp
 ·split
  ·simp only[B25,B31,List.length_nil];omega
  ·split
   ·omega
   ·simp only[B25,B31,List.length_nil];omega
theorem dig8(k:Nat)(h:k<8):(digs8.drop k).take 1=[UInt8.ofNat (48+k)]:=by
 have:∀k:Fin 8,(digs8.drop k.1).take 1=[UInt8.ofNat (48+k.1)]:=by decide
 exact this ⟨k,h⟩
theorem QA(c:UInt8):PZ c=[UInt8.ofNat (48+c.toNat / 64),UInt8.ofNat (48+c.toNat / 8 % 8),UInt8.ofNat (48+c.toNat % 8)]:=by
 have:=c.toNat_lt;unfold PZ;rw[dig8 _ (by omega),dig8 _ (by omega),dig8 _ (by omega)];rfl
def escs(s:Str)(i:Nat):Str:=((s.take i).map kC).flatten
theorem A15(s:Str)(i:Nat)(h:i<s.length):escs s (i+1)=escs s i++kC s[i]:=by
 unfold escs;rw[B57 h,B65,B64];simp only[B50,C08,B69,C01,B71]
theorem A78(s:Str)(i:Nat)(h:i<=s.length):(escs s i).length<=4*i:=by
 have:=uJ (s.take i);unfold escs;rw[B42]at this;omega
def plains(s:Str)(i:Nat):Bool:=decide (s≠[])&&(s.take i).all wJ
theorem QB(s:Str):plains s 0=decide (s≠[]):=by simp[plains]
theorem QC(s:Str)(i:Nat)(h:i<s.length):plains s (i+1)=(plains s i&&wJ s[i]):=by
 unfold plains;rw[B57 h,C06];simp only[List.all_cons,List.all_nil,Bool.and_true,Bool.and_assoc]
theorem CU(s:Str):dI s=if plains s s.length=true then s else (34::escs s s.length)++[34]:=by
 unfold dI plains escs;rw[B38];simp only[B24,decide_eq_true_eq,B66]
def O7(a:Str):Str->List Str
 | []=>[a]
 | c::r=>if c=10 then (a++[c])::O7 [] r else O7 (a++[c]) r
def S2(b:Str):List Str:=O7 [] b
theorem FK(a b:Str)(h:(10:UInt8)∉a):O7 b a=[b++a]:=by
 induction a generalizing b with
 | nil=>simp[O7]
 | cons c r d =>
  simp only[B34,not_or]at h;rw[O7,A6 (fun e=>h.1 e.symm),d _ h.2];simp
theorem LJ(a b d:Str)(h:(10:UInt8)∉a):O7 d (a++10::b)=(d++a++[10])::O7 [] b:=by
 induction a generalizing d with
 | nil=>simp[O7]
 | cons c r f =>
  simp only[B34,not_or]at h;rw[B66,O7,A6 (fun e=>h.1 e.symm),f _ h.2];simp
theorem n9(s a:Str):(O7 a s).length=s.count 10+1:=by
 induction s generalizing a with
 | nil=>rfl
 | cons c r d =>
  by_cases b:c=10
  ·subst b;rw[O7,A5 rfl,B31,d,List.count_cons_self]
  ·rw[O7,A6 b,d,List.count_cons_of_ne b]
theorem QD(s b:Str):G4 b s=if (O7 b s).getLastD []=[] then (O7 b s).dropLast else O7 b s:=by
 induction s generalizing b with
 | nil=>by_cases h:b=[]<;>simp[G4,O7,h]
 | cons c r j =>
  rw[G4,O7];by_cases f:c=10
  ·rw[A5 f,A5 f,j];have l:O7 [] r≠[]:=fun e=>by have:=n9 r [];rw[e]at this;simp at this
   obtain⟨x,y,i⟩:=List.exists_cons_of_ne_nil l;rw[i];have k:((b++[c])::x::y).getLastD []=(x::y).getLastD []:=by cases y<;>simp[List.getLastD]
   rw[k];split
   ·rfl
   ·rfl
  ·rw[A6 f,A6 f,j]
theorem CV(s a:Str):(G4 a s).length=s.count 10+if s=[] then (if a=[] then 0 else 1) else if ended s=true then 0 else 1:=by
 induction s generalizing a with
 | nil=>by_cases h:a=[]<;>simp[G4,h]
 | cons c r i =>
  have j:ended (c::r)=if r=[] then c == 10 else ended r:=by
   cases r with
   | nil=>simp[ended]
   | cons d t=>simp[ended,List.getLast?_cons_cons]
  rw[G4,A6 (List.cons_ne_nil _ _),j];by_cases b:c=10
  ·subst b;rw[A5 rfl,B31,i,List.count_cons_self];by_cases f:r=[]<;>simp[f];omega
  ·rw[A6 b,i,List.count_cons_of_ne b];by_cases f:r=[]<;>simp[f,b]
theorem jF(s:Str):(D5 s).length=s.count 10+if s≠[]/\ended s=false then 1 else 0:=by
 unfold D5;rw[CV];by_cases a:s=[]<;>simp[a];cases ended s<;>simp
theorem UZ{P:List Str}{i:Nat}{r a b:Str}(h:P.drop i=S2 r)(c:r=a++10::b)(ha:(10:UInt8)∉a):P[i]?=some (a++[10])/\P.drop (i+1)=S2 b:=by
 have e:S2 r=(a++[10])::S2 b:=by rw[c];unfold S2;rw[LJ _ _ _ ha];rfl
 rw[e]at h;refine⟨by rw[<-List.head?_drop,h];rfl,?_⟩;rw[<-List.tail_drop,h];rfl
theorem IC{α:Type}(P:List α)(z x:α)(i:Nat)(h:P[i]?=some x):(P.take i++List.replicate (P.length-i) z).set i x=P.take (i+1)++List.replicate (P.length-(i+1)) z:=by
 obtain⟨a,c⟩:=B28.1 h;have b:(P.take i).length=i:=by rw[B42];omega
 rw[List.set_append_right _ _ (by omega),b,B98,show P.length-i=(P.length-(i+1))+1 by omega,List.replicate_succ,List.set_cons_zero,B57 a,c,B51];rfl
def P6(b:Str):List Str×Int:=if b.length>1048576\/(D5 b).length>4096 then ([],1) else (D5 b,0)
theorem QE(b:Str):(P6 b).1.length<=4096:=by
 unfold P6;split
 ·simp
 ·dsimp only;omega
def I4(n:Int):Prop:=0<=n/\n<=4096
instance (n:Int):Decidable (I4 n):=by unfold I4;exact inferInstance
def CW(k:Nat)(i j:Int)(c:Change):Prop:=((((((¬I4 c.Old\/¬I4 c.OldLen)\/¬I4 c.New)\/¬I4 c.NewLen)\/c.OldLen+c.NewLen=0)\/c.Old-i≠c.New-j)\/c.Old<i)\/(0<(k:Int)/\c.Old=i)
instance (k:Nat) (i j:Int) (c:Change):Decidable (CW k i j c):=by unfold CW;exact inferInstance
def J7(k:Nat)(i j:Int):List Change->Int->Int->Bool
 | [],m,n=>decide (¬(m-i≠n-j\/m<i))
 | c::r,m,n=>decide (¬CW k i j c)&&J7 (k+1) (c.Old+c.OldLen) (c.New+c.NewLen) r m n
def s9(l:List Change)(m n:Int):Int:=if ¬I4 m\/¬I4 n then 80 else if J7 0 0 0 l m n=true then 0 else 80
def ScOk(i j:Int):List Change->Int->Int->Prop
 | [],m,n=>i<=m/\j<=n
 | c::r,m,n=>I4 c.Old/\I4 c.OldLen/\I4 c.New/\I4 c.NewLen/\i<=c.Old/\j<=c.New/\ScOk (c.Old+c.OldLen) (c.New+c.NewLen) r m n
theorem aR:∀(l:List Change) (k:Nat) (i j m n:Int),J7 k i j l m n=true->ScOk i j l m n
 | [],k,i,j,m,n,h=>by simp only[J7,decide_eq_true_eq]at h;simp only[ScOk];omega
 | c::r,k,i,j,m,n,h=>by
  simp only[J7,B24,decide_eq_true_eq]at h;obtain⟨a,d⟩:=h;unfold CW at a;refine⟨?_,?_,?_,?_,?_,?_,aR r _ _ _ m n d⟩
  all_goals (by_cases b:I4 c.Old<;>by_cases a2:I4 c.OldLen<;>by_cases a3:I4 c.New<;>by_cases a4:I4 c.NewLen<;>simp[b,a2,a3,a4]at a ⊢<;>omega)
theorem ID{l:List Change}{m n:Int}(h:s9 l m n=0):I4 m/\I4 n/\ScOk 0 0 l m n:=by
 unfold s9 at h;split at h
 ·omega
 ·rename_i b;split at h
  ·rename_i c;by_cases a:I4 m<;>by_cases a2:I4 n<;>simp[a,a2]at b;exact⟨a,a2,aR _ _ _ _ _ _ c⟩
  ·omega
def G7(l:List Change)(k:Nat):Change:=l.getD k ⟨0,0,0,0⟩
theorem fA{l:List Change}{k:Nat}(h:k<l.length):l[k]?=some (G7 l k):=by
 unfold G7;rw[B30,B23 h];rfl
theorem ScOk.end_le:∀{l:List Change} {i j m n:Int},ScOk i j l m n->i<=m/\j<=n
 | [],_,_,_,_,h=>h
 | c::r,i,j,m,n,⟨h1,h2,h3,h4,h5,h6,h7⟩=>by have:=h7.end_le;unfold I4 at *;omega
theorem ScOk.get:∀{l:List Change} {i j m n:Int} (k:Nat),ScOk i j l m n->k<l.length->I4 (G7 l k).Old/\I4 (G7 l k).OldLen/\I4 (G7 l k).New/\I4 (G7 l k).NewLen/\(G7 l k).Old+(G7 l k).OldLen<=m/\(G7 l k).New+(G7 l k).NewLen<=n
 | c::r,i,j,m,n,0,⟨h1,h2,h3,h4,h5,h6,h7⟩,_=>by have:=h7.end_le;exact⟨h1,h2,h3,h4,this.1,this.2⟩
 | c::r,i,j,m,n,k+1,⟨h1,h2,h3,h4,h5,h6,h7⟩,hk=>by
  have:=h7.get k (by simpa using hk);simpa[G7] using this
theorem ScOk.next:∀{l:List Change} {i j m n:Int} (k:Nat),ScOk i j l m n->k+1<l.length->(G7 l k).Old+(G7 l k).OldLen<=(G7 l (k+1)).Old
 | [c],_,_,_,_,_,_,hk=>by simp at hk
 | c::c2::r,i,j,m,n,0,⟨_,_,_,_,_,_,h7⟩,_=>by simpa[G7] using h7.2.2.2.2.1
 | c::c2::r,i,j,m,n,k+1,⟨_,_,_,_,_,_,h7⟩,hk=>by
  have:=h7.next k (by simpa using hk);simpa[G7] using this
theorem ScOk.mono{l:List Change}{m n:Int}(h:ScOk 0 0 l m n):∀(a b:Nat),a<=b->b<l.length->(G7 l a).Old<=(G7 l b).Old/\(G7 l a).Old+(G7 l a).OldLen<=(G7 l b).Old+(G7 l b).OldLen
 | a,0,h1,h2=>by rw[show a=0 by omega];omega
 | a,b+1,h1,h2=>by
  by_cases c:a=b+1
  ·subst c;omega
  ·have f:=h.mono a b (by omega) (by omega);have g:=h.next b h2;have i:=h.get b (by omega);have j:=h.get (b+1) h2;unfold I4 at *;omega
def aV(a b:Int):Int:=if b<a then b else a
def opens(l:List Change)(a:Int)(k:Nat):Prop:=k=0\/2*a<(G7 l k).Old-(G7 l (k-1)).Old-(G7 l (k-1)).OldLen
instance (l:List Change) (ctx:Int) (k:Nat):Decidable (opens l ctx k):=by unfold opens;exact inferInstance
def CX:Hunk:=⟨0,0,⟨0,0⟩,⟨0,0⟩⟩
def W6(l:List Change)(a:Int)(k:Nat):Hunk:=⟨k,0,⟨(G7 l k).Old-aV a (G7 l k).Old,0⟩,⟨(G7 l k).New-aV a (G7 l k).Old,0⟩⟩
def iF(l:List Change)(m b:Int)(k:Nat)(h:Hunk):Hunk :=
 let c:=G7 l k;let a:=aV b (m-(c.Old+c.OldLen))
 ⟨h.First,k+1,⟨h.Old.From,c.Old+c.OldLen+a⟩,⟨h.New.From,c.New+c.NewLen+a⟩⟩
def p6(l:List Change)(a:Int)(k:Nat)(b:List Hunk):List Hunk:=if opens l a k then b++[W6 l a k] else b
def H9(l:List Change)(m ctx:Int):Nat->List Hunk
 | 0=>[]
 | k+1=>let a:=p6 l ctx k (H9 l m ctx k);a.set (a.length-1) (iF l m ctx k (a.getD (a.length-1) CX))
def lP(l:List Change)(m n a:Int):List Hunk×Int:=if a<0\/1048576<a then ([],3) else if s9 l m n≠0 then ([],s9 l m n) else (H9 l m a l.length,0)
theorem eE(l:List Change)(m ctx:Int):∀k,(H9 l m ctx k).length<=k/\(0<k->0<(H9 l m ctx k).length)
 | 0=>by simp[H9]
 | k+1=>by
  have h:=eE l m ctx k;simp only[H9,B76,p6];split
  ·simp only[B25,B31,List.length_nil];omega
  ·rename_i a;have:k≠0:=fun e=>a (.inl e);omega
def VA(l:List Change)(m:Int)(k:Nat)(h:Hunk):Prop :=
 ∃a b:Nat,h.First=a/\h.Last=(b:Int)+1/\a<=b/\b<k/\0<=h.Old.From/\h.Old.From<=(G7 l a).Old/\(G7 l b).Old+(G7 l b).OldLen<=h.Old.To/\h.Old.To<=m /\ -4096<=h.New.From/\h.New.From<=4096
theorem CY{l:List Change}{m n ctx:Int}(H:ScOk 0 0 l m n)(Q:0<=ctx):∀k,k<=l.length->∀h∈H9 l m ctx k,VA l m k h
 | 0,_,h,hm=>by simp[H9]at hm
 | k + 1,hk,h,hm=>by
  have I:=CY H Q k (by omega);have F:=H.get k (by omega);have G:=eE l m ctx k;simp only[H9]at hm;obtain⟨c,f⟩:∃c,c=p6 l ctx k (H9 l m ctx k):=⟨_,rfl⟩
  rw[<-f]at hm;have j:∀x,0<=x->0<=aV ctx x/\aV ctx x<=x:=fun x hx=>by unfold aV;split<;>omega
  have h1:=j (G7 l k).Old F.1.1;have h2:=j (m-((G7 l k).Old+(G7 l k).OldLen)) (by omega);obtain⟨⟨g1,T⟩,⟨U,V⟩,⟨W,X⟩,⟨Y,Z⟩,g9,P⟩:=F;have s:∀o:Hunk,(∃a:Nat,o.First=a/\a<=k/\0<=o.Old.From/\o.Old.From<=(G7 l a).Old /\ -4096<=o.New.From/\o.New.From<=4096)->VA l m (k+1) (iF l m ctx k o):=by
   rintro o ⟨a,J,q,r,v,y,B⟩;refine⟨a,k,J,rfl,q,by omega,r,v,?_,?_,y,B⟩
   ·show _<=(G7 l k).Old+(G7 l k).OldLen+aV ctx (m-((G7 l k).Old+(G7 l k).OldLen));omega
   ·show (G7 l k).Old+(G7 l k).OldLen+aV ctx (m-((G7 l k).Old+(G7 l k).OldLen))<=m;omega
  obtain⟨p,E,rfl⟩:=List.getElem_of_mem hm;rw[B76]at E;rw[List.getElem_set];split
  ·rename_i R;refine s _ ?_;by_cases u:opens l ctx k
   ·have e:c=H9 l m ctx k++[W6 l ctx k]:=by rw[f,p6,A5 u]
    have q:c.getD (c.length-1) CX=W6 l ctx k:=by rw[e];simp
    rw[q];refine⟨k,rfl,B29 _,?_,?_,?_,?_⟩
    ·show 0<=(G7 l k).Old-aV ctx (G7 l k).Old;omega
    ·show (G7 l k).Old-aV ctx (G7 l k).Old<=_;omega
    ·show -4096<=(G7 l k).New-aV ctx (G7 l k).Old;omega
    ·show (G7 l k).New-aV ctx (G7 l k).Old<=_;omega
   ·have e:c=H9 l m ctx k:=by rw[f,p6,A6 u]
    have i:c.length-1<(H9 l m ctx k).length:=by rw[e]at E ⊢;omega
    have q:c.getD (c.length-1) CX∈H9 l m ctx k:=by
     rw[e]at i ⊢;rw[B30,B23 i];exact B32 i
    obtain⟨a,b,r,v,y,B,C,M,S,K,z,A⟩:=I _ q;exact⟨a,r,by omega,C,M,z,A⟩
  ·rename_i R;have D:c[p]∈H9 l m ctx k:=by
    by_cases u:opens l ctx k
    ·have e:c=H9 l m ctx k++[W6 l ctx k]:=by rw[f,p6,A5 u]
     have i:p<(H9 l m ctx k).length:=by
      have:c.length=(H9 l m ctx k).length+1:=by rw[e];simp
      omega
     have:c[p]=(H9 l m ctx k)[p]:=by simp only[e];rw[B95 i]
     rw[this];exact B32 i
    ·have e:c=H9 l m ctx k:=by rw[f,p6,A6 u]
     have:c[p]∈c:=B32 E;rw[<-e];exact this
   obtain⟨a,b,r,v,y,B,C⟩:=I _ D;exact⟨a,b,r,v,y,by omega,C⟩
def c9(s:Str):Bool:=decide (1<=s.length/\s.length<=200)
def C0(b:List PatchLine)(k:UInt8):List Str:=(b.filter (fun x=>decide (x.Kind≠k))).map (·.Text)
def QF(x:PatchLine):Prop:=((x.Kind≠32/\x.Kind≠45)/\x.Kind≠43)\/N1 x.Text=false
instance (x:PatchLine):Decidable (QF x):=by unfold QF;exact inferInstance
def aB(x:PatchLine):Bool:=decide (¬QF x)
def l4(a:List PatchLine):Bool:=a.any (fun x=>decide (x.Kind≠32))
def j1(some:Bool)(i j:Int)(h:PatchHunk):Prop:=((((some=false\/h.Old<i)\/h.New<j)\/4096<h.Old)\/4096<h.New)\/h.Old-i≠h.New-j
instance (s:Bool) (i j:Int) (h:PatchHunk):Decidable (j1 s i j h):=by unfold j1;exact inferInstance
def M6(h:PatchHunk):Int:=(C0 h.Lines 43).length
def P8(h:PatchHunk):Int:=(C0 h.Lines 45).length
def cT(i j:Int):List PatchHunk->Bool
 | []=>true
 | h::r=>h.Lines.all aB&&(decide (¬j1 (l4 h.Lines) i j h)&&(decide (¬(4096<h.Old+M6 h\/4096<h.New+P8 h))&&cT (h.Old+M6 h) (h.New+P8 h) r))
def J8(b:List PatchHunk)(k:UInt8):List Str:=(b.map (fun h=>C0 h.Lines k)).flatten
def T9:List Str->Bool
 | []=>true
 | x::r=>(r.isEmpty||ended x)&&T9 r
def VB(a:List PatchHunk)(k:UInt8):Bool:=T9 (J8 a k)
def bS(hs:List PatchHunk):Bool:=cT 0 0 hs&&(VB hs 43&&VB hs 45)
def markS:Str:=[10,92,32,78,111,32,110,101,119,108,105,110,101,32,97,116,32,101,110,100,32,111,102,32,102,105,108,101,10]
def cU(x:PatchLine):List Str:=if ended x.Text then [[x.Kind]++x.Text] else [[x.Kind]++x.Text,markS]
def v7(h:PatchHunk):Str:=[64,64,32,45]++dJ h.Old (M6 h)++[32,43]++dJ h.New (P8 h)++[32,64,64,10]
def eK(h:PatchHunk):List Str:=v7 h::(h.Lines.map cU).flatten
def oH(p:Patch):List Str:=[[45,45,45,32]++dI p.OldName++[10],[43,43,43,32]++dI p.NewName++[10]]
def uL(p:Patch):List Str:=oH p++(p.Hunks.map eK).flatten
def p7(p:Patch):Str:=(uL p).flatten
def Q6(p:Patch):Int:=if c9 p.OldName=false\/c9 p.NewName=false then 120 else if bS p.Hunks=false then 121 else if 16777216<(p7 p).length then 1 else 0
def FL(x:PatchLine):Nat:=x.Text.length+64
def szH(h:PatchHunk):Nat:=64+(h.Lines.map FL).sum
def mT(hs:List PatchHunk):Nat:=(hs.map szH).sum
structure PFit (p:Patch):Prop where
 old:p.OldName.length<=4194304
 new:p.NewName.length<=4194304
 hunks:mT p.Hunks<=268435456
theorem QG(b:List PatchLine)(i:Nat):((b.take i).map FL).sum<=(b.map FL).sum:=by
 conv=>rhs;rw[<-B87 i b,B65,List.sum_append]
 omega
theorem lQ(a:List PatchLine):64*a.length<=(a.map FL).sum:=by
 induction a with
 | nil=>simp
 | cons x r b=>simp only[B50,C03,B31,FL];omega
theorem zK{a:List PatchLine}{x:PatchLine}(h:x∈a):x.Text.length+64<=(a.map FL).sum:=by
 induction a with
 | nil=>simp at h
 | cons y r b =>
  simp only[B50,C03];rcases B34.1 h with rfl | h
  ·unfold FL;omega
  ·have:=b h;omega
theorem zL{hs:List PatchHunk}{h:PatchHunk}(a:h∈hs):szH h<=mT hs:=by
 unfold mT;induction hs with
 | nil=>simp at a
 | cons y r b =>
  simp only[B50,C03];rcases B34.1 a with rfl | a
  ·omega
  ·have:=b a;omega
theorem zM(hs:List PatchHunk):64*hs.length<=mT hs:=by
 unfold mT;induction hs with
 | nil=>simp
 | cons x r a=>simp only[B50,C03,B31,szH];omega
theorem CZ(hs:List PatchHunk)(i:Nat):mT (hs.take i)<=mT hs:=by
 unfold mT
 conv=>rhs;rw[<-B87 i hs,B65,List.sum_append]
 omega
theorem O8(a:List PatchLine)(k:UInt8):(C0 a k).length<=a.length:=by unfold C0;rw[B75];exact List.length_filter_le _ _
theorem dK(a:List PatchLine)(k:UInt8)(i:Nat)(h:i<a.length):C0 (a.take (i+1)) k=if a[i].Kind≠k then C0 (a.take i) k++[a[i].Text] else C0 (a.take i) k:=by
 unfold C0;rw[B57 h,C04,B65];by_cases b:a[i].Kind=k
 ·rw[A6 (by simp[b])];simp[b]
 ·rw[A5 b];simp[b]
theorem QH(x:PatchLine):(cU x).flatten.length<=FL x:=by
 unfold cU FL markS;split<;>simp<;>omega
theorem lR(b:List PatchLine):(b.map cU).flatten.flatten.length<=(b.map FL).sum:=by
 induction b with
 | nil=>simp
 | cons x r c=>have:=QH x;simp only[B50,B69,B64,B25,C03];omega
theorem wK(h:PatchHunk):(v7 h).length<=52:=by
 have a:=iE h.Old (M6 h);have b:=iE h.New (P8 h);unfold v7;simp only[B25,B31,List.length_nil];omega
theorem QI(h:PatchHunk):(eK h).flatten.length<=szH h:=by
 have b:=wK h;have c:=lR h.Lines;unfold eK szH;simp only[B69,B25];omega
theorem lS(b:List PatchHunk):(b.map eK).flatten.flatten.length<=mT b:=by
 unfold mT;induction b with
 | nil=>simp
 | cons x r c=>have:=QI x;simp only[B50,B69,B64,B25,C03];omega
theorem oI(p:Patch):(oH p).flatten.length<=4*p.OldName.length+4*p.NewName.length+14:=by
 have b:=iD p.OldName;have c:=iD p.NewName;unfold oH;simp only[B69,C01,B25,B31,List.length_nil];omega
theorem QJ(b:List PatchHunk)(k:Nat)(h:k<b.length):((b.take (k+1)).map eK).flatten=((b.take k).map eK).flatten++eK b[k]:=by
 rw[B57 h,B65,B64];simp only[B50,C08,B69,C01,B71]
theorem QK(b:List PatchLine)(k:Nat)(h:k<b.length):((b.take (k+1)).map cU).flatten=((b.take k).map cU).flatten++cU b[k]:=by
 rw[B57 h,B65,B64];simp only[B50,C08,B69,C01,B71]
theorem uM:∀(a:List PatchHunk) (i j:Int),cT i j a=true->0<=i->0<=j->∀h∈a,(0<=h.Old/\h.Old<=4096)/\(0<=h.New/\h.New<=4096)
 | [],_,_,_,_,_,h,hm=>by simp at hm
 | x::r,i,j,hg,hi,hj,h,hm=>by
  simp only[cT,B24,decide_eq_true_eq]at hg;obtain⟨_,b,e,c⟩:=hg;unfold j1 at b;have d:(0<=x.Old/\x.Old<=4096)/\(0<=x.New/\x.New<=4096):=by omega
  rcases B34.1 hm with rfl | hm
  ·exact d
  ·exact uM r _ _ c (by unfold M6;omega) (by unfold P8;omega) h hm
theorem uN{hs:List PatchHunk}(h:bS hs=true):∀x∈hs,(0<=x.Old/\x.Old<=4096)/\(0<=x.New/\x.New<=4096):=by
 unfold bS at h;rw[B24]at h;exact uM hs 0 0 h.1 (by omega) (by omega)
def W7(k:UInt8)(a:List Str):List PatchLine:=a.map fun t=>⟨k,t⟩
theorem VC(k:UInt8)(a:List Str)(i:Nat)(h:i<a.length):W7 k (a.take (i+1))=W7 k (a.take i)++[⟨k,a[i]⟩]:=by
 unfold W7;rw[B57 h,B65];rfl
theorem pR(k:UInt8)(a:List Str):(W7 k a).length=a.length:=by simp[W7]
def sub(x:List Str)(a b:Int):List Str:=(x.drop a.toNat).take (b.toNat-a.toNat)
theorem iG(x:List Str)(a b:Int):(sub x a b).length<=x.length:=by unfold sub;rw[B42,B47];omega
def aW(c:Change):Int:=c.Old+c.OldLen
def r8(l:List Change)(i0:Int)(a t:Nat):Int:=if t=0 then i0 else aW (G7 l (a+t-1))
theorem DA(l:List Change)(i0:Int)(a t:Nat):r8 l i0 a (t+1)=aW (G7 l (a+t)):=by
 unfold r8;rw[A6 (by omega)];congr 2
def X4(l:List Change)(x y:List Str)(i0:Int)(a:Nat):Nat->List PatchLine
 | 0=>[]
 | t+1=>X4 l x y i0 a t++W7 32 (sub x (r8 l i0 a t) (G7 l (a+t)).Old)++W7 45 (sub x (G7 l (a+t)).Old (aW (G7 l (a+t))))++W7 43 (sub y (G7 l (a+t)).New ((G7 l (a+t)).New+(G7 l (a+t)).NewLen))
def M1(l:List Change)(x y:List Str)(h:Hunk):PatchHunk :=
 ⟨h.Old.From,h.New.From,X4 l x y h.Old.From h.First.toNat (h.Last.toNat-h.First.toNat)++W7 32 (sub x (r8 l h.Old.From h.First.toNat (h.Last.toNat-h.First.toNat)) h.Old.To)⟩
theorem VD(l:List Change)(x y:List Str)(i0:Int)(a t:Nat):(X4 l x y i0 a t).length<=t*(2*x.length+y.length):=by
 induction t with
 | zero=>simp[X4]
 | succ t i =>
  have b:=iG x (r8 l i0 a t) (G7 l (a+t)).Old;have c:=iG x (G7 l (a+t)).Old (aW (G7 l (a+t)));have f:=iG y (G7 l (a+t)).New ((G7 l (a+t)).New+(G7 l (a+t)).NewLen);simp only[X4,B25,pR];rw[Nat.succ_mul];omega
def wL:Patch:=⟨[],[],[]⟩
def Y8(x y:List Str):List Change:=jD (F4 (D6 [x,y]) x) (F4 (D6 [x,y]) y)
theorem uO(x y:List Str):(Y8 x y).length<=x.length+1:=by
 unfold Y8 jD oG;have a:=rJ (K1 0 0 (F4 (D6 [x,y]) x) (F4 (D6 [x,y]) y)) 0 0 ((F4 (D6 [x,y]) x).length) ((F4 (D6 [x,y]) y).length);have b:=jE 0 0 (F4 (D6 [x,y]) x) (F4 (D6 [x,y]) y);have c:(F4 (D6 [x,y]) x).length=x.length:=by simp[F4]
 omega
def fW(h:PatchHunk)(b:List Str):Bool:=if (b.length:Int)<h.Old+M6 h then false else decide ((b.drop h.Old.toNat).take (C0 h.Lines 43).length=C0 h.Lines 43)
def FM:List PatchHunk->List Str->Nat
 | [],_=>0
 | h::r,x=>if fW h x=true then FM r x+1 else 0
def sK(p:Patch)(a:Str):Int×Int:=if Q6 p≠0 then (0,Q6 p) else if (P6 a).2≠0 then (0,(P6 a).2) else (FM p.Hunks (P6 a).1,0)
def cA(hs:List PatchHunk)(k:Nat):PatchHunk:=hs.getD k ⟨0,0,[]⟩
theorem LK{hs:List PatchHunk}{k:Nat}(h:k<hs.length):hs[k]?=some (cA hs k):=by
 unfold cA;rw[B30,B23 h];rfl
theorem XG{hs:List PatchHunk}{k:Nat}(h:k<hs.length):cA hs k∈hs:=B43 (LK h)
def v8(hs:List PatchHunk)(k:Nat):Int:=if k=0 then 0 else (cA hs (k-1)).Old+M6 (cA hs (k-1))
def bU(hs:List PatchHunk)(x:List Str):Nat->List Str
 | 0=>[]
 | k+1=>bU hs x k++sub x (v8 hs k) (cA hs k).Old++C0 (cA hs k).Lines 45
def zN(c:List PatchHunk)(x:List Str):Str×Int :=
 let b:=bU c x c.length++x.drop (v8 c c.length).toNat
 if cP b=false then ([],140) else y9 b
def fB(p:Patch)(a:Str):Str×Int:=if (sK p a).2≠0 then ([],(sK p a).2) else if (sK p a).1<p.Hunks.length then ([],140) else zN p.Hunks (D5 a)
theorem wM{h:PatchHunk}{x:List Str}(a:fW h x=true):h.Old+M6 h<=x.length:=by
 unfold fW at a;split at a
 ·cases a
 ·omega
theorem lT:∀(hs:List PatchHunk) (i j:Int),cT i j hs=true->∀k,k<hs.length->(if k=0 then i else (cA hs (k-1)).Old+M6 (cA hs (k-1)))<=(cA hs k).Old
 | [],_,_,_,k,hk=>by simp at hk
 | y::r,i,j,hg,k,hk=>by
  simp only[cT,B24,decide_eq_true_eq]at hg;obtain⟨_,b,_,a⟩:=hg;unfold j1 at b
  match k with
  | 0=>simp only[A5];show i<=y.Old;omega
  | 1 =>
   have:=lT r _ _ a 0 (by simpa using hk);simpa[cA] using this
  | k+2 =>
   have:=lT r _ _ a (k+1) (by simp only[B31]at hk;omega);simpa[cA] using this
theorem uP(h:PatchHunk):0<=M6 h:=by unfold M6;omega
theorem QL(x:List Str)(a b:Int)(_h0:0<=a)(c:a<=b):(x.take a.toNat).flatten.length+(sub x a b).flatten.length=(x.take b.toNat).flatten.length:=by
 have e:x.take b.toNat=x.take a.toNat++sub x a b:=by
  unfold sub;rw[show b.toNat=a.toNat+(b.toNat-a.toNat) by omega,List.take_add];congr 2;omega
 rw[e,B64,B25]
theorem A79(a:List PatchHunk)(k:Nat)(h:k<a.length):mT (a.take (k+1))=mT (a.take k)+szH (cA a k):=by
 have e:a[k]=cA a k:=by have:=LK h;rw[B23 h]at this;exact B81 this
 unfold mT;rw[B57 h,B65,List.sum_append,e];simp
theorem FN(b:List PatchLine)(k:UInt8):(C0 b k).flatten.length+(C0 b k).length<=(b.map FL).sum:=by
 unfold C0;induction b with
 | nil=>simp
 | cons x r d =>
  by_cases c:x.Kind=k
  ·simp[c,FL]at d ⊢;omega
  ·simp[c,FL]at d ⊢;omega
def bV(o n:Bool):List PatchLine->Option (Bool×Bool)
 | []=>some (o,n)
 | x::r =>
  if x.Kind≠43/\o=true then none
  else if x.Kind≠45/\n=true then none
  else bV (if x.Kind≠43 then !ended x.Text else o) (if x.Kind≠45 then !ended x.Text else n) r
def S3:Bool->List Str->Bool
 | _,[]=>true
 | o,s::r=>!o&&S3 (!ended s) r
def w7(o:Bool):List Str->Bool
 | []=>o
 | s::r=>w7 (!ended s) r
theorem fX:∀(a b:List Str) (o:Bool),S3 o (a++b)=(S3 o a&&S3 (w7 o a) b)
 | [],b,o=>by simp[S3,w7]
 | s::r,b,o=>by simp only[B66,S3,w7,fX r b];cases o<;>simp
theorem jG:∀(l:List Str),S3 false l=T9 l
 | []=>rfl
 | s::r=>by
  have a:=jG r;simp only[S3,T9];cases b:ended s
  ·cases r with
   | nil=>rfl
   | cons t u=>simp[S3]
  ·rw[<-a];cases r<;>simp[S3]
theorem uQ:∀(a:List PatchLine) (o n:Bool),bV o n a=if S3 o (C0 a 43)&&S3 n (C0 a 45) then some (w7 o (C0 a 43),w7 n (C0 a 45)) else none
 | [],o,n=>by simp[bV,C0,S3,w7]
 | x::r,o,n=>by
  have b:C0 (x::r) 43=if x.Kind≠43 then x.Text::C0 r 43 else C0 r 43:=by
   unfold C0;by_cases h:x.Kind=43<;>simp[h]
  have c:C0 (x::r) 45=if x.Kind≠45 then x.Text::C0 r 45 else C0 r 45:=by
   unfold C0;by_cases h:x.Kind=45<;>simp[h]
  rw[bV,uQ r,b,c];by_cases d:x.Kind=43<;>by_cases e:x.Kind=45<;>cases o<;>cases n<;>simp[d,e,S3,w7]
def Y9(i j:Int)(h:PatchHunk):Prop:=((((h.Old<0\/h.New<0)\/4096<h.Old)\/4096<h.New)\/h.Old<i)\/h.Old-i≠h.New-j
instance (i j:Int) (h:PatchHunk):Decidable (Y9 i j h):=by unfold Y9;exact inferInstance
def jH(i j:Int)(o n:Bool):List PatchHunk->Bool
 | []=>true
 | h::r =>
  (h.Lines.all aB&&l4 h.Lines)&&(decide (¬Y9 i j h) &&
   match bV o n h.Lines with
   | none=>false
   | some (o',n')=>decide (h.Old+M6 h<=4096/\h.New+P8 h<=4096)&&jH (h.Old+M6 h) (h.New+P8 h) o' n' r)
theorem oJ(h:PatchHunk)(r:List PatchHunk)(k:UInt8):J8 (h::r) k=C0 h.Lines k++J8 r k:=rfl
theorem XH:∀(c:List PatchHunk) (i j:Int) (o n:Bool),0<=i->0<=j->jH i j o n c=(cT i j c&&(S3 o (J8 c 43)&&S3 n (J8 c 45)))
 | [],i,j,o,n,_,_=>by simp[jH,cT,J8,S3]
 | h::r,i,j,o,n,hi,hj=>by
  rw[jH,cT,oJ,oJ,fX,fX,uQ];have g:=uP h;have a2:0<=P8 h:=by unfold P8;omega
  cases k:h.Lines.all aB
  ·simp
  cases l:l4 h.Lines
  ·have:decide (¬j1 false i j h)=false:=A4 (fun a=>a (by unfold j1;simp));rw[this];simp
  have d:decide (¬Y9 i j h)=decide (¬j1 true i j h):=by
   apply decide_eq_decide.2;unfold Y9 j1;constructor<;>intro a<;>simp only[not_or,Bool.true_eq_false,not_false_eq_true,true_and]at a ⊢<;>omega
  rw[d];by_cases b:j1 true i j h
  ·rw[A4 (fun a=>a b)];simp
  rw[A3 b];have hb:0<=h.Old/\0<=h.New:=by unfold j1 at b;simp only[not_or]at b;omega
  have e:decide (h.Old+M6 h<=4096/\h.New+P8 h<=4096)=decide (¬(4096<h.Old+M6 h\/4096<h.New+P8 h)):=decide_eq_decide.2 (by omega);have f:=XH r (h.Old+M6 h) (h.New+P8 h) (w7 o (C0 h.Lines 43)) (w7 n (C0 h.Lines 45)) (by omega) (by omega);cases m:S3 o (C0 h.Lines 43)<;>cases p:S3 n (C0 h.Lines 45)<;>simp[e,f,Bool.and_assoc]
theorem A16(a:List PatchHunk):jH 0 0 false false a=bS a:=by
 rw[XH a 0 0 false false (by omega) (by omega),jG,jG];rfl
theorem QM(b s:Str)(h:s∈D5 b):s.length<=b.length:=by
 have i:(D5 b).flatten=b:=by
  have key:∀(s d:Str),(G4 d s).flatten=d++s:=by
   intro s;induction s with
   | nil=>intro d;unfold G4;split<;>simp[*]
   | cons c r g=>intro d;unfold G4;split<;>simp[g]
  exact key b []
 have j:∀(l:List Str),s∈l->s.length<=l.flatten.length:=by
  intro l;induction l with
  | nil=>intro h;cases h
  | cons x r g =>
   intro h;rcases B34.1 h with rfl | h
   ·simp
   ·have:=g h;simp only[B69,B25];omega
 have:=j _ h;rw[i]at this;exact this
theorem DB{hs:List PatchHunk}{x:List Str} :
  ∀k,k<=hs.length->(∀j,j<k->0<=v8 hs j/\v8 hs j<=(cA hs j).Old/\(cA hs j).Old+M6 (cA hs j)<=x.length)->(bU hs x k).length<=(v8 hs k).toNat+mT (hs.take k)/\(bU hs x k).flatten.length<=(x.take (v8 hs k).toNat).flatten.length+mT (hs.take k)
 | 0,_,_=>by simp[bU]
 | k+1,hk,ho=>by
  obtain⟨r,u⟩:=DB k (by omega) (fun j A=>ho j (by omega));obtain⟨m,p,v⟩:=ho k (by omega);have w:=uP (cA hs k);have e:v8 hs (k+1)=(cA hs k).Old+M6 (cA hs k):=by unfold v8;rw[A6 (by omega)];rfl
  have y:=QL x (v8 hs k) (cA hs k).Old m p;have q:=A79 hs k (by omega);have z:=FN (cA hs k).Lines 45;have b:=QL x (cA hs k).Old ((cA hs k).Old+M6 (cA hs k)) (by omega) (by omega);have c:(sub x (v8 hs k) (cA hs k).Old).length<=(cA hs k).Old.toNat-(v8 hs k).toNat:=by unfold sub;rw[B42];omega
  unfold szH at q;simp only[bU,B25,B64,e];constructor<;>omega
theorem zO{x:List Str}{a b:Int}{s:Str}(h:s∈sub x a b):s∈x:=by
 unfold sub at h;exact List.mem_of_mem_drop (B90 h)
def DC(c:Change):Int:=c.New+c.NewLen
def fC(i:Int)(l:List Change)(k:Nat):Int:=if k=0 then i else aW (G7 l (k-1))
def mV(j:Int)(l:List Change)(k:Nat):Int:=if k=0 then j else DC (G7 l (k-1))
theorem eF(i:Int)(c:Change)(r:List Change)(k:Nat):fC i (c::r) (k+1)=fC (aW c) r k:=by
 cases k<;>rfl
theorem eG(j:Int)(c:Change)(r:List Change)(k:Nat):mV j (c::r) (k+1)=mV (DC c) r k:=by
 cases k<;>rfl
theorem fY(i:Int)(l:List Change)(k:Nat):fC i l (k+1)=aW (G7 l k):=rfl
theorem fZ(j:Int)(l:List Change)(k:Nat):mV j l (k+1)=DC (G7 l k):=rfl
theorem uR(c:Change)(r:List Change)(k:Nat):G7 (c::r) (k+1)=G7 r k:=rfl
def oK(x y:List Str)(i j:Int):List Change->Prop
 | []=>sub x i x.length=sub y j y.length
 | c::r=>sub x i c.Old=sub y j c.New/\oK x y (aW c) (DC c) r
theorem cV(m n:Int):∀(l:List Change) (b:Nat) (i j:Int),J7 b i j l m n=true->∀k,k<l.length ->
  I4 (G7 l k).Old/\I4 (G7 l k).OldLen/\I4 (G7 l k).New/\I4 (G7 l k).NewLen/\(G7 l k).OldLen+(G7 l k).NewLen≠0/\(G7 l k).Old-fC i l k=(G7 l k).New-mV j l k/\fC i l k<=(G7 l k).Old/\(0<b+k->fC i l k<(G7 l k).Old)
 | [],_,_,_,_,k,hk=>by simp at hk
 | c :: r,b,i,j,h,k,hk=>by
  simp only[J7,B24,decide_eq_true_eq]at h;obtain⟨a,C⟩:=h;cases k with
  | zero =>
   unfold CW at a;show I4 c.Old/\I4 c.OldLen/\I4 c.New/\I4 c.NewLen/\c.OldLen+c.NewLen≠0/\c.Old-i=c.New-j/\i<=c.Old/\(0<b+0->i<c.Old)
   have f:I4 c.Old:=by by_cases q:I4 c.Old;exact q;exact absurd (.inl (.inl (.inl (.inl (.inl (.inl (.inl q))))))) a
   have g:I4 c.OldLen:=by by_cases q:I4 c.OldLen;exact q;exact absurd (.inl (.inl (.inl (.inl (.inl (.inl (.inr q))))))) a
   have o:I4 c.New:=by by_cases q:I4 c.New;exact q;exact absurd (.inl (.inl (.inl (.inl (.inl (.inr q)))))) a
   have p:I4 c.NewLen:=by by_cases q:I4 c.NewLen;exact q;exact absurd (.inl (.inl (.inl (.inl (.inr q))))) a
   refine⟨f,g,o,p,fun q=>a (.inl (.inl (.inl (.inr q)))),?_,?_,fun B=>?_⟩
   ·by_cases q:c.Old-i=c.New-j
    ·exact q
    ·exact absurd (.inl (.inl (.inr q))) a
   ·by_cases q:c.Old<i
    ·exact absurd (.inl (.inr q)) a
    ·omega
   ·by_cases q:c.Old<i
    ·exact absurd (.inl (.inr q)) a
    ·by_cases D:c.Old=i
     ·exact absurd (.inr ⟨by omega,D⟩) a
     ·omega
  | succ k =>
   have:=cV m n r (b+1) _ _ C k (by simpa using hk);rw[uR,eF,eG];obtain⟨s,t,u,v,x,y,z,A⟩:=this;exact⟨s,t,u,v,x,y,z,fun B=>A (by omega)⟩
theorem DD(m n:Int):∀(l:List Change) (a:Nat) (i j:Int),J7 a i j l m n=true->m-fC i l l.length=n-mV j l l.length/\fC i l l.length<=m
 | [],_,i,j,h=>by
  simp only[J7,decide_eq_true_eq]at h;show m-i=n-j/\i<=m;omega
 | c::r,a,i,j,h=>by
  simp only[J7,B24,decide_eq_true_eq]at h;rw[B31,eF,eG];exact DD m n r _ _ _ h.2
theorem DE(x y:List Str):∀(l:List Change) (i j:Int),oK x y i j l->∀k,k<l.length->sub x (fC i l k) (G7 l k).Old=sub y (mV j l k) (G7 l k).New
 | [],_,_,_,k,hk=>by simp at hk
 | c::r,i,j,h,k,hk=>by
  cases k with
  | zero=>exact h.1
  | succ k=>rw[eF,eG,uR];exact DE x y r _ _ h.2 k (by simpa using hk)
theorem LL(x y:List Str):∀(l:List Change) (i j:Int),oK x y i j l->sub x (fC i l l.length) x.length=sub y (mV j l l.length) y.length
 | [],_,_,h=>h
 | c::r,i,j,h=>by rw[B31,eF,eG];exact LL x y r _ _ h.2
def wN(l:List Change)(m c:Int)(a b:Nat):Hunk:=iF l m c (b-1) (W6 l c a)
def GrOk(l:List Change)(m c:Int):Nat->List Hunk->Nat->Prop
 | a,[],k=>a=k
 | a,h::r,k=>∃b,a<b/\opens l c a/\h=wN l m c a b/\GrOk l m c b r k
theorem GrOk.le{l:List Change}{m c:Int}:∀{d:List Hunk} {a k:Nat},GrOk l m c a d k->a<=k
 | [],a,k,h=>Nat.le_of_eq h
 | _::_,a,k,⟨b,h1,_,_,h2⟩=>by have:=GrOk.le h2;omega
theorem GrOk.snoc{l:List Change}{m c:Int}{k:Nat}(d:opens l c k):∀{e:List Hunk} {a:Nat},GrOk l m c a e k->GrOk l m c a (e++[wN l m c k (k+1)]) (k+1)
 | [],a,h=>by
  obtain rfl:a=k:=h;exact⟨a+1,by omega,d,rfl,rfl⟩
 | _::_,a,⟨b,h1,h2,h3,h4⟩=>⟨b,h1,h2,h3,GrOk.snoc d h4⟩
theorem GrOk.last{l:List Change}{m c:Int}{k:Nat}:∀{d:List Hunk} {a:Nat},GrOk l m c a d k->d≠[]->GrOk l m c a (d.set (d.length-1) (iF l m c k (d.getD (d.length-1) CX))) (k+1)
 | [],_,_,h0=>absurd rfl h0
 | [h],a,⟨b,h1,h2,h3,h4⟩,_=>by
  obtain rfl:b=k:=h4;subst h3;exact⟨b+1,by omega,h2,rfl,rfl⟩
 | h::h'::r,a,⟨b,h1,h2,h3,h4⟩,_=>by
  have e:=GrOk.last h4 (by simp);refine⟨b,h1,h2,h3,?_⟩;simpa using e
theorem gA(l:List Change)(m a:Int):∀k,GrOk l m a 0 (H9 l m a k) k
 | 0=>rfl
 | k+1=>by
  have d:=gA l m a k;have c:=(eE l m a k).2;simp only[H9,p6];by_cases b:opens l a k
  ·rw[A5 b];have e:(H9 l m a k++[W6 l a k]).set ((H9 l m a k++[W6 l a k]).length-1) (iF l m a k ((H9 l m a k++[W6 l a k]).getD ((H9 l m a k++[W6 l a k]).length-1) CX))=H9 l m a k++[wN l m a k (k+1)]:=by
    simp[wN]
   rw[e];exact d.snoc b
  ·rw[A6 b];refine d.last ?_;have:k≠0:=fun e=>b (.inl e);have:=c (by omega);intro e;rw[e]at this;simp at this
theorem dL(x:List Str){a b c:Int}(f:0<=a)(g:a<=b)(h:b<=c):sub x a b++sub x b c=sub x a c:=by
 unfold sub;obtain⟨u,rfl⟩:∃u:Nat,(u:Int)=a:=⟨a.toNat,by omega⟩
 obtain⟨v,rfl⟩:∃v:Nat,(v:Int)=b:=⟨b.toNat,by omega⟩
 obtain⟨w,rfl⟩:∃w:Nat,(w:Int)=c:=⟨c.toNat,by omega⟩
 simp only[B26];have e:x.drop v=(x.drop u).drop (v-u):=by rw[List.drop_drop];congr 1;omega
 rw[e,show w-u=(v-u)+(w-v) by omega,List.take_add]
theorem iH(x:List Str)(a:Int):sub x a a=[]:=by simp[sub]
theorem lU(x:List Str){a b:Int}(c:0<=a)(d:a<=b)(f:b<=x.length):((sub x a b).length:Int)=b-a:=by
 unfold sub;rw[B42,B47];omega
theorem oL{x y:List Str}{p q f c e:Int}(h:sub x p q=sub y f c)(i:0<=p)(g:0<=f)(l:0<=e)(j:e<=q-p)(k:q-p=c-f):sub x (q-e) q=sub y (c-e) c:=by
 have key:∀(z:List Str) (a b:Int),0<=a->e<=b-a->sub z (b-e) b=(sub z a b).drop (b-a-e).toNat:=by
  intro z a b ha hb;unfold sub;rw[List.drop_take,List.drop_drop]
  congr 1
  ·omega
  ·congr 1;omega
 rw[key x p q i j,key y f c g (by omega),h,k]
theorem DF{x y:List Str}{p q c f e:Int}(h:sub x p q=sub y c f)(g:0<=p)(d:0<=c)(l:0<=e)(i:e<=q-p)(j:q-p=f-c):sub x p (p+e)=sub y c (c+e):=by
 have key:∀(z:List Str) (a b:Int),0<=a->e<=b-a->sub z a (a+e)=(sub z a b).take e.toNat:=by
  intro z a b ha hb;unfold sub;rw[List.take_take]
  congr 1
  omega
 rw[key x p q g i,key y c f d (by omega),h]
theorem lV(p q:List PatchLine)(k:UInt8):C0 (p++q) k=C0 p k++C0 q k:=by simp[C0]
theorem lW(k a:UInt8)(b:List Str):C0 (W7 k b) a=if k=a then [] else b:=by
 unfold C0 W7;by_cases h:k=a
 ·rw[A5 h];subst h;simp[List.filter_eq_nil_iff]
 ·rw[A6 h];rw[List.filter_eq_self.2 (by simp[h])];simp[Function.comp_def]
structure ScFit (x y:List Str) (l:List Change):Prop where
 lx:(x.length:Int)<=4096
 ly:(y.length:Int)<=4096
 sc:J7 0 0 0 l x.length y.length=true
 eq:oK x y 0 0 l
variable {x y:List Str}{l:List Change}
theorem ScFit.ok(h:ScFit x y l):ScOk 0 0 l x.length y.length:=aR _ _ _ _ _ _ h.sc
theorem ScFit.check(h:ScFit x y l):s9 l x.length y.length=0:=by
 have a:=h.lx;have b:=h.ly;unfold s9;rw[A6 (by unfold I4;omega),A5 h.sc]
theorem ScFit.nn(h:ScFit x y l)(k:Nat)(m:k<=l.length):0<=fC 0 l k/\0<=mV 0 l k/\fC 0 l k<=x.length/\mV 0 l k<=y.length:=by
 cases k with
 | zero=>exact⟨Int.le_refl _,Int.le_refl _,Int.natCast_nonneg _,Int.natCast_nonneg _⟩
 | succ k =>
  obtain⟨⟨a,a2⟩,⟨b,c⟩,⟨d,e⟩,⟨f,g⟩,i,j⟩:=h.ok.get k (by omega);rw[fY,fZ];unfold aW DC;omega
def eA(l:List Change)(b:Int)(a:Nat):Int:=aV b (G7 l a).Old
def eB(l:List Change)(m a:Int)(b:Nat):Int:=aV a (m-fC 0 l b)
theorem XI{a b:Int}(h:0<=a)(c:0<=b):0<=aV a b/\aV a b<=a/\aV a b<=b:=by unfold aV;split<;>omega
theorem pS{b:Int}{a:Nat}(c:opens l b a)(ha:a≠0):2*b<(G7 l a).Old-fC 0 l a:=by
 rcases c with h | h
 ·exact absurd h ha
 ·unfold fC;rw[A6 ha];unfold aW;omega
theorem ScFit.before(h:ScFit x y l){b:Int}(f:0<=b){a:Nat}(ha:a<l.length)(g:opens l b a) :
  0<=eA l b a/\eA l b a<=b/\eA l b a<=(G7 l a).Old-fC 0 l a:=by
 obtain⟨⟨e,a2⟩,_⟩:=h.ok.get a ha;have i:=XI f e;unfold eA;by_cases c:a=0
 ·subst c;show _/\_/\_<=(G7 l 0).Old-0;omega
 ·have:=pS g c;omega
theorem ScFit.after(h:ScFit x y l){a:Int}(k:0<=a){b:Nat}(hb:b<=l.length)(m:b<l.length->opens l a b)(f:b≠0) :
  0<=eB l x.length a b/\eB l x.length a b<=a/\fC 0 l b+eB l x.length a b<=x.length/\mV 0 l b+eB l x.length a b<=y.length /\
   sub x (fC 0 l b) (fC 0 l b+eB l x.length a b)=sub y (mV 0 l b) (mV 0 l b+eB l x.length a b):=by
 obtain⟨g,i,C,D⟩:=h.nn b hb;have d:=XI k (show 0<=(x.length:Int)-fC 0 l b by omega);unfold eB;rcases Nat.lt_or_ge b l.length with c | hge
 ·obtain⟨g1,j,u,v,w,z,A,B⟩:=cV _ _ _ _ _ _ h.sc b c;obtain⟨⟨n,a2⟩,⟨o,p⟩,⟨q,r⟩,⟨s,t⟩,k5,k6⟩:=h.ok.get b c;have E:=pS (m c) f;refine⟨d.1,d.2.1,by omega,by omega,DF (DE x y l 0 0 h.eq b c) g i d.1 (by omega) (by omega)⟩
 ·have e:b=l.length:=by omega
  subst e;obtain⟨g1,j⟩:=DD _ _ _ _ _ _ h.sc;refine⟨d.1,d.2.1,by omega,by omega,DF (LL x y l 0 0 h.eq) g i d.1 (by omega) (by omega)⟩
def LM(l:List Change)(b:Int)(a t:Nat):Int:=if t=0 then b else DC (G7 l (a+t-1))
theorem DG(i0:Int)(a t:Nat)(b:t≠0):r8 l i0 a t=fC 0 l (a+t):=by
 unfold r8 fC;rw[A6 b,A6 (by omega)]
theorem XJ(c:Int)(a t:Nat)(b:t≠0):LM l c a t=mV 0 l (a+t):=by
 unfold LM mV;rw[A6 b,A6 (by omega)]
theorem ScFit.made(h:ScFit x y l){b:Int}(H:0<=b){a:Nat}(I:opens l b a):∀t,a+t<=l.length->(t=0->a<l.length) ->
  C0 (X4 l x y ((G7 l a).Old-eA l b a) a t) 43=sub x ((G7 l a).Old-eA l b a) (r8 l ((G7 l a).Old-eA l b a) a t) /\
  C0 (X4 l x y ((G7 l a).Old-eA l b a) a t) 45=sub y ((G7 l a).New-eA l b a) (LM l ((G7 l a).New-eA l b a) a t)
 | 0,_,_=>by
  unfold r8 LM;rw[A5 rfl,A5 rfl,iH,iH];exact⟨rfl,rfl⟩
 | t + 1,hl,_=>by
  have j:a+t<l.length:=by omega
  have f:a<l.length:=by omega
  obtain⟨B,C⟩:=ScFit.made h H I t (by omega) (fun _=>f);obtain⟨T,q2,q3⟩:=h.before H f I;obtain⟨p1,p2,p3,p4⟩:=h.nn (a+t) (by omega);obtain⟨U,V,r3,r4⟩:=h.nn a (by omega);obtain⟨g1,g2,g3,g4,g5,g6,g7,g8⟩:=cV _ _ _ _ _ _ h.sc (a+t) j;obtain⟨k1,⟨k2,Q⟩,k3,⟨k4,R⟩,k5,k6,k7,k8⟩:=cV _ _ _ _ _ _ h.sc a f;obtain⟨⟨W,a2⟩,⟨X,Y⟩,⟨Z,c2⟩,⟨d1,d2⟩,w5,w6⟩:=h.ok.get (a+t) j
  have c:sub x (r8 l ((G7 l a).Old-eA l b a) a t) (G7 l (a+t)).Old=sub y (LM l ((G7 l a).New-eA l b a) a t) (G7 l (a+t)).New /\
    (G7 l a).Old-eA l b a<=r8 l ((G7 l a).Old-eA l b a) a t/\r8 l ((G7 l a).Old-eA l b a) a t<=(G7 l (a+t)).Old /\
    (G7 l a).New-eA l b a<=LM l ((G7 l a).New-eA l b a) a t/\LM l ((G7 l a).New-eA l b a) a t<=(G7 l (a+t)).New:=by
   have c:=DE x y l 0 0 h.eq (a+t) j;by_cases k:t=0
   ·subst k;unfold r8 LM;rw[A5 rfl,A5 rfl];rw[show a+0=a from rfl]at *;exact⟨oL c U V T (by omega) (by omega),by omega,by omega,by omega,by omega⟩
   ·rw[DG _ _ _ k,XJ _ _ _ k];have m1:=h.ok.mono a (a+t-1) (by omega) (by omega);have m2:fC 0 l (a+t)=(G7 l (a+t-1)).Old+(G7 l (a+t-1)).OldLen:=by unfold fC;rw[A6 (by omega)];rfl
    have S:∀u,u<=t->(G7 l a).New<=mV 0 l (a+u)\/u=0:=by
     intro u;induction u with
     | zero=>exact fun _=>.inr rfl
     | succ u D =>
      intro hu;obtain⟨E,F,⟨e3,J⟩,⟨K,M⟩,e5,e6,e7,e8⟩:=cV _ _ _ _ _ _ h.sc (a+u) (by omega);have P:mV 0 l (a+(u+1))=(G7 l (a+u)).New+(G7 l (a+u)).NewLen:=rfl;rcases D (by omega) with G | G
      ·left;omega
      ·left;subst G;rw[P];show (G7 l a).New<=(G7 l a).New+(G7 l a).NewLen;exact Int.le_add_of_nonneg_right K
    have m5:=(S t (B29 _)).resolve_right k;refine⟨c,by omega,by omega,by omega,by omega⟩
  obtain⟨m,p,q,z,A⟩:=c;simp (decide:=true) only [X4,lV,lW,B,C,if_true,if_false,B71];have E:r8 l ((G7 l a).Old-eA l b a) a (t+1)=aW (G7 l (a+t)):=DA _ _ _ _;have F:LM l ((G7 l a).New-eA l b a) a (t+1)=DC (G7 l (a+t)):=rfl;rw[E,F];have s0:0<=(G7 l a).Old-eA l b a:=by omega
  have s1:0<=(G7 l a).New-eA l b a:=by omega
  refine⟨?_,?_⟩
  ·rw[dL x s0 p q,dL x s0 (by omega) (by unfold aW;omega)]
  ·rw[m,dL y s1 z A];exact dL y s1 (by omega) (by omega)
structure HunkIs (x y:List Str) (l:List Change) (ctx:Int) (a b:Nat) (h:PatchHunk):Prop where
 old:h.Old=(G7 l a).Old-eA l ctx a
 new:h.New=(G7 l a).New-eA l ctx a
 o0:0<=h.Old
 n0:0<=h.New
 oe:h.Old+M6 h=fC 0 l b+eB l x.length ctx b
 ne:h.New+P8 h=mV 0 l b+eB l x.length ctx b
 ox:h.Old+M6 h<=x.length
 ny:h.New+P8 h<=y.length
 ol:C0 h.Lines 43=sub x h.Old (h.Old+M6 h)
 nl:C0 h.Lines 45=sub y h.New (h.New+P8 h)
 ch:l4 h.Lines=true
 gl:(∀s∈x,N1 s=true)->(∀s∈y,N1 s=true)->h.Lines.all aB=true
theorem DH(p q:List PatchLine):l4 (p++q)=(l4 p||l4 q):=by simp[l4]
theorem DI{k:UInt8}{a:List Str}(b:k≠32)(h:a≠[]):l4 (W7 k a)=true:=by
 cases a with
 | nil=>exact absurd rfl h
 | cons t a=>simp[l4,W7,b]
theorem lX{k:UInt8}{d:List Str}(i:k=32\/k=45\/k=43)(h:∀t∈d,N1 t=true):(W7 k d).all aB=true:=by
 rw[B27];intro q c;unfold W7 at c;obtain⟨t,j,rfl⟩:=B62.1 c;unfold aB;refine A3 ?_;rintro (⟨⟨b,f⟩,g⟩ | b)
 ·rcases i with e | e | e
  ·exact b e
  ·exact f e
  ·exact g e
 ·rw[show (PatchLine.mk k t).Text=t from rfl,h t j]at b;cases b
theorem xX(c:∀s∈x,N1 s=true)(d:∀s∈y,N1 s=true)(i0:Int)(a:Nat):∀t,(X4 l x y i0 a t).all aB=true
 | 0=>rfl
 | t+1=>by
  simp only[X4,C06,xX c d i0 a t,B79,B24];exact⟨⟨lX (.inl rfl) (fun s b=>c s (zO b)),lX (.inr (.inl rfl)) (fun s b=>c s (zO b))⟩,lX (.inr (.inr rfl)) (fun s b=>d s (zO b))⟩
theorem ScFit.hunk(h:ScFit x y l){c:Int}(I:0<=c){a b:Nat}(ag:a<b)(hb:b<=l.length)(S:opens l c a)(K:b<l.length->opens l c b) :
  HunkIs x y l c a b (M1 l x y (wN l x.length c a b)):=by
 have z:a<l.length:=by omega
 obtain⟨q1,q2,q3⟩:=h.before I z S;obtain⟨w1,w2,w3,w4,w5⟩:=h.after I hb K (by omega);obtain⟨m1,Q⟩:=h.made I S (b-a) (by omega) (fun e=>by omega);rw[DG _ _ _ (by omega)]at m1;rw[XJ _ _ _ (by omega)]at Q;rw[show a+(b-a)=b by omega]at m1 Q;obtain⟨r1,r2,r3,r4⟩:=h.nn a (by omega);obtain⟨s1,s2,s3,s4⟩:=h.nn b hb;obtain⟨k1,⟨k2,aj⟩,k3,⟨k4,ak⟩,k5,k6,k7,k8⟩:=cV _ _ _ _ _ _ h.sc a z;have J:b-1<l.length:=by omega
 obtain⟨g1,⟨g2,ac⟩,g3,⟨g4,ae⟩,g5,g6,g7,g8⟩:=cV _ _ _ _ _ _ h.sc (b-1) J;have Z:fC 0 l b=(G7 l (b-1)).Old+(G7 l (b-1)).OldLen:=by unfold fC;rw[A6 (by omega)];rfl
 have en:mV 0 l b=(G7 l (b-1)).New+(G7 l (b-1)).NewLen:=by unfold mV;rw[A6 (by omega)];rfl
 have mo:=h.ok.mono a (b-1) (by omega) (by omega);have mn:(G7 l a).New<=mV 0 l b:=by
  have m4:∀u,a+u<=l.length->(G7 l a).New<=mV 0 l (a+u)\/u=0:=by
   intro u;induction u with
   | zero=>exact fun _=>.inr rfl
   | succ u M =>
    intro hu;obtain⟨C,e2,⟨e3,V⟩,⟨W,X⟩,e5,e6,e7,e8⟩:=cV _ _ _ _ _ _ h.sc (a+u) (by omega);have Y:mV 0 l (a+(u+1))=(G7 l (a+u)).New+(G7 l (a+u)).NewLen:=rfl;rcases M (by omega) with R | R
    ·left;omega
    ·left;subst R;rw[Y];show (G7 l a).New<=(G7 l a).New+(G7 l a).NewLen;exact Int.le_add_of_nonneg_right W
  have:=(m4 (b-a) (by omega)).resolve_right (by omega)
  rwa[show a+(b-a)=b by omega]at this
 have hF:(wN l x.length c a b).First.toNat=a:=by show ((a:Int)).toNat=a;omega
 have hL:(wN l x.length c a b).Last.toNat-(wN l x.length c a b).First.toNat=b-a:=by
  show (((b-1:Nat):Int)+1).toNat-((a:Int)).toNat=b-a;omega
 have G:(wN l x.length c a b).Old.From=(G7 l a).Old-eA l c a:=rfl;have af:(wN l x.length c a b).New.From=(G7 l a).New-eA l c a:=rfl;have H:(wN l x.length c a b).Old.To=fC 0 l b+eB l x.length c b:=by
  unfold eB;rw[Z];rfl
 obtain⟨P,A⟩:∃P,P=M1 l x y (wN l x.length c a b):=⟨_,rfl⟩
 have f:P.Lines=X4 l x y ((G7 l a).Old-eA l c a) a (b-a)++W7 32 (sub x (fC 0 l b) (fC 0 l b+eB l x.length c b)):=by
  rw[A];unfold M1;show X4 l x y _ (wN l x.length c a b).First.toNat ((wN l x.length c a b).Last.toNat-(wN l x.length c a b).First.toNat)++W7 32 (sub x (r8 l _ (wN l x.length c a b).First.toNat ((wN l x.length c a b).Last.toNat-(wN l x.length c a b).First.toNat)) _)=_;rw[hL,hF,G,H,DG _ _ _ (by omega),show a+(b-a)=b by omega]
 have q:P.Old=(G7 l a).Old-eA l c a:=by rw[A];rfl
 have p:P.New=(G7 l a).New-eA l c a:=by rw[A];rfl
 have j:C0 P.Lines 43=sub x ((G7 l a).Old-eA l c a) (fC 0 l b+eB l x.length c b):=by
  rw[f,lV,lW,A6 (by decide),m1];exact dL x (by omega) (by omega) (by omega)
 have k:C0 P.Lines 45=sub y ((G7 l a).New-eA l c a) (mV 0 l b+eB l x.length c b):=by
  rw[f,lV,lW,A6 (by decide),Q,w5];exact dL y (by omega) (by omega) (by omega)
 have ai:M6 P=fC 0 l b+eB l x.length c b-((G7 l a).Old-eA l c a):=by
  unfold M6;rw[j];exact lU x (by omega) (by omega) (by omega)
 have ah:P8 P=mV 0 l b+eB l x.length c b-((G7 l a).New-eA l c a):=by
  unfold P8;rw[k];exact lU y (by omega) (by omega) (by omega)
 rw[<-A];refine⟨q,p,by omega,by omega,by omega,by omega,by omega,by omega,?_,?_,?_,?_⟩
 ·rw[j];congr 1
  ·exact q.symm
  ·omega
 ·rw[k];congr 1
  ·exact p.symm
  ·omega
 ·rw[f,DH];have e:X4 l x y ((G7 l a).Old-eA l c a) a (b-a)=X4 l x y ((G7 l a).Old-eA l c a) a (b-1-a+1):=by congr 1;omega
  rw[e];simp only[X4,DH];rw[show a+(b-1-a)=b-1 by omega];have key:l4 (W7 45 (sub x (G7 l (b-1)).Old (aW (G7 l (b-1)))))=true\/l4 (W7 43 (sub y (G7 l (b-1)).New ((G7 l (b-1)).New+(G7 l (b-1)).NewLen)))=true:=by
   obtain⟨E,ad⟩:=g3;obtain⟨D,ab⟩:=g1;by_cases h0:(G7 l (b-1)).OldLen=0
   ·right;refine DI (by decide) fun B=>?_;have:=lU y (a:=(G7 l (b-1)).New) (b:=(G7 l (b-1)).New+(G7 l (b-1)).NewLen) E (by omega) (by omega);rw[B]at this;simp at this;omega
   ·left;refine DI (by decide) fun B=>?_;have:=lU x (a:=(G7 l (b-1)).Old) (b:=aW (G7 l (b-1))) D (by unfold aW;omega) (by unfold aW;omega);rw[B]at this;unfold aW at this;simp at this;omega
  rcases key with C | C<;>rw[C]<;>simp
 ·intro U hy;rw[f,C06,xX U hy,B79];exact lX (.inl rfl) (fun s hs=>U s (zO hs))
theorem ScFit.hunks(h:ScFit x y l){c:Int}(C:0<=c)(K:∀s∈x,N1 s=true)(L:∀s∈y,N1 s=true):∀(g:List Hunk) (a:Nat),GrOk l x.length c a g l.length ->
  ∀(i j e:Int),i=fC 0 l a+e->j=mV 0 l a+e->0<=e->e<=c->(a=0->e=0) ->
  cT i j (g.map (M1 l x y))=true/\(J8 (g.map (M1 l x y)) 43).Sublist (x.drop i.toNat)/\(J8 (g.map (M1 l x y)) 45).Sublist (y.drop j.toNat) /\
   ∀p∈g.map (M1 l x y),(p.Old+M6 p<=x.length/\p.New+P8 p<=y.length/\0<=p.Old/\0<=p.New)/\C0 p.Lines 43=sub x p.Old (p.Old+M6 p)/\C0 p.Lines 45=sub y p.New (p.New+P8 p)
 | [],a,_,i,j,e,_,_,_,_,_=>⟨rfl,by simp[J8],by simp[J8],by simp⟩
 | J::g,a,⟨b,hab,ho,hE,w⟩,i,j,e,hi,hj,he,hec,he0=>by
  have hb:=w.le;have A:b<l.length->opens l c b:=by
   intro W;cases g with
   | nil=>exact absurd w (by show ¬b=l.length;omega)
   | cons G X=>obtain⟨_,_,E,_⟩:=w;exact E
  obtain⟨w1,w2,w3,w4,w5⟩:=h.after C hb A (by omega);obtain⟨q1,q2,q3⟩:=h.before C (show a<l.length by omega) ho;have H:=h.hunk C hab hb ho A;rw[<-hE]at H;obtain⟨P,B⟩:∃P,P=M1 l x y J:=⟨_,rfl⟩
  rw[<-B]at H;obtain⟨Y,i2,i3,i4⟩:=ScFit.hunks h C K L g b w (P.Old+M6 P) (P.New+P8 P) (eB l x.length c b) H.oe H.ne w1 w2 (by omega);obtain⟨k1,⟨k2,Z⟩,k3,⟨k4,ab⟩,k5,k6,k7,k8⟩:=cV _ _ _ _ _ _ h.sc a (show a<l.length by omega);have Q:=H.old;have G:=H.new;have R:=H.o0;have T:=H.n0;have U:=H.ox;have V:=H.ny;have h7:=h.lx;have h8:=h.ly;have n1:0<=M6 P:=by unfold M6;omega
  have n2:0<=P8 P:=by unfold P8;omega
  have I:e+eA l c a<=(G7 l a).Old-fC 0 l a:=by
   by_cases D:a=0
   ·have:=he0 D;omega
   ·have:=pS ho D;omega
  obtain⟨r1,r2,r3,r4⟩:=h.nn a (by omega);have n:i<=P.Old/\j<=P.New/\P.Old-i=P.New-j/\0<=i/\0<=j:=by omega
  have q:∀(z:List Str) (i f t:Int),0<=i->i<=f->f<=t->∀r:List Str,r.Sublist (z.drop t.toNat)->(sub z f t++r).Sublist (z.drop i.toNat):=by
   intro z i f t D Q G r w;have M:z.drop f.toNat=sub z f t++z.drop t.toNat:=by
    unfold sub;rw[show t.toNat=f.toNat+(t.toNat-f.toNat) by omega,<-List.drop_drop,show f.toNat+(t.toNat-f.toNat)-f.toNat=t.toNat-f.toNat by omega,B87]
   have N:z.drop f.toNat=(z.drop i.toNat).drop (f.toNat-i.toNat):=by rw[List.drop_drop];congr 1;omega
   refine List.Sublist.trans ?_ (List.drop_sublist (f.toNat-i.toNat) (z.drop i.toNat));rw[<-N,M];exact List.Sublist.append_left w _
  have key:∀(k:UInt8),J8 ((J::g).map (M1 l x y)) k=C0 P.Lines k++J8 (g.map (M1 l x y)) k:=by
   intro k;rw[B];simp[J8]
  refine⟨?_,?_,?_,?_⟩
  ·rw[B50,<-B];simp only[cT,H.gl K L,Y,Bool.and_true,B79,B24,decide_eq_true_eq];refine⟨?_,by omega⟩;unfold j1;rw[H.ch];rintro (((((v | v) | v) | v) | v) | v)
   ·cases v
   all_goals omega
  ·rw[key,H.ol];exact q x i P.Old (P.Old+M6 P) n.2.2.2.1 n.1 (by omega) _ i2
  ·rw[key,H.nl];exact q y j P.New (P.New+P8 P) n.2.2.2.2 n.2.1 (by omega) _ i3
  ·rw[B50,<-B];intro p F;rcases B34.1 F with rfl | F
   ·exact⟨⟨U,V,R,T⟩,H.ol,H.nl⟩
   ·exact i4 p F
theorem uS:∀{s z:List Str},s.Sublist z->T9 z=true->T9 s=true:=by
 intro s z e;induction e with
 | slnil=>exact fun h=>h
 | cons a _ d =>
  intro h;simp only[T9,B24]at h;exact d h.2
 | cons_cons a b d =>
  intro h;simp only[T9,B24,B63]at h ⊢;refine⟨?_,d h.2⟩;rcases h.1 with c | c
  ·left;rw[List.isEmpty_iff]at c ⊢;rw[c]at b;exact List.sublist_nil.1 b
  ·exact .inr c
def R1(l:List Change)(x y:List Str)(ctx:Int):List PatchHunk:=(H9 l x.length ctx l.length).map (M1 l x y)
theorem ScFit.good(h:ScFit x y l){a:Int}(b:0<=a)(i:∀s∈x,N1 s=true)(j:∀s∈y,N1 s=true)(c:T9 x=true)(d:T9 y=true):bS (R1 l x y a)=true:=by
 obtain⟨e,f,g,_⟩:=h.hunks b i j _ 0 (gA l x.length a l.length) 0 0 0 rfl rfl (Int.le_refl _) b (fun _=>rfl);unfold bS VB R1;rw[e,uS f (by simpa using c),uS g (by simpa using d)];rfl
theorem ScFit.texts(h:ScFit x y l){a:Int}(b:0<=a)(c:∀s∈x,N1 s=true)(d:∀s∈y,N1 s=true):∀p∈R1 l x y a,(p.Old+M6 p<=x.length/\p.New+P8 p<=y.length/\0<=p.Old/\0<=p.New)/\C0 p.Lines 43=sub x p.Old (p.Old+M6 p)/\C0 p.Lines 45=sub y p.New (p.New+P8 p) :=
 (h.hunks b c d _ 0 (gA l x.length a l.length) 0 0 0 rfl rfl (Int.le_refl _) b (fun _=>rfl)).2.2.2
theorem xY(a:Str)(c:UInt8)(h:∀z∈a,z≠10):N1 (a++[c])=true:=by
 unfold N1;simp only[List.dropLast_concat,B24];refine⟨B27.2 fun z b=>by simpa using h z b,by simp⟩
theorem oM:∀(s a:Str),(∀z∈a,z≠10)->(∀t∈G4 a s,N1 t=true)/\T9 (G4 a s)=true
 | [],a,hc=>by
  unfold G4;split
  ·exact⟨by simp,rfl⟩
  ·rename_i h;refine⟨fun t f=>?_,rfl⟩;obtain rfl:t=a:=by simpa using f
   obtain⟨d,r,e⟩:∃d r,t=r++[d]:=⟨t.getLast h,t.dropLast,(List.dropLast_concat_getLast h).symm⟩
   rw[e];exact xY r d fun z b=>hc z (by rw[e];simp[b])
 | c::r,a,hc=>by
  rw[dE];by_cases h:c=10
  ·rw[A5 h];obtain⟨g,i⟩:=oM r [] (by simp);refine⟨fun t f=>?_,?_⟩
   ·rcases B34.1 f with rfl | f
    ·exact xY a c hc
    ·exact g t f
   ·simp only[T9,i,Bool.and_true,B63];right;unfold ended;subst h;simp
  ·rw[A6 h];refine oM r (a++[c]) fun z b=>?_;rcases B36.1 b with b | b
   ·exact hc z b
   ·simp at b;subst b;exact h
theorem gB(b:Str):(∀t∈D5 b,N1 t=true)/\T9 (D5 b)=true:=oM b [] (by simp)
theorem wO{m n:Int}(c:I4 m)(d:I4 n):∀(p:List Span) (i j i0 a:Int) (b:Nat),Asc m n i j p->0<=i0->0<=a->i0<=i->i-i0=j-a->(0<b->i0<i)->J7 b i0 a (j9 i j p m n) m n=true
 | [],i,j,i0,a,b,ha,h1,h2,h3,h4,h5=>by
  obtain⟨e,a2⟩:i<=m/\j<=n:=ha;obtain⟨m1,k⟩:=c;obtain⟨l,o⟩:=d;unfold j9;split
  ·rename_i f;simp only[J7,B24,decide_eq_true_eq];refine⟨?_,by omega⟩;unfold CW I4;show ¬(((((((¬(0<=i/\i<=4096)\/¬(0<=m-i/\m-i<=4096))\/¬(0<=j/\j<=4096))\/¬(0<=n-j/\n-j<=4096))\/m-i+(n-j)=0)\/i-i0≠j-a)\/i<i0)\/(0<(b:Int)/\i=i0));omega
  ·simp only[J7,decide_eq_true_eq];omega
 | x::r,i,j,i0,a,b,ha,h1,h2,h3,h4,h5=>by
  obtain⟨e,a2,a3⟩:=ha;have g:=a3.le;unfold j9;split
  ·rename_i f;simp only[B66,B74,J7,B24,decide_eq_true_eq];refine⟨?_,?_⟩
   ·obtain⟨m1,k⟩:=c;obtain⟨l,o⟩:=d;unfold CW I4;show ¬(((((((¬(0<=i/\i<=4096)\/¬(0<=x.From-i/\x.From-i<=4096))\/¬(0<=j/\j<=4096))\/¬(0<=x.To-j/\x.To-j<=4096))\/x.From-i+(x.To-j)=0)\/i-i0≠j-a)\/i<i0)\/(0<(b:Int)/\i=i0));omega
   ·exact wO c d r _ _ _ _ _ a3 (by omega) (by omega) (by omega) (by omega) (fun _=>by omega)
  ·rw[B74];exact wO c d r _ _ _ _ _ a3 h1 h2 (by omega) (by omega) (fun h=>by omega)
def EqAt(X Y:List Str)(s:Span):Prop:=0<=s.From/\0<=s.To/\∃v,X[s.From.toNat]?=some v/\Y[s.To.toNat]?=some v
theorem kD{X:List Str}{a b:Int}{v:Str}(c:0<=a)(d:a<=b)(g:X[b.toNat]?=some v):sub X a (b+1)=sub X a b++[v]:=by
 rw[<-dL X c d (by omega:b<=b+1)]
 congr 1
 unfold sub;obtain⟨f,e⟩:=B28.1 g;rw[B40 f,e,show (b+1).toNat-b.toNat=1 by omega];rfl
theorem wP{X Y:List Str}:∀(p:List Span) (i j i0 b:Int),Asc X.length Y.length i j p->0<=i0->0<=b->i0<=i->b<=j->(∀s∈p,EqAt X Y s)->sub X i0 i=sub Y b j->oK X Y i0 b (j9 i j p X.length Y.length)
 | [],i,j,i0,b,ha,h1,h2,h3,h4,he,a=>by
  obtain⟨g,a2⟩:i<=(X.length:Int)/\j<=(Y.length:Int):=ha;unfold j9;split
  ·refine⟨a,?_⟩;show sub X (i+(X.length-i)) X.length=sub Y (j+(Y.length-j)) Y.length;rw[show i+((X.length:Int)-i)=X.length by omega,show j+((Y.length:Int)-j)=Y.length by omega,iH,iH]
  ·have c:(X.length:Int)=i:=by omega
   have d:(Y.length:Int)=j:=by omega
   show sub X i0 X.length=sub Y b Y.length;rw[c,d];exact a
 | x::r,i,j,i0,b,ha,h1,h2,h3,h4,he,a=>by
  obtain⟨g,a2,a3⟩:=ha;obtain⟨_,_,v,f,v2⟩:=he x (by simp);have e:∀s∈r,EqAt X Y s:=fun s a=>he s (by simp[a]);unfold j9;split
  ·refine⟨a,?_⟩;show oK X Y (i+(x.From-i)) (j+(x.To-j)) (j9 (x.From+1) (x.To+1) r X.length Y.length);rw[show i+(x.From-i)=x.From by omega,show j+(x.To-j)=x.To by omega];refine wP r _ _ _ _ a3 (by omega) (by omega) (by omega) (by omega) e ?_;rw[kD (by omega) (Int.le_refl _) f,kD (by omega) (Int.le_refl _) v2,iH,iH]
  ·have c:x.From=i:=by omega
   have d:x.To=j:=by omega
   rw[B74];refine wP r _ _ _ _ a3 h1 h2 (by omega) (by omega) e ?_;rw[kD h1 (by omega) f,kD h2 (by omega) v2,c,d,a]
theorem A17:∀(a b:List Int) (p q:Int),∀s∈K1 p q a b,p<=s.From/\q<=s.To/\∃v,a[(s.From-p).toNat]?=some v/\b[(s.To-q).toNat]?=some v:=by
 intro a;induction a with
 | nil=>intro b p q s c;simp[K1]at c
 | cons x a g =>
  intro b;induction b with
  | nil=>intro p q s c;simp[K1]at c
  | cons y b h =>
   intro p q s c;unfold K1 at c;split at c
   ·rename_i e;rcases B34.1 c with rfl | c
    ·exact⟨Int.le_refl _,Int.le_refl _,x,by simp,by simp[e]⟩
    ·obtain⟨i,j,v,d,f⟩:=g b (p+1) (q+1) s c;refine⟨by omega,by omega,v,?_,?_⟩
     ·rw[show (s.From-p).toNat=(s.From-(p+1)).toNat+1 by omega];simpa using d
     ·rw[show (s.To-q).toNat=(s.To-(q+1)).toNat+1 by omega];simpa using f
   ·split at c
    ·obtain⟨i,j,v,d,f⟩:=g (y::b) (p+1) q s c;refine⟨by omega,by omega,v,?_,f⟩;rw[show (s.From-p).toNat=(s.From-(p+1)).toNat+1 by omega];simpa using d
    ·obtain⟨i,j,v,d,f⟩:=h p (q+1) s c;refine⟨by omega,by omega,v,d,?_⟩;rw[show (s.To-q).toNat=(s.To-(q+1)).toNat+1 by omega];simpa using f
theorem oN:∀(l:List Str) (s t:Str) (k:Int),0<=k->s∈l->t∈l->L9 l s k=L9 l t k->s=t
 | [],_,_,_,_,h,_,_=>by simp at h
 | x::r,s,t,k,hk,hs,ht,e=>by
  unfold L9 at e;by_cases b:x=s
  ·by_cases a:x=t
   ·exact b.symm.trans a
   ·rw[A5 b,A6 a]at e;have d:t∈r:=(B34.1 ht).resolve_left (fun q=>a q.symm);have:=CT r t (k+1) (by omega) d;omega
  ·have c:s∈r:=(B34.1 hs).resolve_left (fun q=>b q.symm);by_cases a:x=t
   ·rw[A6 b,A5 a]at e;have:=CT r s (k+1) (by omega) c;omega
   ·rw[A6 b,A6 a]at e;exact oN r s t (k+1) (by omega) c ((B34.1 ht).resolve_left (fun q=>a q.symm)) e
theorem pT{a f:List Str}{i:Nat}{v:Int}(h:(F4 a f)[i]?=some v):∃s,f[i]?=some s/\L9 a s 0=v:=by
 unfold F4 at h;rw[B92]at h;cases b:f[i]? with
 | none=>rw[b]at h;cases h
 | some s=>rw[b]at h;exact⟨s,rfl,B81 h⟩
theorem DJ(x y:List Str)(q:x.length<=4096)(r:y.length<=4096):ScFit x y (Y8 x y):=by
 have b:(F4 (D6 [x,y]) x).length=x.length:=by simp[F4]
 have c:(F4 (D6 [x,y]) y).length=y.length:=by simp[F4]
 have a:=sJ (F4 (D6 [x,y]) x) (F4 (D6 [x,y]) y) 0 0;rw[b,c,Int.zero_add,Int.zero_add]at a;refine⟨by omega,by omega,?_,?_⟩
 ·unfold Y8 jD oG;rw[b,c];exact wO ⟨by omega,by omega⟩ ⟨by omega,by omega⟩ _ _ _ _ _ _ a (Int.le_refl _) (Int.le_refl _) (Int.le_refl _) rfl (fun h=>absurd h (by omega))
 ·unfold Y8 jD oG;rw[b,c];refine wP _ _ _ _ _ a (Int.le_refl _) (Int.le_refl _) (Int.le_refl _) (Int.le_refl _) ?_ (by rw[iH,iH]);intro s m;obtain⟨j,k,v,d,f⟩:=A17 _ _ _ _ s m;rw[Int.sub_zero]at d f;obtain⟨u,i,o⟩:=pT d;obtain⟨w,w1,p⟩:=pT f;have e:u=w:=oN (D6 [x,y]) u w 0 (Int.le_refl _) (aQ _ _ x (by simp) (B43 i)) (aQ _ _ y (by simp) (B43 w1)) (o.trans p.symm);subst e;exact⟨j,k,u,i,w1⟩
theorem IE:∀(b:List PatchLine),b.all aB=true->(b.map FL).sum<=64*((C0 b 43).length+(C0 b 45).length)+((C0 b 43).flatten.length+(C0 b 45).flatten.length)
 | [],_=>by simp
 | q::b,h=>by
  rw[List.all_cons,B24]at h;have x:=IE b h.2;have v:q.Kind=32\/q.Kind=45\/q.Kind=43:=by
   have c:=h.1;unfold aB at c;have c:=A1 c;by_cases d:q.Kind=32
   ·exact .inl d
   by_cases j:q.Kind=45
   ·exact .inr (.inl j)
   by_cases o:q.Kind=43
   ·exact .inr (.inr o)
   exact absurd (.inl ⟨⟨d,j⟩,o⟩) c
  have p:∀k:UInt8,C0 (q::b) k=if q.Kind≠k then q.Text::C0 b k else C0 b k:=by
   intro k;unfold C0;by_cases e:q.Kind=k
   ·rw[A6 (by simpa using e),List.filter_cons_of_neg (by simpa using e)]
   ·rw[A5 e,List.filter_cons_of_pos (by simpa using e)];rfl
  rw[p 43,p 45,B50,C03];have w:FL q=q.Text.length+64:=rfl;rcases v with e | e | e<;>rw[e]<;>simp (decide:=true) only [if_true,if_false,ne_eq,not_true_eq_false,not_false_eq_true,B31,B69,B25]<;>omega
theorem uT:∀(c:List PatchHunk) (i j:Int),cT i j c=true->mT c<=128*((J8 c 43).length+(J8 c 45).length)+((J8 c 43).flatten.length+(J8 c 45).flatten.length)
 | [],_,_,_=>by simp[mT]
 | h :: c,i,j,hg=>by
  simp only[cT,B24,decide_eq_true_eq]at hg;obtain⟨y,z,E,A⟩:=hg;have D:=uT c _ _ A;have F:=IE h.Lines y;have B:1<=h.Lines.length:=by
   cases C:h.Lines with
   | nil=>exact absurd (.inl (.inl (.inl (.inl (.inl (by rw[C];rfl)))))) z
   | cons a b=>simp
  have v:h.Lines.length<=(C0 h.Lines 43).length+(C0 h.Lines 45).length:=by
   have:64*h.Lines.length<=(h.Lines.map FL).sum:=lQ h.Lines;have key:∀d:List PatchLine,d.length<=(C0 d 43).length+(C0 d 45).length:=by
    intro d;induction d with
    | nil=>simp
    | cons q d D =>
     have w:∀k:UInt8,(C0 (q::d) k).length=if q.Kind≠k then (C0 d k).length+1 else (C0 d k).length:=by
      intro k;unfold C0;by_cases e:q.Kind=k
      ·rw[A6 (by simpa using e),List.filter_cons_of_neg (by simpa using e)]
      ·rw[A5 e,List.filter_cons_of_pos (by simpa using e)];simp
     rw[w 43,w 45,B31];by_cases e:q.Kind=43
     ·have x:q.Kind≠45:=by rw[e];decide
      rw[A5 x];split<;>omega
     ·rw[A5 e];split<;>omega
   exact key h.Lines
  have r:mT (h::c)=szH h+mT c:=by simp[mT]
  have p:szH h=64+(h.Lines.map FL).sum:=rfl;have o:∀k,J8 (h::c) k=C0 h.Lines k++J8 c k:=by intro k;simp[J8]
  rw[r,p,o 43,o 45];simp only[B25,B64];omega
theorem xZ:∀{s z:List Str},s.Sublist z->s.flatten.length<=z.flatten.length:=by
 intro s z b;induction b with
 | slnil=>exact B29 _
 | cons a _ c=>simp only[B69,B25];omega
 | cons_cons a _ c=>simp only[B69,B25];omega
theorem ScFit.size{x y:List Str}{l:List Change}(h:ScFit x y l){c:Int}(k:0<=c)(q:∀s∈x,N1 s=true)(r:∀s∈y,N1 s=true):mT (R1 l x y c)<=128*(x.length+y.length)+(x.flatten.length+y.flatten.length):=by
 obtain⟨n,g,j,_⟩:=h.hunks k q r _ 0 (gA l x.length c l.length) 0 0 0 rfl rfl (Int.le_refl _) k (fun _=>rfl);have o:=uT _ _ _ n;have e:R1 l x y c=(H9 l x.length c l.length).map (M1 l x y):=rfl;rw[<-e]at g j o;have d:(J8 (R1 l x y c) 43).Sublist x:=by simpa using g
 have f:(J8 (R1 l x y c) 45).Sublist y:=by simpa using j
 have:=d.length_le;have:=f.length_le;have:=xZ d;have:=xZ f;omega
theorem oO(s:Str):∀b:Str,(G4 b s).flatten=b++s:=by
 induction s with
 | nil=>intro b;unfold G4;split<;>simp[*]
 | cons c r d=>intro b;rw[dE];split<;>simp[d]
theorem aC(a:Str):(D5 a).flatten.length=a.length/\(D5 a).length<=a.length:=⟨by unfold D5;rw[oO];rfl,fS a⟩
abbrev sL:Int->Nat->Cell:=fun x _=>.v (.int .u16 x)
abbrev pU16s(l:List Int):PV:=.one (.list Int 1 sL l)
theorem VE(n:Int)(h:0<=n/\n<65536):IntKind.u16.wrap n=n:=by
 simp[IntKind.wrap,IntKind.signed,IntKind.bits];omega
def flat(a b:List Int)(done:Nat->Nat->Bool):List Int :=
 (List.range ((a.length+1)*(b.length+1))).map fun p=>if done (p / (b.length+1)) (p % (b.length+1))=true then (dist (a.drop (p / (b.length+1))) (b.drop (p % (b.length+1))):Int) else 0
theorem yA(a b:List Int)(done:Nat->Nat->Bool):(flat a b done).length=(a.length+1)*(b.length+1):=by simp[flat]
theorem zP{a b:List Int}{i j:Nat}(c:i<=a.length)(d:j<=b.length):i*(b.length+1)+j<(a.length+1)*(b.length+1)/\(i*(b.length+1)+j) / (b.length+1)=i/\(i*(b.length+1)+j) % (b.length+1)=j:=by
 refine⟨?_,?_,?_⟩
 ·have:(i+1)*(b.length+1)<=(a.length+1)*(b.length+1):=B56 _ (by omega);rw[B73,Nat.one_mul]at this;omega
 ·rw[Nat.mul_comm,Nat.mul_add_div (by omega),Nat.div_eq_of_lt (by omega),Nat.add_zero]
 ·rw[Nat.mul_comm,Nat.mul_add_mod,Nat.mod_eq_of_lt (by omega)]
theorem DK{a b:List Int}{done:Nat->Nat->Bool}{i j:Nat}(f:i<=a.length)(g:j<=b.length):(flat a b done)[i*(b.length+1)+j]?=some (if done i j=true then (dist (a.drop i) (b.drop j):Int) else 0):=by
 obtain⟨c,d,e⟩:=zP f g;unfold flat
 rw[A11 _ _ _ c,d,e]
theorem QN{a b:List Int}{done c:Nat->Nat->Bool}{i j:Nat}{v:Int}(n:i<=a.length)(o:j<=b.length)(x:v=(dist (a.drop i) (b.drop j):Int))(m:c i j=true)
  (p:∀r q,r<=a.length->q<=b.length->¬(r=i/\q=j)->c r q=done r q):(flat a b done).set (i*(b.length+1)+j) v=flat a b c:=by
 obtain⟨y,k,l⟩:=zP n o;unfold flat
 refine IA _ _ _ _ _ (fun _=>?_) (fun q u d=>?_)
 ·rw[k,l,A5 m,x]
 ·have f:0<b.length+1:=by omega
  have e:=Nat.div_add_mod q (b.length+1);have w:q / (b.length+1)<=a.length:=by
   have:=(Nat.div_lt_iff_lt_mul f).2 u;omega
  have z:=Nat.mod_lt q f;rw[p _ _ w (by omega) (fun ⟨g,h⟩=>d (by rw[g,h,Nat.mul_comm]at e;exact e.symm))]
theorem A18(a b:List Int):List.replicate ((a.length+1)*(b.length+1)) 0=flat a b (fun _ _=>false):=by
 unfold flat
 simp only[Bool.false_eq_true,if_false];rw[List.map_const',B93]
theorem lY{a b:List Int}{done c:Nat->Nat->Bool}(h:∀r q,r<=a.length->q<=b.length->(done r q=c r q\/dist (a.drop r) (b.drop q)=0)):flat a b done=flat a b c:=by
 unfold flat
 apply B80;intro p d;have d:=B44.1 d;have f:0<b.length+1:=by omega
 have g:p / (b.length+1)<=a.length:=by have:=(Nat.div_lt_iff_lt_mul f).2 d;omega
 have i:=Nat.mod_lt p f;rcases h (p / (b.length+1)) (p % (b.length+1)) g (by omega) with e | e
 ·rw[e]
 ·rw[e];simp
def Z9:List Int->List Int->Nat
 | x::a,y::b=>if x=y then Z9 a b+1 else 0
 | _,_=>0
theorem QO:∀(a b:List Int),Z9 a b<=a.length/\Z9 a b<=b.length
 | [],_=>by simp[Z9]
 | _::_,[]=>by simp[Z9]
 | x::a,y::b=>by
  have:=QO a b;unfold Z9;simp only[B31];split<;>omega
theorem DL(a b:List Int)(k:Nat)(d:k<a.length)(c:k<b.length):Z9 (a.drop k) (b.drop k)=if a[k]=b[k] then Z9 (a.drop (k+1)) (b.drop (k+1))+1 else 0:=by
 rw[B40 d,B40 c];rfl
theorem A19(a b:List Int)(k:Nat)(h:¬(k<a.length/\k<b.length)):Z9 (a.drop k) (b.drop k)=0:=by
 by_cases c:k<a.length
 ·rw[B53 (as:=b) (by omega)];cases a.drop k<;>rfl
 ·rw[B53 (as:=a) (by omega)];rfl
theorem DM:∀(a b:List Int) (p q:Int),K1 p q a b=O2 p q (Z9 a b)++K1 (p+Z9 a b) (q+Z9 a b) (a.drop (Z9 a b)) (b.drop (Z9 a b))
 | [],b,p,q=>by simp[Z9,eZ]
 | x::a,[],p,q=>by simp[Z9,eZ]
 | x::a,y::b,p,q=>by
  unfold Z9;by_cases h:x=y
  ·rw[A5 h]
   conv=>lhs;unfold K1
   rw[A5 h,DM a b (p+1) (q+1),LD];simp only[List.drop_succ_cons,B66];rw[show p+1+(Z9 a b:Int)=p+((Z9 a b+1:Nat):Int) by omega,show q+1+(Z9 a b:Int)=q+((Z9 a b+1:Nat):Int) by omega]
  ·rw[A6 h];simp[eZ]
def GrX(l:List Change)(m d:Int):Nat->List Hunk->Nat->Prop
 | a,[],k=>a=k
 | a,h::r,k=>∃b,a<b/\opens l d a/\(∀c,a<c->c<b->¬opens l d c)/\h=wN l m d a b/\GrX l m d b r k
theorem GrX.le{l:List Change}{m c:Int}:∀{d:List Hunk} {a k:Nat},GrX l m c a d k->a<=k
 | [],a,k,h=>Nat.le_of_eq h
 | _::_,a,k,⟨b,h1,_,_,_,h2⟩=>by have:=GrX.le h2;omega
theorem GrX.unique{l:List Change}{m d:Int}:∀{g f:List Hunk} {a k:Nat},GrX l m d a g k->GrX l m d a f k->g=f
 | [],[],_,_,_,_=>rfl
 | [],_::_,a,k,h,⟨b,h1,_,_,_,h2⟩=>by have:=h2.le;have:a=k:=h;omega
 | _::_,[],a,k,⟨b,h1,_,_,_,h2⟩,h=>by have:=h2.le;have:a=k:=h;omega
 | x::r,x'::r',a,k,⟨b,h1,h2,h3,h4,h5⟩,⟨b',h1',h2',h3',h4',h5'⟩=>by
  have c:∀{r:List Hunk} {b:Nat},GrX l m d b r k->b<k->opens l d b:=by
   intro r b h e;cases r with
   | nil=>have:b=k:=h;omega
   | cons y r=>obtain⟨_,_,i,_⟩:=h;exact i
  have hb:b=b':=by
   have j:=h5.le;have n:=h5'.le;rcases Nat.lt_trichotomy b b' with e | rfl | e
   ·exact absurd (c h5 (by omega)) (h3' b h1 e)
   ·rfl
   ·exact absurd (c h5' (by omega)) (h3 b' h1' e)
  subst hb;rw[h4,h4',GrX.unique h5 h5']
theorem GrX.snoc{l:List Change}{m d:Int}{k n:Nat}(g:opens l d k)(f:k<n)(e:∀c,k<c->c<n->¬opens l d c):∀{i:List Hunk} {a:Nat},GrX l m d a i k->GrX l m d a (i++[wN l m d k n]) n
 | [],a,h=>by
  obtain rfl:a=k:=h;exact⟨n,f,g,e,rfl,rfl⟩
 | _::_,a,⟨b,h1,h2,h3,h4,h5⟩=>⟨b,h1,h2,h3,h4,GrX.snoc g f e h5⟩
theorem GrX.last{l:List Change}{m d:Int}{k:Nat}(f:¬opens l d k):∀{e:List Hunk} {a:Nat},GrX l m d a e k->e≠[]->GrX l m d a (e.set (e.length-1) (iF l m d k (e.getD (e.length-1) CX))) (k+1)
 | [],_,_,h0=>absurd rfl h0
 | [h],a,⟨b,h1,h2,h3,h4,h5⟩,_=>by
  obtain rfl:b=k:=h5;subst h4;refine⟨b+1,by omega,h2,fun c g j=>?_,rfl,rfl⟩;by_cases i:c=b
  ·rw[i];exact f
  ·exact h3 c g (by omega)
 | h::h'::r,a,⟨b,h1,h2,h3,h4,h5⟩,_=>by
  have n:=GrX.last f h5 (by simp);refine⟨b,h1,h2,h3,h4,?_⟩;simpa using n
theorem yB(l:List Change)(m a:Int):∀k,GrX l m a 0 (H9 l m a k) k
 | 0=>rfl
 | k+1=>by
  have f:=yB l m a k;have d:=(eE l m a k).2;simp only[H9,p6];by_cases b:opens l a k
  ·rw[A5 b];have e:(H9 l m a k++[W6 l a k]).set ((H9 l m a k++[W6 l a k]).length-1) (iF l m a k ((H9 l m a k++[W6 l a k]).getD ((H9 l m a k++[W6 l a k]).length-1) CX))=H9 l m a k++[wN l m a k (k+1)]:=by
    simp[wN]
   rw[e];exact f.snoc b (by omega) (fun c j o=>by omega)
  ·rw[A6 b];refine f.last b ?_;have:k≠0:=fun e=>b (.inl e);have:=d (by omega);intro e;rw[e]at this;simp at this
theorem GrX.len{l:List Change}{m c:Int}:∀{d:List Hunk} {a k:Nat},GrX l m c a d k->d.length<=k-a
 | [],_,_,_=>B37 _
 | _::_,a,k,⟨b,h1,_,_,_,h2⟩=>by have:=GrX.len h2;have:=h2.le;simp only[B31];omega
def fD:List Str->Int->List (Str×Cell)
 | [],_=>[]
 | s::r,i=>(s,.v (.int .i64 i))::fD r (i+1)
theorem IF(s:Str):∀(l:List Str) (i:Int),fD (l++[s]) i=fD l i++[(s,.v (.int .i64 (i+l.length)))]
 | [],i=>by simp[fD]
 | x::r,i=>by
  simp only[B66,fD,IF s r,B31];rw[show i+1+(r.length:Int)=i+((r.length+1:Nat):Int) by omega]
theorem IG(s:Str):∀(l:List Str) (i:Int),s∈l->M5 (fD l i) s=some (.v (.int .i64 (L9 l s i)))
 | [],_,h=>by simp at h
 | x::r,i,h=>by
  simp only[fD,M5,L9];by_cases a:x=s
  ·rw[A5 a,A5 a]
  ·rw[A6 a,A6 a];exact IG s r (i+1) ((B34.1 h).resolve_left (fun q=>a q.symm))
theorem DN(s:Str):∀(l:List Str) (i:Int),s∉l->M5 (fD l i) s=none
 | [],_,_=>rfl
 | x::r,i,h=>by
  simp only[fD,M5];rw[A6 (fun q=>h (by simp[q]))];exact DN s r (i+1) (fun q=>h (by simp[q]))
theorem oP(s:Str)(r:List Str):∀(l:List Str) (i:Int),s∈l->L9 (l++r) s i=L9 l s i
 | [],_,h=>by simp at h
 | x::l,i,h=>by
  simp only[B66,L9];by_cases a:x=s
  ·rw[A5 a,A5 a]
  ·rw[A6 a,A6 a];exact oP s r l (i+1) ((B34.1 h).resolve_left (fun q=>a q.symm))
theorem yC(s:Str):∀(l:List Str) (i:Int),s∉l->L9 (l++[s]) s i=i+l.length
 | [],i,_=>by simp[L9]
 | x::l,i,h=>by
  simp only[B66,L9,B31];rw[A6 (fun q=>h (by simp[q])),yC s l (i+1) (fun q=>h (by simp[q]))];omega
theorem uU:∀(l a:List Str),∃r,l.foldl M8 a=a++r
 | [],a=>⟨[],by simp⟩
 | s::l,a=>by
  obtain⟨r,b⟩:=uU l (M8 a s);rw[B82,b];unfold M8;split
  ·exact⟨r,rfl⟩
  ·exact⟨s::r,by simp⟩
def O3(files:List (List Str))(k j:Nat):List Str:=((files.take k).flatten++(files.getD k []).take j).foldl M8 []
theorem QP(files:List (List Str))(k:Nat):O3 files (k+1) 0=O3 files k (files.getD k []).length:=by
 unfold O3;rw[B68,B71,B38];by_cases h:k<files.length
 ·rw[bM files k h]
  congr 2
  simp[h]
 ·rw[B77 (by omega),B77 (by omega)];have:files.getD k []=[]:=by simp[show files.length<=k by omega]
  rw[this,B71]
theorem LN(files:List (List Str))(k j:Nat)(s:Str)(h:(files.getD k [])[j]?=some s):O3 files k (j+1)=M8 (O3 files k j) s:=by
 unfold O3;have b:j<(files.getD k []).length:=(B28.1 h).1;have a:=(B28.1 h).2;rw[B57 b,a,<-B51,C02];rfl
theorem QQ(files:List (List Str)):O3 files files.length 0=D6 files:=by
 unfold O3 D6;rw[B38];simp
theorem yD(files:List (List Str))(k j:Nat):∃r,D6 files=O3 files k j++r:=by
 have h:∃m,files.flatten=((files.take k).flatten++(files.getD k []).take j)++m:=by
  refine⟨(files.getD k []).drop j++(files.drop (k+1)).flatten,?_⟩;by_cases b:k<files.length
  ·have e:files=files.take k++files.getD k []::files.drop (k+1):=by
    have:files.getD k []=files[k]:=by simp[b]
    rw[this,List.getElem_cons_drop,B87]
   conv=>lhs;rw[e]
   rw[B64,B69,B51]
   congr 1
   rw[<-B51,B87]
  ·have:files.getD k []=[]:=by simp[show files.length<=k by omega]
   rw[this,B77 (by omega:files.length<=k),B53 (by omega:files.length<=k+1)];simp
 obtain⟨m,c⟩:=h;unfold D6 O3;rw[c,C02];obtain⟨r,g⟩:=uU m (((files.take k).flatten++(files.getD k []).take j).foldl M8 []);exact⟨r,g⟩
theorem DO(files:List (List Str))(k j:Nat):(O3 files k j).length<=files.flatten.length:=by
 obtain⟨r,a⟩:=yD files k j;have:=CL files;rw[a,B25]at this;omega
def P2(files:List (List Str))(k:Nat):List TC:=(List.range files.length).map fun r=>if r<k then .p (.list Int 1 E0 (F4 (D6 files) (files.getD r []))) else .p (.v (.slice none 0 0))
theorem A20{files:List (List Str)}{k:Nat}(h:k<files.length):(P2 files k)[k]?=some (.p (.v (.slice none 0 0))):=by
 simp[P2,h]
theorem LO(files:List (List Str))(k m:Nat)(_h:k<files.length):((P2 files k).set k (.buf m Int 1 E0 (F4 (D6 files) (files.getD k [])))).map (TC.forget m)=P2 files (k+1):=by
 have c:(P2 files k).map (TC.forget m)=P2 files k:=by
  unfold P2;rw[B94];apply B80;intro r _;simp only[Function.comp];split<;>rfl
 rw[List.map_set,c];have d:(TC.buf m Int 1 E0 (F4 (D6 files) (files.getD k []))).forget m=.p (.list Int 1 E0 (F4 (D6 files) (files.getD k []))):=by simp[TC.forget]
 rw[d];unfold P2;refine IA _ _ _ _ _ (fun _=>by simp) (fun q n j=>?_);simp only[show (q<k+1)=(q<k) from propext ⟨fun h=>by omega,fun h=>by omega⟩]
theorem VF(files:List (List Str)):List.replicate files.length (TC.p (.v (.slice none 0 0)))=P2 files 0:=by
 unfold P2;simp only[Nat.not_lt_zero,if_false,List.map_const',B93]
theorem VG(files:List (List Str)):P2 files files.length=(files.map (F4 (D6 files))).map fun x=>TC.p (intsC x 0):=by
 unfold P2;apply List.ext_getElem
 ·simp
 ·intro i b d;have c:i<files.length:=by simpa using b
  simp[c,intsC]
theorem XK(m n:Int):∀(l:List Change) (a:Nat) (i j:Int),(∀k,k<l.length->I4 (G7 l k).Old/\I4 (G7 l k).OldLen/\I4 (G7 l k).New/\I4 (G7 l k).NewLen/\(G7 l k).OldLen+(G7 l k).NewLen≠0/\(G7 l k).Old-fC i l k=(G7 l k).New-mV j l k/\fC i l k<=(G7 l k).Old/\(0<a+k->fC i l k<(G7 l k).Old)) ->
  (m-fC i l l.length=n-mV j l l.length/\fC i l l.length<=m)->J7 a i j l m n=true
 | [],a,i,j,_,h=>by
  have b:m-i=n-j/\i<=m:=h;simp only[J7,decide_eq_true_eq];omega
 | c::r,a,i,j,h,he=>by
  simp only[J7,B24,decide_eq_true_eq];refine⟨?_,XK m n r (a+1) _ _ (fun k E=>?_) ?_⟩
  ·obtain⟨b,f,g,o,p,s,u,t⟩:=h 0 (by simp);have b:I4 c.Old:=b;have f:I4 c.OldLen:=f;have g:I4 c.New:=g;have o:I4 c.NewLen:=o;have p:c.OldLen+c.NewLen≠0:=p;have s:c.Old-i=c.New-j:=s;have u:i<=c.Old:=u;have t:0<a+0->i<c.Old:=t;unfold CW;rintro (((((((q | q) | q) | q) | q) | q) | q) | ⟨q,G⟩)
   ·exact q b
   ·exact q f
   ·exact q g
   ·exact q o
   ·exact p q
   ·exact q s
   ·omega
   ·have:=t (by omega);omega
  ·have:=h (k+1) (by simpa using E);rw[uR,eF,eG]at this;obtain⟨v,x,y,z,A,B,C,D⟩:=this;exact⟨v,x,y,z,A,B,C,fun F=>D (by omega)⟩
  ·rw[B31,eF,eG]at he;exact he
theorem XL(x y:List Str):∀(l:List Change) (i j:Int),(∀k,k<l.length->sub x (fC i l k) (G7 l k).Old=sub y (mV j l k) (G7 l k).New)->sub x (fC i l l.length) x.length=sub y (mV j l l.length) y.length->oK x y i j l
 | [],_,_,_,h=>h
 | c::r,i,j,h,he=>by
  refine⟨h 0 (by simp),XL x y r _ _ (fun k a=>?_) ?_⟩
  ·have:=h (k+1) (by simpa using a);rw[uR,eF,eG]at this;exact this
  ·rw[B31,eF,eG]at he;exact he
theorem XM{x:List Str}{p q:Int}{t:Nat}(b:0<=p)(h:p+t<q):(sub x p q)[t]?=x[(p+t).toNat]?:=by
 unfold sub;rw[List.getElem?_take,A5 (by omega),B85]
 congr 1;omega
theorem LP{x y:List Str}{p q b d:Int}(h:sub x p q=sub y b d)(f:0<=p)(c:0<=b)(j:q<=x.length)(i:q-p=d-b){t:Nat}(g:p+t<q):∃v,x[(p+t).toNat]?=some v/\y[(b+t).toNat]?=some v:=by
 have e:x[(p+t).toNat]?=some x[(p+t).toNat]:=B23 (by omega);refine⟨_,e,?_⟩;rw[<-XM (q:=d) c (by omega),<-h,XM f g];exact e
theorem yE{i j:Int}{n:Nat}{p:Span}(h:p∈O2 i j n):∃t:Nat,t<n/\p=⟨i+t,j+t⟩:=by
 unfold O2 at h;obtain⟨t,a,b⟩:=B62.1 h;exact⟨t,B44.1 a,b.symm⟩
theorem DP{x y:List Str}:∀(l:List Change) (e:Nat) (i j:Int),J7 e i j l x.length y.length=true->oK x y i j l->0<=i->0<=j->∀p∈Y7 i j l x.length,EqAt x y p
 | [],e,i,j,hs,d,hi,hj,p,b=>by
  simp only[J7,decide_eq_true_eq]at hs;unfold Y7 at b;obtain⟨t,s,rfl⟩:=yE b;have d:sub x i x.length=sub y j y.length:=d;exact⟨by dsimp only;omega,by dsimp only;omega,LP d hi hj (by omega) (by omega) (by omega)⟩
 | c::r,e,i,j,hs,d,hi,hj,p,b=>by
  have m:=aR _ _ _ _ _ _ hs;have g:=cV x.length y.length (c::r) e i j hs 0 (by simp);obtain⟨g1,f,h,k,u,n,q,_⟩:=g;have g1:I4 c.Old:=g1;have f:I4 c.OldLen:=f;have h:I4 c.New:=h;have k:I4 c.NewLen:=k;have n:c.Old-i=c.New-j:=n;have q:i<=c.Old:=q;simp only[J7,B24,decide_eq_true_eq]at hs;unfold Y7 at b;unfold I4 at g1 f h k;have v:=m.2.2.2.2.2.2.end_le;rcases B36.1 b with b | b
  ·obtain⟨t,s,rfl⟩:=yE b;exact⟨by dsimp only;omega,by dsimp only;omega,LP d.1 hi hj (by omega) (by omega) (by omega)⟩
  ·rw[show max i c.Old+c.OldLen=c.Old+c.OldLen by omega,show j+((c.Old-i).toNat:Int)+c.NewLen=c.New+c.NewLen by omega]at b;exact DP r (e+1) _ _ hs.2 d.2 (by omega) (by omega) p b
theorem ScFit.pairs{x y:List Str}{l:List Change}(h:ScFit x y l):∀p∈j5 l x.length,EqAt x y p:=DP l 0 0 0 h.sc h.eq (Int.le_refl _) (Int.le_refl _)
def jI(c:Change):Change:=⟨c.Old+1,c.OldLen,c.New+1,c.NewLen⟩
def S4(l:List Change)(k:Nat):List Change:=l.set k (jI (G7 l k))
def zQ(t:List Int)(i:Int):Int:=t.getD i.toNat 0
def yF(l:List Change)(k:Nat)(t:List Int)(f n:Int):Prop:=(f+n<t.length/\zQ t f=zQ t (f+n))/\(k+1=l.length\/(G7 l k).Old+(G7 l k).OldLen+1<(G7 l (k+1)).Old)
instance (l:List Change) (k:Nat) (t:List Int) (f n:Int):Decidable (yF l k t f n):=by unfold yF;exact inferInstance
def U4(l:List Change)(a b:List Int)(k:Nat):Bool :=
 if (G7 l k).NewLen=0 then decide (yF l k a (G7 l k).Old (G7 l k).OldLen) else if (G7 l k).OldLen=0 then decide (yF l k b (G7 l k).New (G7 l k).NewLen) else false
theorem O9(l:List Change)(k:Nat):(S4 l k).length=l.length:=by simp[S4]
theorem kE(l:List Change){k:Nat}(a:k<l.length)(q:Nat):G7 (S4 l k) q=if q=k then jI (G7 l k) else G7 l q:=by
 unfold S4;by_cases h:q=k
 ·subst h;have:∀z,G7 (l.set q z) q=z:=fun z=>by unfold G7;simp[a]
  rw[A5 rfl,this]
 ·rw[A6 h];unfold G7;simp only[B30];rw[List.getElem?_set_ne (Ne.symm h)]
theorem uV(l:List Change){k:Nat}(a:k<l.length)(q:Nat):fC 0 (S4 l k) q=fC 0 l q+(if q=k+1 then 1 else 0):=by
 cases q with
 | zero=>simp[fC]
 | succ q =>
  rw[fY,fY,kE l a];by_cases h:q=k
  ·subst h;rw[A5 rfl,A5 rfl];simp only[aW,jI];omega
  ·rw[A6 h,A6 (by omega)];omega
theorem uW(l:List Change){k:Nat}(a:k<l.length)(q:Nat):mV 0 (S4 l k) q=mV 0 l q+(if q=k+1 then 1 else 0):=by
 cases q with
 | zero=>simp[mV]
 | succ q =>
  rw[fZ,fZ,kE l a];by_cases h:q=k
  ·subst h;rw[A5 rfl,A5 rfl];simp only[DC,jI];omega
  ·rw[A6 h,A6 (by omega)];omega
structure IdsOf (x:List Str) (a:List Int):Prop where
 len:a.length=x.length
 inj:∀(i j:Nat) (u v:Str) (z:Int),x[i]?=some u->x[j]?=some v->a[i]?=some z->a[j]?=some z->u=v
theorem ScFit.down{x y:List Str}{l:List Change}{a b:List Int}(h:ScFit x y l)(ha:IdsOf x a)(hb:IdsOf y b){k:Nat}(m:k<l.length)(g:U4 l a b k=true):ScFit x y (S4 l k):=by
 have X:=h.lx;have Y:=h.ly;have Q:=cV _ _ _ 0 0 0 h.sc;have u:=DD _ _ _ 0 0 0 h.sc;have hq:=DE _ _ _ _ _ h.eq;have r:=LL _ _ _ _ _ h.eq;have K:=h.ok;obtain⟨c,p⟩:∃c,c=G7 l k:=⟨_,rfl⟩
 obtain⟨g1,T,g3,U,g5,g6,g7,g8⟩:=Q k m;have W:=K.get k m;rw[<-p]at g1 T g3 U g5 g6 g7 g8 W;unfold I4 at g1 T g3 U;have i:fC 0 l (k+1)=c.Old+c.OldLen:=by rw[fY,<-p];rfl
 have j:mV 0 l (k+1)=c.New+c.NewLen:=by rw[fZ,<-p];rfl
 obtain⟨E,E',H,I,V,ac,ad,J⟩:∃E E':Int,sub x (c.Old+c.OldLen) E=sub y (c.New+c.NewLen) E'/\E-(c.Old+c.OldLen)=E'-(c.New+c.NewLen)/\E<=x.length/\E'<=y.length/\(c.Old+c.OldLen<E)/\(k+1<l.length->E=(G7 l (k+1)).Old/\E'=(G7 l (k+1)).New/\c.Old+c.OldLen+1<E):=by
  by_cases B:k+1=l.length
  ·rw[<-B,i,j]at u r;refine⟨x.length,y.length,r,by omega,by omega,by omega,?_,fun q=>absurd B (by omega)⟩;unfold U4 at g;rw[<-p]at g;split at g
   ·have:=(A1 g).1.1;rw[ha.len]at this;omega
   ·split at g
    ·have:=(A1 g).1.1;rw[hb.len]at this;omega
    ·cases g
  ·have B:k+1<l.length:=by omega
   obtain⟨M,F,P,G,f5,f6,f7,S⟩:=Q (k+1) B;have f9:=hq (k+1) B;have ab:=K.get (k+1) B;rw[i,j]at f6 f9;rw[i]at f7;unfold I4 at F G;have z:c.Old+c.OldLen+1<(G7 l (k+1)).Old:=by
    unfold U4 at g;rw[<-p]at g;split at g
    ·have:=(A1 g).2;rw[<-p]at this;omega
    ·split at g
     ·have:=(A1 g).2;rw[<-p]at this;omega
     ·cases g
   exact⟨_,_,f9,by omega,by omega,by omega,by omega,fun _=>⟨rfl,rfl,z⟩⟩
 have hv:∃v,x[c.Old.toNat]?=some v/\y[c.New.toNat]?=some v:=by
  obtain⟨v,C,v2⟩:=LP (t:=0) H (by omega) (by omega) (by omega) I (by omega);simp only[Int.natCast_zero,Int.add_zero]at C v2;unfold U4 at g;rw[<-p]at g;split at g
  ·rename_i Z;have:=(A1 g).1.2;rw[Z,Int.add_zero]at v2;refine⟨v,?_,v2⟩;have l1:c.Old.toNat<a.length:=by rw[ha.len];omega
   have l2:(c.Old+c.OldLen).toNat<a.length:=by rw[ha.len];omega
   have L:x[c.Old.toNat]?=some x[c.Old.toNat]:=B23 (by omega);have R:a[c.Old.toNat]?=some (zQ a c.Old):=by unfold zQ;rw[B30,B23 l1];rfl
   have D:a[(c.Old+c.OldLen).toNat]?=some (zQ a (c.Old+c.OldLen)):=by unfold zQ;rw[B30,B23 l2];rfl
   rw[<-this]at D;have:=ha.inj _ _ _ _ _ L C R D;rw[L,this]
  ·split at g
   ·rename_i _ Z;have:=(A1 g).1.2;rw[Z,Int.add_zero]at C;refine⟨v,C,?_⟩;have l1:c.New.toNat<b.length:=by rw[hb.len];omega
    have l2:(c.New+c.NewLen).toNat<b.length:=by rw[hb.len];omega
    have L:y[c.New.toNat]?=some y[c.New.toNat]:=B23 (by omega);have R:b[c.New.toNat]?=some (zQ b c.New):=by unfold zQ;rw[B30,B23 l1];rfl
    have D:b[(c.New+c.NewLen).toNat]?=some (zQ b (c.New+c.NewLen)):=by unfold zQ;rw[B30,B23 l2];rfl
    rw[<-this]at D;have:=hb.inj _ _ _ _ _ L v2 R D;rw[L,this]
   ·cases g
 obtain⟨v,C,v2⟩:=hv;have s:0<=fC 0 l k/\0<=mV 0 l k:=by
  cases k with
  | zero=>simp[fC,mV]
  | succ k =>
   obtain⟨M,F,P,G,_⟩:=Q k (by omega);unfold I4 at M F P G;rw[fY,fZ];unfold aW DC;omega
 have A:sub x (c.Old+c.OldLen+1) E=sub y (c.New+c.NewLen+1) E':=by
  have:=oL (e:=E-(c.Old+c.OldLen)-1) H (by omega) (by omega) (by omega) (by omega) I;rw[show E-(E-(c.Old+c.OldLen)-1)=c.Old+c.OldLen+1 by omega,show E'-(E-(c.Old+c.OldLen)-1)=c.New+c.NewLen+1 by omega]at this;exact this
 refine⟨X,Y,XK _ _ _ 0 0 0 (fun q n=>?_) ?_,XL _ _ _ 0 0 (fun q n=>?_) ?_⟩
 ·rw[O9]at n;rw[kE l m,uV l m,uW l m];by_cases e:q=k
  ·rw[A5 e,A6 (show ¬q=k+1 by omega),e,<-p];unfold I4;simp only[jI];refine⟨by omega,T,by omega,U,g5,by omega,by omega,fun _=>by omega⟩
  ·rw[A6 e];obtain⟨M,F,P,G,f5,f6,f7,S⟩:=Q q n;refine⟨M,F,P,G,f5,?_,?_,?_⟩
   ·by_cases f:q=k+1
    ·rw[A5 f];omega
    ·rw[A6 f];omega
   ·by_cases f:q=k+1
    ·rw[A5 f];have:=S (by omega);omega
    ·rw[A6 f];omega
   ·intro h0;by_cases f:q=k+1
    ·rw[A5 f,f,i];have:=(J (by omega))
     omega
    ·rw[A6 f];have:=S h0;omega
 ·rw[O9,uV l m,uW l m];by_cases f:l.length=k+1
  ·rw[A5 f,f,i,j];rw[f,i,j]at u;have h1:E<=x.length:=V;omega
  ·rw[A6 f];omega
 ·rw[O9]at n;rw[kE l m,uV l m,uW l m];by_cases e:q=k
  ·rw[A5 e,A6 (show ¬q=k+1 by omega),e,<-p];simp only[jI,Int.add_zero];have:=hq k m;rw[<-p]at this;rw[kD s.1 g7 C,kD s.2 (by omega) v2,this]
  ·rw[A6 e];by_cases f:q=k+1
   ·rw[A5 f];subst f;obtain⟨q1,q2,_⟩:=J n;rw[i,j,<-q1,<-q2];exact A
   ·rw[A6 f,Int.add_zero,Int.add_zero];exact hq q n
 ·rw[O9,uV l m,uW l m];by_cases f:l.length=k+1
  ·rw[A5 f];rw[f,i,j]at r u ⊢;have:=oL (e:=x.length-(c.Old+c.OldLen)-1) r (by omega) (by omega) (by omega) (by omega) (by omega);rw[show (x.length:Int)-(x.length-(c.Old+c.OldLen)-1)=c.Old+c.OldLen+1 by omega,show (y.length:Int)-(x.length-(c.Old+c.OldLen)-1)=c.New+c.NewLen+1 by omega]at this;exact this
  ·rw[A6 f,Int.add_zero,Int.add_zero];exact r
def iI(l:List Change)(a b:List Int)(k:Nat):Nat:=((a.length:Int)-(G7 l k).Old).toNat+((b.length:Int)-(G7 l k).New).toNat
def eL(a b:List Int)(k:Nat):Nat->List Change->List Change
 | 0,l=>l
 | f+1,l=>if U4 l a b k=true then eL a b k f (S4 l k) else l
def W8(a b:List Int)(l:List Change)(k:Nat):List Change:=eL a b k (iI l a b k) l
def kF(a b:List Int):Nat->List Change->List Change
 | 0,l=>l
 | k+1,l=>kF a b k (W8 a b l k)
def bW(l:List Change):List (Int×Int):=l.map fun c=>(c.OldLen,c.NewLen)
theorem VH{l:List Change}{k:Nat}(b:k<l.length):bW (S4 l k)=bW l:=by
 unfold bW S4;rw[List.map_set];have e:(jI (G7 l k)).OldLen=l[k].OldLen/\(jI (G7 l k)).NewLen=l[k].NewLen:=by unfold G7 jI;simp[b]
 apply List.ext_getElem
 ·simp
 ·intro i c f;by_cases a:k=i
  ·subst a;simp[e.1,e.2]
  ·simp[a]
section
variable {x y:List Str}{a b:List Int} (ha:IdsOf x a) (hb:IdsOf y b)
include ha hb
theorem kG{l:List Change}{k:Nat}(h:ScFit x y l)(c:k<l.length)(q:U4 l a b k=true):iI (S4 l k) a b k<iI l a b k:=by
 have d:=(h.down ha hb c q).ok.get k (by rw[O9];exact c);unfold iI;rw[kE l c,A5 rfl]at d ⊢;obtain⟨⟨f,_⟩,⟨i,_⟩,⟨j,_⟩,⟨m,_⟩,n,p⟩:=d;have r:=ha.len;have s:=hb.len;simp only[jI]at f i j m n p ⊢;omega
theorem rL{k:Nat}:∀(f g:Nat) (l:List Change),ScFit x y l->k<l.length->iI l a b k<=f->iI l a b k<=g->eL a b k f l=eL a b k g l
 | 0,0,l,_,_,_,_=>rfl
 | 0,g+1,l,h,hk,h1,_=>by
  unfold eL;by_cases c:U4 l a b k=true
  ·have:=kG ha hb h hk c;omega
  ·rw[A6 c]
 | f+1,0,l,h,hk,_,h1=>by
  unfold eL;by_cases c:U4 l a b k=true
  ·have:=kG ha hb h hk c;omega
  ·rw[A6 c]
 | f+1,g+1,l,h,hk,h1,h2=>by
  unfold eL;by_cases c:U4 l a b k=true
  ·have:=kG ha hb h hk c;rw[A5 c,A5 c];exact rL f g _ (h.down ha hb hk c) (by rw[O9];exact hk) (by omega) (by omega)
  ·rw[A6 c,A6 c]
theorem FO{l:List Change}{k:Nat}(h:ScFit x y l)(d:k<l.length)(c:U4 l a b k=true):W8 a b l k=W8 a b (S4 l k) k:=by
 have f:=kG ha hb h d c;unfold W8;obtain⟨g,e⟩:∃g,iI l a b k=g+1:=⟨iI l a b k-1,by omega⟩
 rw[e]
 conv=>lhs;unfold eL
 rw[A5 c];exact rL ha hb _ _ _ (h.down ha hb d c) (by rw[O9];exact d) (by omega) (B29 _)
omit ha hb in
theorem FP{l:List Change}{k:Nat}(c:U4 l a b k=false):W8 a b l k=l:=by
 unfold W8;cases iI l a b k with
 | zero=>rfl
 | succ n=>unfold eL;rw[c];rfl
theorem DQ{k:Nat}:∀(f:Nat) (l:List Change),ScFit x y l->k<l.length->ScFit x y (eL a b k f l)/\bW (eL a b k f l)=bW l
 | 0,l,h,_=>⟨h,rfl⟩
 | f+1,l,h,hk=>by
  unfold eL;by_cases c:U4 l a b k=true
  ·rw[A5 c];have:=DQ f _ (h.down ha hb hk c) (by rw[O9];exact hk);rw[VH hk]at this;exact this
  ·rw[A6 c];exact⟨h,rfl⟩
theorem uX{l:List Change}{k:Nat}(h:ScFit x y l)(c:k<l.length):ScFit x y (W8 a b l k)/\bW (W8 a b l k)=bW l:=DQ ha hb _ l h c
omit ha hb in
theorem DR{l a:List Change}(h:bW l=bW a):l.length=a.length:=by
 have:=congrArg List.length h;simpa[bW] using this
theorem uY:∀(k:Nat) (l:List Change),ScFit x y l->k<=l.length->ScFit x y (kF a b k l)/\bW (kF a b k l)=bW l
 | 0,l,h,_=>⟨h,rfl⟩
 | k+1,l,h,hk=>by
  unfold kF;obtain⟨e,c⟩:=uX ha hb h (k:=k) (by omega);have d:=uY k _ e (by rw[DR c];omega);rw[c]at d;exact d
end
theorem pU{names x:List Str}(h:∀s∈x,s∈names):IdsOf x (F4 names x):=by
 refine⟨by simp[F4],fun i j u v z a b d e=>?_⟩;obtain⟨s,s1,s2⟩:=pT d;obtain⟨t,c,t2⟩:=pT e;rw[a]at s1;cases s1;rw[b]at c;cases c;exact oN names u v 0 (Int.le_refl _) (h u (B43 a)) (h v (B43 b)) (s2.trans t2.symm)
def DT(l:List Change)(a b:List Int):List Change:=kF a b l.length l
def lZ(x y:List Str)(d:Bool):List Change:=if d=true then DT (Y8 x y) (F4 (D6 [x,y]) x) (F4 (D6 [x,y]) y) else Y8 x y
def DU(on nn a b:Str)(ctx:Int)(d:Bool):Patch×Int :=
 if c9 on=false\/c9 nn=false then (wL,120)
 else if ctx<0\/1048576<ctx then (wL,3)
 else (⟨on,nn,R1 (lZ (D5 a) (D5 b) d) (D5 a) (D5 b) ctx⟩,0)
theorem oQ(x y:List Str)(d:Bool)(b:x.length<=4096)(c:y.length<=4096):ScFit x y (lZ x y d)/\bW (lZ x y d)=bW (Y8 x y):=by
 have h:=DJ x y b c;unfold lZ;cases d
 ·exact⟨h,rfl⟩
 ·rw[A5 rfl];exact uY (pU fun s a=>aQ _ _ x (by simp) a) (pU fun s a=>aQ _ _ y (by simp) a) _ _ h (B29 _)
theorem QR(x y:List Str)(d:Bool)(a:x.length<=4096)(b:y.length<=4096):(lZ x y d).length<=x.length+1:=by
 rw[DR (oQ x y d a b).2];exact uO x y
theorem A21{l:List Change}{m n ctx:Int}(h:ctx<0\/1048576<ctx):lP l m n ctx=([],3):=by unfold lP;rw[A5 h]
theorem A22{x y:List Str}{l:List Change}(h:ScFit x y l){ctx:Int}(a:¬(ctx<0\/1048576<ctx)):lP l x.length y.length ctx=(H9 l x.length ctx l.length,0):=by
 unfold lP;rw[A6 a,h.check,A6 (by simp)]
structure Made12 (on nn a b:Str) (l:List Change) (ctx:Int):Prop where
 chk:Q6 ⟨on,nn,R1 l (D5 a) (D5 b) ctx⟩=0
 wr:(p7 ⟨on,nn,R1 l (D5 a) (D5 b) ctx⟩).length<=16777216
 fit:PFit ⟨on,nn,R1 l (D5 a) (D5 b) ctx⟩
 rg:∀h∈R1 l (D5 a) (D5 b) ctx,(-4611686018427387904<=h.Old/\h.Old<=4611686018427387904)/\(-4611686018427387904<=h.New/\h.New<=4611686018427387904)
 sz:mT (R1 l (D5 a) (D5 b) ctx)<=268435456
def Few(a:Str):Prop:=a.length<=1048576/\(D5 a).length<=4096
theorem oR{a:Str}(h:Few a):P6 a=(D5 a,0):=by
 obtain⟨b,c⟩:=h;unfold P6;rw[A6 (by omega)]
theorem DV(on nn a b:Str)(l:List Change)(ctx:Int)(y:c9 on=true)(o:c9 nn=true)(S:¬(ctx<0\/1048576<ctx))(ha:Few a)(hb:Few b)(c:ScFit (D5 a) (D5 b) l):Made12 on nn a b l ctx:=by
 obtain⟨ha,C⟩:=ha;obtain⟨hb,D⟩:=hb;obtain⟨K,L⟩:=aC a;obtain⟨M,P⟩:=aC b;obtain⟨s,a2⟩:=gB a;obtain⟨u,A⟩:=gB b;have k:0<=ctx:=by omega
 have v:=c.good k s u a2 A;have H:=c.size k s u;have z:=c.texts k s u;have F:=c.lx;have G:=c.ly;obtain⟨j,i⟩:∃j,j=R1 l (D5 a) (D5 b) ctx:=⟨_,rfl⟩
 rw[<-i]at v H z;have r:=y;have q:=o;unfold c9 at r q;have T:=A1 r;have U:=A1 q;have E:(p7 ⟨on,nn,j⟩).length<=16777216:=by
  have Q:(p7 ⟨on,nn,j⟩).length<=(oH ⟨on,nn,j⟩).flatten.length+mT j:=by
   unfold p7 uL;rw[B64,B25];have:=lS j;show _+((j).map eK).flatten.flatten.length<=_;omega
  have B:=oI ⟨on,nn,j⟩;have R:(oH ⟨on,nn,j⟩).flatten.length<=4*on.length+4*nn.length+14:=B;omega
 refine⟨?_,by rw[<-i];exact E,⟨by dsimp only;omega,by dsimp only;omega,by rw[<-i];dsimp only;omega⟩,fun h x=>?_,by rw[<-i];omega⟩
 ·rw[<-i];unfold Q6;rw[A6 (by rw[show (Patch.mk on nn j).OldName=on from rfl,show (Patch.mk on nn j).NewName=nn from rfl,y,o];simp)];rw[A6 (by rw[v];simp),A6 (by omega)]
 ·rw[<-i]at x;obtain⟨⟨I,J,V,W⟩,_⟩:=z h x;unfold M6 at I;unfold P8 at J;omega
def mA(x y:List Str)(i j:Int):List PatchHunk->Prop
 | []=>sub x i x.length=sub y j y.length/\0<=i/\0<=j/\i<=x.length/\j<=y.length
 | h::r=>(sub x i h.Old=sub y j h.New/\C0 h.Lines 43=sub x h.Old (h.Old+M6 h)/\C0 h.Lines 45=sub y h.New (h.New+P8 h))/\(0<=i/\0<=j/\i<=h.Old/\j<=h.New/\h.Old+M6 h<=x.length/\h.New+P8 h<=y.length)/\mA x y (h.Old+M6 h) (h.New+P8 h) r
def aT(i:Int)(a:List PatchHunk)(k:Nat):Int:=if k=0 then i else (cA a (k-1)).Old+M6 (cA a (k-1))
def bT(j:Int)(a:List PatchHunk)(k:Nat):Int:=if k=0 then j else (cA a (k-1)).New+P8 (cA a (k-1))
theorem XN(i:Int)(h:PatchHunk)(r:List PatchHunk)(k:Nat):aT i (h::r) (k+1)=aT (h.Old+M6 h) r k:=by cases k<;>rfl
theorem XO(i:Int)(h:PatchHunk)(r:List PatchHunk)(k:Nat):bT i (h::r) (k+1)=bT (h.New+P8 h) r k:=by cases k<;>rfl
theorem II{x y:List Str}:∀{a:List PatchHunk} {i j:Int},mA x y i j a->∀k,k<a.length ->
  (sub x (aT i a k) (cA a k).Old=sub y (bT j a k) (cA a k).New/\C0 (cA a k).Lines 43=sub x (cA a k).Old ((cA a k).Old+M6 (cA a k))/\C0 (cA a k).Lines 45=sub y (cA a k).New ((cA a k).New+P8 (cA a k))) /\
   (0<=aT i a k/\0<=bT j a k/\aT i a k<=(cA a k).Old/\bT j a k<=(cA a k).New/\(cA a k).Old+M6 (cA a k)<=x.length/\(cA a k).New+P8 (cA a k)<=y.length)
 | [],_,_,_,k,hk=>by simp at hk
 | h::r,i,j,⟨h1,h2,h3⟩,0,_=>⟨h1,h2⟩
 | h::r,i,j,⟨h1,h2,h3⟩,k+1,hk=>by
  rw[XN,XO];exact II h3 k (by simpa using hk)
theorem IJ{x y:List Str}:∀{a:List PatchHunk} {i j:Int},mA x y i j a->sub x (aT i a a.length) x.length=sub y (bT j a a.length) y.length/\0<=aT i a a.length/\0<=bT j a a.length/\aT i a a.length<=x.length/\bT j a a.length<=y.length
 | [],_,_,h=>h
 | h::r,i,j,⟨_,_,h3⟩=>by rw[B31,XN,XO];exact IJ h3
theorem IK{x y:List Str}{a:List PatchHunk}(h:mA x y 0 0 a):∀k,k<=a.length->bU a x k=sub y 0 (bT 0 a k)
 | 0,_=>by simp[bU,bT,sub]
 | k+1,hk=>by
  obtain⟨⟨g1,j,d⟩,m,g,n,i,o,p⟩:=II h k (by omega);have l:0<=P8 (cA a k):=by unfold P8;omega
  have f:=IK h k (by omega);have b:v8 a k=aT 0 a k:=rfl;have c:bT 0 a (k+1)=(cA a k).New+P8 (cA a k):=rfl;simp only[bU];rw[f,b,g1,d,c,dL y (by omega) g i,dL y (by omega) (by omega) (by omega)]
theorem XP(x:List Str)(i:Int):sub x i x.length=x.drop i.toNat:=by
 unfold sub;rw[B77 (by rw[B47];omega)]
theorem QS{x y:List Str}{b:List PatchHunk}(h:mA x y 0 0 b):bU b x b.length++x.drop (v8 b b.length).toNat=y:=by
 obtain⟨c,f,d,g,e⟩:=IJ h;rw[IK h b.length (B29 _),show v8 b b.length=aT 0 b b.length from rfl,<-XP,c,dL y (by omega) d e,XP];simp
theorem DW{x y:List Str}:∀{a:List PatchHunk} {i j:Int},mA x y i j a->FM a x=a.length
 | [],_,_,_=>rfl
 | h::r,i,j,⟨⟨h1,h2,h3⟩,⟨g1,g2,g3,g4,g5,g6⟩,h4⟩=>by
  have c:=DW h4;have b:fW h x=true:=by
   unfold fW;rw[A6 (by omega)];refine A3 ?_;have e:((C0 h.Lines 43).length:Int)=M6 h:=rfl
   conv=>rhs;rw[h2]
   unfold sub
   congr 1
   omega
  simp only[FM];rw[A5 b,c,B31]
theorem ScFit.chain{x y:List Str}{l:List Change}(h:ScFit x y l){c:Int}(o:0<=c):∀(n:List Hunk) (a:Nat),GrOk l x.length c a n l.length ->
  ∀(i j e:Int),i=fC 0 l a+e->j=mV 0 l a+e->0<=e->e<=c->(a=0->e=0)->i<=x.length->j<=y.length->mA x y i j (n.map (M1 l x y))
 | [],a,f,i,j,e,hi,hj,he,_,_,hix,hjy=>by
  have f:a=l.length:=f;have z:=LL _ _ _ _ _ h.eq;have p:=DD _ _ _ 0 0 0 h.sc;obtain⟨r,s,I,J⟩:=h.nn a (by omega);rw[<-f]at z p;refine⟨?_,by omega,by omega,hix,hjy⟩;have:=oL (e:=x.length-i) z r s (by omega) (by omega) (by omega);rw[show (x.length:Int)-(x.length-i)=i by omega,show (y.length:Int)-(x.length-i)=j by omega]at this;exact this
 | hk::n,a,⟨b,hab,ho,hE,f⟩,i,j,e,hi,hj,he,hec,he0,hix,hjy=>by
  have hb:=f.le;have k:b<l.length->opens l c b:=by
   intro C;cases n with
   | nil=>exact absurd f (by show ¬b=l.length;omega)
   | cons B D=>obtain⟨_,_,q,_⟩:=f;exact q
  obtain⟨w1,K,U,V,W⟩:=h.after o hb k (by omega);obtain⟨R,S,T⟩:=h.before o (show a<l.length by omega) ho;have H:=h.hunk o hab hb ho k;rw[<-hE]at H;obtain⟨P,u⟩:∃P,P=M1 l x y hk:=⟨_,rfl⟩
  rw[<-u]at H;have E:=ScFit.chain h o n b f (P.Old+M6 P) (P.New+P8 P) (eB l x.length c b) H.oe H.ne w1 K (by omega) H.ox H.ny;obtain⟨k1,⟨k2,F⟩,k3,⟨k4,G⟩,k5,k6,k7,k8⟩:=cV _ _ _ _ _ _ h.sc a (show a<l.length by omega);have L:=H.old;have B:=H.new;have M:=H.o0;have Q:=H.n0;have v:e+eA l c a<=(G7 l a).Old-fC 0 l a:=by
   by_cases t:a=0
   ·have:=he0 t;omega
   ·have:=pS ho t;omega
  obtain⟨r,s,I,J⟩:=h.nn a (by omega);have g:i<=P.Old/\j<=P.New/\P.Old-i=P.New-j/\0<=i/\0<=j:=by omega
  have m:=DE _ _ _ _ _ h.eq a (show a<l.length by omega);have A:=oL (e:=(G7 l a).Old-i) m r s (by omega) (by omega) (by omega);rw[show (G7 l a).Old-((G7 l a).Old-i)=i by omega,show (G7 l a).New-((G7 l a).Old-i)=j by omega]at A;have t2:=DF (e:=P.Old-i) A (by omega) (by omega) (by omega) (by omega) (by omega);rw[show i+(P.Old-i)=P.Old by omega,show j+(P.Old-i)=P.New by omega]at t2;rw[B50,<-u];exact⟨⟨t2,H.ol,H.nl⟩,⟨by omega,by omega,g.1,g.2.1,H.ox,H.ny⟩,E⟩
theorem ScFit.chain0{x y:List Str}{l:List Change}(h:ScFit x y l){a:Int}(b:0<=a):mA x y 0 0 (R1 l x y a) :=
 h.chain b _ 0 (gA l x.length a l.length) 0 0 0 rfl rfl (Int.le_refl _) b (fun _=>rfl) (by omega) (by omega)
theorem uZ:∀(y:List Str),(∀s∈y,N1 s=true)->T9 y=true->cP y=true
 | [],_,_=>rfl
 | s::r,h,he=>by
  simp only[T9,B24]at he;simp only[cP,B24];exact⟨⟨h s (B52 ..),he.1⟩,uZ r (fun t a=>h t (B46 _ a)) he.2⟩
theorem DX{p:Patch}{a b:Str}(m:Q6 p=0)(ha:Few a)(hb:Few b)(h:mA (D5 a) (D5 b) 0 0 p.Hunks):fB p a=(b,0):=by
 have o:sK p a=((p.Hunks.length:Int),0):=by
  unfold sK;rw[m,A6 (by simp),oR ha,A6 (by simp),DW h]
 obtain⟨g,i⟩:=gB b;obtain⟨q,r⟩:=aC b;have d:(D5 b).flatten=b:=by have:=oO b [];simpa[D5] using this
 have c:=uZ (D5 b) g i;unfold fB;rw[o,A6 (by simp),A6 (by simp)];unfold zN;rw[QS h];dsimp only;rw[c,A6 (by decide)];unfold y9;have j:=hb.1;have k:=hb.2;rw[c,A6 (by decide),A6 (by omega),d]
def sM(c:UInt8):Bool:=decide (48<=c.toNat/\c.toNat<=57)
def P4(s:Str):Str:=s.takeWhile sM
def mU(a:Str):Nat:=a.foldl (fun n c=>10*n+(c.toNat-48)) 0
def rM(s:Str):Option (Nat×Nat) :=
 if P4 s=[]\/(s.head?=some 48/\1<(P4 s).length)\/2147483647<mU (P4 s) then none else some (mU (P4 s),(P4 s).length)
theorem A23(a:Str)(c:UInt8):mU (a++[c])=10*mU a+(c.toNat-48):=by
 unfold mU;rw[C02];rfl
def rngFin(s:Str)(a c:Nat)(e:Nat):Option (Int×Int×Nat) :=
 if dJ (if 0<c then (a:Int)-1 else a) c=s.take e then some ((if 0<c then (a:Int)-1 else a),(c:Int),e) else none
def rngAt(s:Str):Option (Int×Int×Nat) :=
 match rM s with
 | none=>none
 | some (a,k)=>if s[k]?=some 44 then (match rM (s.drop (k+1)) with | none=>none | some (c,k2)=>rngFin s a c (k+1+k2)) else rngFin s a 1 k
def noNl:Str:=[92,32,78,111,32,110,101,119,108,105,110,101,32,97,116,32,101,110,100,32,111,102,32,102,105,108,101]
def spanAt(l:Str)(i:Nat)(b:Str):Option (Int×Int×Nat):=if (l.drop i).take b.length=b then (match rngAt (l.drop (i+b.length)) with | none=>none | some (a,n,e)=>some (a,n,i+b.length+e)) else none
def headAt(l:Str):Option (Int×Int×Int×Int) :=
 match spanAt l 0 [64,64,32,45] with
 | none=>none
 | some (a,m,i)=>match spanAt l i [32,43] with
  | none=>none
  | some (b,n,j)=>if l.drop j=[32,64,64] then some (a,m,b,n) else none
def trimS(t:Str):Str:=if ended t=true then t.dropLast else t
def addLine(a:List PatchHunk)(x:PatchLine):Option (List PatchHunk):=match a.getLast? with
 | none=>none
 | some h=>some (a.dropLast++[⟨h.Old,h.New,h.Lines++[x]⟩])
def cutLine(a:List PatchHunk)(l:Str):Option (List PatchHunk):=match a.getLast? with
 | none=>none
 | some h=>match h.Lines.getLast? with
  | none=>none
  | some x=>if l=noNl then some (a.dropLast++[⟨h.Old,h.New,h.Lines.dropLast++[⟨x.Kind,trimS x.Text⟩]⟩]) else none
def stepP(d:List PatchHunk)(l:Str):Option (List PatchHunk):=match l with
 | []=>none
 | c::r=>if c=64 then (match headAt l with | none=>none | some (a,_,b,_)=>some (d++[⟨a,b,[]⟩]))
  else if c=32\/c=45\/c=43 then addLine d ⟨c,r++[10]⟩
  else if c=92 then cutLine d l else none
theorem check12_good{p:Patch}(h:Q6 p=0):bS p.Hunks=true:=by
 unfold Q6 at h;split at h
 ·cases h
 ·split at h
  ·cases h
  ·rename_i a;simpa using a
structure CHunk where
 At:List Int
 Rows:List Row
 deriving DecidableEq
structure Comb where
 Path:Str
 Dense:Bool
 Parents:Int
 Hunks:List CHunk
 deriving DecidableEq
def colNum(n k:Nat):Int:=if k=n then -1 else k
def cntC(a:List Row)(n k:Nat):Int:=(colOf a (colNum n k)).length
structure CRead (n:Nat) (h:CHunk):Prop where
 len:h.At.length=n+1
 ne:h.Rows≠[]
 at0:∀k,k<n+1->0<=h.At.getD k 0/\h.At.getD k 0+cntC h.Rows n k<=4096
 rows:∀r∈h.Rows,markOk n r=true/\N1 r.Text=true
theorem getI{l:List Int}{i:Nat}(h:i<l.length):l[i]?=some (l.getD i 0):=by simp[h]
abbrev XQ:Bool->Nat->Cell:=fun b _=>.v (.bool b)
def o4(l:List Int)(i j:Nat):List Int:=(l.set i (I6 l j)).set j (I6 l i)
def upH(a:Int->Int->Bool):Nat->List Int->Nat->List Int
 | 0,l,_=>l
 | f+1,l,j=>if (j-1) / 2=j\/a (I6 l j) (I6 l ((j-1) / 2))=false then l else upH a f (o4 l ((j-1) / 2) j) ((j-1) / 2)
def yZ(bf:Int->Int->Bool)(n:Nat)(l:List Int)(i:Nat):Nat:=if 2*i+2<n/\bf (I6 l (2*i+2)) (I6 l (2*i+1))=true then 2*i+2 else 2*i+1
def gC(bf:Int->Int->Bool)(n:Nat):Nat->List Int->Nat->List Int
 | 0,l,_=>l
 | f+1,l,i=>if n<=2*i+1 then l else if bf (I6 l (yZ bf n l i)) (I6 l i)=false then l else gC bf n f (o4 l i (yZ bf n l i)) (yZ bf n l i)
def vA(a:Int->Int->Bool)(l:List Int)(x:Int):List Int:=upH a (l.length+1) (l++[x]) l.length
def sN(a:Int->Int->Bool)(l:List Int):List Int:=gC a (l.length-1) l.length (o4 l 0 (l.length-1)) 0
theorem O1(l:List Int)(i j:Nat):(o4 l i j).length=l.length:=by simp[o4]
theorem w8{l:List Int}{i j:Nat}(a:i<l.length)(b:j<l.length)(k:Nat):I6 (o4 l i j) k=if k=j then I6 l i else if k=i then I6 l j else I6 l k:=by
 unfold o4;rw[iC (by rw[B76];exact b),iC a];simp only[@eq_comm Nat j k,@eq_comm Nat i k]
theorem P7{l:List Int}{k:Nat}(h:k<l.length):I6 l k=l[k]:=by unfold I6;rw[B23 h];rfl
theorem IL{l:List Int}{i j:Nat}(a:i<l.length)(b:j<l.length)(x:Int):x∈o4 l i j↔x∈l:=by
 have sub:∀{l:List Int} {i j:Nat},i<l.length->j<l.length->∀x,x∈o4 l i j->x∈l:=by
  intro l i j a b x g;obtain⟨k,d,e⟩:=List.getElem_of_mem g;rw[<-P7 d,w8 a b]at e;rw[O1]at d;split at e
  ·rw[<-e,P7 a];exact B32 a
  ·split at e
   ·rw[<-e,P7 b];exact B32 b
   ·rw[<-e,P7 d];exact B32 d
 refine⟨sub a b x,fun g=>?_⟩;have e:o4 (o4 l i j) i j=l:=by
  refine List.ext_getElem (by rw[O1,O1]) fun k h m=>?_;rw[<-P7 h,<-P7 m,w8 (by rw[O1];exact a) (by rw[O1];exact b),w8 a b,w8 a b,w8 a b];by_cases f:k=j
  ·subst f;rw[A5 rfl];by_cases c:i=k
   ·rw[A5 c,c]
   ·rw[A6 c,A5 rfl]
  ·rw[A6 f];by_cases c:k=i
   ·rw[A5 c,A5 rfl,c]
   ·rw[A6 c,A6 f,A6 c]
 exact sub (by rw[O1];exact a) (by rw[O1];exact b) x (by rw[e];exact g)
theorem A80{l:List Int}:l.Nodup↔∀i j,i<l.length->j<l.length->I6 l i=I6 l j->i=j:=by
 constructor
 ·intro h i j a b e;rw[P7 a,P7 b]at e;exact (List.getElem_inj h).1 e
 ·intro h;rw[List.Nodup,List.pairwise_iff_getElem];intro i j a b c e;have:=h i j a b (by rw[P7 a,P7 b];exact e);omega
theorem QT{l:List Int}{i j:Nat}(f:i<l.length)(g:j<l.length)(h:l.Nodup):(o4 l i j).Nodup:=by
 rw[A80]at h ⊢;intro a b ha hb e;rw[O1]at ha hb;rw[w8 f g,w8 f g]at e;by_cases k:a=j<;>by_cases m:b=j
 ·omega
 ·rw[A5 k,A6 m]at e;by_cases c:b=i
  ·rw[A5 c]at e;have:=h _ _ f g e;omega
  ·rw[A6 c]at e;have:=h _ _ f hb e;omega
 ·rw[A6 k,A5 m]at e;by_cases a2:a=i
  ·rw[A5 a2]at e;have:=h _ _ g f e;omega
  ·rw[A6 a2]at e;have:=h _ _ ha f e;omega
 ·rw[A6 k,A6 m]at e;by_cases a2:a=i<;>by_cases c:b=i
  ·omega
  ·rw[A5 a2,A6 c]at e;have:=h _ _ g hb e;omega
  ·rw[A6 a2,A5 c]at e;have:=h _ _ ha g e;omega
  ·rw[A6 a2,A6 c]at e;exact h _ _ ha hb e
structure SameL (l m:List Int):Prop where
 len:m.length=l.length
 mem:∀x,x∈m↔x∈l
 nodup:l.Nodup->m.Nodup
theorem SameL.refl(l:List Int):SameL l l:=⟨rfl,fun _=>Iff.rfl,id⟩
theorem SameL.trans{a b c:List Int}(h:SameL a b)(d:SameL b c):SameL a c:=⟨d.len.trans h.len,fun x=>(d.mem x).trans (h.mem x),fun e=>d.nodup (h.nodup e)⟩
theorem SameL.swap{l:List Int}{i j:Nat}(a:i<l.length)(b:j<l.length):SameL l (o4 l i j):=⟨O1 l i j,IL a b,QT a b⟩
structure Weak (bf:Int->Int->Bool):Prop where
 irr:∀a,bf a a=false
 asy:∀{a b},bf a b=true->bf b a=false
 ntr:∀{a b c},bf a b=false->bf b c=false->bf a c=false
def vB(bf:Int->Int->Bool)(n:Nat)(l:List Int):Prop:=∀k,k<n->0<k->bf (I6 l k) (I6 l ((k-1) / 2))=false
theorem A24{a:Int->Int->Bool}(w:Weak a){n:Nat}{l:List Int}(h:vB a n l):∀k,k<n->a (I6 l k) (I6 l 0)=false:=by
 intro k;induction k using Nat.strongRecOn with
 | _ k d =>
  intro c;by_cases b:k=0
  ·subst b;exact w.irr _
  ·exact w.ntr (h k c (by omega)) (d ((k-1) / 2) (by omega) (by omega))
theorem QU{g:Int->Int->Bool}(w:Weak g){n:Nat}:∀(f j:Nat) (l:List Int),j<f->j<n->n<=l.length ->
  (∀k,k<n->0<k->k≠j->g (I6 l k) (I6 l ((k-1) / 2))=false)->(∀k,k<n->0<k->(k-1) / 2=j->0<j->g (I6 l k) (I6 l ((j-1) / 2))=false) ->
  vB g n (upH g f l j)/\SameL l (upH g f l j)
 | 0,j,l,hf,_,_,_,_=>by omega
 | f + 1,j,l,hf,hj,hl,h1,h2=>by
  unfold upH;split
  ·rename_i h;refine⟨fun k o m=>?_,SameL.refl l⟩;by_cases e:k=j
   ·subst e;rcases h with h | h
    ·omega
    ·exact h
   ·exact h1 k o m e
  ·rename_i h;have C:(j-1) / 2≠j:=fun e=>h (.inl e);have q:g (I6 l j) (I6 l ((j-1) / 2))=true:=by
    cases hb:g (I6 l j) (I6 l ((j-1) / 2))
    ·exact absurd (.inr hb) h
    ·rfl
   have B:(j-1) / 2<l.length:=by omega
   have p:j<l.length:=by omega
   have d:=w8 B p
   obtain⟨a,b⟩:=QU (n:=n) w f ((j-1) / 2) (o4 l ((j-1) / 2) j) (by omega) (by omega) (by rw[O1];exact hl) (fun k o m u=>by
    rw[d,d];by_cases c:k=j
    ·rw[A5 c,c,A6 (by omega),A5 rfl];exact w.asy q
    ·rw[A6 c,A6 u];by_cases x:(k-1) / 2=j
     ·rw[A5 x];exact h2 k o m x (by omega)
     ·rw[A6 x];by_cases y:(k-1) / 2=(j-1) / 2
      ·rw[A5 y];have v:=h1 k o m c;rw[y]at v;exact w.ntr v (w.asy q)
      ·rw[A6 y];exact h1 k o m c) (fun k o m e v=>by
    rw[d,d,A6 (show ¬((j-1) / 2-1) / 2=j by omega),A6 (show ¬((j-1) / 2-1) / 2=(j-1) / 2 by omega)];have z:=h1 ((j-1) / 2) (by omega) v (by omega);by_cases c:k=j
    ·rw[A5 c];exact z
    ·rw[A6 c,A6 (by omega)];have A:=h1 k o m c;rw[e]at A
     exact w.ntr A z)
   exact⟨a,(SameL.swap B p).trans b⟩
theorem QV{a:Int->Int->Bool}(w:Weak a){l:List Int}(x:Int)(h:vB a l.length l):vB a (l.length+1) (vA a l x)/\SameL (l++[x]) (vA a l x):=by
 unfold vA;have b:∀k,k<l.length->I6 (l++[x]) k=I6 l k:=fun k c=>by unfold I6;rw[B59 c]
 refine QU w (n:=l.length+1) (l.length+1) l.length (l++[x]) (by omega) (by omega) (by simp) (fun k c d f=>?_) (fun k c d e g=>by omega);rw[b k (by omega),b _ (by omega)];exact h k (by omega) d
theorem XR{bf:Int->Int->Bool}{n:Nat}{l:List Int}{i:Nat}(h:2*i+1<n):yZ bf n l i<n/\(yZ bf n l i-1) / 2=i/\i<yZ bf n l i:=by
 unfold yZ;split<;>omega
theorem A81{bf:Int->Int->Bool}(w:Weak bf){n:Nat}{l:List Int}{i k:Nat}(d:k<n)(c:0<k)(e:(k-1) / 2=i):bf (I6 l k) (I6 l (yZ bf n l i))=false:=by
 unfold yZ;split
 ·rename_i h;by_cases a:k=2*i+2
  ·rw[a];exact w.irr _
  ·rw[show k=2*i+1 by omega];exact w.asy h.2
 ·rename_i h;by_cases a:k=2*i+1
  ·rw[a];exact w.irr _
  ·have b:k=2*i+2:=by omega
   rw[b];cases hb:bf (I6 l (2*i+2)) (I6 l (2*i+1))
   ·rfl
   ·exact absurd ⟨by omega,hb⟩ h
theorem DY{bf:Int->Int->Bool}(w:Weak bf){n:Nat}:∀(f i:Nat) (l:List Int),n<=i+f->n<=l.length ->
  (∀k,k<n->0<k->(k-1) / 2≠i->bf (I6 l k) (I6 l ((k-1) / 2))=false)->(∀k,k<n->0<k->(k-1) / 2=i->0<i->bf (I6 l k) (I6 l ((i-1) / 2))=false) ->
  vB bf n (gC bf n f l i)/\SameL l (gC bf n f l i)/\∀k,n<=k->I6 (gC bf n f l i) k=I6 l k
 | 0,i,l,hf,_,h1,h2=>by
  unfold gC;exact⟨fun k d g=>h1 k d g (by omega),SameL.refl l,fun _ _=>rfl⟩
 | f + 1,i,l,hf,hl,h1,h2=>by
  unfold gC;split
  ·exact⟨fun k d g=>h1 k d g (by omega),SameL.refl l,fun _ _=>rfl⟩
  ·rename_i E;obtain⟨z,o,C⟩:=XR (bf:=bf) (l:=l) (show 2*i+1<n by omega);have q:=fun k d g e=>A81 (bf:=bf) w (n:=n) (l:=l) (i:=i) (k:=k) d g e;generalize yZ bf n l i=j at z o C q;split
   ·rename_i h;refine⟨fun k d g=>?_,SameL.refl l,fun _ _=>rfl⟩;by_cases e:(k-1) / 2=i
    ·rw[e];exact w.ntr (q k d g e) h
    ·exact h1 k d g e
   ·rename_i h;have x:bf (I6 l j) (I6 l i)=true:=by simpa using h
    have A:i<l.length:=by omega
    have B:j<l.length:=by omega
    have m:=w8 A B
    obtain⟨a,b,c⟩:=DY (n:=n) w f j (o4 l i j) (by omega) (by rw[O1];exact hl) (fun k d g y=>by
     rw[m,m];rw[A6 (show ¬(k-1) / 2=j from y)];by_cases u:k=j
     ·rw[A5 u];rw[u,A5 o];exact w.asy x
     ·rw[A6 u];by_cases p:(k-1) / 2=i
      ·rw[A5 p,A6 (by omega)];exact q k d g p
      ·rw[A6 p];by_cases v:k=i
       ·rw[A5 v,v];exact h2 j z (by omega) o (by omega)
       ·rw[A6 v];exact h1 k d g p) (fun k d g e D=>by
     rw[m,m,A6 (by omega),A6 (by omega),o,A6 (by omega),A5 rfl];have:=h1 k d g (by omega)
     rw[e]at this;exact this)
    refine⟨a,(SameL.swap A B).trans b,fun k d=>?_⟩;rw[c k d,m,A6 (by omega),A6 (by omega)]
theorem popH_ok{f:Int->Int->Bool}(w:Weak f){l:List Int}(h:vB f l.length l)(p:0<l.length) :
  vB f (l.length-1) (sN f l)/\SameL l (sN f l)/\I6 (sN f l) (l.length-1)=I6 l 0:=by
 unfold sN;have j:0<l.length:=p;have m:l.length-1<l.length:=by omega
 have d:=w8 j m
 obtain⟨a,b,c⟩:=DY w (n:=l.length-1) l.length 0 (o4 l 0 (l.length-1)) (by omega) (by rw[O1];omega) (fun k o g i=>by
  rw[d,d,A6 (by omega),A6 (by omega),A6 (by omega),A6 i]
  exact h k (by omega) g) (fun k o g e q=>by omega)
 refine⟨a,(SameL.swap j m).trans b,?_⟩;rw[c _ (B29 _),d,A5 rfl]
def eM(g:Graph)(c:Nat):Int:=(g[c]?.map (·.Date)).getD 0
def T5(g:Graph)(a b:Int):Bool:=decide (eM g a.toNat>eM g b.toNat\/(eM g a.toNat=eM g b.toNat/\a<b))
theorem pV(g:Graph):Weak (T5 g) where
 irr:=fun a=>by unfold T5;rw[decide_eq_false_iff_not];omega
 asy:=fun {a b} h=>by unfold T5 at h ⊢;rw[decide_eq_true_eq]at h;rw[decide_eq_false_iff_not];omega
 ntr:=fun {a b c} h d=>by unfold T5 at h d ⊢;rw[decide_eq_false_iff_not]at h d ⊢;omega
def eN(g:Graph)(inn:List Bool)(L:List Int)(c:Nat):Bool:=L1 inn c&&decide ((c:Int)∉L)&&(List.range g.length).all fun k=>!(decide ((c:Int)∈D8 g k)&&L1 inn k&&decide ((k:Int)∉L))
def sO(g:Graph)(b:List Bool)(L:List Int):Nat->Int
 | 0 => -1
 | m+1=>if eN g b L m=true/\(sO g b L m<0\/eM g m>eM g (sO g b L m).toNat) then m else sO g b L m
def iJ(g:Graph)(a:List Bool)(L:List Int):Int:=sO g a L g.length
def wQ(g:Graph)(inn:List Bool):Nat->List Int->List Int
 | 0,L=>L
 | f+1,L=>if iJ g inn L<0 then L else wQ g inn f (L++[iJ g inn L])
def vC(g:Graph)(s:List Int):List Int:=wQ g (U3 g s) (g.length+1) []
theorem pW(g:Graph)(d:List Bool)(L:List Int):∀m,(sO g d L m = -1/\∀c,c<m->eN g d L c=false)\/∃b:Nat,b<m/\sO g d L m=b/\eN g d L b=true/\∀c,c<m->eN g d L c=true->c≠b->T5 g b c=true
 | 0=>.inl ⟨rfl,fun _ h=>by omega⟩
 | m + 1=>by
  rw[sO];rcases pW g d L m with ⟨p,j⟩ | ⟨b,p,j,h3,h4⟩
  ·rw[p];cases q:eN g d L m
   ·rw[A6 (by simp)]
    exact .inl ⟨rfl,fun c k=>by
     by_cases e:c=m
     ·rw[e];exact q
     ·exact j c (by omega)⟩
   ·rw[A5 ⟨rfl,.inl (by omega)⟩];exact .inr ⟨m,by omega,rfl,q,fun c k a f=>by rw[j c (by omega)]at a;cases a⟩
  ·rw[j];split
   ·rename_i h;have o:eM g m>eM g b:=by
     rcases h.2 with h | h
     ·omega
     ·simpa using h
    refine .inr ⟨m,by omega,rfl,h.1,fun c k a f=>?_⟩;unfold T5;rw[decide_eq_true_eq,B26,B26];by_cases e:c=b
    ·subst e;exact .inl o
    ·have:=A1 (h4 c (by omega) a e);rw[B26,B26]at this;omega
   ·rename_i h;refine .inr ⟨b,by omega,rfl,h3,fun c k a f=>?_⟩;by_cases e:c=m
    ·subst e;unfold T5;rw[decide_eq_true_eq,B26,B26];have:¬eM g c>eM g b:=fun o=>h ⟨a,.inr (by simpa using o)⟩;omega
    ·exact h4 c (by omega) a f
theorem VI{g:Graph}{a:List Bool}{L:List Int}(h:∀c,c<g.length->eN g a L c=false):iJ g a L = -1:=by
 rcases pW g a L g.length with d | ⟨b,d,_,h3,_⟩
 ·exact d.1
 ·rw[h b d]at h3;cases h3
theorem A82{g:Graph}{a:List Bool}{L:List Int}{b:Nat}(hb:b<g.length)(f:eN g a L b=true)(h:∀c,c<g.length->eN g a L c=true->T5 g c b=false):iJ g a L=b:=by
 rcases pW g a L g.length with d | ⟨b',d,h2,h3,h4⟩
 ·rw[d.2 b hb]at f;cases f
 ·unfold iJ;rw[h2];by_cases e:b=b'
  ·rw[e]
  ·have:=h4 b hb f e;rw[h b' d h3]at this;cases this
theorem A25{g:Graph}{inn:List Bool}{L:List Int}(h:0<=iJ g inn L):∃b:Nat,b<g.length/\iJ g inn L=b/\L1 inn b=true/\(b:Int)∉L:=by
 rcases pW g inn L g.length with a | ⟨b,a,h2,h3,_⟩
 ·have:iJ g inn L = -1:=a.1;omega
 ·unfold eN at h3;rw[B24,B24,decide_eq_true_eq]at h3;exact⟨b,a,h2,h3.1.1,h3.1.2⟩
theorem A26{g:Graph}{a:List Bool}{f:Nat}{L:List Int}(b:0<f)(h:0<=iJ g a L):wQ g a f L=wQ g a (f-1) (L++[iJ g a L]):=by
 obtain⟨f,rfl⟩:∃k,f=k+1:=⟨f-1,by omega⟩
 rw[wQ,A6 (by omega)];rfl
theorem A83{g:Graph}{a:List Bool}{f:Nat}{L:List Int}(h:iJ g a L<0):wQ g a f L=L:=by
 cases f with
 | zero=>rfl
 | succ f=>rw[wQ,A5 h]
theorem QW{g:Graph}{inn:List Bool}:∀(f:Nat) (L:List Int),L.Nodup->(∀x∈L,0<=x/\x<g.length)->(wQ g inn f L).Nodup/\∀x∈wQ g inn f L,0<=x/\x<g.length
 | 0,L,h,h2=>⟨h,h2⟩
 | f+1,L,h,h2=>by
  rw[wQ];split
  ·exact⟨h,h2⟩
  ·rename_i hb;obtain⟨b,k,c,_,i⟩:=A25 (g:=g) (inn:=inn) (L:=L) (by omega);rw[c];refine QW f _ (List.nodup_append.2 ⟨h,by simp,fun x a y j e=>by rw[B33.1 j]at e;exact i (e ▸ a)⟩) fun x a=>?_;rcases B36.1 a with a | a
   ·exact h2 x a
   ·rw[B33.1 a];omega
theorem yG(g:Graph)(s:List Int):(vC g s).Nodup/\∀x∈vC g s,0<=x/\x<g.length:=QW _ [] List.nodup_nil fun _ h=>by cases h
def wR(g:Graph)(inn:List Bool)(ex:List Int)(p:Nat):Nat:=(List.range g.length).countP fun c:Nat=>L1 inn c&&decide ((c:Int)∉ex/\(p:Int)∈D8 g c)
theorem IM{g:Graph}{inn:List Bool}{ex:List Int}{x p:Nat}(h:(x:Int)∉ex)(a:x<g.length)(b:L1 inn x=true):wR g inn ex p=wR g inn (ex++[(x:Int)]) p+(if (p:Int)∈D8 g x then 1 else 0):=by
 unfold wR;rw[sF (q:=fun c=>L1 inn c&&decide ((c:Int)∉ex/\(p:Int)∈D8 g c)) (r:=fun c=>L1 inn c&&decide ((c:Int)∉ex++[(x:Int)]/\(p:Int)∈D8 g c)) x (fun y=>?_) List.nodup_range]
 ·congr 1
  simp only[B44,a,true_and,decide_eq_true_eq,h,not_false_eq_true,b,B79]
 ·simp only[B36,B33];by_cases d:(y:Int)∈ex<;>by_cases e:y=x<;>by_cases f:(p:Int)∈D8 g y<;>cases L1 inn y<;>simp[d,e,f]<;>omega
theorem A27{g:Graph}{inn:List Bool}{ex:List Int}{p:Nat}:wR g inn ex p=0↔∀c,c<g.length->L1 inn c=true->(p:Int)∈D8 g c->(c:Int)∈ex:=by
 unfold wR;rw[List.countP_eq_zero];constructor
 ·intro h c b e f;have:=h c (B44.2 b);rw[e,B79,decide_eq_true_eq]at this;apply B55;exact fun d=>this ⟨d,f⟩
 ·intro h c b a;rw[B24,decide_eq_true_eq]at a;exact a.2.1 (h c (B44.1 b) a.1 a.2.2)
theorem LQ(g:Graph)(inn:List Bool)(ex:List Int)(p:Nat):wR g inn ex p<=g.length:=by
 unfold wR;have:=List.countP_le_length (p:=fun c=>L1 inn c&&decide ((c:Int)∉ex/\(p:Int)∈D8 g c)) (l:=List.range g.length)
 rwa[B93]at this
structure OInv (g:Graph) (inn:List Bool) (k i:Nat) (ch hp out:List Int):Prop where
 len:ch.length=g.length
 cnt:∀p,p<g.length->L1 inn p=true->I6 ch p+(if (p:Int)∈(D8 g (out.getD k 0).toNat).take i then 1 else 0)=wR g inn (out.take k) p
 off:∀p,p<g.length->L1 inn p=false->I6 ch p = -1
 hpm:∀p:Nat,(p:Int)∈hp↔p<g.length/\L1 inn p=true/\(p:Int)∉out/\I6 ch p=0
 hpr:∀x∈hp,0<=x/\x<g.length
 hpn:hp.Nodup
 heap:vB (T5 g) hp.length hp
 outn:out.Nodup
 outr:∀x∈out,0<=x/\x<g.length/\L1 inn x.toNat=true/\I6 ch x.toNat=0
theorem OInv.ready{g:Graph}{inn:List Bool}{m b a:List Int}(h:OInv g inn a.length 0 m b a){c:Nat}(n:c<g.length):eN g inn a c=true↔(c:Int)∈b:=by
 rw[h.hpm];unfold eN;rw[B24,B24,decide_eq_true_eq,B27];have key:L1 inn c=true->((∀x∈List.range g.length,(!(decide ((c:Int)∈D8 g x)&&L1 inn x&&decide ((x:Int)∉a)))=true)↔I6 m c=0):=by
  intro o;have d:=h.cnt c n o;rw[B38,B68,A6 (by simp)]at d;have f:=A27 (g:=g) (inn:=inn) (ex:=a) (p:=c);constructor
  ·intro i;have:wR g inn a c=0:=f.2 fun k l e b=>by
    have:=i k (B44.2 l);simpa[b,e] using this
   omega
  ·intro q k l;cases e:L1 inn k
   ·simp
   ·by_cases b:(c:Int)∈D8 g k
    ·have:=f.1 (by omega) k (B44.1 l) e b;simp[b,this]
    ·simp[b]
 constructor
 ·rintro⟨⟨d,f⟩,j⟩;exact⟨n,d,f,(key d).1 j⟩
 ·rintro⟨_,d,f,j⟩;exact⟨⟨d,f⟩,(key d).2 j⟩
theorem OInv.fin{g:Graph}{b:List Bool}{d a:List Int}(h:OInv g b a.length 0 d [] a):iJ g b a = -1 :=
 VI fun c e=>by
  cases f:eN g b a c
  ·rfl
  ·have:=(h.ready e).1 f;cases this
theorem OInv.le{g:Graph}{b:List Bool}{k i:Nat}{e c a:List Int}(h:OInv g b k i e c a):a.length<=g.length/\c.length<=g.length :=
 ⟨bP h.outn fun x d=>⟨(h.outr x d).1,(h.outr x d).2.1⟩,bP h.hpn h.hpr⟩
theorem A28{l m:List Int}{n:Nat}(v:n+1=l.length)(q:SameL l m)(j:l.Nodup){x:Int}(r:I6 m n=x):(∀y,y∈m.take n↔y∈l/\y≠x)/\(m.take n).Nodup/\(m.take n).length=n:=by
 have s:m.length=n+1:=by rw[q.len,v]
 have i:=q.nodup j;have c:n<m.length:=by omega
 have e:m=m.take n++[x]:=by
  have f:m.take (n+1)=m:=B77 (by omega);rw[B48,B23 c,B54]at f;rw[P7 c]at r;rw[r]at f;exact f.symm
 have a:=i;rw[e,List.nodup_append]at a;refine⟨fun y=>?_,a.1,by rw[B42];omega⟩;rw[<-q.mem y];constructor
 ·intro b;exact⟨B90 b,a.2.2 y b x (by simp)⟩
 ·rintro⟨b,k⟩;rw[e]at b;rcases B36.1 b with b | b
  ·exact b
  ·exact absurd (B33.1 b) k
theorem OInv.pop{g:Graph}{m:List Bool}{B b f:List Int}(h:OInv g m f.length 0 B b f)(u:0<b.length) :
  iJ g m f=I6 b 0/\OInv g m f.length 0 B ((sN (T5 g) b).take (b.length-1)) (f++[I6 b 0])/\I6 (sN (T5 g) b) (b.length-1)=I6 b 0:=by
 have z:I6 b 0∈b:=by rw[P7 u];exact B32 u
 have K:=h.hpr _ z;obtain⟨c,q⟩:∃c:Nat,I6 b 0=c:=⟨(I6 b 0).toNat,by omega⟩
 have i:=(h.hpm c).1 (by rw[<-q];exact z);obtain⟨I,J,E⟩:=popH_ok (pV g) h.heap u;obtain⟨A,t2,t3⟩:=A28 (n:=b.length-1) (by omega) J h.hpn E;have hb:iJ g m f=c:=A82 i.1 ((h.ready i.1).2 (by rw[<-q];exact z)) fun d F v=>by
  obtain⟨j,r,e⟩:=List.getElem_of_mem ((h.ready F).1 v);have:=A24 (pV g) h.heap j r;rw[P7 r,e,q]at this;exact this
 refine⟨by rw[hb,q],?_,E⟩;rw[q]at A ⊢;refine⟨h.len,fun p b G=>?_,h.off,fun p=>?_,fun x l=>h.hpr x ((A x).1 l).1,t2,?_,?_,?_⟩
 ·have C:=h.cnt p b G;rw[B68,A6 (by simp)]at C ⊢;rw[eD (B29 _)];exact C
 ·rw[A,h.hpm,B36,B33,not_or];constructor
  ·rintro⟨⟨s,a2,a3,a4⟩,a5⟩;exact⟨s,a2,⟨a3,a5⟩,a4⟩
  ·rintro⟨s,a2,⟨a3,a5⟩,a4⟩;exact⟨⟨s,a2,a3,a4⟩,a5⟩
 ·rw[t3];intro k D w;have e:∀j,j<b.length-1->I6 ((sN (T5 g) b).take (b.length-1)) j=I6 (sN (T5 g) b) j:=fun j r=>by
   unfold I6;rw[List.getElem?_take,A5 r]
  rw[e k D,e _ (by omega)];exact I k D w
 ·exact List.nodup_append.2 ⟨h.outn,by simp,fun x l y H e=>by rw[B33.1 H]at e;exact i.2.2.1 (e ▸ l)⟩
 ·intro x l;rcases B36.1 l with l | l
  ·exact h.outr x l
  ·rw[B33.1 l,B26];exact⟨by omega,by omega,i.2.1,i.2.2.2⟩
theorem OInv.step{g:Graph}{inn:List Bool}(T:related g=true)(K:iB g inn){k i:Nat}{o D b:List Int}(h:OInv g inn k i o D b)(W:k+1=b.length){c p:Nat}(A:b[k]?=some (c:Int))(H:i<(D8 g c).length)(u:(D8 g c)[i]=(p:Int)) :
  p<g.length/\1<=I6 o p/\I6 o p<=g.length/\D.length<g.length/\OInv g inn k (i+1) (Z8 o p) (if I6 o p-1=0 then vA (T5 g) D p else D) b:=by
 have hkl:k<b.length:=by omega
 have A:b[k]=(c:Int):=by rw[B23 hkl]at A;exact B81 A
 have hpr:=K9 T c;have hpm:(p:Int)∈D8 g c:=by rw[<-u];exact B32 H
 have f:p<g.length:=by have:=hpr.1 p hpm;omega
 have B:=h.outr b[k] (B32 hkl);rw[A,B26]at B;have E:c<g.length:=by omega
 have s:L1 inn p=true:=by have:=K c B.2.2.1 p hpm;rwa[B26]at this
 have C:b.getD k 0=(c:Int):=by rw[B30,B23 hkl];exact A
 have N:(c:Int)∉b.take k:=by rw[<-A];exact c8 h.outn hkl
 have M:(p:Int)∉(D8 g c).take i:=by rw[<-u];exact c8 hpr.2 H
 have P:=h.cnt p f s;rw[C,B26,A6 M]at P;have Q:=IM (g:=g) (inn:=inn) (ex:=b.take k) (x:=c) (p:=p) N E B.2.2.1;rw[A5 hpm]at Q;have S:=LQ g inn (b.take k) p;have L:1<=I6 o p:=by omega
 have m:(p:Int)∉b:=fun j=>by have:=(h.outr _ j).2.2.2;rw[B26]at this;omega
 have w:(p:Int)∉D:=fun j=>by have:=((h.hpm p).1 j).2.2.2;omega
 have v:∀q,I6 (Z8 o p) q=if p=q then I6 o p-1 else I6 o q:=fun q=>by
  unfold Z8;rw[B26,iC (by rw[h.len];exact f)]
 have F:D.length<g.length:=by
  have:=bP (l:=(c:Int)::D) (n:=g.length) (List.nodup_cons.2 ⟨fun j=>((h.hpm c).1 j).2.2.1 (by rw[<-A];exact B32 hkl),h.hpn⟩) fun x d=>by
   rcases B34.1 d with rfl | d
   ·omega
   ·exact h.hpr x d
  rw[B31]at this;omega
 obtain⟨V,G⟩:=QV (pV g) (p:Int) h.heap;refine⟨f,L,by omega,F,⟨by unfold Z8;rw[B76];exact h.len,?_,?_,?_,?_,?_,?_,h.outn,?_⟩⟩
 ·intro q O I;rw[C,B26,v q];by_cases e:p=q
  ·subst e;rw[A5 rfl,A5 ((S9 H).2 (.inr u.symm))];omega
  ·rw[A6 e];have z:=h.cnt q O I;rw[C,B26]at z;have R:((q:Int)∈(D8 g c).take (i+1))↔(q:Int)∈(D8 g c).take i:=by
    rw[S9 H,u];exact⟨fun h=>h.resolve_right (by omega),.inl⟩
   simp only[R];exact z
 ·intro q O I;rw[v q,A6 (fun e=>by rw[e,I]at s;cases s)];exact h.off q O I
 ·intro q;rw[v q];by_cases e:p=q
  ·subst e;rw[A5 rfl];split
   ·rename_i J;rw[G.mem];exact⟨fun _=>⟨f,s,m,J⟩,fun _=>by simp⟩
   ·rename_i J;exact⟨fun j=>absurd j w,fun j=>absurd j.2.2.2 J⟩
  ·rw[A6 e,<-h.hpm q];split
   ·rw[G.mem,B36,B33];exact⟨fun j=>j.resolve_right (by omega),.inl⟩
   ·exact Iff.rfl
 ·intro x d;split at d
  ·rw[G.mem,B36,B33]at d;rcases d with d | rfl
   ·exact h.hpr x d
   ·omega
  ·exact h.hpr x d
 ·split
  ·exact G.nodup (List.nodup_append.2 ⟨h.hpn,by simp,fun x d y U e=>by rw[B33.1 U]at e;exact w (e ▸ d)⟩)
  ·exact h.hpn
 ·split
  ·rw[G.len,B25,B41];exact V
  ·exact h.heap
 ·intro x d;have z:=h.outr x d;refine⟨z.1,z.2.1,z.2.2.1,?_⟩;rw[v,A6 (fun e=>m (by rw[show ((p:Nat):Int)=x by omega];exact d))];exact z.2.2.2
theorem OInv.next{g:Graph}{inn:List Bool}{k:Nat}{m f a:List Int}(r:k+1=a.length){c:Nat}(b:a[k]?=some (c:Int))(h:OInv g inn k (D8 g c).length m f a):OInv g inn a.length 0 m f a:=by
 refine { h with cnt:=fun p f s=>?_ };have hkl:k<a.length:=by omega
 have b:a[k]=(c:Int):=by rw[B23 hkl]at b;exact B81 b
 have o:=h.cnt p f s;have i:a.getD k 0=(c:Int):=by rw[B30,B23 hkl];exact b
 have d:=h.outr a[k] (B32 hkl);rw[b,B26]at d;rw[i,B26,B38]at o;have q:=IM (g:=g) (inn:=inn) (ex:=a.take k) (x:=c) (p:=p) (by rw[<-b];exact c8 h.outn hkl) (by omega) d.2.2.1;have e:a.take (k+1)=a.take k++[(c:Int)]:=by rw[B48,B23 hkl,B54,b]
 rw[<-r,e,B68,A6 (by simp)];split at o
 ·rename_i j;rw[A5 j]at q;omega
 ·rename_i j;rw[A6 j]at q;omega
structure HInv (g:Graph) (ch hp:List Int) (i:Nat):Prop where
 mem:∀p:Nat,(p:Int)∈hp↔p<i/\I6 ch p=0
 rng:∀x∈hp,0<=x/\x<i
 nodup:hp.Nodup
 heap:vB (T5 g) hp.length hp
theorem HInv.nil(g:Graph)(a:List Int):HInv g a [] 0:=⟨fun p=>by simp,(fun _ h=>by cases h),List.nodup_nil,fun k b=>by simp at b⟩
theorem HInv.le{g:Graph}{b a:List Int}{i:Nat}(h:HInv g b a i):a.length<=i:=bP h.nodup h.rng
theorem HInv.step{g:Graph}{f k:List Int}{i:Nat}(h:HInv g f k i):HInv g f (if I6 f i=0 then vA (T5 g) k (i:Int) else k) (i+1):=by
 obtain⟨o,d⟩:=QV (pV g) (i:Int) h.heap;split
 ·rename_i j;refine⟨fun p=>?_,fun x c=>?_,d.nodup (List.nodup_append.2 ⟨h.nodup,by simp,fun x c y m e=>by rw[B33.1 m]at e;have:=h.rng x c;omega⟩),by rw[d.len,B25,B41];exact o⟩
  ·rw[d.mem,B36,B33,h.mem];constructor
   ·rintro (⟨a,b⟩ | e)
    ·exact⟨by omega,b⟩
    ·have e:p=i:=by omega
     subst e;exact⟨by omega,j⟩
   ·rintro⟨a,b⟩;by_cases e:p=i
    ·right;omega
    ·exact .inl ⟨by omega,b⟩
  ·rw[d.mem,B36,B33]at c;rcases c with c | rfl
   ·have:=h.rng x c;omega
   ·omega
 ·rename_i j;refine⟨fun p=>?_,fun x c=>by have:=h.rng x c;omega,h.nodup,h.heap⟩;rw[h.mem];constructor
  ·rintro⟨a,b⟩;exact⟨by omega,b⟩
  ·rintro⟨a,b⟩;refine⟨?_,b⟩;apply B55;intro q;have:p=i:=by omega
   subst this;exact j b
def VJ(g:Graph)(D:List Int)(p:Nat):Nat:=D.countP fun x=>decide ((p:Int)∈D8 g x.toNat)
structure DInv (g:Graph) (inn:List Bool) (st:List Int) (k i:Nat) (ch opn D:List Int):Prop where
 len:ch.length=g.length
 nodup:(D++opn).Nodup
 on:∀x∈D++opn,0<=x/\x<g.length/\L1 inn x.toNat=true
 cnt:∀p:Nat,(p:Int)∈D++opn->I6 ch p=VJ g (D.take k) p+(if (p:Int)∈(D8 g (D.getD k 0).toNat).take i then 1 else 0)
 off:∀p,p<g.length->(p:Int)∉D++opn->I6 ch p = -1
 clo:∀x∈D.take k,∀p∈D8 g x.toNat,p∈D++opn
 clo2:∀p∈(D8 g (D.getD k 0).toNat).take i,p∈D++opn
 sts:∀f∈st,f∈D++opn
theorem DInv.start(g:Graph)(a:List Bool):DInv g a [] 0 0 (List.replicate g.length (-1)) [] [] where
 len:=by simp
 nodup:=List.nodup_nil
 on:=fun _ h=>by cases h
 cnt:=fun _ h=>by cases h
 off:=fun p b _=>by unfold I6;rw[List.getElem?_replicate,A5 b];rfl
 clo:=fun _ h=>by cases h
 clo2:=fun _ h=>by simp at h
 sts:=fun _ h=>by cases h
theorem DInv.le{g:Graph}{b:List Bool}{st:List Int}{k i:Nat}{d a D:List Int}(h:DInv g b st k i d a D):D.length+a.length<=g.length:=by
 have:=bP h.nodup fun x c=>⟨(h.on x c).1,(h.on x c).2.1⟩
 rwa[B25]at this
theorem DInv.mem{g:Graph}{inn:List Bool}{st:List Int}{k i:Nat}{c a D:List Int}(h:DInv g inn st k i c a D){p:Nat}(e:p<g.length):I6 c p<0↔(p:Int)∉D++a:=by
 by_cases b:(p:Int)∈D++a
 ·have:=h.cnt p b;constructor
  ·intro f;split at this<;>omega
  ·exact fun d=>absurd b d
 ·have:=h.off p e b;exact⟨fun _=>b,fun _=>by omega⟩
theorem DInv.reach{g:Graph}{l:List Bool}{st:List Int}{k i:Nat}{m a D:List Int}(h:DInv g l st k i m a D)(_hk:k<=D.length){p:Nat}(s:p<g.length)(u:L1 l p=true)(st':List Int)(o:∀f∈st',f∈st\/f=p) :
  DInv g l st' k i (if I6 m p<0 then m.set p 0 else m) (if I6 m p<0 then a++[(p:Int)] else a) D/\(p:Int)∈D++(if I6 m p<0 then a++[(p:Int)] else a):=by
 split
 ·rename_i t;have j:=(h.mem s).1 t;refine⟨⟨by rw[B76];exact h.len,?_,?_,?_,?_,?_,?_,?_⟩,by simp⟩
  ·rw[<-B51];exact List.nodup_append.2 ⟨h.nodup,by simp,fun x c y v e=>by rw[B33.1 v]at e;exact j (e ▸ c)⟩
  ·intro x c;rw[<-B51]at c;rcases B36.1 c with c | c
   ·exact h.on x c
   ·rw[B33.1 c,B26];exact⟨by omega,by omega,u⟩
  ·intro q b;rw[iC (by rw[h.len];exact s)];by_cases e:p=q
   ·subst e;rw[A5 rfl,A6 (fun n=>j (h.clo2 _ n))];have:VJ g (D.take k) p=0:=by
     unfold VJ;rw[List.countP_eq_zero];intro x c n;exact j (h.clo x c _ (A1 n))
    rw[this];rfl
   ·rw[A6 e];rw[<-B51]at b;rcases B36.1 b with b | b
    ·exact h.cnt q b
    ·exact absurd (B33.1 b) (by omega)
  ·intro q b r;rw[<-B51,B36,not_or,B33]at r;rw[iC (by rw[h.len];exact s),A6 (by omega)];exact h.off q b r.1
  ·intro x c q b;rw[<-B51];exact List.mem_append_left _ (h.clo x c q b)
  ·intro q b;rw[<-B51];exact List.mem_append_left _ (h.clo2 q b)
  ·intro f d;rw[<-B51];rcases o f d with d | rfl
   ·exact List.mem_append_left _ (h.sts f d)
   ·simp
 ·rename_i t;have n:(p:Int)∈D++a:=by
   apply B55;intro r;exact t ((h.mem s).2 r)
  refine⟨{ h with sts:=fun f d=>?_ },n⟩;rcases o f d with d | rfl
  ·exact h.sts f d
  ·exact n
theorem DInv.count{g:Graph}{v:List Bool}{st:List Int}{k i:Nat}{f j D:List Int}(h:DInv g v st k i f j D){c p:Nat}(G:related g=true)(m:D.getD k 0=(c:Int))(o:i<(D8 g c).length)(b:(D8 g c)[i]=(p:Int))(w:(p:Int)∈D++j) :
  0<=I6 f p/\I6 f p<=g.length/\DInv g v st k (i+1) (bump f p) j D:=by
 have hpr:=K9 G c;have s:p<g.length:=by have:=hpr.1 p (by rw[<-b];exact B32 o);omega
 have B:=h.cnt p w;have y:(p:Int)∉(D8 g c).take i:=by rw[<-b];exact c8 hpr.2 o
 rw[m,B26,A6 y]at B;have F:VJ g (D.take k) p<=g.length:=by
  unfold VJ;have C:=List.countP_le_length (p:=fun x:Int=>decide ((p:Int)∈D8 g x.toNat)) (l:=D.take k);rw[B42]at C;have:=h.le;omega
 have u:∀q,I6 (bump f p) q=if p=q then I6 f p+1 else I6 f q:=fun q=>by
  unfold bump;rw[B26,iC (by rw[h.len];exact s)]
 refine⟨by omega,by omega,{ h with len:=by unfold bump;rw[B76];exact h.len,cnt:=fun q d=>?_,off:=fun q d A=>?_,clo2:=fun q d=>?_ }⟩
 ·rw[u q,m,B26];by_cases e:p=q
  ·subst e;rw[A5 rfl,A5 ((S9 o).2 (.inr b.symm))];omega
  ·rw[A6 e];have z:=h.cnt q d;rw[m,B26]at z;have E:((q:Int)∈(D8 g c).take (i+1))↔(q:Int)∈(D8 g c).take i:=by
    rw[S9 o,b];exact⟨fun h=>h.resolve_right (by omega),.inl⟩
   simp only[E];exact z
 ·rw[u q,A6 (show ¬p=q from fun e=>A (by rw[<-e];exact w))];exact h.off q d A
 ·rw[m,B26]at d;rcases (S9 o).1 d with d | rfl
  ·exact h.clo2 q (by rw[m,B26];exact d)
  ·rw[b];exact w
theorem DInv.pop{g:Graph}{s:List Bool}{st:List Int}{u d D:List Int}{c:Int}(h:DInv g s st D.length 0 u (d++[c]) D):DInv g s st D.length 0 u d (D++[c]):=by
 have b:∀x,x∈(D++[c])++d↔x∈D++(d++[c]):=fun x=>by
  simp only[B36,B33];constructor
  ·rintro ((h | h) | h)
   ·exact .inl h
   ·exact .inr (.inr h)
   ·exact .inr (.inl h)
  ·rintro (h | h | h)
   ·exact .inl (.inl h)
   ·exact .inr h
   ·exact .inl (.inr h)
 have v:(D++[c]).take D.length=D:=by rw[eD (B29 _),B38]
 refine⟨h.len,?_,fun x m=>h.on x ((b x).1 m),fun p o=>?_,fun p o A=>h.off p o fun z=>A ((b _).2 z),fun x m p o=>?_,fun p o=>by simp at o,fun f w=>(b f).2 (h.sts f w)⟩
 ·have j:=h.nodup;rw[List.nodup_append,List.nodup_append]at j;rw[B51,List.nodup_append,List.nodup_append];refine⟨j.1,⟨by simp,j.2.1.1,fun x m y q e=>?_⟩,fun x m y q=>?_⟩
  ·exact j.2.1.2.2 y q x m e.symm
  ·refine j.2.2 x m y ?_;rcases B36.1 q with q | q
   ·exact List.mem_append_right _ q
   ·exact List.mem_append_left _ q
 ·have j:=h.cnt p ((b _).1 o);rw[B68,A6 (by simp),B38]at j;rw[v,B68,A6 (by simp)];exact j
 ·rw[v]at m;exact (b p).2 (h.clo x (by rw[B38];exact m) p o)
theorem DInv.next{g:Graph}{inn:List Bool}{st:List Int}{k:Nat}{j d D:List Int}{c:Nat}(o:k+1=D.length)(f:D.getD k 0=(c:Int))(h:DInv g inn st k (D8 g c).length j d D):DInv g inn st D.length 0 j d D:=by
 have hkl:k<D.length:=by omega
 have i:D[k]?=some (c:Int):=by
  rw[B30,B23 hkl]at f;rw[B23 hkl];exact congrArg some f
 have e:D.take D.length=D.take k++[(c:Int)]:=by rw[<-o,B48,i,B54]
 refine { h with cnt:=fun p a=>?_,clo:=fun x b p a=>?_,clo2:=fun p a=>by simp at a }
 ·have m:=h.cnt p a;rw[f,B26,B38]at m;rw[B68,A6 (show ¬(p:Int)∈([]:List Int) by simp),m,e];unfold VJ;rw[List.countP_append,List.countP_singleton,B26];by_cases q:(p:Int)∈D8 g c<;>simp[q]
 ·rw[e]at b;rcases B36.1 b with b | b
  ·exact h.clo x b p a
  ·rw[B33.1 b,B26]at a;exact h.clo2 p (by rw[f,B26,B38];exact a)
theorem QX{q:Int->Bool}{l m:List Int}(a:l.Nodup)(c:m.Nodup)(h:∀x,x∈l↔x∈m):l.countP q=m.countP q:=by
 rw[List.countP_eq_length_filter,List.countP_eq_length_filter];have key:∀{l m:List Int},l.Nodup->(∀x,x∈l↔x∈m)->(l.filter q).length<=(m.filter q).length:=fun a h =>
  pN (a.filter _) fun x b=>by
   rw[List.mem_filter]at b ⊢;exact⟨(h x).1 b.1,b.2⟩
 have d:=key a h;have f:=key c fun x=>(h x).symm;omega
theorem DInv.fin{g:Graph}{s z D:List Int}(I:related g=true)(J:∀f∈s,0<=f/\f<g.length)(h:DInv g (U3 g s) s D.length 0 z [] D) :
  ∀p,p<g.length->I6 z p=if L1 (U3 g s) p=true then (wR g (U3 g s) [] p:Int) else -1:=by
 have b:∀p:Nat,L1 (U3 g s) p=true↔(p:Int)∈D:=by
  intro p;constructor
  ·intro j;obtain⟨f,F,d⟩:=(pQ I J p).1 j;clear j;have A:(f:Int)∈D:=by simpa using h.sts f F
   have v:∀x:Nat,(x:Int)∈D->∀q:Nat,(q:Int)∈D8 g x->(q:Int)∈D:=fun x k q H=>by
    have:=h.clo x (by rw[B38];exact k) q (by rw[B26];exact H);simpa using this
   rcases d with rfl | d
   ·exact A
   ·induction d with
    | one h=>exact v _ A _ h
    | more _ d K=>exact v _ K _ d
  ·intro w;have:=(h.on p (by simpa using w)).2.2
   rwa[B26]at this
 intro p G;split
 ·rename_i j;have B:=h.cnt p (by simpa using (b p).1 j);rw[B38,B68,A6 (by simp)]at B;rw[B,Int.add_zero]
  congr 1
  have C:D.Nodup:=by have:=h.nodup;rwa[B71]at this
  have d:∀x∈D,0<=x/\x<g.length:=fun x k=>by
   have:=h.on x (by simpa using k);exact⟨this.1,this.2.1⟩
  unfold VJ wR;have e:(List.range g.length).countP (fun c=>L1 (U3 g s) c&&decide ((c:Int)∉([]:List Int)/\(p:Int)∈D8 g c))=(((List.range g.length).filter fun c=>L1 (U3 g s) c).map fun c:Nat=>(c:Int)).countP fun x=>decide ((p:Int)∈D8 g x.toNat):=by
   rw[List.countP_map,List.countP_filter];refine List.countP_congr fun c _=>?_;simp only[C00,not_false_eq_true,true_and,Function.comp_def,B26,B24,decide_eq_true_eq];exact And.comm
  rw[e];refine QX C ((List.nodup_range.filter _).map (fun i:Nat=>(i:Int)) fun _ _ y e=>y (Int.ofNat.inj e)) fun x=>?_;rw[B62];constructor
  ·intro k;have:=d x k;refine⟨x.toNat,List.mem_filter.2 ⟨B44.2 (by omega),(b _).2 (by rw[Int.toNat_of_nonneg this.1];exact k)⟩,by omega⟩
  ·rintro⟨c,E,rfl⟩;exact (b c).1 (List.mem_filter.1 E).2
 ·rename_i j;exact h.off p G fun w=>j ((b p).2 (by simpa using w))
theorem OInv.start{g:Graph}{c:List Bool}{f d:List Int}(j:f.length=g.length)(_hin:c.length=g.length)(i:∀p,p<g.length->I6 f p=if L1 c p=true then (wR g c [] p:Int) else -1)(h:HInv g f d g.length):OInv g c 0 0 f d [] where
 len:=j
 cnt:=fun p d e=>by rw[i p d,A5 e,B68,B68];simp
 off:=fun p d e=>by rw[i p d,e];rfl
 hpm:=fun p=>by
  rw[h.mem];constructor
  ·rintro⟨a,b⟩;refine⟨a,?_,by simp,b⟩;cases e:L1 c p
   ·rw[i p a,e]at b;simp at b
   ·rfl
  ·rintro⟨a,_,_,b⟩;exact⟨a,b⟩
 hpr:=h.rng
 hpn:=h.nodup
 heap:=h.heap
 outn:=List.nodup_nil
 outr:=fun _ h=>by cases h
def J0(g:Graph)(c:Nat):List File:=(g[c]?.map (·.Files)).getD []
def N4(g:Graph)(c:Nat):List (List File):=if D8 g c=[] then [[]] else (D8 g c).map fun p=>J0 g p.toNat
def Q7(l:List File)(p:Str):Str:=(K0 l p).getD []
def VK(t u:List File)(d:Delta):Str×Str:=(Q7 t d.Path,Q7 u d.Path)
def mB(t u:List File):List (Str×Str):=(i6 t u).map (VK t u)
def U0(g:Graph)(c:Nat):List (List (Str×Str)):=(N4 g c).map fun t=>mB t (J0 g c)
def x9(f:Str×Str->Bool)(g:Graph)(c:Nat):Bool:=(U0 g c).any fun l=>l.any f
def w9(g:Graph)(c:Int):Prop:=0<=c/\c<g.length
instance (g:Graph) (c:Int):Decidable (w9 g c):=inferInstanceAs (Decidable (_/\_))
def o5(g:Graph)(s:Int):List Int×Int:=if O6 g≠0 then ([],O6 g) else if w9 g s then (vC g [s],0) else ([],5)
def x5(f:Str×Str->Bool)(g:Graph)(s:Int):List Int×Int:=if (o5 g s).2≠0 then ([],(o5 g s).2) else ((o5 g s).1.filter fun c=>x9 f g c.toNat,0)
def mC(g:Graph)(c:Int):Int:=if O6 g≠0 then O6 g else if w9 g c then 0 else 5
def iK:Str×Str->Nat->Cell:=fun x j=>match j with
 | 0=>.v (.string ⟨x.1.toArray⟩)
 | _=>.v (.string ⟨x.2.toArray⟩)
abbrev oS:List (Str×Str)->Nat->Cell:=fun l _=>.list (Str×Str) 2 iK l
abbrev pPairs(l:List (Str×Str)):PV:=.one (.list (Str×Str) 2 iK l)
abbrev LR(l:List (List (Str×Str))):PV:=.one (.list (List (Str×Str)) 1 oS l)
abbrev names4:List Str:=[[97],[98,47,120],[98,47,121],[99,32,100]]
theorem names4_asc:names4.Pairwise (fun x y=>jO x y=true):=by decide
theorem QY:∀p∈names4,aM p=0/\p.length<=3:=by decide
theorem LS:∀p∈names4,∀q∈names4,above p q=false:=by decide
def NoDig(b:Str):Prop:=∀c∈b,c.toNat<48\/57<c.toNat
theorem NoDig.app{a b:Str}(ha:NoDig a)(hb:NoDig b):NoDig (a++b):=fun c d=>(B36.1 d).elim (ha c) (hb c)
theorem NoDig.sub{a b:Str}(h:NoDig b)(hs:∀c∈a,c∈b):NoDig a:=fun c d=>h c (hs c d)
structure GN (L:Nat) (l:List File):Prop where
 sub:(l.map (·.Path)).Sublist names4
 cnt:∀f∈l,f.Blob.count 10<=L
 dig:∀f∈l,NoDig f.Blob
theorem GN.name{L:Nat}{l:List File}(h:GN L l):∀f∈l,f.Path∈names4:=fun _ a=>h.sub.subset (List.mem_map_of_mem a)
theorem GN.mono{L L':Nat}{l:List File}(h:GN L l)(a:L<=L'):GN L' l:=⟨h.sub,fun f b=>B72 (h.cnt f b) a,h.dig⟩
theorem IN:∀{l:List File},CO (l.map (·.Path))->ascend l=true
 | [],_=>rfl
 | [_],_=>rfl
 | f::g::r,h=>by
  rw[B50]at h;have b:=List.pairwise_cons.1 h;unfold ascend;rw[b.1 g.Path (by simp),IN b.2];rfl
theorem GN.asc{L:Nat}{l:List File}(h:GN L l):ascend l=true:=IN (names4_asc.sublist h.sub)
theorem GN.tree{L:Nat}{l:List File}(h:GN L l)(o:L+1<=4096)(i:∀f∈l,f.Blob.length<=1048576):F3 l=0:=by
 have d:l.length<=4:=by have:=h.sub.length_le;simpa using this
 unfold F3
 rw[A6 (by omega),A6 (fun a=>by
  obtain⟨f,b,c⟩:=List.any_eq_true.1 a
  exact A1 c (QY _ (h.name f b)).1),A6 (fun a=>by
  rw[sE h.asc fun x j y k=>LS _ (h.name x j) _ (h.name y k)]at a;cases a),A6 (fun a=>by
  obtain⟨f,b,c⟩:=List.any_eq_true.1 a;refine A1 c ?_;unfold P5;have m:=h.cnt f b;have n:=i f b;have e:=jF f.Blob;rw[A6];rintro (g | g)
  ·omega
  ·split at e<;>omega)]
theorem QZ{n:Int}:∀{ps a:List Int},(∀p∈ps,0<=p/\p<n/\p∉a)->ps.Nodup->oB n a ps=true
 | [],_,_,_=>rfl
 | p::r,a,h,hn=>by
  have e:=List.nodup_cons.1 hn;unfold oB;rw[A3 (h p (by simp)),B79];refine QZ (fun q d=>?_) e.2;have c:=h q (by simp[d]);refine⟨c.1,c.2.1,fun b=>?_⟩;rcases B36.1 b with b | b
  ·exact c.2.2 b
  ·rw[B33.1 b]at d;exact e.1 d
def OneWay(g:Graph):Prop:=(∀c p:Nat,(p:Int)∈D8 g c->p<c)\/(∀c p:Nat,(p:Int)∈D8 g c->c<p)
theorem OneWay.acyc{g:Graph}(h:OneWay g)(c:Nat):¬Reaches g c c:=by
 rcases h with h | h
 ·have key:∀{a b:Nat},Reaches g a b->b<a:=fun {a b} e=>by
   induction e with
   | one d=>exact h _ _ d
   | more _ d f=>have:=h _ _ d;omega
  exact fun e=>Nat.lt_irrefl _ (key e)
 ·have key:∀{a b:Nat},Reaches g a b->a<b:=fun {a b} e=>by
   induction e with
   | one d=>exact h _ _ d
   | more _ d f=>have:=h _ _ d;omega
  exact fun e=>Nat.lt_irrefl _ (key e)
theorem yH:∀{g:List Commit},(∀c∈g,F3 c.Files=0)->n7 g=0
 | [],_=>rfl
 | c::r,h=>by
  unfold n7;rw[A6 (fun a=>a (h c (by simp)))];exact yH fun d b=>h d (by simp[b])
structure GV (g:Graph):Prop where
 len:g.length<=16
 pars:∀c∈g,c.Parents.length<=3/\(∀p∈c.Parents,0<=p/\p<(g.length:Int))/\c.Parents.Nodup/\0<=c.Date/\c.Date<=5
 way:OneWay g
 files:∀c∈g,GN 2111 c.Files/\∀f∈c.Files,f.Blob.length<=1048576
theorem GV.check{g:Graph}(h:GV g):O6 g=0:=by
 have l:related g=true:=by
  unfold related;rw[B27];exact fun c a=>QZ (fun p k=>⟨((h.pars c a).2.1 p k).1,((h.pars c a).2.1 p k).2,by simp⟩) (h.pars c a).2.2.1
 have j:¬cyclic g=true:=fun d=>by
  obtain⟨c,a⟩:=(lN l).1 d;exact h.way.acyc c a
 have m:=h.len;have b:bR g=true:=by
  unfold bR;rw[A3 (by omega),B79];cases ha:g.any fun c=>decide (c.Parents.length>32)
  ·rfl
  obtain⟨c,a,f⟩:=List.any_eq_true.1 ha;have:=A1 f;have:=(h.pars c a).1;omega
 have i:¬uF g=true:=fun d=>by
  obtain⟨c,a,f⟩:=List.any_eq_true.1 d;have:=A1 f;have:=(h.pars c a).2.2.2;omega
 unfold O6;rw[b,l,A6 (by simp),A6 (by simp),A6 j,A6 i];exact yH fun c a=>(h.files c a).1.tree (by omega) (h.files c a).2
theorem A84(a b:Str)(c:Int)(d:Bool)(j:0<=c/\c<=1048576)(ha:Few a)(hb:Few b) :
  ∃p:Patch,DU [111] [110] a b c d=(p,0)/\mT p.Hunks<=134217728/\fB p a=(b,0):=by
 obtain⟨n,q⟩:=aC a;obtain⟨o,r⟩:=aC b;have k:=ha.1;have e:=ha.2;have l:=hb.1;have f:=hb.2;obtain⟨i,_⟩:=oQ (D5 a) (D5 b) d e f;have m:=DV [111] [110] a b _ c (by decide) (by decide) (by omega) ha hb i;have s:=i.size j.1 (gB a).1 (gB b).1;have g:=i.chain0 j.1;have h:=m.chk;refine⟨⟨[111],[110],R1 (lZ (D5 a) (D5 b) d) (D5 a) (D5 b) c⟩,?_,?_,DX h ha hb g⟩
 ·unfold DU;rw[A6 (by decide),A6 (by omega)]
 ·dsimp only;omega
structure Backs (want x:Str) (l:List Patch) (f:Nat->Str):Prop where
 z:f 0=want
 e:f l.length=x
 st:∀k (h:k<l.length),mT l[k].Hunks<=134217728/\(f (k+1)).length<=1048576/\fB l[k] (f (k+1))=(f k,0)
theorem Backs.snoc{a x y:Str}{l:List Patch}{f:Nat->Str}(h:Backs a x l f){p:Patch}(j:mT p.Hunks<=134217728)(i:y.length<=1048576)(ha:fB p y=(x,0)) :
  Backs a y (l++[p]) (fun k=>if k<=l.length then f k else y):=by
 refine⟨?_,?_,?_⟩
 ·rw[A5 (B37 _)];exact h.z
 ·rw[A6 (by simp)]
 ·intro k d;have g:k<l.length+1:=by simpa using d
  by_cases b:k<l.length
  ·rw[A5 (by omega),A5 (by omega),B95 b];exact h.st k b
  ·have c:k=l.length:=by omega
   subst c;rw[A6 (by omega),A5 (B29 _),B96 (B29 _),h.e];simp only[B98,List.getElem_cons_zero];exact⟨j,i,ha⟩
theorem wS:∀(b a:Str),(G4 a b).length<=b.count 10+1
 | [],a=>by unfold G4;split<;>simp
 | c::r,a=>by
  unfold G4;rw[List.count_cons];split
  ·rename_i h;have:=wS r [];simp only[B31];have d:(c == 10)=true:=by simpa using h
   rw[A5 d];omega
  ·have:=wS r (a++[c]);omega
theorem VL(b:Str):(D5 b).length<=b.count 10+1:=wS b []
theorem gv_few{g:Graph}(h:GV g){l:List File}(m:(∃c,l=J0 g c)\/l=[])(p:Str):Few (Q7 l p):=by
 have d:Few []:=⟨by simp,by simp[D5,G4]⟩
 unfold Q7;cases k:K0 l p with
 | none=>exact d
 | some x =>
  obtain⟨f,a,_,rfl⟩:=dY k;rcases m with ⟨c,rfl⟩ | rfl
  ·unfold J0 at a;by_cases b:c<g.length
   ·rw[B23 b]at a;obtain⟨e,i⟩:=h.files _ (B32 b);have n:=e.cnt f a;have o:=VL f.Blob;have j:=i f a;show Few f.Blob;exact⟨j,by omega⟩
   ·rw[B58 (by omega)]at a;cases a
  ·cases a
def InWay(g:Graph)(c n:Nat):Prop:=((∀c p:Nat,(p:Int)∈D8 g c->p<c)/\c+n<g.length)\/((∀c p:Nat,(p:Int)∈D8 g c->c<p)/\n<=c)
theorem InWay.init{g:Graph}(h:GV g){c:Nat}(b:c<g.length):InWay g c 0:=by
 rcases h.way with a | a
 ·exact .inl ⟨a,by omega⟩
 ·exact .inr ⟨a,by omega⟩
theorem InWay.step{g:Graph}{c n p:Nat}(h:InWay g c n)(b:(p:Int)∈D8 g c):InWay g p (n+1):=by
 rcases h with ⟨a,d⟩ | ⟨a,d⟩
 ·have:=a c p b;exact .inl ⟨a,by omega⟩
 ·have:=a c p b;exact .inr ⟨a,by omega⟩
theorem InWay.lt{g:Graph}{c n:Nat}(h:InWay g c n)(b:c<g.length):n<g.length:=by
 rcases h with ⟨_,a⟩ | ⟨_,a⟩<;>omega
def R2(g:Graph)(c:Nat):List File:=match D8 g c with | []=>[] | p::_=>J0 g p.toNat
theorem RA(g:Graph)(c:Nat):(N4 g c)[0]?=some (R2 g c):=by
 unfold N4 R2;cases h:D8 g c with
 | nil=>rw[A5 rfl];rfl
 | cons p r=>rw[A6 (by simp)];rfl
theorem vD(g:Graph)(c:Nat):(∃d,R2 g c=J0 g d)\/R2 g c=[]:=by
 unfold R2;split
 ·exact .inr rfl
 ·exact .inl ⟨_,rfl⟩
section
structure Set4 where
 a:Int
 b:Int
 c:Int
 d:Int
 deriving DecidableEq
def orI(x y:Int):Int:=((x.toNat ||| y.toNat:Nat):Int)
def set0:Set4:=⟨0,0,0,0⟩
def Set4.with_(s:Set4)(c:Nat):Set4:=match c / 64 with
 | 0=>{ s with a:=orI s.a (2 ^ (c % 64)) }
 | 1=>{ s with b:=orI s.b (2 ^ (c % 64)) }
 | 2=>{ s with c:=orI s.c (2 ^ (c % 64)) }
 | _=>{ s with d:=orI s.d (2 ^ (c % 64)) }
def V1:Nat->Nat->Set4->Set4
 | 0,_,s=>s
 | n+1,c,s=>V1 n (c+1) (s.with_ c)
def Set4.through(s:Set4)(a b:Nat):Set4:=V1 (b+1-a) a s
def Set4.compl(s:Set4):Set4:=⟨18446744073709551615-s.a,18446744073709551615-s.b,18446744073709551615-s.c,18446744073709551615-s.d⟩
def mD(s:Set4)(name:Str):Option Set4 :=
 if name=[97,108,112,104,97] then some ((s.through 97 122).through 65 90)
 else if name=[100,105,103,105,116] then some (s.through 48 57)
 else if name=[97,108,110,117,109] then some (((s.through 97 122).through 65 90).through 48 57)
 else if name=[117,112,112,101,114] then some (s.through 65 90)
 else if name=[108,111,119,101,114] then some (s.through 97 122)
 else if name=[115,112,97,99,101] then some ((s.through 9 13).with_ 32)
 else if name=[112,117,110,99,116] then some ((((s.through 33 47).through 58 64).through 91 96).through 123 126)
 else none
def S5(s:Set4):Prop:=(0<=s.a/\s.a<18446744073709551616)/\(0<=s.b/\s.b<18446744073709551616)/\(0<=s.c/\s.c<18446744073709551616)/\(0<=s.d/\s.d<18446744073709551616)
theorem vE{x:Int}(e:0<=x/\x<18446744073709551616)(k:Nat)(d:k<64):0<=orI x (2 ^ k)/\orI x (2 ^ k)<18446744073709551616:=by
 unfold orI;have b:x.toNat<2 ^ 64:=by omega
 have c:((2:Int) ^ k).toNat<2 ^ 64:=by
  have:((2:Int) ^ k).toNat=2 ^ k:=by
   rw[show ((2:Int) ^ k)=((2 ^ k:Nat):Int) by simp];exact B26 _
  rw[this];exact Nat.pow_lt_pow_right (by decide) d
 have:=Nat.or_lt_two_pow b c;omega
theorem wT{s:Set4}(h:S5 s)(c:Nat):S5 (s.with_ c):=by
 obtain⟨a,b,d,e⟩:=h;have f:c % 64<64:=Nat.mod_lt _ (by decide);unfold Set4.with_;split
 ·exact⟨vE a _ f,b,d,e⟩
 ·exact⟨a,vE b _ f,d,e⟩
 ·exact⟨a,b,vE d _ f,e⟩
 ·exact⟨a,b,d,vE e _ f⟩
theorem gE:∀(n c:Nat) {s:Set4},S5 s->S5 (V1 n c s)
 | 0,_,_,h=>h
 | n+1,c,_,h=>gE n (c+1) (wT h c)
theorem M2{s:Set4}(h:S5 s)(a b:Nat):S5 (s.through a b):=gE _ _ h
theorem oU:∀(n c:Nat) (s:Set4),V1 (n+1) c s=(V1 n c s).with_ (c+n)
 | 0,_,_=>rfl
 | n+1,c,s=>by
  rw[V1,oU n (c+1),V1,show c+1+n=c+(n+1) by omega]
theorem VM{s t:Set4}(h:S5 s){n:Str}(a:mD s n=some t):S5 t:=by
 unfold mD at a
 repeat' split at a
 all_goals first
  | (rw[<-B81 a];(repeat (with_reducible first | apply M2 | apply wT));exact h)
  | exact absurd a (by simp)
structure Node where
 Kind:Int
 Set:Set4
 Min:Int
 Max:Int
 Kids:List Int
 deriving DecidableEq
def gF:Node->Nat->Cell:=fun n j=>match j with
 | 0=>.v (.int .i64 n.Kind)
 | 1=>.v (.int .u64 n.Set.a)
 | 2=>.v (.int .u64 n.Set.b)
 | 3=>.v (.int .u64 n.Set.c)
 | 4=>.v (.int .u64 n.Set.d)
 | 5=>.v (.int .i64 n.Min)
 | 6=>.v (.int .i64 n.Max)
 | _=>.list Int 1 E0 n.Kids
abbrev W9(s:Set4):PV:=.agg [.v (.int .u64 s.a),.v (.int .u64 s.b),.v (.int .u64 s.c),.v (.int .u64 s.d)]
abbrev vF(n:Node):PV:=.agg [.v (.int .i64 n.Kind),.v (.int .u64 n.Set.a),.v (.int .u64 n.Set.b),.v (.int .u64 n.Set.c),.v (.int .u64 n.Set.d),.v (.int .i64 n.Min),.v (.int .i64 n.Max),.list Int 1 E0 n.Kids]
abbrev cW(l:List Node):PV:=.one (.list Node 8 gF l)
def eU:Node:=⟨0,set0,0,0,[]⟩
structure PSt where
 at_:Nat
 depth:Nat
 nodes:List Node
abbrev Ps(α:Type):=Except Int (PSt×α)
section
variable (s:Str)
def U5(c:UInt8)(st:PSt):Bool:=decide (s[st.at_]?=some c)
def PSt.skip(st:PSt)(n:Nat):PSt:={ st with at_:=st.at_+n }
def yI(c:UInt8)(st:PSt):PSt:=if U5 s c st=true then st.skip 1 else st
def mO(st:PSt):Ps UInt8:=match s[st.at_]? with
 | none=>.error 40
 | some c=>.ok (st.skip 1,c)
def sP(n:Node)(st:PSt):PSt×Int:=({ st with nodes:=st.nodes++[n] },st.nodes.length)
def oV(a:Int)(kids:List Int)(st:PSt):PSt×Int:=match kids with
 | []=>sP eU st
 | [k]=>(st,k)
 | _=>sP { eU with Kind:=a,Kids:=kids } st
def qI(t:Set4)(st:PSt):PSt×Int:=sP { eU with Kind:=1,Set:=t } st
def mE(a b:UInt8)(l:Str):Bool:=decide (l[0]?=some a/\l[1]?=some b)
def iL(t:Set4)(st:PSt):Ps Set4 :=
 let rest:=s.drop st.at_
 if mE 91 58 rest=true then
  let r:=rest.drop 2
  if Lib.index r [58,93]<0 then .error 40
  else match mD t (r.take (Lib.index r [58,93]).toNat) with
   | none=>.error 40
   | some b=>.ok (st.skip (4+(Lib.index r [58,93]).toNat),b)
 else match s[st.at_]? with
  | none=>.error 40
  | some c =>
   let r:=s.drop (st.at_+1)
   if r.length<2\/r[0]?≠some 45\/r[1]?=some 93 then .ok (st.skip 1,t.with_ c.toNat)
   else if (r.getD 1 0).toNat<c.toNat then .error 40
   else .ok (st.skip 3,t.through c.toNat (r.getD 1 0).toNat)
def jJ:Nat->Set4->PSt->Ps Set4
 | 0,_,_=>.error 0
 | f+1,t,st=>if U5 s 93 st=true then .ok (st.skip 1,t) else match iL s t st with
  | .error e=>.error e
  | .ok (st',t')=>jJ f t' st'
def jK(f:Nat)(st:PSt):Ps Int :=
 let a:=st.skip 1;let b:=yI s 94 a
 match iL s set0 b with
 | .error e=>.error e
 | .ok (st3,t)=>match jJ s f t st3 with
  | .error e=>.error e
  | .ok (st4,t')=>.ok (qI (if U5 s 94 a=true then t'.compl else t') st4)
def y3(a:Int)(st:PSt):Ps Int :=
 let r:=sP { eU with Kind:=a } (st.skip 1)
 match s[r.1.at_]? with
 | some c=>if c∈([42,43,63,123]:Str) then .error 40 else .ok r
 | none=>.ok r
def vG(a:Str->Nat->Option (Int×Nat))(st:PSt):Ps Int:=match a s st.at_ with
 | none=>.error 40
 | some (n,e)=>if n>100 then .error 40 else .ok ({ st with at_:=e },n)
def p8(d:Str->Nat->Option (Int×Nat))(st:PSt):Ps (Int×Int):=match vG s d st with
 | .error e=>.error e
 | .ok (st1,least) =>
  let fin:=fun (st:PSt) (a:Int)=>(if U5 s 125 st=false\/(0<=a/\a<least) then .error 40 else .ok (st.skip 1,(least,a)):Ps (Int×Int))
  if U5 s 44 st1=true then
   let b:=st1.skip 1
   match s[b.at_]? with
   | none=>fin b (-1)
   | some c=>if c=125 then fin b (-1) else match vG s d b with
    | .error e=>.error e
    | .ok (st3,a)=>fin st3 a
  else fin st1 least
def bX(a:Str->Nat->Option (Int×Nat))(st:PSt):Ps (Option (Int×Int)) :=
 if U5 s 42 st=true then .ok (st.skip 1,some (0,-1))
 else if U5 s 43 st=true then .ok (st.skip 1,some (1,-1))
 else if U5 s 63 st=true then .ok (st.skip 1,some (0,1))
 else if U5 s 123 st=true then match p8 s a (st.skip 1) with
  | .error e=>.error e
  | .ok (st',b)=>.ok (st',some b)
 else .ok (st,none)
def l7(st:PSt):Ps Int:=match mO s st with
 | .error e=>.error e
 | .ok (st',c)=>.ok (qI (set0.with_ c.toNat) st')
def pX(st:PSt):Ps Int:=l7 s (st.skip 1)
def FQ(st:PSt):PSt×Int:=qI set0.compl (st.skip 1)
def y4(a:Str->Nat->Option (Int×Nat))(r:Ps Int):Ps Int:=match r with
 | .error e=>.error e
 | .ok (st,atom)=>match bX s a st with
  | .error e=>.error e
  | .ok (st',none)=>.ok (st',atom)
  | .ok (st',some (least,most))=>.ok (sP { eU with Kind:=6,Min:=least,Max:=most,Kids:=[atom] } st')
mutual
def jL(a:Str->Nat->Option (Int×Nat)):Nat->PSt->Ps Int
 | 0,_=>.error 0
 | f+1,st=>match gG a f st [] with
  | .error e=>.error e
  | .ok (st',k)=>fE a f st' [k]
def fE(a:Str->Nat->Option (Int×Nat)):Nat->PSt->List Int->Ps Int
 | 0,_,_=>.error 0
 | f+1,st,kids=>if U5 s 124 st=true then match gG a f (st.skip 1) [] with
   | .error e=>.error e
   | .ok (st',k)=>fE a f st' (kids++[k])
  else .ok (oV 5 kids st)
def gG(a:Str->Nat->Option (Int×Nat)):Nat->PSt->List Int->Ps Int
 | 0,_,_=>.error 0
 | f+1,st,kids=>match s[st.at_]? with
  | none=>.ok (oV 4 kids st)
  | some c=>if c=124\/c=41 then .ok (oV 4 kids st) else match cX a f st c with
   | .error e=>.error e
   | .ok (st',k)=>gG a f st' (kids++[k])
def cX(a:Str->Nat->Option (Int×Nat)):Nat->PSt->UInt8->Ps Int
 | 0,_,_=>.error 0
 | f+1,st,c =>
  if c=94 then y3 s 2 st
  else if c=36 then y3 s 3 st
  else if c=40 then y4 s a (U9 a f st)
  else if c=91 then y4 s a (jK s (s.length+2) st)
  else if c=46 then y4 s a (.ok (FQ st))
  else if c=92 then y4 s a (pX s st)
  else if c∈([42,43,63,123]:Str) then .error 40
  else y4 s a (l7 s st)
def U9(a:Str->Nat->Option (Int×Nat)):Nat->PSt->Ps Int
 | 0,_=>.error 0
 | f+1,st=>if st.depth=50 then .error 1 else match jL a f { st with at_:=st.at_+1,depth:=st.depth+1 } with
  | .error e=>.error e
  | .ok (st',n)=>if U5 s 41 st'=true then .ok ({ st' with at_:=st'.at_+1,depth:=st'.depth-1 },n) else .error 40
end
def DZ(a:Str->Nat->Option (Int×Nat))(f:Nat):List Node×Int :=
 if s.length>256 then ([],1) else match jL s a f ⟨0,0,[]⟩ with
  | .error e=>([],e)
  | .ok (st,_)=>if st.at_<s.length then ([],40) else (st.nodes,0)
end
def gH(n:Node)(i:Int):Bool:=n.Kids.all (fun k=>decide (0<=k/\k<i)) &&
 (if n.Kind=0\/n.Kind=1\/n.Kind=2\/n.Kind=3 then decide (n.Kids.length=0)
 else if n.Kind=4\/n.Kind=5 then decide (2<=n.Kids.length)
 else if n.Kind=6 then decide (n.Kids.length=1/\0<=n.Min/\n.Min<=100/\(n.Max = -1\/n.Min<=n.Max/\n.Max<=100)) else false)
def oW(l:List Node):Int:=if l.length=0\/l.length>4000 then 2 else if (List.range l.length).all (fun i=>gH (l.getD i eU) i)=true then 0 else 2
def iM(a b:Int):Int:=if b<a then b else a
def LU(w:List Int):Int->List Int->Int
 | acc,[]=>acc
 | acc,k::r=>LU w (iM (acc+I6 w k.toNat) 4001) r
def iN(n:Node)(w:List Int):Int :=
 let a:=LU w 0 n.Kids
 if n.Kind=4 then a
 else if n.Kind=5 then iM (a+n.Kids.length-1) 4001
 else if n.Kind=6 then (if n.Max<0 then iM (n.Min*a+a+1) 4001 else iM (n.Min*a+(n.Max-n.Min)*(a+1)) 4001)
 else 1
def Z2:List Node->Nat->List Int->List Int
 | [],_,w=>w
 | n::r,i,w=>Z2 r (i+1) (w.set i (iN n w))
def j6(l:List Node):List Int:=Z2 l 0 (List.replicate l.length 0)
structure State where
 Kind:Int
 Set:Set4
 Next:Int
 Other:Int
 deriving DecidableEq
def gI:State->Nat->Cell:=fun n j=>match j with
 | 0=>.v (.int .i64 n.Kind)
 | 1=>.v (.int .u64 n.Set.a)
 | 2=>.v (.int .u64 n.Set.b)
 | 3=>.v (.int .u64 n.Set.c)
 | 4=>.v (.int .u64 n.Set.d)
 | 5=>.v (.int .i64 n.Next)
 | _=>.v (.int .i64 n.Other)
structure Auto where
 States:List State
 Start:Int
 deriving DecidableEq
abbrev VN(n:State):PV:=.agg [.v (.int .i64 n.Kind),.v (.int .u64 n.Set.a),.v (.int .u64 n.Set.b),.v (.int .u64 n.Set.c),.v (.int .u64 n.Set.d),.v (.int .i64 n.Next),.v (.int .i64 n.Other)]
abbrev XS(l:List State):PV:=.one (.list State 7 gI l)
abbrev mP(a:Auto):PV:=.agg [.list State 7 gI a.States,.v (.int .i64 a.Start)]
def cY:State:=⟨0,set0,0,0⟩
abbrev Bld:=List State×Int
def addS(q:State)(st:List State):Bld:=(st++[q],st.length)
section
variable (ns:List Node) (w:List Int)
mutual
def X5:Nat->Int->Int->List State->Option Bld
 | 0,_,_,_=>none
 | f + 1,i,next,st =>
  if I6 w i.toNat=0 then some (st,next)
  else
   let n:=ns.getD i.toNat eU
   if n.Kind=1 then some (addS { cY with Kind:=0,Set:=n.Set,Next:=next } st)
   else if n.Kind=2 then some (addS { cY with Kind:=2,Next:=next } st)
   else if n.Kind=3 then some (addS { cY with Kind:=3,Next:=next } st)
   else if n.Kind=4 then RB f n.Kids.reverse next st
   else if n.Kind=5 then match n.Kids.reverse with
    | []=>none
    | k::r=>match X5 f k next st with
     | none=>none
     | some (st',start)=>LV f r next start st'
   else if n.Kind=6 then
    let c:=n.Kids.getD 0 0
    if n.Max<0 then
     let b:Int:=st.length
     match X5 f c b (st++[{ cY with Kind:=1,Other:=next }]) with
     | none=>none
     | some (st',start)=>EB f c n.Min.toNat b (st'.set b.toNat { (st'.getD b.toNat cY) with Next:=start })
    else match EA f c (n.Max-n.Min).toNat next next st with
     | none=>none
     | some (st',next')=>EB f c n.Min.toNat next' st'
   else some (st,next)
def RB:Nat->List Int->Int->List State->Option Bld
 | 0,_,_,_=>none
 | _+1,[],next,st=>some (st,next)
 | f+1,k::r,next,st=>match X5 f k next st with
  | none=>none
  | some (st',next')=>RB f r next' st'
def LV:Nat->List Int->Int->Int->List State->Option Bld
 | 0,_,_,_,_=>none
 | _+1,[],_,start,st=>some (st,start)
 | f+1,k::r,next,start,st=>match X5 f k next st with
  | none=>none
  | some (st',b)=>LV f r next st'.length (st'++[{ cY with Kind:=1,Next:=b,Other:=start }])
def EA:Nat->Int->Nat->Int->Int->List State->Option Bld
 | 0,_,_,_,_,_=>none
 | _+1,_,0,_,next,st=>some (st,next)
 | f+1,kid,m+1,last,next,st=>match X5 f kid next st with
  | none=>none
  | some (st',b)=>EA f kid m last st'.length (st'++[{ cY with Kind:=1,Next:=b,Other:=last }])
def EB:Nat->Int->Nat->Int->List State->Option Bld
 | 0,_,_,_,_=>none
 | _+1,_,0,next,st=>some (st,next)
 | f+1,kid,m+1,next,st=>match X5 f kid next st with
  | none=>none
  | some (st',next')=>EB f kid m next' st'
end
end
end
def d5(q:State)(start fin:Bool):List Int :=
 if q.Kind=1 then [q.Next,q.Other] else if q.Kind=2 then (if start=true then [q.Next] else []) else if q.Kind=3 then (if fin=true then [q.Next] else []) else []
def kH(n:Int)(q:State):Bool :=
 if q.Kind=0\/q.Kind=2\/q.Kind=3 then decide (0<=q.Next/\q.Next<n)
 else if q.Kind=1 then decide (0<=q.Next/\q.Next<n/\0<=q.Other/\q.Other<n)
 else decide (q.Kind=4)
def LW(a:Auto):Int:=if a.States.length<1\/a.States.length>8000\/a.Start<0\/a.Start>=a.States.length then 2 else if a.States.all (kH a.States.length)=true then 0 else 2
structure Thread where
 state:Int
 from_:Int
 deriving DecidableEq
def p9:Thread->Nat->Cell:=fun t j=>match j with
 | 0=>.v (.int .i64 t.state)
 | _=>.v (.int .i64 t.from_)
abbrev Mach:=List Thread×List Bool
section
variable (a:Auto) (s:Str)
def aX(i:Int):State:=a.States.getD i.toNat cY
def gJ(at_:Nat)(fr:Int):Nat->List Int->Mach->Mach
 | 0,_,m=>m
 | f+1,opn,m=>match opn.getLast? with
  | none=>m
  | some i=>if L1 m.2 i.toNat=true then gJ at_ fr f opn.dropLast m
   else gJ at_ fr f (opn.dropLast++d5 (aX a i) (decide (at_=0)) (decide (at_=s.length))) (m.1++[⟨i,fr⟩],m.2.set i.toNat true)
def VO(at_:Nat)(t:Thread)(m:Mach):Mach:=gJ a s at_ t.from_ (3*a.States.length+2) [t.state] m
def aS:List Thread->Int
 | [] => -1
 | t::r=>if (aX a t.state).Kind=4 then t.from_ else aS r
def sQ(q:Set4)(c:Nat):Int:=match c / 64 with
 | 0=>q.a.fdiv (2 ^ (c % 64)) % 2
 | 1=>q.b.fdiv (2 ^ (c % 64)) % 2
 | 2=>q.c.fdiv (2 ^ (c % 64)) % 2
 | _=>q.d.fdiv (2 ^ (c % 64)) % 2
def oX(at_:Nat)(c:Nat):List Thread->Mach->Mach
 | [],m=>m
 | t::r,m=>oX at_ c r (if (aX a t.state).Kind=0/\sQ (aX a t.state).Set c=1 then VO a s at_ ⟨(aX a t.state).Next,t.from_⟩ m else m)
def vH(at_:Nat)(m:Mach):Mach:=oX a s (at_+1) (s.getD at_ 0).toNat m.1 ([],List.replicate a.States.length false)
def gK(fr:Int):List Thread->List Thread
 | []=>[]
 | t::r=>if t.from_>fr then [] else t::gK fr r
def wU:Nat->Nat->Mach->(Int×Int)->Bool->(Int×Int)×Bool
 | 0,_,_,b,fd=>(b,fd)
 | f+1,at_,m,b,fd =>
  let m1:=if fd=true then m else VO a s at_ ⟨a.Start,at_⟩ m
  let i:=aS a m1.1;let d:=if 0<=i then (i,(at_:Int)) else b
  let c:=if 0<=i then true else fd
  let e:Mach:=if 0<=i then (gK i m1.1,m1.2) else m1
  if at_=s.length\/(c=true/\e.1=[]) then (d,c) else wU f (at_+1) (vH a s at_ e) d c
def yJ(b:Nat):(Int×Int)×Bool:=wU a s (s.length+1-b) b ([],List.replicate a.States.length false) (0,0) false
end
structure AG (A:Auto):Prop where
 len:1<=A.States.length/\A.States.length<=8000
 start:0<=A.Start/\A.Start<A.States.length
 good:∀q∈A.States,kH A.States.length q=true
theorem AG.check{A:Auto}(h:AG A):LW A=0:=by
 obtain⟨a,b⟩:=h.len;obtain⟨c,d⟩:=h.start;unfold LW;rw[A6 (by omega),A5 (B27.2 h.good)]
theorem vI{A:Auto}{i:Int}(h:0<=i/\i<A.States.length):A.States[i.toNat]?=some (aX A i):=by
 rw[aX,B30,B23 (show i.toNat<A.States.length by omega)];rfl
theorem wV{A:Auto}(a:AG A){i:Int}(h:0<=i/\i<A.States.length):kH A.States.length (aX A i)=true:=a.good _ (B43 (vI h))
theorem mF{n:Int}{q:State}(h:kH n q=true) :
  ((q.Kind=0\/q.Kind=2\/q.Kind=3)/\0<=q.Next/\q.Next<n)\/(q.Kind=1/\(0<=q.Next/\q.Next<n)/\0<=q.Other/\q.Other<n)\/q.Kind=4:=by
 unfold kH at h;split at h
 ·rename_i a;exact .inl ⟨a,A1 h⟩
 ·split at h
  ·rename_i a;have:=A1 h;exact .inr (.inl ⟨a,⟨this.1,this.2.1⟩,this.2.2⟩)
  ·exact .inr (.inr (A1 h))
theorem EC{A:Auto}(c:AG A){i:Int}(h:0<=i/\i<A.States.length)(b e:Bool):(d5 (aX A i) b e).length<=2/\∀k∈d5 (aX A i) b e,0<=k/\k<A.States.length:=by
 have d:=mF (wV c h);unfold d5
 repeat' split
 all_goals refine⟨by simp,fun k a=>?_⟩
 all_goals simp only[B34,C00,or_false]at a
 ·rcases a with rfl | rfl
  ·omega
  ·omega
 ·subst a;omega
 ·subst a;omega
structure MG (A:Auto) (m:Mach):Prop where
 sl:m.2.length=A.States.length
 cnt:m.1.length+m.2.count false<=A.States.length
 st:∀t∈m.1,0<=t.state/\t.state<A.States.length
theorem IP{sn:List Bool}:∀{i:Nat},sn[i]?=some false->(sn.set i true).count false+1=sn.count false:=by
 induction sn with
 | nil=>intro i h;cases h
 | cons b r a =>
  intro i h;cases i with
  | zero =>
   rw[List.getElem?_cons_zero]at h;cases h;simp
  | succ i =>
   rw[List.getElem?_cons_succ]at h;have:=a h;rw[List.set_cons_succ,List.count_cons,List.count_cons];omega
theorem MG.first(A:Auto):MG A ([],List.replicate A.States.length false):=⟨by simp,by simp,fun _ h=>by cases h⟩
theorem VP{sn:List Bool}{i:Nat}(h:i<sn.length):sn[i]?=some (L1 sn i):=by
 unfold L1;rw[B23 h];rfl
theorem MG.push{A:Auto}{m:Mach}(h:MG A m){i:Int}(c:0<=i/\i<A.States.length)(fr:Int)(d:L1 m.2 i.toNat=false):MG A (m.1++[⟨i,fr⟩],m.2.set i.toNat true):=by
 have b:=h.sl;have e:=IP (sn:=m.2) (i:=i.toNat) (by rw[<-d];exact VP (by omega));have f:=h.cnt;refine⟨by dsimp only;rw[B76];exact b,by dsimp only;rw[B25,B41];omega,fun t a=>?_⟩;rcases B36.1 a with a | a
 ·exact h.st t a
 ·rw[B33.1 a];exact c
section
variable (A:Auto) (s:Str)
def VQ(a:List Int)(m:Mach):Nat:=3*m.2.count false+a.length
theorem A29(a:Nat)(fr:Int)(f:Nat)(m:Mach):gJ A s a fr f [] m=m:=by
 cases f<;>rfl
theorem ED{a:Nat}{fr:Int}{f:Nat}{b:List Int}{i:Int}{m:Mach}(h:b.getLast?=some i)(c:L1 m.2 i.toNat=true):gJ A s a fr (f+1) b m=gJ A s a fr f b.dropLast m:=by
 rw[gJ,h];simp only[c,if_true]
theorem IQ{a:Nat}{fr:Int}{f:Nat}{b:List Int}{i:Int}{m:Mach}(h:b.getLast?=some i)(c:L1 m.2 i.toNat=false) :
  gJ A s a fr (f+1) b m=gJ A s a fr f (b.dropLast++d5 (aX A i) (decide (a=0)) (decide (a=s.length))) (m.1++[⟨i,fr⟩],m.2.set i.toNat true):=by
 rw[gJ,h];simp only[c,Bool.false_eq_true,if_false]
theorem EE{a:List Int}{i:Int}(h:a.getLast?=some i):a≠[]/\a[a.length-1]?=some i/\i∈a:=by
 have b:a≠[]:=fun e=>by rw[e]at h;cases h
 rw[List.getLast?_eq_getElem?]at h;exact⟨b,h,B43 h⟩
variable {A}
theorem sR(e:AG A){a:Nat}{fr:Int}:∀(f:Nat) (b:List Int) (m:Mach),(∀k∈b,0<=k/\k<A.States.length)->MG A m->MG A (gJ A s a fr f b m)
 | 0,_,_,_,h=>h
 | f+1,b,m,ho,h=>by
  cases d:b.getLast? with
  | none=>rw[gJ,d];exact h
  | some i =>
   have l:=ho i (EE d).2.2;have j:∀k∈b.dropLast,0<=k/\k<A.States.length:=fun k c=>ho k (List.dropLast_subset _ c);cases g:L1 m.2 i.toNat
   ·rw[IQ A s d g];refine sR e f _ _ (fun k c=>?_) (h.push l fr g);rcases B36.1 c with c | c
    ·exact j k c
    ·exact (EC e l _ _).2 k c
   ·rw[ED A s d g];exact sR e f _ _ j h
theorem wW(b:AG A){a:Nat}{t:Thread}(d:0<=t.state/\t.state<A.States.length){m:Mach}(h:MG A m):MG A (VO A s a t m) :=
 sR s b _ _ _ (fun k c=>by rw[B33.1 c];exact d) h
theorem RC(y:AG A){a:Nat}{fr:Int}{f:Nat}{b:List Int}{m R:Mach}(q:MG A m)(v:∀k∈b,0<=k/\k<A.States.length)(z:VQ b m<f)(l:gJ A s a fr f b m=R){i:Int}(p:b.getLast?=some i) :
  ∃e c j,f=e+1/\gJ A s a fr e c j=R/\VQ c j<e/\VQ c j<VQ b m/\MG A j/\(∀k∈c,0<=k/\k<A.States.length) /\
   (L1 m.2 i.toNat=true->c=b.dropLast/\j=m)/\(L1 m.2 i.toNat=false->c=b.dropLast++d5 (aX A i) (decide (a=0)) (decide (a=s.length))/\j=(m.1++[⟨i,fr⟩],m.2.set i.toNat true)):=by
 obtain⟨r,C,o⟩:=EE p;have u:=v i o;have w:0<b.length:=List.length_pos_iff.2 r;have d:b.dropLast.length=b.length-1:=List.length_dropLast;have t:∀k∈b.dropLast,0<=k/\k<A.States.length:=fun k g=>v k (List.dropLast_subset _ g);obtain⟨e,rfl⟩:∃e,f=e+1:=⟨f-1,by omega⟩
 unfold VQ at z;cases n:L1 m.2 i.toNat
 ·have B:=IP (sn:=m.2) (i:=i.toNat) (by rw[<-n];exact VP (by rw[q.sl];omega));have x:=EC y u (decide (a=0)) (decide (a=s.length));rw[IQ A s p n]at l;refine⟨e,_,_,rfl,l,?_,?_,q.push u fr n,(fun k g=>?_),⟨(fun h=>by cases h),fun _=>⟨rfl,rfl⟩⟩⟩
  ·unfold VQ;rw[B25,d];dsimp only;omega
  ·unfold VQ;rw[B25,d];dsimp only;omega
  ·rcases B36.1 g with g | g
   ·exact t k g
   ·exact x.2 k g
 ·rw[ED A s p n]at l;refine⟨e,_,_,rfl,l,?_,?_,q,t,⟨(fun _=>⟨rfl,rfl⟩),fun h=>by cases h⟩⟩
  ·unfold VQ;rw[d];omega
  ·unfold VQ;rw[d];omega
theorem yK(b:AG A){a c:Nat}:∀(d:List Thread) (m:Mach),(∀t∈d,0<=t.state/\t.state<A.States.length)->MG A m->MG A (oX A s a c d m)
 | [],_,_,h=>h
 | t::r,m,ht,h=>by
  rw[oX];refine yK b r _ (fun x e=>ht x (B46 _ e)) ?_;split
  ·rename_i f;refine wW s b ?_ h;have:=mF (wV b (ht t (B52 ..)));dsimp only;omega
  ·exact h
theorem EF(b:AG A){a:Nat}{m:Mach}(h:MG A m):MG A (vH A s a m):=yK s b _ _ h.st (MG.first A)
theorem sS{fr:Int}:∀{th:List Thread} {i:Nat},(∀t∈th.take i,t.from_<=fr)->(∀t,th[i]?=some t->t.from_>fr)->gK fr th=th.take i
 | [],i,_,_=>by simp[gK]
 | t::r,0,_,h2=>by
  have:=h2 t rfl;unfold gK;rw[A5 this];rfl
 | t::r,i+1,h1,h2=>by
  have c:=h1 t (by simp);have b:=sS (fr:=fr) (th:=r) (i:=i) (fun x a=>h1 x (by rw[List.take_succ_cons];exact B46 _ a)) (fun x a=>h2 x a);rw[gK,A6 (by omega),List.take_succ_cons,b]
theorem RD(fr:Int):∀a:List Thread,(gK fr a).length<=a.length/\∀t∈gK fr a,t∈a
 | []=>⟨B29 _,fun _ h=>h⟩
 | t::r=>by
  have c:=RD fr r;unfold gK;split
  ·exact⟨B37 _,fun _ h=>by cases h⟩
  ·refine⟨by rw[B31,B31];omega,fun x b=>?_⟩;rcases B34.1 b with rfl | b
   ·simp
   ·exact B46 _ (c.2 x b)
theorem MG.keep{m:Mach}(h:MG A m)(fr:Int):MG A (gK fr m.1,m.2):=by
 have a:=RD fr m.1;have c:=h.cnt;exact⟨h.sl,by dsimp only;omega,fun t b=>h.st t (a.2 t b)⟩
end
end Go.AL
attribute [local semireducible] Go.AL.Neu Go.AL.Eff Go.AL.EffV Go.AL.WpL Go.AL.WpC Go.AL.FnOk Go.AL.LexD Go.AL.Sees Go.AL.RetOk Go.AL.FnIo Go.AL.Met Go.AL.RetS
namespace Go.AL
open Go Go.RowKit
set_option linter.unusedVariables false
variable {P:Program}{dst:Option Tmp}{ty:TypeId}{pos:String}{af:Array Edge}{gd:Option (Nat×Bool)}{fr:Fr}{ob:Obs}{nt:Nat}
theorem bY{x y:Operand}{t e:TypeId}{n a k off m:Nat}{h:IntKind}{i:Int}[ht:TyArr P t e n a](c:opv fr x=some (.s (.one (.ref k off))))(g:opv fr y=some (H6 (.int h i)))(b:i=(m:Int))(l:m<n) :
  Neu P ⟨dst,.indexAddr t x y,ty,pos,af,gd⟩ fr ob (fun j=>j=.s (.one (.ref k (off+m*a)))):=by
 subst b;exact jU c g (by omega) (by omega)
theorem pY{ops:Array Oper}{rest:List Oper}{Q:Post}{d:Nat}{z:Op}{ty:TypeId}{pos:String}{af:Array Edge}{j t:Nat}{b:Bool}(q:(ops[j]?).bind (·.dst)=some t)(m:Nat.blt t nt=true)(r:C7 fr t=some .un)(o:Nat.blt d nt=true)
  (k:WpL P nt ops rest ((d,.un)::fr) ob Q):WpL P nt ops (⟨some d,z,ty,pos,af,some (j,b)⟩::rest) fr ob Q:=by
 intro S G a w h f;have g:d<S.nt:=by rw[h];simpa using o
 have p:=k S G _ w h (f.put (s:=.un) (v:=undef) g rfl);have c:t<a.tmps.size:=by rw[f.nt,h];simpa using m
 have x:=(Wants.un (b:=b)).yields (f.fact (by rw[<-f.nt];exact c) r) q c rfl;unfold wpList;rw[A6 (by unfold Region.wanted;simp only;rw[x];simp)];exact p
theorem quo64{c m:Nat}(a:c<256)(h:c / 64=m):IntKind.u8.wrap ((c:Int).tdiv 64)=(m:Int):=by
 rw[Int.tdiv_eq_ediv_of_nonneg (by omega)];simp[IntKind.wrap,IntKind.signed,IntKind.bits];omega
theorem rem64(c:Nat):min ((c:Int).tmod 64).toNat IntKind.u64.bits=c % 64:=by
 rw[Int.tmod_eq_emod_of_nonneg (by omega)];simp only[IntKind.bits];omega
theorem RE(x:Int):IntKind.u64.wrap ((BitVec.ofInt IntKind.u64.bits x &&& BitVec.ofInt IntKind.u64.bits 1).toNat:Int)=x % 2:=by
 have b:(BitVec.ofInt IntKind.u64.bits 1).toNat=1:=by decide
 rw[BitVec.toNat_and,b,Nat.and_one_is_mod,BitVec.toNat_ofInt,show ((2 ^ IntKind.u64.bits:Nat):Int)=18446744073709551616 by rfl];simp[IntKind.wrap,IntKind.signed,IntKind.bits];omega
def J3(s:Str)(i:Nat):Option (Int×Nat):=(rM (s.drop i)).map fun p=>((p.1:Int),i+p.2)
theorem digs_le(s:Str):(P4 s).length<=s.length:=(List.takeWhile_sublist _).length_le
theorem numF_le{s:Str}{i e:Nat}{n:Int}(f:i<=s.length)(h:J3 s i=some (n,e)):i<e/\e<=s.length/\0<=n:=by
 unfold J3 at h;cases a:rM (s.drop i) with
 | none=>rw[a]at h;cases h
 | some p =>
  obtain⟨m,k⟩:=p;rw[a]at h;cases h;unfold rM at a;split at a
  ·cases a
  ·rename_i b;cases a;have c:=digs_le (s.drop i);rw[B47]at c;have d:0<(P4 (s.drop i)).length:=List.length_pos_iff.2 fun e=>b (.inl e);omega
def okN(l:List Node):Prop:=∀(i:Nat) (n:Node),l[i]?=some n->gH n i=true
theorem A85{l:List Node}{n:Node}(h:okN l)(f:gH n l.length=true):okN (l++[n]):=fun i x a=>by
 rw[List.getElem?_append]at a;split at a
 ·exact h i x a
 ·rename_i d;obtain⟨c,b⟩:=B28.1 a;simp only[B41]at c;have e:i=l.length:=by omega
  subst e;simp at b;rw[<-b];exact f
section
variable (s:Str)
abbrev EG(st:PSt)(k:Int):Prop:=0<=k/\k<st.nodes.length
structure Gr (a b:Nat) (st st':PSt):Prop where
 at_:st.at_<=st'.at_
 len:st'.at_<=s.length
 dep:st'.depth=st.depth
 cnt:st'.nodes.length+st.at_+a<=st.nodes.length+st'.at_+b
 more:st.nodes.length<=st'.nodes.length
 ok:okN st.nodes->okN st'.nodes
variable {s}
theorem Gr.trans{a b c d:Nat}{x y z:PSt}(h:Gr s a b x y)(g:Gr s c d y z):Gr s (a+c) (b+d) x z where
 at_:=B72 h.at_ g.at_
 len:=g.len
 dep:=g.dep.trans h.dep
 cnt:=by have:=h.cnt;have:=g.cnt;omega
 more:=B72 h.more g.more
 ok:=fun k=>g.ok (h.ok k)
theorem Gr.le{a b c d:Nat}{x y:PSt}(h:Gr s a b x y)(e:c+b<=a+d):Gr s c d x y where
 at_:=h.at_
 len:=h.len
 dep:=h.dep
 cnt:=by have:=h.cnt;omega
 more:=h.more
 ok:=h.ok
theorem Gr.refl{x:PSt}(h:x.at_<=s.length):Gr s 0 0 x x:=⟨B29 _,h,rfl,by omega,B29 _,fun h=>h⟩
theorem M7{x:PSt}(k:Nat)(h:x.at_+k<=s.length):Gr s k 0 x (x.skip k):=⟨Nat.le_add_right _ _,h,rfl,by show x.nodes.length+x.at_+k<=x.nodes.length+(x.at_+k)+0;omega,B29 _,fun h=>h⟩
theorem gr_at{x:PSt}(e:Nat)(h:x.at_<=e)(a:e<=s.length):Gr s (e-x.at_) 0 x { x with at_:=e }:=⟨h,a,rfl,by show x.nodes.length+x.at_+(e-x.at_)<=x.nodes.length+e+0;omega,B29 _,fun h=>h⟩
theorem EH{x:PSt}{n:Node}(h:x.at_<=s.length)(a:gH n x.nodes.length=true):Gr s 0 1 x (sP n x).1/\EG (sP n x).1 (sP n x).2:=by
 refine⟨⟨B29 _,h,rfl,?_,?_,fun k=>A85 k a⟩,?_⟩
 ·show (x.nodes++[n]).length+x.at_+0<=x.nodes.length+x.at_+1;rw[B25,B41];omega
 ·show x.nodes.length<=(x.nodes++[n]).length;rw[B25];omega
 ·show 0<=(x.nodes.length:Int)/\(x.nodes.length:Int)<((x.nodes++[n]).length:Int);rw[B25,B41];omega
theorem wX{k:Int}{t:Set4}{i:Int}(h:k=0\/k=1\/k=2\/k=3):gH ⟨k,t,0,0,[]⟩ i=true:=by
 unfold gH;rw[A5 h];rfl
theorem VR{x:PSt}(t:Set4)(h:x.at_<=s.length):Gr s 0 1 x (qI t x).1/\EG (qI t x).1 (qI t x).2:=EH h (wX (.inr (.inl rfl)))
theorem XT{kids:List Int}{n:Nat}(h:∀k∈kids,0<=k/\k<(n:Int)):(kids.all fun k=>decide (0<=k/\k<(n:Int)))=true:=B27.2 fun k a=>A3 (h k a)
theorem RF{x:PSt}{kind:Int}(b:kind=4\/kind=5){kids:List Int}(a:∀k∈kids,EG x k)(h:x.at_<=s.length):Gr s 0 1 x (oV kind kids x).1/\EG (oV kind kids x).1 (oV kind kids x).2:=by
 match kids,a with
 | [],_=>exact EH h (wX (.inl rfl))
 | [k],a=>exact⟨(Gr.refl h).le (by omega),a k (B52 ..)⟩
 | k::l::r,a =>
  refine EH h ?_;unfold gH;dsimp only[eU];rw[XT a,A6 (by omega),A5 b,B79];exact A3 (by simp only[B31];omega)
theorem t6{x:PSt}{c:UInt8}(h:U5 s c x=true):x.at_+1<=s.length:=by
 have a:=A1 h;have:=(B28.1 a).1;omega
theorem vJ{x:PSt}(c:UInt8)(h:x.at_<=s.length):Gr s 0 0 x (yI s c x):=by
 unfold yI;split
 ·rename_i a;exact (M7 1 (t6 a)).le (by omega)
 ·exact Gr.refl h
theorem pZ{x y:PSt}{c:UInt8}(h:mO s x=.ok (y,c)):Gr s 1 0 x y:=by
 unfold mO at h;split at h
 ·cases h
 ·rename_i a;cases h;exact M7 1 (by have:=(B28.1 a).1;omega)
theorem qA{x y:PSt}{n:Int}(h:l7 s x=.ok (y,n)):Gr s 0 0 x y/\EG y n:=by
 unfold l7 at h;cases a:mO s x with
 | error e=>rw[a]at h;cases h
 | ok p =>
  obtain⟨z,c⟩:=p;rw[a]at h;have g:=pZ a;obtain⟨g1,b⟩:=VR (s:=s) (x:=z) (set0.with_ c.toNat) g.len;cases h;exact⟨(g.trans g1).le (by omega),b⟩
theorem gr_any{x:PSt}(h:x.at_+1<=s.length):Gr s 0 0 x (FQ x).1/\EG (FQ x).1 (FQ x).2:=by
 have g:=M7 (s:=s) (x:=x) 1 h;obtain⟨g1,a⟩:=VR (s:=s) (x:=x.skip 1) set0.compl h;exact⟨(g.trans g1).le (by omega),a⟩
theorem wY{x y:PSt}{n:Int}(b:x.at_+1<=s.length)(h:pX s x=.ok (y,n)):Gr s 0 0 x y/\EG y n:=by
 have g:=M7 (s:=s) (x:=x) 1 b;obtain⟨g1,a⟩:=qA h;exact⟨(g.trans g1).le (by omega),a⟩
theorem IR{x y:PSt}{kind n:Int}(f:kind=2\/kind=3)(b:x.at_+1<=s.length)(h:y3 s kind x=.ok (y,n)):Gr s 0 0 x y/\EG y n:=by
 have g:=M7 (s:=s) (x:=x) 1 b;obtain⟨g1,a⟩:=EH (s:=s) (x:=x.skip 1) (n:={ eU with Kind:=kind }) b (wX (by omega));have key:y3 s kind x=.ok (sP { eU with Kind:=kind } (x.skip 1))->Gr s 0 0 x y/\EG y n:=fun e=>by
  rw[e]at h;cases h;exact⟨(g.trans g1).le (by omega),a⟩
 unfold y3 at h key;dsimp only at h key;split at h
 ·split at h
  ·cases h
  ·rename_i c d;cases h;exact⟨(g.trans g1).le (by omega),a⟩
 ·cases h;exact⟨(g.trans g1).le (by omega),a⟩
theorem LX{x y:PSt}{n:Int}(a:x.at_<=s.length)(h:vG s J3 x=.ok (y,n)):Gr s 1 0 x y/\0<=n/\n<=100:=by
 unfold vG at h;split at h
 ·cases h
 ·rename_i m e d;obtain⟨f,b,c⟩:=numF_le a d;split at h
  ·cases h
  ·cases h;exact⟨(gr_at e (by omega) b).le (by omega),c,by omega⟩
abbrev bndOk(b:Int×Int):Prop:=0<=b.1/\b.1<=100/\(b.2 = -1\/b.1<=b.2/\b.2<=100)
theorem LY{x y:PSt}{c a:Int}{b:Int×Int}(h:(if U5 s 125 x=false\/(0<=a/\a<c) then .error 40 else .ok (x.skip 1,(c,a)):Ps (Int×Int))=.ok (y,b)):Gr s 1 0 x y/\b=(c,a)/\¬(0<=a/\a<c):=by
 split at h
 ·cases h
 ·rename_i d;have f:U5 s 125 x=true:=by
   cases g:U5 s 125 x
   ·exact absurd (.inl g) d
   ·rfl
  cases h;exact⟨M7 1 (t6 f),rfl,fun e=>d (.inr e)⟩
theorem A30{x y:PSt}{b:Int×Int}(B:x.at_<=s.length)(h:p8 s J3 x=.ok (y,b)):Gr s 1 0 x y/\bndOk b:=by
 unfold p8 at h;cases u:vG s J3 x with
 | error e=>rw[u]at h;cases h
 | ok p =>
  obtain⟨z,v⟩:=p;rw[u]at h;dsimp only at h;obtain⟨g1,g,d⟩:=LX B u;split at h
  ·rename_i j;have f:=M7 (s:=s) (x:=z) 1 (t6 j);split at h
   ·obtain⟨c,rfl,_⟩:=LY h;exact⟨((g1.trans f).trans c).le (by omega),g,d,.inl rfl⟩
   ·split at h
    ·obtain⟨c,rfl,_⟩:=LY h;exact⟨((g1.trans f).trans c).le (by omega),g,d,.inl rfl⟩
    ·cases m:vG s J3 (z.skip 1) with
     | error e=>rw[m]at h;cases h
     | ok q =>
      obtain⟨D,w⟩:=q;rw[m]at h;dsimp only at h;obtain⟨c,m1,C⟩:=LX f.len m;obtain⟨A,rfl,j⟩:=LY h;refine⟨(((g1.trans f).trans c).trans A).le (by omega),g,d,.inr ?_⟩;dsimp only;omega
  ·obtain⟨c,rfl,j⟩:=LY h;exact⟨(g1.trans c).le (by omega),g,d,.inr ⟨Int.le_refl _,d⟩⟩
theorem oY{x y:PSt}{b:Option (Int×Int)}(_h0:x.at_<=s.length)(h:bX s J3 x=.ok (y,b)):(b=none/\y=x)\/∃q,b=some q/\Gr s 1 0 x y/\bndOk q:=by
 unfold bX at h;split at h
 ·rename_i a;cases h;exact .inr ⟨_,rfl,M7 1 (t6 a),by decide⟩
 split at h
 ·rename_i a;cases h;exact .inr ⟨_,rfl,M7 1 (t6 a),by decide⟩
 split at h
 ·rename_i a;cases h;exact .inr ⟨_,rfl,M7 1 (t6 a),by decide⟩
 split at h
 ·rename_i a;have g:=M7 (s:=s) (x:=x) 1 (t6 a);split at h
  ·cases h
  ·rename_i z q hb;obtain⟨c,d⟩:=A30 g.len hb;cases h;exact .inr ⟨_,rfl,(g.trans c).le (by omega),d⟩
 ·cases h;exact .inl ⟨rfl,rfl⟩
theorem kI{x y:PSt}{r:Ps Int}{n:Int}(w:∀z k,r=.ok (z,k)->Gr s 0 0 x z/\EG z k)(h:y4 s J3 r=.ok (y,n)):Gr s 0 0 x y/\EG y n:=by
 unfold y4 at h;split at h
 ·cases h
 ·rename_i z k;obtain⟨g1,g⟩:=w z k rfl;split at h
  ·cases h
  ·rename_i f;cases h;rcases oY g1.len f with ⟨_,rfl⟩ | ⟨q,c,_⟩
   ·exact⟨g1,g⟩
   ·cases c
  ·rename_i z2 b d f;rcases oY g1.len f with ⟨c,_⟩ | ⟨q,c,g2,hb⟩
   ·cases c
   ·cases c;have i2:EG z2 k:=⟨g.1,by have:=g2.more;have:=g.2;omega⟩
    obtain⟨u,i3⟩:=EH (s:=s) (x:=z2) (n:={ eU with Kind:=6,Min:=b,Max:=d,Kids:=[k] }) g2.len (by
     unfold gH;dsimp only[eU];rw[XT (fun j v=>by rw[B33.1 v];exact i2),A6 (by omega),A6 (by omega),A5 rfl,B79];obtain⟨i,m,p⟩:=hb
     exact A3 ⟨rfl,i,m,p⟩)
    cases h;exact⟨((g1.trans g2).trans u).le (by omega),i3⟩
theorem mG{x y:PSt}{t v:Set4}(_h0:x.at_<=s.length)(h:iL s t x=.ok (y,v)):Gr s 1 0 x y:=by
 unfold iL at h;dsimp only at h;split at h
 ·rename_i b;split at h
  ·cases h
  ·rename_i w;split at h
   ·cases h
   ·cases h;have f:=Lib.index_room ((s.drop x.at_).drop 2) [58,93] (by omega);rw[B47,B47,show (([58,93]:Str).length)=2 from rfl]at f;have i:=A1 b;have j:=(B28.1 i.2).1;rw[B47]at j;refine (M7 (4+(Lib.index ((s.drop x.at_).drop 2) [58,93]).toNat) ?_).le (by omega);omega
 ·split at h
  ·cases h
  ·rename_i c m;have q:=(B28.1 m).1;split at h
   ·cases h;exact M7 1 (by omega)
   ·rename_i u;split at h
    ·cases h
    ·cases h;refine (M7 3 ?_).le (by omega);rw[B47]at u;omega
theorem EI:∀(f:Nat) {x y:PSt} {t a:Set4},x.at_<=s.length->jJ s f t x=.ok (y,a)->Gr s 1 0 x y
 | 0,_,_,_,_,_,h=>by cases h
 | f+1,x,y,t,a,h0,h=>by
  unfold jJ at h;split at h
  ·rename_i b;cases h;exact M7 1 (t6 b)
  ·split at h
   ·cases h
   ·rename_i z t2 c;have g:=mG h0 c;exact (g.trans (EI f g.len h)).le (by omega)
theorem EJ{f:Nat}{x y:PSt}{n:Int}(m:x.at_+1<=s.length)(h:jK s f x=.ok (y,n)):Gr s 0 0 x y/\EG y n:=by
 unfold jK at h;dsimp only at h;have g1:=M7 (s:=s) (x:=x) 1 m;have g:=vJ (s:=s) (x:=x.skip 1) 94 g1.len;split at h
 ·cases h
 ·rename_i v t p;have i:=mG g.len p;split at h
  ·cases h
  ·rename_i u t2 q;have j:=EI f i.len q;have b:=VR (s:=s) (x:=u) (if U5 s 94 (x.skip 1)=true then t2.compl else t2) j.len;have e:=Except.ok.inj h;have c:=congrArg Prod.fst e;have d:=congrArg Prod.snd e;dsimp only at c d;rw[c,d]at b;exact⟨((((g1.trans g).trans i).trans j).trans b.1).le (by omega),b.2⟩
theorem IS{x y:PSt}{t b:Set4}(a:S5 t)(h:iL s t x=.ok (y,b)):S5 b:=by
 unfold iL at h;dsimp only at h;split at h
 ·split at h
  ·cases h
  ·split at h
   ·cases h
   ·rename_i c;cases h;exact VM a c
 ·split at h
  ·cases h
  ·split at h
   ·cases h;exact wT a _
   ·split at h
    ·cases h
    ·cases h;exact M2 a _ _
theorem RG{x y:PSt}{k:Int}(h:x.nodes.length<=y.nodes.length)(a:EG x k):EG y k:=⟨a.1,by have:=a.2;omega⟩
structure GrAll (f:Nat):Prop where
 pat:∀{x y:PSt} {n:Int},x.at_<=s.length->jL s J3 f x=.ok (y,n)->Gr s 0 2 x y/\EG y n
 loop:∀{x y:PSt} {kids:List Int} {n:Int},x.at_<=s.length->(∀k∈kids,EG x k)->fE s J3 f x kids=.ok (y,n)->Gr s 0 1 x y/\EG y n
 alt:∀{x y:PSt} {kids:List Int} {n:Int},x.at_<=s.length->(∀k∈kids,EG x k)->gG s J3 f x kids=.ok (y,n)->Gr s 0 1 x y/\EG y n
 piece:∀{x y:PSt} {c:UInt8} {n:Int},s[x.at_]?=some c->cX s J3 f x c=.ok (y,n)->Gr s 0 0 x y/\EG y n
 paren:∀{x y:PSt} {n:Int},x.at_+1<=s.length->U9 s J3 f x=.ok (y,n)->Gr s 0 0 x y/\EG y n
theorem eO:∀f:Nat,GrAll (s:=s) f
 | 0=>⟨(fun _ h=>by cases h),(fun _ _ h=>by cases h),(fun _ _ h=>by cases h),(fun _ h=>by cases h),(fun _ h=>by cases h)⟩
 | f + 1=>by
  have m:=eO f;refine⟨?_,?_,?_,?_,?_⟩
  ·intro x y n o h;rw[jL]at h;split at h
   ·cases h
   ·rename_i z k ha;obtain⟨g1,i1⟩:=m.alt o (fun k g=>by cases g) ha;obtain⟨q,i2⟩:=m.loop g1.len (fun j a=>by rw[B33.1 a];exact i1) h;exact⟨(g1.trans q).le (by omega),i2⟩
  ·intro x y kids n o g h;rw[fE]at h;split at h
   ·rename_i p;have g0:=M7 (s:=s) (x:=x) 1 (t6 p);split at h
    ·cases h
    ·rename_i z k ha;obtain⟨g1,i1⟩:=m.alt g0.len (fun k g=>by cases g) ha;have u:=g0.trans g1
     obtain⟨q,i2⟩:=m.loop g1.len (fun j a=>by
      rcases B36.1 a with a | a
      ·exact RG u.more (g j a)
      ·rw[B33.1 a];exact i1) h
     exact⟨(u.trans q).le (by omega),i2⟩
   ·have d:=RF (s:=s) (x:=x) (kind:=5) (.inr rfl) g o;have e:=Except.ok.inj h;rw[e]at d;exact d
  ·intro x y kids n o g h;have d:=RF (s:=s) (x:=x) (kind:=4) (.inl rfl) g o;rw[gG]at h;split at h
   ·rw[Except.ok.inj h]at d;exact d
   ·rename_i c p;split at h
    ·rw[Except.ok.inj h]at d;exact d
    ·split at h
     ·cases h
     ·rename_i z k t;obtain⟨g1,i1⟩:=m.piece p t
      obtain⟨q,i2⟩:=m.alt g1.len (fun j a=>by
       rcases B36.1 a with a | a
       ·exact RG g1.more (g j a)
       ·rw[B33.1 a];exact i1) h
      exact⟨(g1.trans q).le (by omega),i2⟩
  ·intro x y c n p h;have b:x.at_+1<=s.length:=by have:=(B28.1 p).1;omega
   rw[cX]at h;split at h
   ·exact IR (.inl rfl) b h
   split at h
   ·exact IR (.inr rfl) b h
   split at h
   ·exact kI (fun z k e=>m.paren b e) h
   split at h
   ·exact kI (fun z k e=>EJ b e) h
   split at h
   ·exact kI (fun z k e=>by
     have d:=gr_any (s:=s) (x:=x) b
     rw[Except.ok.inj e]at d;exact d) h
   split at h
   ·exact kI (fun z k e=>wY b e) h
   split at h
   ·cases h
   ·exact kI (fun z k e=>qA e) h
  ·intro x y n o h;rw[U9]at h;split at h
   ·cases h
   ·split at h
    ·cases h
    ·rename_i z k t;split at h
     ·rename_i p;obtain⟨g1,i1⟩:=m.pat (x:={ x with at_:=x.at_+1,depth:=x.depth+1 }) o t;cases h;have B:=t6 p;have v:=g1.at_;have w:=g1.dep;have A:=g1.cnt;dsimp only at v w A;exact⟨⟨by dsimp only;omega,by dsimp only;omega,by dsimp only;omega,by dsimp only;omega,g1.more,g1.ok⟩,i1⟩
     ·cases h
end
variable {s:Str}
theorem num_nz{x:PSt}:vG s J3 x≠.error 0:=fun h=>by
 unfold vG at h;split at h
 ·cases h
 ·split at h<;>cases h
theorem A31{x:PSt}:p8 s J3 x≠.error 0:=fun h=>by
 unfold p8 at h;dsimp only at h;split at h
 ·rename_i e a;cases h;exact num_nz a
 ·split at h
  ·split at h
   ·split at h<;>cases h
   ·split at h
    ·split at h<;>cases h
    ·split at h
     ·rename_i e a;cases h;exact num_nz a
     ·split at h<;>cases h
  ·split at h<;>cases h
theorem A86{x:PSt}:bX s J3 x≠.error 0:=fun h=>by
 unfold bX at h;split at h
 ·cases h
 split at h
 ·cases h
 split at h
 ·cases h
 split at h
 ·split at h
  ·rename_i e a;cases h;exact A31 a
  ·cases h
 ·cases h
theorem IT{x:PSt}:l7 s x≠.error 0:=fun h=>by
 unfold l7 at h;split at h
 ·rename_i e a;cases h;unfold mO at a;split at a<;>cases a
 ·cases h
theorem XU{x:PSt}{t:Set4}:iL s t x≠.error 0:=fun h=>by
 unfold iL at h;dsimp only at h;split at h
 ·split at h
  ·cases h
  ·split at h<;>cases h
 ·split at h
  ·cases h
  ·split at h
   ·cases h
   ·split at h<;>cases h
theorem Gr.prog{a:Nat}{x y:PSt}(h:Gr s (a+1) 0 x y):x.at_<y.at_:=by have:=h.cnt;have:=h.more;omega
theorem RH:∀(f:Nat) {x:PSt} {t:Set4},x.at_<=s.length->s.length-x.at_<f->jJ s f t x≠.error 0
 | 0,_,_,_,h=>by omega
 | f+1,x,t,h0,h=>fun e=>by
  unfold jJ at e;split at e
  ·cases e
  ·split at e
   ·rename_i c a;cases e;exact XU a
   ·rename_i y t2 b;have g:=mG h0 b;have d:=g.prog;exact RH f g.len (by have:=g.len;omega) e
theorem A87{x:PSt}(d:x.at_+1<=s.length):jK s (s.length+2) x≠.error 0:=fun h=>by
 unfold jK at h;dsimp only at h;have g1:=M7 (s:=s) (x:=x) 1 d;have b:=vJ (s:=s) (x:=x.skip 1) 94 g1.len;split at h
 ·rename_i e a;cases h;exact XU a
 ·rename_i g t f;have c:=mG b.len f;split at h
  ·rename_i e a;cases h;exact RH _ c.len (by omega) a
  ·cases h
theorem IU{x:PSt}{a:Int}:y3 s a x≠.error 0:=fun h=>by
 unfold y3 at h;dsimp only at h;split at h
 ·split at h<;>cases h
 ·cases h
theorem kJ{r:Ps Int}(b:r≠.error 0):y4 s J3 r≠.error 0:=fun h=>by
 unfold y4 at h;split at h
 ·cases h;exact b rfl
 ·split at h
  ·rename_i e a;cases h;exact A86 a
  ·cases h
  ·cases h
theorem yL{x y:PSt}{a n:Int}(h:y3 s a x=.ok (y,n)):x.at_<y.at_:=by
 have key:y3 s a x=.ok (sP { eU with Kind:=a } (x.skip 1))->x.at_<y.at_:=fun e=>by
  rw[e]at h;cases h;exact Nat.lt_succ_self _
 unfold y3 at h key;dsimp only at h key;split at h
 ·split at h
  ·cases h
  ·cases h;exact Nat.lt_succ_self _
 ·cases h;exact Nat.lt_succ_self _
theorem eH{x y:PSt}{r:Ps Int}{n:Int}(g:∀z k,r=.ok (z,k)->x.at_<z.at_/\z.at_<=s.length)(h:y4 s J3 r=.ok (y,n)):x.at_<y.at_:=by
 unfold y4 at h;split at h
 ·cases h
 ·rename_i z k;obtain⟨f,d⟩:=g z k rfl;split at h
  ·cases h
  ·rename_i b;cases h;rcases oY d b with ⟨_,rfl⟩ | ⟨q,a,_⟩
   ·exact f
   ·cases a
  ·rename_i z2 c e b;rcases oY d b with ⟨a,_⟩ | ⟨q,a,g2,_⟩
   ·cases a
   ·cases h;show x.at_<z2.at_;have:=g2.at_;omega
theorem yM{x y:PSt}{n:Int}(h:l7 s x=.ok (y,n)):x.at_<y.at_:=by
 unfold l7 at h;cases a:mO s x with
 | error e=>rw[a]at h;cases h
 | ok p =>
  obtain⟨z,c⟩:=p;rw[a]at h;have g:=(pZ a).prog;cases h;exact g
theorem VS{f:Nat}{x y:PSt}{n:Int}(e:x.at_+1<=s.length)(h:jK s f x=.ok (y,n)):x.at_<y.at_:=by
 unfold jK at h;dsimp only at h;have g1:=M7 (s:=s) (x:=x) 1 e;have b:=vJ (s:=s) (x:=x.skip 1) 94 g1.len;split at h
 ·cases h
 ·rename_i r t g;have c:=mG b.len g;split at h
  ·cases h
  ·rename_i j t2 i;have d:=EI f c.len i;have q:=(b.trans (c.trans d)).at_;have l:j.at_=y.at_:=congrArg (fun p=>p.1.at_) (Except.ok.inj h);have m:(x.skip 1).at_=x.at_+1:=rfl;omega
theorem VT{f:Nat}{x y:PSt}{n:Int}(b:x.at_+1<=s.length)(h:U9 s J3 f x=.ok (y,n)):x.at_<y.at_:=by
 cases f with
 | zero=>cases h
 | succ f =>
  rw[U9]at h;split at h
  ·cases h
  ·split at h
   ·cases h
   ·rename_i z k d;split at h
    ·obtain⟨g1,_⟩:=(eO f).pat (x:={ x with at_:=x.at_+1,depth:=x.depth+1 }) b d;have c:=g1.at_;have e:z.at_+1=y.at_:=congrArg (fun p=>p.1.at_) (Except.ok.inj h);dsimp only at c;omega
    ·cases h
theorem VU{f:Nat}{x y:PSt}{c:UInt8}{n:Int}(g:s[x.at_]?=some c)(h:cX s J3 f x c=.ok (y,n)):x.at_<y.at_:=by
 have b:x.at_+1<=s.length:=by have:=(B28.1 g).1;omega
 cases f with
 | zero=>cases h
 | succ f =>
  rw[cX]at h;split at h
  ·exact yL h
  split at h
  ·exact yL h
  split at h
  ·exact eH (fun z k e=>⟨VT b e,((eO f).paren b e).1.len⟩) h
  split at h
  ·exact eH (fun z k e=>⟨VS b e,(EJ b e).1.len⟩) h
  split at h
  ·exact eH (fun z k e=>by
    have i:(FQ x).1.at_=z.at_:=congrArg (fun p=>p.1.at_) (Except.ok.inj e);have d:(FQ x).1.at_=x.at_+1:=rfl
    omega) h
  split at h
  ·exact eH (fun z k e=>⟨by
    have j:=yM (x:=x.skip 1) e;have d:(x.skip 1).at_=x.at_+1:=rfl
    omega,(wY b e).1.len⟩) h
  split at h
  ·cases h
  ·exact eH (fun z k e=>⟨yM e,(qA e).1.len⟩) h
structure NzAll (s:Str) (f:Nat):Prop where
 pat:∀x,x.at_<=s.length->4*(s.length-x.at_)+4<=f->jL s J3 f x≠.error 0
 loop:∀x kids,x.at_<=s.length->4*(s.length-x.at_)+3<=f->fE s J3 f x kids≠.error 0
 alt:∀x kids,x.at_<=s.length->4*(s.length-x.at_)+3<=f->gG s J3 f x kids≠.error 0
 piece:∀x c,s[x.at_]?=some c->4*(s.length-x.at_)+2<=f->cX s J3 f x c≠.error 0
 paren:∀x,x.at_+1<=s.length->4*(s.length-x.at_)+1<=f->U9 s J3 f x≠.error 0
theorem nz_all:∀f:Nat,NzAll s f
 | 0=>⟨(fun _ _ h=>by omega),(fun _ _ _ h=>by omega),(fun _ _ _ h=>by omega),(fun _ _ _ h=>by omega),(fun _ _ h=>by omega)⟩
 | f + 1=>by
  have d:=nz_all f;refine⟨?_,?_,?_,?_,?_⟩
  ·intro x j o h;rw[jL]at h;split at h
   ·rename_i e g;cases h;exact d.alt x [] j (by omega) g
   ·rename_i z k ha;obtain⟨g1,_⟩:=(eO f).alt j (fun k q=>by cases q) ha;have:=g1.at_;exact d.loop z [k] g1.len (by omega) h
  ·intro x kids j o h;rw[fE]at h;split at h
   ·rename_i b;have g0:=M7 (s:=s) (x:=x) 1 (t6 b);have v:(x.skip 1).at_=x.at_+1:=rfl;have w:=t6 b;split at h
    ·rename_i e g;cases h;exact d.alt (x.skip 1) [] g0.len (by omega) g
    ·rename_i z k ha;obtain⟨g1,_⟩:=(eO f).alt g0.len (fun k q=>by cases q) ha;have:=g1.at_;exact d.loop z _ g1.len (by omega) h
   ·cases h
  ·intro x kids j o h;rw[gG]at h;split at h
   ·cases h
   ·rename_i c b;split at h
    ·cases h
    ·split at h
     ·rename_i e g;cases h;exact d.piece x c b (by omega) g
     ·rename_i z k r;have g1:=VU b r;have u:=((eO f).piece b r).1.len;exact d.alt z _ u (by omega) h
  ·intro x c b o h;have m:x.at_+1<=s.length:=by have:=(B28.1 b).1;omega
   rw[cX]at h;split at h
   ·exact IU h
   split at h
   ·exact IU h
   split at h
   ·exact kJ (d.paren x m (by omega)) h
   split at h
   ·exact kJ (A87 m) h
   split at h
   ·exact kJ (fun h=>by cases h) h
   split at h
   ·exact kJ IT h
   split at h
   ·cases h
   ·exact kJ IT h
  ·intro x j o h;rw[U9]at h;split at h
   ·cases h
   ·split at h
    ·rename_i e g;cases h;exact d.pat _ j (by dsimp only;omega) g
    ·split at h<;>cases h
def aU(x y:List Str)(c:Change):List Str:=((x.drop c.Old.toNat).take ((c.Old+c.OldLen).toNat-c.Old.toNat))++((y.drop c.New.toNat).take ((c.New+c.NewLen).toNat-c.New.toNat))
def yN(x y:List Str):List Change:=jD (F4 (D6 [x,y]) x) (F4 (D6 [x,y]) y)
def jM(h:Str->Bool)(l:List Str):List Str:=(l.map s8).filter h
def r5(h:Str->Bool)(x y:List Str)(l:List Change):List Str:=l.flatMap fun c=>jM h (aU x y c)
def vK(h:Str->Bool)(a b:Str):List Str:=r5 h (D5 a) (D5 b) (yN (D5 a) (D5 b))
theorem gL(b:List Str)(a:List Str):(F4 b a).length=a.length:=by unfold F4;rw[B75]
theorem A32(x y:List Str):(yN x y).length<=x.length+1/\∀c∈yN x y,0<=c.Old/\0<=c.New/\0<=c.OldLen/\0<=c.NewLen/\c.Old+c.OldLen<=x.length/\c.New+c.NewLen<=y.length:=by
 constructor
 ·have a:=rJ (K1 0 0 (F4 (D6 [x,y]) x) (F4 (D6 [x,y]) y)) 0 0 (F4 (D6 [x,y]) x).length (F4 (D6 [x,y]) y).length;have b:=jE 0 0 (F4 (D6 [x,y]) x) (F4 (D6 [x,y]) y);rw[gL]at b;exact B72 a (by omega)
 ·intro c d;have:=LG _ _ c d;rw[gL,gL]at this;exact this
theorem yO(x y:List Str)(c:Change):(aU x y c).length<=x.length+y.length:=by
 unfold aU;rw[B25,B42,B42,B47,B47];omega
theorem RJ{x y:List Str}{c:Change}{s:Str}(h:s∈aU x y c):s∈x\/s∈y:=by
 rcases B36.1 h with h | h
 ·exact .inl (List.mem_of_mem_drop (B90 h))
 ·exact .inr (List.mem_of_mem_drop (B90 h))
theorem RK(h:Str->Bool)(l:List Str):(jM h l).length<=l.length:=by
 unfold jM;exact B72 (List.length_filter_le ..) (by rw[B75];exact B29 _)
theorem yP(h:Str->Bool)(x y:List Str):∀l:List Change,(r5 h x y l).length<=l.length*(x.length+y.length)
 | []=>by simp[r5]
 | c::r=>by
  have a:=yP h x y r;have b:=RK h (aU x y c);have d:=yO x y c;unfold r5 at a ⊢;rw[List.flatMap_cons,B25,B31,B73];omega
section
variable (A:Auto) (s:Str)
abbrev epsOf(p:Nat)(k:Int):List Int:=d5 (aX A k) (decide (p=0)) (decide (p=s.length))
def reads(p:Nat)(k:Int):Prop:=(aX A k).Kind=0/\sQ (aX A k).Set (s.getD p 0).toNat=1
inductive Run:Int->Nat->Prop
 | start {i:Nat} (hi:i<=s.length):Run A.Start i
 | eps {k j:Int} {p:Nat} (h:Run k p) (hj:j∈epsOf A s p k):Run j p
 | read {k:Int} {p:Nat} (h:Run k p) (hp:p<s.length) (hr:reads A s p k):Run (aX A k).Next (p+1)
abbrev inA(k:Int):Prop:=0<=k/\k<A.States.length
variable {A s}
variable (A s)
def onM(m:Mach)(k:Int):Prop:=inA A k/\L1 m.2 k.toNat=true
structure Sy (p:Nat) (m:Mach):Prop where
 mg:MG A m
 fr:∀t∈m.1,0<=t.from_
 sync:∀k,onM A m k↔∃t∈m.1,t.state=k
variable {A s}
theorem A33{a:List Bool}{i c:Nat}(b:i<a.length):L1 (a.set i true) c=(L1 a c||decide (i=c)):=by
 unfold L1;rw[List.getElem?_set];by_cases e:i=c
 ·subst e;rw[A5 rfl,A5 b];simp
 ·rw[A6 e];simp[e]
theorem A88{m:Mach}(d:MG A m){i:Int}(c:inA A i){fr:Int}(k:Int):onM A (m.1++[⟨i,fr⟩],m.2.set i.toNat true) k↔onM A m k\/k=i:=by
 unfold onM;rw[A33 (by rw[d.sl];have:=c.2;have:=c.1;omega),B63,decide_eq_true_eq];constructor
 ·rintro⟨a,b | b⟩
  ·exact .inl ⟨a,b⟩
  ·right;have:=c.1;have:=a.1;omega
 ·rintro (⟨a,b⟩ | rfl)
  ·exact⟨a,.inl b⟩
  ·exact⟨c,.inr rfl⟩
theorem Sy.push{p:Nat}{m:Mach}(h:Sy A p m){i:Int}(c:inA A i){fr:Int}(b:0<=fr)(d:L1 m.2 i.toNat=false):Sy A p (m.1++[⟨i,fr⟩],m.2.set i.toNat true) where
 mg:=h.mg.push c fr d
 fr:=fun t a=>by
  rcases B36.1 a with a | a
  ·exact h.fr t a
  ·rw[B33.1 a];exact b
 sync:=fun k=>by
  rw[A88 h.mg c,h.sync k];constructor
  ·rintro (⟨t,a,e⟩ | rfl)
   ·exact⟨t,List.mem_append_left _ a,e⟩
   ·exact⟨⟨k,fr⟩,by simp,rfl⟩
  ·rintro⟨t,a,e⟩;rcases B36.1 a with a | a
   ·exact .inl ⟨t,a,e⟩
   ·right;rw[<-e,B33.1 a]
def Shut(A:Auto)(s:Str)(p:Nat)(m:Mach):Prop:=∀k,onM A m k->∀j∈epsOf A s p k,onM A m j
theorem Sy.first(A:Auto)(p:Nat):Sy A p ([],List.replicate A.States.length false) where
 mg:=MG.first A
 fr:=fun _ h=>by cases h
 sync:=fun k=>by
  constructor
  ·rintro⟨b,a⟩;unfold L1 at a;rw[List.getElem?_replicate]at a;split at a<;>cases a
  ·rintro⟨_,h,_⟩;cases h
structure NI (A:Auto) (s:Str) (a:Nat) (m:Mach):Prop where
 sy:Sy A a m
 shut:Shut A s a m
 sound:∀k,onM A m k->Run A s k a
 all:∀p k,p+1=a->Run A s k p->reads A s p k->onM A m (aX A k).Next
 no:∀p k,p<a->Run A s k p->(aX A k).Kind≠4
end
structure ChainA (A:Auto) (w:Str):Prop where
 ag:AG A
 start:A.Start=(w.length:Int)+2
 s0:(aX A ((w.length:Int)+2)).Kind=2/\(aX A ((w.length:Int)+2)).Next=(w.length:Int)+1
 lt:∀(j:Nat) (c:UInt8),w[j]?=some c->(aX A ((w.length:Int)+1-j)).Kind=0/\(aX A ((w.length:Int)+1-j)).Next=(w.length:Int)-j/\∀x:UInt8,sQ (aX A ((w.length:Int)+1-j)).Set x.toNat=1↔x=c
 en:(aX A 1).Kind=3/\(aX A 1).Next=0
 ac:(aX A 0).Kind=4
theorem ag_of{A:Auto}(h:LW A=0):AG A:=by
 unfold LW at h;split at h
 ·cases h
 ·split at h
  ·rename_i b a;exact⟨by omega,by omega,B27.1 a⟩
  ·cases h
end Go.AL
