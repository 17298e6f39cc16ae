/- Plain facts about data; no project text. -/
import Derived.Test.YtabbdaafimcjhaaGreatDoorD
import Derived.Lib.Strings
import Derived.Lib.Bytealg
import Derived.Lib.Join
import Derived.Lib.ItoaNum
import Derived.Test.YtabbdaafimcjhaaGreatDoorAn
import Derived.Lib.IndexMore
import Derived.KernelRfl
set_option linter.all false
namespace Go.AL
open Go
theorem u8_lf(c:UInt8):((c.toNat:Int)=10)↔c=10:=by
 constructor
 ·intro h;have:c.toNat=10:=by omega
  exact C89.1 (by simpa using this)
 ·rintro rfl;rfl
def K1(a:Str):Str->List Str
 | []=>if a=[] then [] else [a]
 | c::r=>if c=10 then (a++[c])::K1 [] r else K1 (a++[c]) r
def F8(b:Str):List Str:=K1 [] b
theorem oB(a:Str)(s:Str):(K1 a s).length<=s.length+1:=by
 induction s generalizing a with
 | nil=>unfold K1;split<;>simp
 | cons c r b=>unfold K1;split<;>simp<;>(have:=b [];have:=b (a++[c]);omega)
theorem rS(s:Str):(K1 [] s).length<=s.length:=by
 have key:∀(s a:Str),a≠[]->(K1 a s).length<=s.length+1:=fun s a _=>oB a s;induction s with
 | nil=>simp[K1]
 | cons c r b=>unfold K1;split<;>simp<;>(have:=oB ([]++[c]) r;simp at this;omega)
theorem pJ(b:Str):(F8 b).length<=b.length:=rS b
theorem sM(a r:Str)(c:UInt8):K1 a (c::r)=if c=10 then (a++[c])::K1 [] r else K1 (a++[c]) r:=rfl
theorem NP(a:Str)(h:a≠[]):K1 a []=[a]:=by simp[K1,h]
theorem or_pick{p q:Prop}[Decidable p][Decidable q]:(if decide p=true then true else decide q)=decide (p\/q):=by by_cases p<;>simp[*]
theorem and_pick{p q:Prop}[Decidable p][Decidable q]:(if decide p=true then decide q else false)=decide (p/\q):=by by_cases p<;>simp[*]
theorem t8{α:Type}(l:List (List α))(i:Nat)(h:i<l.length):(l.take (i+1)).flatten=(l.take i).flatten++l[i]:=by
 rw[C52,C36 h,C53,D11];simp
theorem aZ{α:Type}(l:List (List α))(i:Nat):(l.take i).flatten.length<=l.flatten.length:=by
 conv=>rhs;rw[<-D16 i l,D11,C40]
 omega
theorem YH(i:Nat):((i:Int)+1).toNat=i+1:=by omega
theorem KH{α:Type}(b:List α)(f i:Nat)(d:f<=i)(c:i<b.length):(b.drop f).take (i-f)++[b[i]]=(b.drop f).take (i+1-f):=by
 rw[show i+1-f=(i-f)+1 by omega,C52,C66,show f+(i-f)=i by omega,C36 c];rfl
def ended(s:Str):Bool:=s.getLast? == some 10
theorem B74(s:Str):ended s=(if decide (s≠[])=true then decide (((s.getLastD 0).toNat:Int)=10) else false):=by
 unfold ended;by_cases h:s=[]
 ·simp[h]
 ·rw[List.getLast?_eq_some_getLast h,List.getLastD_eq_getLast?,List.getLast?_eq_some_getLast h];simp only[ne_eq,h,not_false_eq_true,decide_true,if_true,Option.getD_some,u8_lf];rfl
def M5:List Str->Str->Int->Int
 | [],_,_ => -1
 | x::r,s,i=>if x=s then i else M5 r s (i+1)
theorem NQ(l:List Str)(s:Str)(k:Nat)(h:k<l.length):M5 (l.drop k) s k=if l[k]=s then (k:Int) else M5 (l.drop (k+1)) s ((k:Int)+1):=by
 rw[C57 h];simp[M5]
theorem SY(l:List Str)(s:Str):∀(k:Int),0<=k->((M5 l s k<0)↔s∉l):=by
 induction l with
 | nil=>intro k _;simp[M5]
 | cons x r a =>
  intro k b;unfold M5;by_cases h:x=s
  ·simp[h];omega
  ·have:=a (k+1) (by omega);simp[h,this,Ne.symm h]
def bL(s:Str):Bool:=s.dropLast.all (·≠10)&&s != []
def I6(b:Str):Int:=if b.length>1048576\/(F8 b).length>4096 then 1 else 0
def K2(a:List Str)(s:Str):List Str:=if s∈a then a else a++[s]
def E0(files:List (List Str)):List Str:=files.flatten.foldl K2 []
def L0(a:List Str)(b:List Str):List Int:=b.map (fun s=>M5 a s 0)
theorem yG(a:List Str)(s:Str):(K2 a s).length<=a.length+1:=by unfold K2;split<;>simp
theorem iE(l a:List Str):(l.foldl K2 a).length<=a.length+l.length:=by
 induction l generalizing a with
 | nil=>simp
 | cons s r b=>have c:=b (K2 a s);have d:=yG a s;simp only[D00,C46];omega
theorem pK(a:List (List Str)):(E0 a).length<=a.flatten.length:=by have:=iE a.flatten [];simpa[E0] using this
structure File where
 Path:Str
 Blob:Str
 deriving DecidableEq
structure Delta where
 Path:Str
 Kind:Int
 deriving DecidableEq
structure Commit where
 Parents:List Int
 Date:Int
 Files:List File
 deriving DecidableEq
def U6:File->Nat->Cell:=fun f j=>match j with
 | 0=>.v (.string ⟨f.Path.toArray⟩)
 | _=>.v (.string ⟨f.Blob.toArray⟩)
def bM:Delta->Nat->Cell:=fun d j=>match j with
 | 0=>.v (.string ⟨d.Path.toArray⟩)
 | _=>.v (.int .i64 d.Kind)
def F2:Commit->Nat->Cell:=fun c j=>match j with
 | 0=>.list Int 1 C7 c.Parents
 | 1=>.v (.int .i64 c.Date)
 | _=>.list File 2 U6 c.Files
abbrev cT:List File->Nat->Cell:=fun l _=>.list File 2 U6 l
abbrev cU:List Delta->Nat->Cell:=fun l _=>.list Delta 2 bM l
abbrev A18(f:File):PV:=.agg [.v (.string ⟨f.Path.toArray⟩),.v (.string ⟨f.Blob.toArray⟩)]
abbrev pDelta(d:Delta):PV:=.agg [.v (.string ⟨d.Path.toArray⟩),.v (.int .i64 d.Kind)]
abbrev vX(c:Commit):PV:=.agg [.list Int 1 C7 c.Parents,.v (.int .i64 c.Date),.list File 2 U6 c.Files]
abbrev R5(l:List File):PV:=.one (.list File 2 U6 l)
abbrev vY(l:List Delta):PV:=.one (.list Delta 2 bM l)
abbrev I9(l:List Commit):PV:=.one (.list Commit 3 F2 l)
abbrev qV(l:List (List File)):PV:=.one (.list (List File) 1 cT l)
theorem P4(a b:Bool):(if a=true then b else false)=(a&&b):=by cases a<;>rfl
theorem x7(a b:Bool):(if a=true then true else b)=(a||b):=by cases a<;>rfl
abbrev dL(a b:Str):Bool:=Op.bytesLess a b
theorem A19(a:Str):dL a []=false:=by cases a<;>rfl
theorem lI(a b:UInt8)(x y:Str):dL (a::x) (b::y)=(decide (a<b)||(a == b&&dL x y)):=rfl
theorem x8:∀a:Str,dL a a=false
 | []=>rfl
 | c::r=>by
  rw[lI,x8 r];have:¬c<c:=by rw[UInt8.lt_iff_toNat_lt];omega
  simp[this]
theorem dM:∀{a b c:Str},dL a b=true->dL b c=true->dL a c=true
 | _,[],_,h,_=>by rw[A19]at h;cases h
 | _,_::_,[],_,h=>by rw[A19]at h;cases h
 | [],_::_,_::_,_,_=>rfl
 | a::x,b::y,c::z,e,d=>by
  rw[lI,C67,C39,decide_eq_true_eq,UInt8.lt_iff_toNat_lt,beq_iff_eq]at e d;rw[lI,C67,C39,decide_eq_true_eq,UInt8.lt_iff_toNat_lt,beq_iff_eq];rcases e with e | ⟨rfl,e⟩
  ·rcases d with d | ⟨rfl,d⟩
   ·left;omega
   ·left;omega
  ·rcases d with d | ⟨rfl,d⟩
   ·left;omega
   ·right;exact⟨rfl,dM e d⟩
theorem qW:∀{a b:Str},dL a b=false->dL b a=false->a=b
 | [],[],_,_=>rfl
 | [],_::_,h,_=>by cases h
 | _::_,[],_,h=>by cases h
 | a::x,b::y,h1,h2=>by
  rw[lI,C86,decide_eq_false_iff_not,UInt8.lt_iff_toNat_lt]at h1 h2;have e:a=b:=C89.1 (by omega);subst e;simp only[beq_self_eq_true,C84]at h1 h2;rw[qW h1.2 h2.2]
theorem KI{a b:Str}(h:dL a b=true):dL b a=false:=by
 cases c:dL b a
 ·rfl
 ·have:=dM h c;rw[x8]at this;cases this
theorem A20:∀(a:Str) (c:UInt8) (t:Str),dL a (a++c::t)=true
 | [],_,_=>rfl
 | x::r,c,t=>by rw[C92,lI,A20 r c t];simp
def S5(s:Str):Bool:=decide (s≠[]/\s≠[46]/\s≠[46,46])
def L3(a:Str):Str->List Str
 | []=>[a]
 | c::r=>if c=47 then a::L3 [] r else L3 (a++[c]) r
def kH(a:Str):Str->Bool
 | []=>S5 a
 | c::r=>if c=0 then false else if c=47 then S5 a&&kH [] r else kH (a++[c]) r
def N8(p:Str):Int:=if p.length<1\/p.length>200\/kH [] p=false then 210 else 0
theorem tR:∀(s b:Str),kH b s=(!s.contains 0&&(L3 b s).all S5)
 | [],b=>by simp[kH,L3]
 | c::r,b=>by
  rw[kH,L3];by_cases d:c=0
  ·subst d;simp
  ·rw[A7 d];have f:(c::r).contains 0=r.contains 0:=by
    rw[List.contains_cons];have:((0:UInt8) == c)=false:=by simpa using fun e=>d e.symm
    rw[this,C98]
   rw[f];split
   ·rw[tR r [],List.all_cons];cases S5 b<;>cases r.contains 0<;>rfl
   ·rw[tR r]
theorem NR(p:Str):N8 p=if p.length>200\/p.contains 0=true then 210 else if (L3 [] p).all S5=true then 0 else 210:=by
 unfold N8;rw[tR];by_cases b:p.length>200
 ·rw[A6 (.inr (.inl b)),A6 (.inl b)]
 ·cases d:p.contains 0
  ·rw[A7 (show ¬(p.length>200\/false=true) by simp[b])];cases c:(L3 [] p).all S5
   ·simp
   ·have:¬p.length<1:=by
     intro h;have:p=[]:=List.length_eq_zero_iff.1 (by omega);subst this;simp[L3,S5]at c
    rw[A7 (fun h=>by
     rcases h with h | h | h
     ·exact this h
     ·exact b h
     ·cases h)];rfl
  ·rw[A6 (show p.length>200\/true=true from .inr rfl),A6 (.inr (.inr (by simp)))]
def above(a b:Str):Bool:=decide (b.length>a.length/\b.take a.length=a/\b[a.length]?=some 47)
theorem B75{a b:Str}(h:above a b=true):dL a b=true:=by
 obtain⟨c,f,d⟩:=A1 h;have e:b=a++47::b.drop (a.length+1):=by
  conv=>lhs;rw[<-D16 a.length b,f]
  rw[C57 c];rw[C36 c]at d;rw[C85 d]
 rw[e];exact A20 _ _ _
def O8:List File->Bool
 | []=>true
 | f::r=>r.all (fun x=>dL f.Path x.Path&&!above f.Path x.Path)&&O8 r
def E8(l:List File):Int:=if l.length>200 then 1 else if l.any (fun f=>decide (N8 f.Path≠0))=true then 210 else if O8 l=false then 211 else if l.any (fun f=>decide (I6 f.Blob≠0))=true then 1 else 0
def W6(p:Str)(ps:List Str):Bool:=(List.range p.length).any fun i=>decide (p.take i∈ps)&&decide (p[i]?=some 47)
def ascend:List File->Bool
 | []=>true
 | [_]=>true
 | f::g::r=>dL f.Path g.Path&&ascend (g::r)
def eV(l:List File):Bool:=ascend l&&l.all fun f=>!W6 f.Path (l.map (·.Path))
theorem EX(p:Str)(ps:List Str):W6 p ps=true↔∃a∈ps,above a p=true:=by
 unfold W6;rw[List.any_eq_true];constructor
 ·rintro⟨i,k,h⟩;rw[C39,decide_eq_true_eq,decide_eq_true_eq]at h;have c:i<p.length:=C62.1 k;have b:(p.take i).length=i:=by rw[C59];omega
  exact⟨_,h.1,A4 ⟨by rw[b];exact c,by rw[b],by rw[b];exact h.2⟩⟩
 ·rintro⟨a,ha,h⟩;obtain⟨d,f,j⟩:=A1 h;exact⟨a.length,C62.2 d,by rw[C39,decide_eq_true_eq,decide_eq_true_eq,f];exact⟨ha,j⟩⟩
theorem bV:∀{f:File} {r:List File},ascend (f::r)=true->∀x∈r,dL f.Path x.Path=true
 | _,[],_,_,hx=>by cases hx
 | f,g::r,h,x,hx=>by
  unfold ascend at h;rw[C39]at h;rcases C50.1 hx with rfl | hx
  ·exact h.1
  ·exact dM h.1 (bV h.2 x hx)
theorem jM{f:File}{r:List File}(h:ascend (f::r)=true):ascend r=true:=by
 cases r with
 | nil=>rfl
 | cons g r=>unfold ascend at h;rw[C39]at h;exact h.2
theorem cV:∀{l:List File},O8 l=true->ascend l=true
 | [],_=>rfl
 | [_],_=>rfl
 | f::g::r,h=>by
  unfold O8 at h;rw[C39,C47]at h;have a:=h.1 g (by simp);rw[C39]at a;unfold ascend;rw[a.1,cV h.2];rfl
theorem sN:∀{l:List File},O8 l=true->∀x∈l,∀y∈l,above x.Path y.Path=false
 | [],_,x,hx,_,_=>by cases hx
 | f::r,h,x,hx,y,hy=>by
  have ha:=cV h;unfold O8 at h;rw[C39,C47]at h;cases a:above x.Path y.Path
  ·rfl
  have b:=B75 a;rcases C50.1 hx with rfl | hx0
  ·rcases C50.1 hy with rfl | hy
   ·rw[x8]at b;cases b
   ·have:=h.1 y hy;rw[a,Bool.not_true,Bool.and_false]at this;cases this
  ·have c:=hx0;rcases C50.1 hy with d | hy2
   ·have:=bV ha x c;rw[<-d,KI b]at this;cases this
   ·rw[sN h.2 x c y hy2]at a;cases a
theorem tS:∀{l:List File},ascend l=true->(∀x∈l,∀y∈l,above x.Path y.Path=false)->O8 l=true
 | [],_,_=>rfl
 | f::r,h,ha=>by
  unfold O8;rw[C39,C47];refine⟨fun x a=>?_,tS (jM h) fun x a y b=>ha x (by simp[a]) y (by simp[b])⟩;rw[bV h x a,ha f (by simp) x (by simp[a])];rfl
theorem YI(l:List File):eV l=O8 l:=by
 cases h:O8 l
 ·cases c:eV l
  ·rfl
  unfold eV at c;rw[C39,C47]at c;have:O8 l=true:=tS c.1 fun x d y e=>by
   cases b:above x.Path y.Path
   ·rfl
   have f:=c.2 y e;rw[(EX _ _).2 ⟨x.Path,List.mem_map_of_mem d,b⟩]at f;cases f
  rw[this]at h;cases h
 ·unfold eV;rw[C39,C47];refine⟨cV h,fun y e=>?_⟩;cases g:W6 y.Path (l.map (·.Path))
  ·rfl
  obtain⟨a,ha,b⟩:=(EX _ _).1 g;obtain⟨x,d,rfl⟩:=C71.1 ha;rw[sN h x d y e]at b;cases b
def J7:List File->Str->Option Str
 | [],_=>none
 | f::r,p=>if f.Path=p then some f.Blob else J7 r p
def u0(a:Str)(k:List Str->List Str):List Str->List Str
 | []=>a::k []
 | b::bs=>if dL a b=true then a::k (b::bs) else if dL b a=true then b::u0 a k bs else a::k bs
def R6:List Str->List Str->List Str
 | [],bs=>bs
 | a::as,bs=>u0 a (R6 as) bs
def u5(a b:List File)(p:Str):Option Delta:=match J7 a p,J7 b p with
 | none,_=>some ⟨p,1⟩
 | some _,none=>some ⟨p,2⟩
 | some x,some y=>if x≠y then some ⟨p,3⟩ else none
def W7(a b:List File):List Delta:=(R6 (a.map (·.Path)) (b.map (·.Path))).filterMap (u5 a b)
def kI(b:List File)(f:File):Option Delta:=match J7 b f.Path with
 | none=>some ⟨f.Path,2⟩
 | some y=>if y≠f.Blob then some ⟨f.Path,3⟩ else none
def rT(a:List File)(f:File):Option Delta:=match J7 a f.Path with
 | none=>some ⟨f.Path,1⟩
 | some _=>none
def dY(a b:List File):List Delta:=a.filterMap (kI b)++b.filterMap (rT a)
def rU(x:Delta):List Delta->List Delta
 | []=>[x]
 | y::r=>if dL x.Path y.Path=true then y::rU x r else x::y::r
def dC:List Delta->List Delta->List Delta
 | acc,[]=>acc
 | acc,x::r=>dC (rU x acc) r
def sO(l:List Delta):List Delta:=(dC [] l).reverse
def diffOf(a b:List File):List Delta:=sO (dY a b)
theorem vZ(x:Delta):∀(l:List Delta) (y:Delta),y∈rU x l↔y=x\/y∈l
 | [],y=>by simp[rU]
 | z::r,y=>by
  unfold rU;split
  ·rw[C50,vZ x r,C50];constructor
   ·rintro (h | h | h)
    ·exact .inr (.inl h)
    ·exact .inl h
    ·exact .inr (.inr h)
   ·rintro (h | h | h)
    ·exact .inr (.inl h)
    ·exact .inl h
    ·exact .inr (.inr h)
  ·rw[C50]
theorem zV(x:Delta):∀l:List Delta,(rU x l).length=l.length+1
 | []=>rfl
 | y::r=>by
  unfold rU;split
  ·rw[C46,zV x r,C46]
  ·rfl
theorem KJ:∀(l a:List Delta) (y:Delta),y∈dC a l↔y∈a\/y∈l
 | [],a,y=>by simp[dC]
 | x::r,a,y=>by
  unfold dC;rw[KJ r,vZ,C50];constructor
  ·rintro ((h | h) | h)
   ·exact .inr (.inl h)
   ·exact .inl h
   ·exact .inr (.inr h)
  ·rintro (h | h | h)
   ·exact .inl (.inr h)
   ·exact .inl (.inl h)
   ·exact .inr h
abbrev SZ(l:List Delta):Prop:=l.Pairwise fun x y=>dL y.Path x.Path=true
abbrev AscD(l:List Delta):Prop:=l.Pairwise fun x y=>dL x.Path y.Path=true
theorem KK{x:Delta}:∀{l:List Delta},SZ l->(∀y∈l,y.Path≠x.Path)->SZ (rU x l)
 | [],_,_=>by simp[rU,SZ]
 | y::r,h,hn=>by
  unfold rU;have d:=List.pairwise_cons.1 h;split
  ·rename_i b;refine List.pairwise_cons.2 ⟨fun z a=>?_,KK d.2 fun z a=>hn z (by simp[a])⟩;rcases (vZ x r z).1 a with rfl | a
   ·exact b
   ·exact d.1 z a
  ·rename_i b;have c:dL y.Path x.Path=true:=by
    cases f:dL y.Path x.Path
    ·exact absurd (qW (by simpa using b) f) fun e=>hn y (by simp) e.symm
    ·rfl
   refine List.pairwise_cons.2 ⟨fun z a=>?_,h⟩;rcases C50.1 a with rfl | a
   ·exact c
   ·exact dM (d.1 z a) c
theorem EY:∀(l b:List Delta),SZ b->(l.map (·.Path)).Nodup->(∀x∈l,∀y∈b,y.Path≠x.Path)->SZ (dC b l)
 | [],b,h,_,_=>h
 | x::r,b,h,hn,hd=>by
  unfold dC;rw[C73,List.nodup_cons]at hn;refine EY r _ (KK h (hd x (by simp))) hn.2 fun z f y c=>?_;rcases (vZ x b y).1 c with rfl | c
  ·intro e;exact hn.1 (by rw[e];exact List.mem_map_of_mem f)
  ·exact hd z (by simp[f]) y c
theorem B05{l:List Delta}(h:(l.map (·.Path)).Nodup):AscD (sO l):=by
 unfold sO AscD;rw[List.pairwise_reverse];exact EY l [] List.Pairwise.nil h fun _ _ _ b=>by cases b
theorem B06(l:List Delta)(y:Delta):y∈sO l↔y∈l:=by
 unfold sO;rw[List.mem_reverse,KJ];simp
theorem A21:∀{l m:List Delta},AscD l->AscD m->(∀y,y∈l↔y∈m)->l=m
 | [],[],_,_,_=>rfl
 | [],y::_,_,_,h=>by have:=(h y).2 (by simp);cases this
 | y::_,[],_,_,h=>by have:=(h y).1 (by simp);cases this
 | x::l,y::m,h1,h2,h=>by
  have b:=List.pairwise_cons.1 h1;have c:=List.pairwise_cons.1 h2;have e:x=y:=by
   rcases C50.1 ((h x).1 (by simp)) with e | hx
   ·exact e
   rcases C50.1 ((h y).2 (by simp)) with e | hy
   ·exact e.symm
   have:=dM (b.1 y hy) (c.1 x hx);rw[x8]at this;cases this
  subst e;refine congrArg (x::·) (A21 b.2 c.2 fun z=>⟨fun a=>?_,fun a=>?_⟩)
  ·rcases C50.1 ((h z).1 (by simp[a])) with rfl | h3
   ·have:=b.1 z a;rw[x8]at this;cases this
   ·exact h3
  ·rcases C50.1 ((h z).2 (by simp[a])) with rfl | h3
   ·have:=c.1 z a;rw[x8]at this;cases this
   ·exact h3
abbrev EZ(l:List Str):Prop:=l.Pairwise fun x y=>dL x y=true
theorem pL{a:Str}{k:List Str->List Str}{as:List Str}(d:∀c p,p∈k c↔p∈as\/p∈c):∀(c:List Str) (p:Str),p∈u0 a k c↔p=a\/p∈as\/p∈c
 | [],p=>by rw[u0,C50,d]
 | b :: c,p=>by
  rw[u0];split
  ·rw[C50,d]
  ·split
   ·rw[C50,pL d c p,C50];constructor
    ·rintro (h | h | h | h)
     ·exact .inr (.inr (.inl h))
     ·exact .inl h
     ·exact .inr (.inl h)
     ·exact .inr (.inr (.inr h))
    ·rintro (h | h | h | h)
     ·exact .inr (.inl h)
     ·exact .inr (.inr (.inl h))
     ·exact .inl h
     ·exact .inr (.inr (.inr h))
   ·rename_i f g;have e:a=b:=qW (by simpa using f) (by simpa using g);subst e;rw[C50,d,C50];constructor
    ·rintro (h | h | h)
     ·exact .inl h
     ·exact .inr (.inl h)
     ·exact .inr (.inr (.inr h))
    ·rintro (h | h | h | h)
     ·exact .inl h
     ·exact .inr (.inl h)
     ·exact .inl h
     ·exact .inr (.inr h)
theorem iF:∀(as b:List Str) (p:Str),p∈R6 as b↔p∈as\/p∈b
 | [],b,p=>by simp[R6]
 | a::as,b,p=>by
  rw[R6,pL (fun b p=>iF as b p) b p,C50];constructor
  ·rintro (h | h | h)
   ·exact .inl (.inl h)
   ·exact .inl (.inr h)
   ·exact .inr h
  ·rintro ((h | h) | h)
   ·exact .inl h
   ·exact .inr (.inl h)
   ·exact .inr (.inr h)
theorem zW{a:Str}{k:List Str->List Str}{as:List Str}(i:∀d p,p∈k d↔p∈as\/p∈d)(g:∀d,EZ d->EZ (k d))(ha:∀x∈as,dL a x=true):∀d:List Str,EZ d->EZ (u0 a k d)
 | [],h=>by
  rw[u0];refine List.pairwise_cons.2 ⟨fun x c=>?_,g [] h⟩;rcases (i [] x).1 c with c | c
  ·exact ha x c
  ·cases c
 | b::d,h=>by
  have hb:=List.pairwise_cons.1 h;rw[u0];split
  ·rename_i f;refine List.pairwise_cons.2 ⟨fun x c=>?_,g _ h⟩;rcases (i _ x).1 c with c | c
   ·exact ha x c
   ·rcases C50.1 c with rfl | c
    ·exact f
    ·exact dM f (hb.1 x c)
  ·split
   ·rename_i _ f;refine List.pairwise_cons.2 ⟨fun x c=>?_,zW i g ha d hb.2⟩;rcases (pL i d x).1 c with rfl | c | c
    ·exact f
    ·exact dM f (ha x c)
    ·exact hb.1 x c
   ·rename_i j l;have e:a=b:=qW (by simpa using j) (by simpa using l);subst e;refine List.pairwise_cons.2 ⟨fun x c=>?_,g _ hb.2⟩;rcases (i _ x).1 c with c | c
    ·exact ha x c
    ·exact hb.1 x c
theorem FA:∀(as a:List Str),EZ as->EZ a->EZ (R6 as a)
 | [],_,_,h=>h
 | _::as,a,h1,h2=>by
  have ha:=List.pairwise_cons.1 h1;exact zW (fun a p=>iF as a p) (fun a hb=>FA as a ha.2 hb) ha.1 a h2
theorem eW:∀{l:List File} {p x:Str},J7 l p=some x->∃f∈l,f.Path=p/\f.Blob=x
 | [],_,_,h=>by cases h
 | f::r,p,x,h=>by
  unfold J7 at h;split at h
  ·rename_i e;exact⟨f,by simp,e,C85 h⟩
  ·obtain⟨g,b,a⟩:=eW h;exact⟨g,by simp[b],a⟩
theorem FB{p:Str}:∀{l:List File},J7 l p=none↔p∉l.map (·.Path)
 | []=>by simp[J7]
 | f::r=>by
  unfold J7;split
  ·rename_i e;simp[e]
  ·rename_i e;rw[FB (l:=r),C73,C50,not_or];exact⟨fun h=>⟨fun b=>e b.symm,h⟩,fun h=>h.2⟩
theorem cW:∀{l:List File},ascend l=true->EZ (l.map (·.Path))
 | [],_=>List.Pairwise.nil
 | f::r,h=>by
  rw[C73];refine List.pairwise_cons.2 ⟨fun x c=>?_,cW (jM h)⟩;obtain⟨g,b,rfl⟩:=C71.1 c;exact bV h g b
theorem FC{l:List Str}(h:EZ l):l.Nodup:=h.imp fun {a b} c e=>by rw[e,x8]at c;cases c
theorem eX:∀{l:List File},ascend l=true->∀f∈l,J7 l f.Path=some f.Blob
 | [],_,f,hf=>by cases hf
 | g::r,h,f,hf=>by
  unfold J7;rcases C50.1 hf with rfl | hf
  ·rw[A6 rfl]
  ·have:=bV h f hf;rw[A7 (fun e=>by rw[e,x8]at this;cases this)];exact eX (jM h) f hf
theorem NS{a b:List File}{p:Str}{d:Delta}(h:u5 a b p=some d):d.Path=p:=by
 unfold u5 at h;split at h
 ·cases h;rfl
 ·cases h;rfl
 ·split at h
  ·cases h;rfl
  ·cases h
theorem sP{f:Str->Option Delta}(a:∀p d,f p=some d->d.Path=p):∀{l:List Str},EZ l->AscD (l.filterMap f)
 | [],_=>List.Pairwise.nil
 | p::r,h=>by
  have c:=List.pairwise_cons.1 h;have e:=sP a c.2;rw[List.filterMap_cons];cases g:f p with
  | none=>exact e
  | some d =>
   refine List.pairwise_cons.2 ⟨fun y j=>?_,e⟩;obtain⟨q,i,b⟩:=List.mem_filterMap.1 j;rw[a p d g,a q y b];exact c.1 q i
theorem KL{b:List File}{f:File}{d:Delta}(h:kI b f=some d):d.Path=f.Path:=by
 unfold kI at h;split at h
 ·cases h;rfl
 ·split at h
  ·cases h;rfl
  ·cases h
theorem KM{a:List File}{f:File}{d:Delta}(h:rT a f=some d):d.Path=f.Path/\f.Path∉a.map (·.Path):=by
 unfold rT at h;split at h
 ·rename_i b;cases h;exact⟨rfl,FB.1 b⟩
 ·cases h
theorem B07{a b:List File}(ha:ascend a=true)(hb:ascend b=true):((dY a b).map (·.Path)).Nodup:=by
 have sub:∀(f:File->Option Delta),(∀x d,f x=some d->d.Path=x.Path)->∀l:List File,((l.filterMap f).map (·.Path)).Sublist (l.map (·.Path)):=by
  intro f k l;induction l with
  | nil=>exact List.Sublist.slnil
  | cons x r n =>
   rw[List.filterMap_cons];cases c:f x with
   | none=>exact n.cons _
   | some d=>rw[C73,C73,k x d c];exact n.cons_cons _
 unfold dY;rw[C90,List.nodup_append];refine⟨(FC (cW ha)).sublist (sub _ (fun _ _ h=>KL h) a),(FC (cW hb)).sublist (sub _ (fun _ _ h=>(KM h).1) b),?_⟩;intro x c y z e;subst e;obtain⟨d,w,q⟩:=C71.1 z;obtain⟨f,k,v⟩:=List.mem_filterMap.1 w;have g:=KM v;have j:=(sub _ (fun _ _ h=>KL h) a).subset c;rw[<-q,g.1]at j;exact g.2 j
theorem raw_mem{a b:List File}(ha:ascend a=true)(_hb:ascend b=true)(y:Delta):y∈dY a b↔y∈W7 a b:=by
 unfold dY W7;rw[C49,List.mem_filterMap,List.mem_filterMap,List.mem_filterMap];constructor
 ·rintro (⟨f,d,h⟩ | ⟨f,d,h⟩)
  ·refine⟨f.Path,(iF _ _ _).2 (.inl (List.mem_map_of_mem d)),?_⟩;unfold kI at h;unfold u5;rw[eX ha f d];split at h
   ·rename_i c;rw[c];exact h
   ·rename_i z c;rw[c];dsimp only;split at h
    ·rename_i g;rw[A6 (fun e=>g e.symm)];exact h
    ·cases h
  ·refine⟨f.Path,(iF _ _ _).2 (.inr (List.mem_map_of_mem d)),?_⟩;unfold rT at h;unfold u5;split at h
   ·rename_i c;rw[c];exact h
   ·cases h
 ·rintro⟨p,j,h⟩;unfold u5 at h;split at h
  ·rename_i c;rcases (iF _ _ _).1 j with j | j
   ·exact absurd j (FB.1 c)
   ·obtain⟨f,d,rfl⟩:=C71.1 j;exact .inr ⟨f,d,by unfold rT;rw[c];exact h⟩
  ·rename_i x c g;obtain⟨f,d,rfl,rfl⟩:=eW c;exact .inl ⟨f,d,by unfold kI;rw[g];exact h⟩
  ·rename_i x z c g;obtain⟨f,d,rfl,rfl⟩:=eW c;refine .inl ⟨f,d,?_⟩;unfold kI;rw[g];dsimp only;split at h
   ·rename_i k;rw[A6 (fun e=>k e.symm)];exact h
   ·cases h
theorem B08{a b:List File}(ha:ascend a=true)(hb:ascend b=true):diffOf a b=W7 a b :=
 A21 (B05 (B07 ha hb)) (sP (fun _ _ h=>NS h) (FA _ _ (cW ha) (cW hb))) fun y=>(B06 _ y).trans (raw_mem ha hb y)
theorem YJ(a b:List File):(dY a b).length<=a.length+b.length:=by
 unfold dY;rw[C40];have c:=List.length_filterMap_le (kI b) a;have d:=List.length_filterMap_le (rT a) b;omega
theorem dZ{l:List File}(h:E8 l=0):ascend l=true/\l.length<=200/\(∀f∈l,I6 f.Blob=0)/\∀f∈l,N8 f.Path=0:=by
 unfold E8 at h;split at h
 ·cases h
 ·rename_i g;split at h
  ·cases h
  ·rename_i b;split at h
   ·cases h
   ·rename_i c;split at h
    ·cases h
    ·rename_i d;refine⟨cV (by simpa using c),by omega,fun f a=>?_,fun f a=>?_⟩
     ·have:=fun e=>d (List.any_eq_true.2 ⟨f,a,e⟩);simpa using this
     ·have:=fun e=>b (List.any_eq_true.2 ⟨f,a,e⟩);simpa using this
theorem qX{α:Type}[DecidableEq α]:∀{l m:List α},l.Nodup->(∀x∈l,x∈m)->l.length<=m.length
 | [],_,_,_=>C41 _
 | x::l,m,h,hs=>by
  have b:=List.nodup_cons.1 h;have d:l.length<=(m.erase x).length:=qX b.2 fun y c=>by
   have a:y≠x:=fun e=>b.1 (e ▸ c);exact (List.mem_erase_of_ne a).2 (hs y (by simp[c]))
  have f:=List.length_erase_of_mem (hs x (by simp));have i:0<m.length:=List.length_pos_of_mem (hs x (by simp));rw[C46];omega
theorem p5{l:List Int}{n:Nat}(h:l.Nodup)(b:∀x∈l,0<=x/\x<n):l.length<=n:=by
 have:=qX (m:=(List.range n).map fun i:Nat=>(i:Int)) h fun x c=>by
  have:=b x c;exact C71.2 ⟨x.toNat,C62.2 (by omega),by omega⟩
 simpa using this
theorem B76{l:List Int}{n:Nat}(h:l.Nodup)(d:∀x∈l,0<=x/\x<n)(f:n<=l.length)(c:Nat)(e:c<n):(c:Int)∈l:=by
 apply C69;intro b;have:=p5 (l:=(c:Int)::l) (n:=n) (List.nodup_cons.2 ⟨b,h⟩) fun x a=>by
  rcases C50.1 a with rfl | a
  ·exact⟨by omega,by omega⟩
  ·exact d x a
 rw[C46]at this;omega
theorem tT{q r:Nat->Bool}(x:Nat)(d:∀y,r y=(q y&&decide (y≠x))):∀{L:List Nat},L.Nodup->L.countP q=L.countP r+(if x∈L/\q x=true then 1 else 0)
 | [],_=>by simp
 | y :: L,h=>by
  have c:=List.nodup_cons.1 h;have g:=tT x d c.2;rw[List.countP_cons,List.countP_cons,g,d y];by_cases e:y=x
  ·subst e;have:¬(y∈L/\q y=true):=fun e=>c.1 e.1;rw[A7 this];cases j:q y<;>simp
  ·have f:(x∈y::L/\q x=true)↔(x∈L/\q x=true):=by
    rw[C50];constructor
    ·rintro⟨a | a,b⟩
     ·exact absurd a.symm e
     ·exact⟨a,b⟩
    ·exact fun ⟨a,b⟩=>⟨.inr a,b⟩
   rw[show (if x∈y::L/\q x=true then 1 else 0)=(if x∈L/\q x=true then 1 else 0) by simp only[f]];simp only[e,ne_eq,not_false_eq_true,decide_true,Bool.and_true];omega
abbrev Graph:=List Commit
def D8(g:Graph)(c:Nat):List Int:=(g[c]?.map (·.Parents)).getD []
def fT(n:Int)(a:List Int):List Int->Bool
 | []=>true
 | p::r=>decide (0<=p/\p<n/\p∉a)&&fT n (a++[p]) r
def related(g:Graph):Bool:=g.all fun c=>fT g.length [] c.Parents
theorem TA{n:Int}:∀{ps a:List Int},fT n a ps=true->(∀p∈ps,0<=p/\p<n/\p∉a)/\ps.Nodup
 | [],_,_=>⟨(fun _ h=>by cases h),List.nodup_nil⟩
 | p::r,a,h=>by
  unfold fT at h;rw[C39,decide_eq_true_eq]at h;obtain⟨c,d⟩:=TA h.2;refine⟨fun q b=>?_,List.nodup_cons.2 ⟨fun e=>(c p e).2.2 (by simp),d⟩⟩;rcases C50.1 b with rfl | b
  ·exact h.1
  ·have:=c q b;exact⟨this.1,this.2.1,fun f=>this.2.2 (by simp[f])⟩
theorem c9{g:Graph}{c:Nat}(b:c<g.length):D8 g c=g[c].Parents:=by unfold D8;rw[C36 b];rfl
theorem lJ{g:Graph}{c:Nat}(a:¬c<g.length):D8 g c=[]:=by unfold D8;rw[C63 (by omega)];rfl
theorem K6{g:Graph}(h:related g=true)(c:Nat):(∀p∈D8 g c,0<=p/\p<g.length)/\(D8 g c).Nodup:=by
 by_cases a:c<g.length
 ·rw[c9 a];have:=TA (C47.1 h g[c] (C43 a));exact⟨fun p b=>⟨(this.1 p b).1,(this.1 p b).2.1⟩,this.2⟩
 ·rw[lJ a];exact⟨(fun _ h=>by cases h),List.nodup_nil⟩
inductive Reaches (g:Graph):Nat->Nat->Prop
 | one {c p:Nat} (h:(p:Int)∈D8 g c):Reaches g c p
 | more {c d p:Nat} (h:Reaches g c d) (h2:(p:Int)∈D8 g d):Reaches g c p
theorem Reaches.trans{g:Graph}{a b c:Nat}(h:Reaches g a b)(d:Reaches g b c):Reaches g a c:=by
 induction d with
 | one d=>exact .more h d
 | more _ f i=>exact .more i f
theorem Reaches.lt{g:Graph}(f:related g=true){a b:Nat}(h:Reaches g a b):a<g.length/\b<g.length:=by
 have key:∀{c p:Nat},(p:Int)∈D8 g c->c<g.length/\p<g.length:=fun {c p} h=>by
  refine⟨?_,by have:=(K6 f c).1 p h;omega⟩;apply C69;intro e;rw[lJ e]at h;cases h
 induction h with
 | one h=>exact key h
 | more _ d i=>exact⟨i.1,(key d).2⟩
def f0(ps:List Int)(l:List Bool):List Bool:=ps.foldl (fun l p=>l.set p.toNat true) l
def J3(l:List Bool)(c:Nat):Bool:=l[c]?.getD false
def aC(g:Graph)(l:List Bool)(c:Nat):List Bool:=if J3 l c=true then f0 (D8 g c) l else l
def pM(g:Graph)(l:List Bool):List Bool:=(List.range g.length).foldl (aC g) l
def m8(g:Graph):Nat->List Bool->List Bool
 | 0,l=>l
 | k+1,l=>m8 g k (pM g l)
def P2(g:Graph)(a:List Int):List Bool:=m8 g g.length (f0 a (List.replicate g.length false))
theorem B77{l:List Bool}{i c:Nat}:J3 (l.set i true) c=(J3 l c||decide (i=c/\c<l.length)):=by
 unfold J3;rw[D22];split
 ·rename_i e;subst e;split
  ·rename_i h;simp[h]
  ·rename_i h;simp[h,C63 (Nat.le_of_not_lt h)]
 ·rename_i h;simp[h]
theorem g9:∀(ps:List Int) (l:List Bool),(f0 ps l).length=l.length
 | [],_=>rfl
 | p::r,l=>by show (f0 r (l.set p.toNat true)).length=_;rw[g9 r];simp
theorem bW:∀(ps:List Int) (l:List Bool) (c:Nat),J3 (f0 ps l) c=(J3 l c||(decide (c<l.length)&&ps.any fun p=>decide (p.toNat=c)))
 | [],l,c=>by simp[f0]
 | p::r,l,c=>by
  show J3 (f0 r (l.set p.toNat true)) c=_;rw[bW r,B77,C78,List.any_cons];by_cases a:p.toNat=c<;>by_cases b:c<l.length<;>simp[a,b]
theorem B09(g:Graph)(l:List Bool)(c:Nat):(aC g l c).length=l.length:=by unfold aC;split<;>simp[g9]
theorem yH(g:Graph):∀(a:List Nat) (l:List Bool),(a.foldl (aC g) l).length=l.length
 | [],_=>rfl
 | c::r,l=>by rw[D00,yH g r,B09]
theorem FD(g:Graph)(l:List Bool):(pM g l).length=l.length:=yH g _ l
theorem qY(g:Graph):∀(k:Nat) (l:List Bool),(m8 g k l).length=l.length
 | 0,_=>rfl
 | k+1,l=>by rw[m8,qY g k,FD]
theorem pN(g:Graph)(s:List Int):(P2 g s).length=g.length:=by unfold P2;rw[qY,g9];simp
def LeB(a b:List Bool):Prop:=a.length=b.length/\∀c,J3 a c=true->J3 b c=true
theorem LeB.refl(a:List Bool):LeB a a:=⟨rfl,fun _ h=>h⟩
theorem LeB.trans{a b c:List Bool}(h:LeB a b)(d:LeB b c):LeB a c:=⟨h.1.trans d.1,fun x e=>d.2 x (h.2 x e)⟩
theorem qZ:∀{a b:List Bool},LeB a b->a=b\/a.countP id<b.countP id
 | [],[],_=>.inl rfl
 | [],_::_,h=>by have:=h.1;simp at this
 | _::_,[],h=>by have:=h.1;simp at this
 | x::a,y::b,h=>by
  have e:LeB a b:=⟨by simpa using h.1,fun c f=>h.2 (c+1) f⟩
  have d:x=true->y=true:=fun g=>by simpa[J3] using h.2 0 (by simpa[J3] using g)
  rw[List.countP_cons,List.countP_cons];rcases qZ e with rfl | h3
  ·cases x<;>cases y
   ·exact .inl rfl
   ·right;simp
   ·exact absurd (d rfl) (by decide)
   ·exact .inl rfl
  ·right;cases x<;>cases y
   ·simpa using h3
   ·simp;omega
   ·exact absurd (d rfl) (by decide)
   ·simpa using h3
theorem TB{a b:List Bool}(h:LeB a b)(d:LeB b a):a=b:=by
 rcases qZ h with e | e
 ·exact e
 ·rcases qZ d with c | c
  ·exact c.symm
  ·omega
theorem yI(ps:List Int)(l:List Bool):LeB l (f0 ps l):=⟨(g9 ps l).symm,fun c h=>by rw[bW,h];rfl⟩
theorem TD(g:Graph)(l:List Bool)(c:Nat):LeB l (aC g l c):=by unfold aC;split<;>first | exact yI _ _ | exact LeB.refl _
theorem wC(g:Graph):∀(b:List Nat) (l:List Bool),LeB l (b.foldl (aC g) l)
 | [],l=>LeB.refl l
 | c::r,l=>(TD g l c).trans (wC g r _)
theorem TE(g:Graph):∀(k:Nat) (l:List Bool),LeB l (m8 g k l)
 | 0,l=>LeB.refl l
 | k+1,l=>(wC g _ l).trans (TE g k _)
def jN(g:Graph)(l:List Bool):Prop:=∀c,J3 l c=true->∀p∈D8 g c,J3 l p.toNat=true
theorem TF(g:Graph):∀(a:List Nat) (l:List Bool),a.foldl (aC g) l=l->∀c∈a,aC g l c=l
 | [],_,_,_,h=>by cases h
 | d::r,l,h,c,hc=>by
  rw[D00]at h;have b:aC g l d=l:=TB (by have:=wC g r (aC g l d);rw[h]at this;exact this) (TD g l d);rcases C50.1 hc with rfl | hc
  ·exact b
  ·rw[b]at h;exact TF g r l h c hc
theorem A22{l:List Bool}{c:Nat}(h:J3 l c=true):c<l.length:=by
 unfold J3 at h;apply C69;intro a;rw[C63 (by omega)]at h;cases h
theorem YK{g:Graph}{l:List Bool}(f:related g=true)(e:l.length=g.length)(h:pM g l=l):jN g l:=by
 intro c b p d;have a:=TF g _ l h c (C62.2 (by rw[<-e];exact A22 b));unfold aC at a;rw[A6 b]at a;rw[<-a,bW];have:=(K6 f c).1 p d;rw[C67];right;rw[C39,decide_eq_true_eq,List.any_eq_true];exact⟨by omega,p,d,by simp⟩
theorem wD{g:Graph}{l:List Bool}(h:jN g l):pM g l=l:=by
 have key:∀(b:List Nat),b.foldl (aC g) l=l:=by
  intro b;induction b with
  | nil=>rfl
  | cons c r f =>
   rw[D00];have:aC g l c=l:=by
    unfold aC;split
    ·rename_i d;refine TB ⟨g9 _ _,fun x a=>?_⟩ (yI _ _);rw[bW,C67,C39,List.any_eq_true]at a;rcases a with a | ⟨_,p,hp,e⟩
     ·exact a
     ·rw[<-A1 e];exact h c d p hp
    ·rfl
   rw[this];exact f
 exact key _
theorem zX{g:Graph}(b:related g=true):∀(k:Nat) {l:List Bool},l.length=g.length->jN g (m8 g k l)\/l.countP id+k<=(m8 g k l).countP id
 | 0,l,_=>.inr (by simp[m8])
 | k+1,l,hl=>by
  rw[m8];rcases qZ (wC g (List.range g.length) l) with e | e
  ·left;have a:jN g l:=YK b hl e.symm;rw[show pM g l=l from e.symm];have:∀k,m8 g k l=l:=fun k=>by
    induction k with
    | zero=>rfl
    | succ k d=>rw[m8,wD a];exact d
   rw[this];exact a
  ·rcases zX b k (l:=pM g l) (by rw[FD];exact hl) with h | h
   ·exact .inl h
   ·right;have e:l.countP id<(pM g l).countP id:=e;omega
theorem nD{g:Graph}(j:related g=true)(s:List Int)(m:∀f∈s,0<=f/\f<g.length):jN g (P2 g s):=by
 by_cases i:s=[]
 ·subst i;have:jN g (List.replicate g.length false):=fun c d=>by
   unfold J3 at d;rw[List.getElem?_replicate]at d;split at d<;>cases d
  have e:∀k,m8 g k (List.replicate g.length false)=List.replicate g.length false:=fun k=>by
   induction k with
   | zero=>rfl
   | succ k q=>rw[m8,wD this];exact q
  unfold P2;show jN g (m8 g g.length (List.replicate g.length false));rw[e];exact this
 ·rcases zX j g.length (l:=f0 s (List.replicate g.length false)) (by rw[g9];simp) with h | h
  ·exact h
  ·obtain⟨f,r,rfl⟩:=List.exists_cons_of_ne_nil i;have v:(m8 g g.length (f0 (f::r) (List.replicate g.length false))).countP id<=g.length:=by
    have:=List.countP_le_length (p:=id) (l:=m8 g g.length (f0 (f::r) (List.replicate g.length false)));rw[qY,g9,C95]at this;exact this
   have w:0<(f0 (f::r) (List.replicate g.length false)).countP id:=by
    rw[List.countP_pos_iff];have x:=m f (by simp);have a:J3 (f0 (f::r) (List.replicate g.length false)) f.toNat=true:=by
     rw[bW,C67];right;rw[C39,decide_eq_true_eq,List.any_eq_true];exact⟨by rw[C95];omega,f,by simp,by simp⟩
    have b:=A22 a;unfold J3 at a;rw[C36 b]at a;exact⟨_,C43 b,a⟩
   omega
theorem rA{g:Graph}(y:related g=true){s:List Int}(u:∀f∈s,0<=f/\f<g.length)(x:Nat):J3 (P2 g s) x=true↔∃f:Nat,(f:Int)∈s/\(f=x\/Reaches g f x):=by
 constructor
 ·let Good:List Bool->Prop:=fun l=>∀x,J3 l x=true->∃f:Nat,(f:Int)∈s/\(f=x\/Reaches g f x)
  have z:∀l c,Good l->Good (aC g l c):=by
   intro l c h x a;unfold aC at a;split at a
   ·rename_i B;rw[bW,C67,C39,List.any_eq_true]at a;rcases a with a | ⟨_,p,hp,e⟩
    ·exact h x a
    ·have e:=A1 e;have C:=(K6 y c).1 p hp;have v:((x:Nat):Int)=p:=by omega
     obtain⟨f,q,b⟩:=h c B;refine⟨f,q,.inr ?_⟩;rcases b with rfl | b
     ·exact .one (by rw[v];exact hp)
     ·exact .more b (by rw[v];exact hp)
   ·exact h x a
  have b:∀(t:List Nat) l,Good l->Good (t.foldl (aC g) l):=by
   intro t;induction t with
   | nil=>exact fun l h=>h
   | cons c r j=>exact fun l h=>j _ (z l c h)
  have A:∀k l,Good l->Good (m8 g k l):=by
   intro k;induction k with
   | zero=>exact fun l h=>h
   | succ k j=>exact fun l h=>j _ (b _ l h)
  refine A _ _ (fun x a=>?_) x;rw[bW,C67,C39,List.any_eq_true]at a;rcases a with a | ⟨_,p,hp,e⟩
  ·unfold J3 at a;rw[List.getElem?_replicate]at a;split at a<;>cases a
  ·have e:=A1 e;have:=u p hp;exact⟨x,by rw[show ((x:Nat):Int)=p by omega];exact hp,.inl rfl⟩
 ·rintro⟨f,q,h⟩;have d:=nD y s u;have w:J3 (P2 g s) f=true:=by
   refine (TE g _ _).2 f ?_;rw[bW,C67];right;rw[C39,decide_eq_true_eq,List.any_eq_true];have:=u f q;exact⟨by rw[C95];omega,f,q,by simp⟩
  rcases h with rfl | h
  ·exact w
  ·induction h with
   | one h=>exact d _ w _ h
   | more _ b j=>exact d _ j _ b
def cyclic(g:Graph):Bool:=(List.range g.length).any fun c=>decide (D8 g c≠[])&&J3 (P2 g (D8 g c)) c
theorem nE{g:Graph}(k:related g=true):cyclic g=true↔∃c,Reaches g c c:=by
 unfold cyclic;rw[List.any_eq_true];constructor
 ·rintro⟨c,_,h⟩;rw[C39]at h;obtain⟨f,j,d⟩:=(rA k (K6 k c).1 c).1 h.2;rcases d with rfl | d
  ·exact⟨f,.one j⟩
  ·exact⟨c,(Reaches.one j).trans d⟩
 ·rintro⟨c,h⟩;have q:=(h.lt k).1;refine⟨c,C62.2 q,?_⟩;have key:∀{a b:Nat},Reaches g a b->∃f:Nat,(f:Int)∈D8 g a/\(f=b\/Reaches g f b):=by
   intro a b h;induction h with
   | one h=>exact⟨_,h,.inl rfl⟩
   | more _ d u =>
    obtain⟨f,j,p⟩:=u;refine⟨f,j,.inr ?_⟩;rcases p with rfl | p
    ·exact .one d
    ·exact .more p d
  obtain⟨f,j,d⟩:=key h;rw[C39,decide_eq_true_eq];exact⟨(fun e=>by rw[e]at j;cases j),(rA k (K6 k c).1 c).2 ⟨f,j,d⟩⟩
def wE(g:Graph)(ex:List Int)(p:Nat):Nat:=(List.range g.length).countP fun c:Nat=>decide ((c:Int)∉ex/\(p:Int)∈D8 g c)
theorem KN{g:Graph}{ex:List Int}{x p:Nat}(f:(x:Int)∉ex)(a:x<g.length):wE g ex p=wE g (ex++[(x:Int)]) p+(if (p:Int)∈D8 g x then 1 else 0):=by
 unfold wE;rw[tT (q:=fun c:Nat=>decide ((c:Int)∉ex/\(p:Int)∈D8 g c)) (r:=fun c:Nat=>decide ((c:Int)∉ex++[(x:Int)]/\(p:Int)∈D8 g c)) x (fun y=>?_) List.nodup_range]
 ·congr 1
  simp only[C62,a,true_and,decide_eq_true_eq,f,not_false_eq_true]
 ·simp only[C49,C42];by_cases b:(y:Int)∈ex<;>by_cases d:y=x<;>by_cases e:(p:Int)∈D8 g y<;>simp[b,d,e]<;>omega
theorem B78{g:Graph}{ex:List Int}{p:Nat}(h:0<wE g ex p):∃c,c<g.length/\(c:Int)∉ex/\(p:Int)∈D8 g c:=by
 unfold wE at h;rw[List.countP_pos_iff]at h;obtain⟨c,a,h⟩:=h;have:=A1 h;exact⟨c,C62.1 a,this.1,this.2⟩
theorem KO{g:Graph}{ex:List Int}{p:Nat}(h:wE g ex p=0){c:Nat}(a:c<g.length)(d:(p:Int)∈D8 g c):(c:Int)∈ex:=by
 apply C69;intro b;have:0<wE g ex p:=by
  unfold wE;rw[List.countP_pos_iff];exact⟨c,C62.2 a,by simp[b,d]⟩
 omega
structure KInv (g:Graph) (k i:Nat) (ch:List Int) (out:List Int):Prop where
 len:ch.length=g.length
 nodup:out.Nodup
 rng:∀x∈out,0<=x/\x<g.length
 cnt:∀p,p<g.length->ch[p]?.getD 0+(if (p:Int)∈(D8 g (out.getD k 0).toNat).take i then 1 else 0)=wE g (out.take k) p
 zero:∀p,p<g.length->((p:Int)∈out↔ch[p]?.getD 0=0)
 kids:∀j (h:j<out.length) (c:Nat),out[j]∈D8 g c->(c:Int)∈out.take j
theorem minimal{R:Nat->Nat->Prop}(i:∀a b c,R a b->R b c->R a c)(g:∀a,¬R a a):∀{M:List Nat},M≠[]->∃m∈M,∀x∈M,¬R x m
 | [],h=>absurd rfl h
 | [a],_=>⟨a,by simp,fun x d=>by rw[C42.1 d];exact g a⟩
 | a::b::r,_=>by
  obtain⟨m,j,h⟩:=minimal i g (M:=b::r) (by simp);by_cases e:R a m
  ·refine⟨a,by simp,fun x d f=>?_⟩;rcases C50.1 d with rfl | d
   ·exact g _ f
   ·exact h x d (i _ _ _ f e)
  ·refine⟨m,C55 _ j,fun x d=>?_⟩;rcases C50.1 d with rfl | d
   ·exact e
   ·exact h x d
theorem KInv.done{g:Graph}(O:related g=true){P b:List Int}(h:KInv g b.length 0 P b):(decide (b.length<g.length))=cyclic g:=by
 cases z:cyclic g
 ·rw[decide_eq_false_iff_not];intro A;have N:∀c,¬Reaches g c c:=fun c d=>by rw[(nE O).2 ⟨c,d⟩]at z;cases z
  let M:=(List.range g.length).filter fun c:Nat=>decide ((c:Int)∉b);have V:M≠[]:=by
   intro e;have w:∀c,c<g.length->(c:Int)∈b:=fun c z=>by
    apply C69;intro T;have:c∈M:=List.mem_filter.2 ⟨C62.2 z,by simp[T]⟩;rw[e]at this;cases this
   have:=qX (l:=(List.range g.length).map fun i:Nat=>(i:Int)) (m:=b) ((List.nodup_range).map (fun i:Nat=>(i:Int)) (fun _ _ L e=>L (Int.ofNat.inj e))) fun x X=>by
    obtain⟨i,k,rfl⟩:=C71.1 X;exact w i (C62.1 k)
   rw[C74,C94]at this;omega
  obtain⟨m,W,B⟩:=minimal (R:=Reaches g) (fun _ _ _ F C=>F.trans C) N V;obtain⟨q,u⟩:=List.mem_filter.1 W;have q:=C62.1 q;have u:=A1 u;have F:=h.cnt m q;have C:¬P[m]?.getD 0=0:=fun e=>u ((h.zero m q).2 e);rw[C48,C79,A7 (by simp),Int.add_zero]at F;obtain⟨c,G,H,I⟩:=B78 (g:=g) (ex:=b) (p:=m) (by omega);exact B c (List.mem_filter.2 ⟨C62.2 G,by simp[H]⟩) (.one I)
 ·rw[decide_eq_true_eq];obtain⟨c,d⟩:=(nE O).1 z;apply C69;intro T;have K:=B76 h.nodup h.rng (by omega) c (d.lt O).1;have key:∀{x y:Nat},Reaches g x y->∀j (s:j<b.length),b[j]=(y:Int)->∃i,∃k:i<b.length,i<j/\b[i]=(x:Int):=by
   have one:∀{x y:Nat},(y:Int)∈D8 g x->∀j (s:j<b.length),b[j]=(y:Int)->∃i,∃k:i<b.length,i<j/\b[i]=(x:Int):=by
    intro x y v j s e;have:=h.kids j s x (by rw[e];exact v);obtain⟨i,k,Q⟩:=List.getElem_of_mem this;rw[C59]at k;rw[List.getElem_take]at Q;exact⟨i,by omega,by omega,Q⟩
   intro x y v;induction v with
   | one h=>exact one h
   | more _ C Z =>
    intro j s e;obtain⟨i,k,A,E⟩:=one C j s e;obtain⟨Y,J,S,U⟩:=Z i k E;exact⟨Y,J,by omega,U⟩
  obtain⟨j,s,e⟩:=List.getElem_of_mem K;obtain⟨i,k,A,E⟩:=key d j s e;have:=(List.getElem_inj (i:=i) (j:=j) (h₀:=k) (h₁:=s) h.nodup).1 (E.trans e.symm);omega
def I0(l:List Int)(p:Nat):Int:=l[p]?.getD 0
def bump(l:List Int)(p:Int):List Int:=l.set p.toNat (I0 l p.toNat+1)
def m9(l:List Int)(p:Int):List Int:=l.set p.toNat (I0 l p.toNat-1)
def o4(ps:List Int)(l:List Int):List Int:=ps.foldl bump l
def R7(g:Graph)(i:Nat):List Int:=(g.take i).foldl (fun l c=>o4 c.Parents l) (List.replicate g.length 0)
theorem jO{l:List Int}{i p:Nat}{v:Int}(h:i<l.length):I0 (l.set i v) p=if i=p then v else I0 l p:=by
 unfold I0;rw[D22];split
 ·rename_i e;subst e;simp[h]
 ·rfl
theorem pP:∀(ps:List Int) (l:List Int),(o4 ps l).length=l.length
 | [],_=>rfl
 | p::r,l=>by show (o4 r (bump l p)).length=_;rw[pP r];simp[bump]
theorem tU{n:Int}:∀{ps:List Int} {l:List Int},(∀p∈ps,0<=p/\p<l.length)->ps.Nodup->∀p:Nat,I0 (o4 ps l) p=I0 l p+(if (p:Int)∈ps then 1 else 0)
 | [],l,_,_,p=>by simp[o4]
 | q::r,l,h,b,p=>by
  show I0 (o4 r (bump l q)) p=_;have f:=h q (by simp);have b:=List.nodup_cons.1 b;rw[tU (n:=n) (fun x d=>by have:=h x (by simp[d]);simpa[bump] using this) b.2 p];unfold bump;rw[jO (by omega)];by_cases e:q.toNat=p
  ·have a:(p:Int)=q:=by omega
   have c:¬(p:Int)∈r:=by rw[a];exact b.1
   rw[A6 e,A7 c,a,A6 (by simp),e];omega
  ·have a:((p:Int)∈q::r)↔(p:Int)∈r:=by
    rw[C50];exact⟨fun h=>h.resolve_left (by omega),.inr⟩
   rw[A7 e];simp only[a]
theorem gH(g:Graph):∀i,(R7 g i).length=g.length:=by
 intro i;unfold R7;have key:∀(a:List Commit) (l:List Int),(a.foldl (fun l c=>o4 c.Parents l) l).length=l.length:=by
  intro a;induction a with
  | nil=>intro l;rfl
  | cons c r b=>intro l;rw[D00,b,pP]
 rw[key];simp
theorem sQ{g:Graph}{i:Nat}(a:i<g.length):R7 g (i+1)=o4 (D8 g i) (R7 g i):=by
 unfold R7;rw[C52,C36 a,C53,D09,c9 a];rfl
theorem pQ{g:Graph}(b:related g=true)(p:Nat)(a:p<g.length):∀i,i<=g.length->I0 (R7 g i) p=((List.range i).countP fun c:Nat=>decide ((p:Int)∈D8 g c):Nat)
 | 0,_=>by
  unfold R7 I0;simp[List.getElem?_replicate,a]
 | i+1,hi=>by
  have hpr:=K6 b i;rw[sQ (by omega),tU (n:=0) (fun q d=>by rw[gH];exact hpr.1 q d) hpr.2,pQ b p a i (by omega),D15,List.countP_append];by_cases h:(p:Int)∈D8 g i<;>simp[h]
theorem zY{g:Graph}(b:related g=true)(p:Nat)(a:p<g.length):I0 (R7 g g.length) p=wE g [] p:=by
 rw[pQ b p a _ (C45 _)];unfold wE;simp
def d5(b:List Int)(i:Nat):List Int:=((List.range i).filter fun c=>decide (I0 b c=0)).map fun c:Nat=>(c:Int)
theorem NT(a:List Int)(i:Nat):d5 a (i+1)=if I0 a i=0 then d5 a i++[(i:Int)] else d5 a i:=by
 unfold d5;rw[D15,D20,C90];by_cases h:I0 a i=0<;>simp[h]
theorem zZ(a:List Int)(i p:Nat):(p:Int)∈d5 a i↔p<i/\I0 a p=0:=by
 unfold d5;rw[C71];constructor
 ·rintro⟨c,b,e⟩;have e:c=p:=Int.ofNat.inj e;subst e;rw[List.mem_filter,C62,decide_eq_true_eq]at b;exact b
 ·rintro⟨d,f⟩;exact⟨p,by rw[List.mem_filter,C62,decide_eq_true_eq];exact⟨d,f⟩,rfl⟩
theorem pR{b:List Int}{i:Nat}:∀x∈d5 b i,0<=x/\x<i:=by
 intro x a;unfold d5 at a;obtain⟨c,d,rfl⟩:=C71.1 a;have:=C62.1 (List.mem_filter.1 d).1;omega
theorem sR(c:List Int)(i:Nat):(d5 c i).Nodup:=by
 unfold d5;exact (List.nodup_range.filter _).map (fun i:Nat=>(i:Int)) fun _ _ b e=>b (Int.ofNat.inj e)
theorem TG(a:List Int)(i:Nat):(d5 a i).length<=i:=p5 (sR a i) pR
theorem KInv.start{g:Graph}(l:related g=true):KInv g 0 0 (R7 g g.length) (d5 (R7 g g.length) g.length) where
 len:=gH g _
 nodup:=sR _ _
 rng:=pR
 cnt:=fun p e=>by
  have:=zY l p e;unfold I0 at this;rw[this,C79,C79];simp
 zero:=fun p e=>by
  have:=zZ (R7 g g.length) g.length p;rw[this];exact⟨fun h=>h.2,fun h=>⟨e,h⟩⟩
 kids:=fun j k c b=>by
  have f:=pR _ (C43 k);have i:=(zZ (R7 g g.length) g.length ((d5 (R7 g g.length) g.length)[j]).toNat).1 (by rw[Int.toNat_of_nonneg f.1];exact C43 k);rw[zY l _ i.1]at i;have d:c<g.length:=by
   apply C69;intro m;rw[lJ m]at b;cases b
  have:=KO (g:=g) (ex:=[]) (p:=((d5 (R7 g g.length) g.length)[j]).toNat) (by omega) d (by rw[Int.toNat_of_nonneg f.1];exact b);cases this
theorem KInv.le{g:Graph}{k i:Nat}{b a:List Int}(h:KInv g k i b a):a.length<=g.length:=p5 h.nodup h.rng
theorem eY{α:Type}{l m:List α}{k:Nat}(h:k<=l.length):(l++m).take k=l.take k:=by rw[List.take_append_of_le_length h]
theorem TH{α:Type}{l m:List α}{k:Nat}{d:α}(h:k<l.length):(l++m).getD k d=l.getD k d:=by
 rw[C38,C38,C68 h]
theorem X5{α:Type}{l:List α}{i:Nat}{x:α}(h:i<l.length):x∈l.take (i+1)↔x∈l.take i\/x=l[i]:=by
 rw[C52,C36 h,C53,C49,C42]
theorem o5{α:Type}{l:List α}(c:l.Nodup){i:Nat}(h:i<l.length):l[i]∉l.take i:=by
 intro b;obtain⟨j,a,e⟩:=List.getElem_of_mem b;rw[C59]at a;rw[List.getElem_take]at e;have:=(List.getElem_inj (i:=j) (j:=i) (h₀:=by omega) (h₁:=h) c).1 e;omega
theorem KInv.step{g:Graph}(Y:related g=true){k i:Nat}{f b:List Int}(h:KInv g k i f b)(E:k<b.length){c p:Nat}(K:b[k]=(c:Int))(G:i<(D8 g c).length)(H:(D8 g c)[i]=(p:Int)) :
  p<g.length/\1<=I0 f p/\I0 f p<=g.length/\KInv g k (i+1) (m9 f p) (if I0 f p-1=0 then b++[(p:Int)] else b):=by
 have hpr:=K6 Y c;have hpm:(p:Int)∈D8 g c:=by rw[<-H];exact C43 G
 have m:p<g.length:=by have:=hpr.1 p hpm;omega
 have A:c<g.length:=by have:=h.rng b[k] (C43 E);omega
 have v:b.getD k 0=(c:Int):=by rw[C38,C36 E];exact K
 have P:(c:Int)∉b.take k:=by rw[<-K];exact o5 h.nodup E
 have O:(p:Int)∉(D8 g c).take i:=by rw[<-H];exact o5 hpr.2 G
 have S:=h.cnt p m;rw[v,C37,A7 O]at S;have T:=KN (g:=g) (ex:=b.take k) (x:=c) (p:=p) P A;rw[A6 hpm]at T;have W:wE g (b.take k) p<=g.length:=by
  unfold wE;have:=List.countP_le_length (p:=fun c:Nat=>decide ((c:Int)∉b.take k/\(p:Int)∈D8 g c)) (l:=List.range g.length)
  rwa[C94]at this
 have V:I0 f p=f[p]?.getD 0:=rfl;have L:1<=I0 f p:=by omega
 have o:(p:Int)∉b:=fun s=>by have:=(h.zero p m).1 s;omega
 have F:∀q,I0 (m9 f p) q=if p=q then I0 f p-1 else I0 f q:=fun q=>by
  unfold m9;rw[C37,jO (by rw[h.len];exact m)]
 refine⟨m,L,by omega,?_⟩;have w:(if I0 f p-1=0 then b++[(p:Int)] else b).take k=b.take k:=by split<;>first | exact eY (by omega) | rfl
 have B:(if I0 f p-1=0 then b++[(p:Int)] else b).getD k 0=b.getD k 0:=by split<;>first | exact TH E | rfl
 refine⟨by unfold m9;rw[C78];exact h.len,?_,?_,?_,?_,?_⟩
 ·split
  ·exact List.nodup_append.2 ⟨h.nodup,by simp,fun x d y Z e=>by rw[C42.1 Z]at e;exact o (e ▸ d)⟩
  ·exact h.nodup
 ·intro x d;split at d
  ·rcases C49.1 d with d | d
   ·exact h.rng x d
   ·rw[C42.1 d];omega
  ·exact h.rng x d
 ·intro q Q;rw[w,B,v,C37];have I:=F q;have J:I0 (m9 f p) q=(m9 f p)[q]?.getD 0:=rfl;rw[<-J,I];by_cases e:p=q
  ·subst e;rw[A6 rfl,A6 ((X5 G).2 (.inr H.symm))];omega
  ·rw[A7 e];have z:=h.cnt q Q;rw[v,C37]at z;have U:((q:Int)∈(D8 g c).take (i+1))↔(q:Int)∈(D8 g c).take i:=by
    rw[X5 G,H];exact⟨fun h=>h.resolve_right (by omega),.inl⟩
   simp only[U];exact z
 ·intro q Q;have I:=F q;have J:I0 (m9 f p) q=(m9 f p)[q]?.getD 0:=rfl;rw[<-J,I];by_cases e:p=q
  ·subst e;rw[A6 rfl];split
   ·rename_i u;simp[u]
   ·rename_i u;exact⟨fun s=>absurd s o,fun e=>absurd e u⟩
  ·rw[A7 e];have z:=h.zero q Q;split
   ·rw[C49,C42];exact⟨fun s=>z.1 (s.resolve_right (by omega)),fun e=>.inl (z.2 e)⟩
   ·exact z
 ·intro j M x d;split at M
  ·rename_i u;simp only[u,if_true]at d ⊢;by_cases C:j<b.length
   ·rw[D23 C]at d;rw[eY (by omega)];exact h.kids j C x d
   ·have N:j=b.length:=by rw[C40,C51]at M;omega
    subst N;rw[D21 (C45 _)]at d;simp only[D18,List.getElem_cons_zero]at d;have R:x<g.length:=by
     apply C69;intro X;rw[lJ X]at d;cases d
    have hz:wE g (b.take k++[(c:Int)]) p=0:=by omega
    have:=KO hz R d;rw[eY (C45 _),C48];rcases C49.1 this with s | s
    ·exact C97 s
    ·rw[C42.1 s,<-K];exact C43 E
  ·rename_i u;simp only[u,if_false]at d ⊢;exact h.kids j M x d
theorem KInv.next{g:Graph}{k:Nat}{m a:List Int}(d:k<a.length){c:Nat}(f:a[k]=(c:Int))(h:KInv g k (D8 g c).length m a):KInv g (k+1) 0 m a where
 len:=h.len
 nodup:=h.nodup
 rng:=h.rng
 cnt:=fun p r=>by
  have o:=h.cnt p r;have i:a.getD k 0=(c:Int):=by rw[C38,C36 d];exact f
  have b:c<g.length:=by have:=h.rng a[k] (C43 d);omega
  rw[i,C37,C48]at o;have q:=KN (g:=g) (ex:=a.take k) (x:=c) (p:=p) (by rw[<-f];exact o5 h.nodup d) b;have e:a.take (k+1)=a.take k++[(c:Int)]:=by rw[C52,C36 d,C53,f]
  rw[e,C79,A7 (by simp)];split at o
  ·rename_i j;rw[A6 j]at q;omega
  ·rename_i j;rw[A7 j]at q;omega
 zero:=h.zero
 kids:=h.kids
def j5:List Commit->Int
 | []=>0
 | c::r=>if E8 c.Files≠0 then E8 c.Files else j5 r
def j6(g:Graph):Bool:=decide (g.length<=300)&&!g.any fun c=>decide (c.Parents.length>32)
def jP(g:Graph):Bool:=g.any fun c=>decide (c.Date<0\/c.Date>2147483647)
def K7(g:Graph):Int:=if j6 g=false then 1 else if related g=false then 230 else if cyclic g=true then 231 else if jP g=true then 3 else j5 g
theorem sS:∀{g:List Commit},j5 g=0->∀c∈g,E8 c.Files=0
 | [],_,_,hc=>by cases hc
 | d::r,h,c,hc=>by
  unfold j5 at h;split at h
  ·rename_i a;exact absurd h a
  ·rename_i a;rcases C50.1 hc with rfl | hc
   ·simpa using a
   ·exact sS h c hc
structure Valid (g:Graph):Prop where
 len:g.length<=300
 pars:∀c∈g,c.Parents.length<=32
 rel:related g=true
 acyc:∀c,¬Reaches g c c
 tree:∀c∈g,E8 c.Files=0
theorem x9{g:Graph}(h:K7 g=0):Valid g:=by
 unfold K7 at h;split at h
 ·cases h
 ·rename_i a;split at h
  ·cases h
  ·rename_i d;split at h
   ·cases h
   ·rename_i e;split at h
    ·cases h
    ·have a:j6 g=true:=by simpa using a
     unfold j6 at a;rw[C39,decide_eq_true_eq]at a;have d:related g=true:=by simpa using d
     refine⟨a.1,fun c b=>?_,d,fun c b=>e ((nE d).2 ⟨c,b⟩),fun c b=>sS h c b⟩;apply C69;intro f;have:g.any (fun c=>decide (c.Parents.length>32))=true:=List.any_eq_true.2 ⟨c,b,by simp;omega⟩;rw[this]at a;cases a.2
def bN(i j:Int):List Span->Int->Int->List Change
 | [],m,n=>if m>i\/n>j then [⟨i,m-i,j,n-j⟩] else []
 | x::r,m,n=>(if x.From>i\/x.To>j then [⟨i,x.From-i,j,x.To-j⟩] else [])++bN (x.From+1) (x.To+1) r m n
def nF(p:List Span)(m n:Int):List Change:=bN 0 0 p m n
theorem IF(p:List Span)(i j m n:Int):(bN i j p m n).length<=p.length+1:=by
 induction p generalizing i j with
 | nil=>unfold bN;split<;>simp
 | cons x r a=>unfold bN;have:=a (x.From+1) (x.To+1);split<;>simp<;>omega
def d6(i j:Int)(n:Nat):List Span:=(List.range n).map fun (t:Nat)=>⟨i+(t:Int),j+(t:Int)⟩
theorem FE(i j:Int)(n:Nat):(d6 i j n).length=n:=by simp[d6]
theorem NU(i j:Int)(n:Nat):d6 i j (n+1)=⟨i,j⟩::d6 (i+1) (j+1) n:=by
 unfold d6;rw[List.range_succ_eq_map,C73,D01]
 congr 1
 ·simp
 ·refine C81 fun t _=>?_;simp only[Function.comp,Span.mk.injEq];omega
def lK(i j:Int):List Change->Int->List Span
 | [],m=>d6 i j (m-i).toNat
 | c::r,m=>d6 i j (c.Old-i).toNat++lK (max i c.Old+c.OldLen) (j+(c.Old-i).toNat+c.NewLen) r m
def B10(l:List Change)(m:Int):List Span:=lK 0 0 l m
def dist:List Int->List Int->Nat
 | [],b=>b.length
 | x::a,[]=>(x::a).length
 | x::a,y::b=>if x=y then dist a b else 1+min (dist a (y::b)) (dist (x::a) b)
theorem iG(a:List Int):dist a []=a.length:=by cases a<;>simp[dist]
theorem rB(a b:List Int):dist a b<=a.length+b.length:=by
 induction a generalizing b with
 | nil=>simp[dist]
 | cons x a c =>
  induction b with
  | nil=>simp[dist]
  | cons y b d =>
   unfold dist;split
   ·have:=c b;simp;omega
   ·have:=c (y::b);have:=d;simp only[C46]at *;omega
def K0(i j:Int):List Int->List Int->List Span
 | [],_=>[]
 | _::_,[]=>[]
 | x::a,y::b=>if x=y then ⟨i,j⟩::K0 (i+1) (j+1) a b else if dist a (y::b)+1=dist (x::a) (y::b) then K0 (i+1) j a (y::b) else K0 i (j+1) (x::a) b
def tV(a b:List Int):List Change:=nF (K0 0 0 a b) a.length b.length
theorem KP(a b:List Int)(i j:Nat)(c:i<a.length)(d:j<b.length) :
  dist (a.drop i) (b.drop j)=if a[i]=b[j] then dist (a.drop (i+1)) (b.drop (j+1)) else 1+min (dist (a.drop (i+1)) (b.drop j)) (dist (a.drop i) (b.drop (j+1))):=by
 rw[C57 c,C57 d]
 conv=>lhs;rw[dist]
theorem eZ(a b:List Int)(i j:Nat)(c:i<a.length)(d:j<b.length)(p q:Int) :
  K0 p q (a.drop i) (b.drop j)=if a[i]=b[j] then ⟨p,q⟩::K0 (p+1) (q+1) (a.drop (i+1)) (b.drop (j+1)) else
   if dist (a.drop (i+1)) (b.drop j)+1=dist (a.drop i) (b.drop j) then K0 (p+1) q (a.drop (i+1)) (b.drop j) else K0 p (q+1) (a.drop i) (b.drop (j+1)):=by
 rw[C57 c,C57 d]
 conv=>lhs;rw[K0]
theorem Z9(p q:Int)(b:List Int):K0 p q [] b=[]:=by simp[K0]
theorem z7(p q:Int)(a:List Int):K0 p q a []=[]:=by cases a<;>simp[K0]
theorem sT(p q:Int)(a b:List Int):(K0 p q a b).length<=a.length:=by
 induction a generalizing p q b with
 | nil=>simp[K0]
 | cons x a c =>
  induction b generalizing p q with
  | nil=>simp[K0]
  | cons y b d =>
   unfold K0;split
   ·have:=c (p+1) (q+1) b;simp;omega
   ·split
    ·have:=c (p+1) q (y::b);simp;omega
    ·exact d p (q+1)
universe u
theorem rC{α:Type u}(n k:Nat)(f g:Nat->α)(v:α)(i:k<n->g k=v)(h:∀q,q<n->q≠k->g q=f q):((List.range n).map f).set k v=(List.range n).map g:=by
 refine List.ext_getElem (by simp) fun q j d=>?_;have c:q<n:=by simpa using d
 rw[List.getElem_set];by_cases b:k=q
 ·subst b;simp[i c]
 ·rw[A7 b];simp[h q c (Ne.symm b)]
theorem yJ{α:Type u}(n k:Nat)(f:Nat->α)(h:k<n):((List.range n).map f)[k]?=some (f k):=by simp[h]
def V0(a b:List Int)(i q:Nat):List Int:=(List.range (b.length+1)).map fun j=>if q<=j then (dist (a.drop i) (b.drop j):Int) else 0
def R8(a b:List Int)(i:Nat):List (List Int):=(List.range (a.length+1)).map fun r=>if i<=r then V0 a b r 0 else []
def rD(a b:List Int):List (List Int):=R8 a b 0
theorem FF(a b:List Int)(i q:Nat):(V0 a b i q).length=b.length+1:=by simp[V0]
theorem fK(a b:List Int)(i:Nat):(R8 a b i).length=a.length+1:=by simp[R8]
theorem NV(a b:List Int)(i:Nat):List.replicate (b.length+1) 0=V0 a b i (b.length+1):=by
 refine List.ext_getElem (by simp[V0]) fun q c d=>?_;have:¬(b.length+1<=q):=by simp at c;omega
 simp[V0,this]
theorem IG(a b:List Int):List.replicate (a.length+1) []=R8 a b (a.length+1):=by
 refine List.ext_getElem (by simp[R8]) fun q c d=>?_;have:¬(a.length+1<=q):=by simp at c;omega
 simp[R8,this]
theorem TI(a b:List Int)(i j:Nat):(V0 a b i (j+1)).set j (dist (a.drop i) (b.drop j):Int)=V0 a b i j:=by
 unfold V0;refine rC _ _ _ _ _ (fun _=>by simp) fun q d c=>?_;by_cases h:j<=q
 ·rw[A6 h,A6 (by omega)]
 ·rw[A7 h,A7 (by omega)]
theorem fA(a b:List Int)(i q j:Nat)(h:q<=j)(c:j<=b.length):(V0 a b i q)[j]?=some (dist (a.drop i) (b.drop j):Int):=by
 unfold V0;rw[yJ _ _ _ (by omega),A6 h]
theorem NW(a b:List Int)(i:Nat):(R8 a b (i+1)).set i (V0 a b i 0)=R8 a b i:=by
 unfold R8;refine rC _ _ _ _ _ (fun _=>by simp) fun q d c=>?_;by_cases h:i<=q
 ·rw[A6 h,A6 (by omega)]
 ·rw[A7 h,A7 (by omega)]
theorem nG(a b:List Int)(i r:Nat)(h:i<=r)(c:r<=a.length):(R8 a b i)[r]?=some (V0 a b r 0):=by
 unfold R8;rw[yJ _ _ _ (by omega),A6 h]
theorem nH(i j:Int):d6 i j 0=[]:=rfl
theorem NX(i j:Int)(n:Nat):d6 i j (n+1)=d6 i j n++[⟨i+n,j+n⟩]:=by simp[d6,D15]
def Asc(m n:Int):Int->Int->List Span->Prop
 | i,j,[]=>i<=m/\j<=n
 | i,j,x::r=>i<=x.From/\j<=x.To/\Asc m n (x.From+1) (x.To+1) r
theorem Asc.le{m n:Int}:∀{p:List Span} {i j:Int},Asc m n i j p->i<=m/\j<=n
 | [],i,j,h=>h
 | x::r,i,j,h=>by have:=Asc.le h.2.2;have:=h.1;have:=h.2.1;omega
theorem Asc.weaken{m n:Int}{p:List Span}{i j i' j':Int}(h:Asc m n i j p)(a:i'<=i)(b:j'<=j):Asc m n i' j' p:=by
 cases p with
 | nil=>exact⟨by have:=h.1;omega,by have:=h.2;omega⟩
 | cons x r=>exact⟨by have:=h.1;omega,by have:=h.2.1;omega,h.2.2⟩
theorem FG(a b:List Int):∀(p q:Int),Asc (p+a.length) (q+b.length) p q (K0 p q a b):=by
 induction a generalizing b with
 | nil=>intro p q;rw[Z9];simp only[Asc,List.length_nil];omega
 | cons x a c =>
  induction b with
  | nil=>intro p q;rw[z7];simp only[Asc,List.length_nil];omega
  | cons y b d =>
   intro p q;rw[K0];split
   ·have:=c b (p+1) (q+1);refine⟨Int.le_refl _,Int.le_refl _,?_⟩;simp only[C46]
    rwa[show p+((a.length+1:Nat):Int)=p+1+a.length by omega,show q+((b.length+1:Nat):Int)=q+1+b.length by omega]
   ·split
    ·have:=(c (y::b) (p+1) q).weaken (i':=p) (j':=q) (by omega) (Int.le_refl _)
     rwa[show p+((x::a).length:Int)=p+1+a.length by simp;omega]
    ·have:=(d p (q+1)).weaken (i':=p) (j':=q) (Int.le_refl _) (by omega)
     rwa[show q+((y::b).length:Int)=q+1+b.length by simp;omega]
theorem Asc.made{m n:Int}:∀{p:List Span} {i j:Int},Asc m n i j p->∀c∈bN i j p m n,i<=c.Old/\j<=c.New/\0<=c.OldLen/\0<=c.NewLen/\c.Old+c.OldLen<=m/\c.New+c.NewLen<=n
 | [],i,j,h,c,a=>by
  unfold bN at a;split at a
  ·simp only[C42]at a;subst a;have:=h.1;have:=h.2;simp only;omega
  ·cases a
 | x::r,i,j,h,c,a=>by
  unfold bN at a;obtain⟨d,e,b⟩:=h;have f:=b.le;rcases C49.1 a with a | a
  ·split at a
   ·simp only[C42]at a;subst a;simp only;omega
   ·cases a
  ·have:=Asc.made b c a;omega
theorem NY(a b:List Int):∀c∈tV a b,0<=c.Old/\0<=c.New/\0<=c.OldLen/\0<=c.NewLen/\c.Old+c.OldLen<=a.length/\c.New+c.NewLen<=b.length:=by
 have:=FG a b 0 0;rw[Int.zero_add,Int.zero_add]at this;exact this.made
def orBit(a b:Int):Int:=IntKind.u32.wrap ((BitVec.ofInt IntKind.u32.bits a ||| BitVec.ofInt IntKind.u32.bits b).toNat:Int)
def bitAt(m:Int)(c:Nat):Bool:=m / 2 ^ c % 2 == 1
def visB(r:Row)(c:Int):Bool:=if c = -1 then !r.Lost else if c < -1\/32<=c then false else bitAt r.Marks c.toNat == r.Lost
def colOf(b:List Row)(c:Int):List Str:=(b.filter (visB · c)).map (·.Text)
def markOk(n:Nat)(r:Row):Bool:=r.Marks / 2 ^ n == 0&&!(r.Lost&&r.Marks == 0)
theorem YL{n:Int}(h:0<=n/\n<18446744073709551616):IntKind.u64.wrap n=n:=by simp[IntKind.wrap,IntKind.signed,IntKind.bits];omega
abbrev Loom:=List Int×(Nat->List (List Int))
structure LoomOk (Q:Int->Prop) (B lines n:Nat) (s:Loom):Prop where
 len:s.1.length=lines
 marks:∀m∈s.1,0<=m/\m<4294967296
 gaps:∀k,(s.2 k).length=n/\∀x∈s.2 k,x.length<=B/\∀v∈x,Q v
theorem wF(s:Str):Lib.hasSuffix s [10]=ended s:=by
 unfold Lib.hasSuffix ended;rw[Bool.eq_iff_iff,List.isSuffixOf_iff_suffix,beq_iff_eq];constructor
 ·rintro⟨t,rfl⟩;simp
 ·intro h;obtain⟨a,b⟩:=List.getLast?_eq_some_iff.1 h;exact⟨a,b.symm⟩
def Y4(s:Str):Str:=if ended s then s.dropLast else s
theorem II(s:Str):Lib.trimSuffix s [10]=Y4 s:=by
 unfold Lib.trimSuffix Y4;rw[wF,List.dropLast_eq_take];rfl
theorem bA(c:UInt8):∀l:Str,(c∉l/\Lib.indexByte l c = -1)\/∃a b,l=a++c::b/\c∉a/\Lib.indexByte l c=a.length
 | []=>.inl ⟨by simp,rfl⟩
 | x::l=>by
  unfold Lib.indexByte;by_cases d:x=c
  ·exact .inr ⟨[],l,by rw[d];rfl,by simp,by simp[d]⟩
  ·rcases bA c l with ⟨e,f⟩ | ⟨a,b,e,f,h3⟩
   ·exact .inl ⟨by simp[e,Ne.symm d],by simp[d,f]⟩
   ·refine .inr ⟨x::a,b,by rw[e];rfl,by simp[f,Ne.symm d],?_⟩;have g:¬((a.length:Int) = -1):=by omega
    simp[d,h3,g]
theorem kJ(c:UInt8)(l:Str):0<=Lib.indexByte l c↔c∈l:=by
 rcases bA c l with ⟨d,e⟩ | ⟨a,b,d,e,h3⟩
 ·rw[e];simp[d]
 ·rw[h3,d];simp
def and32(a b:Int):Int:=IntKind.u32.wrap ((BitVec.ofInt IntKind.u32.bits a &&& BitVec.ofInt IntKind.u32.bits b).toNat:Int)
def not32(a:Int):Int:=IntKind.u32.wrap ((BitVec.ofInt IntKind.u32.bits IntKind.u32.max ^^^ BitVec.ofInt IntKind.u32.bits a).toNat:Int)
theorem u32_nat(n:Nat)(h:n<4294967296):IntKind.u32.wrap (n:Int)=n:=by simp[IntKind.wrap,IntKind.signed,IntKind.bits];omega
theorem bv_nat(n:Nat):BitVec.ofInt IntKind.u32.bits (n:Int)=BitVec.ofNat 32 n:=BitVec.ofInt_natCast 32 n
theorem B79(n m:Nat)(d:n<4294967296)(c:m<4294967296):orBit n m=((n ||| m:Nat):Int)/\n ||| m<4294967296:=by
 unfold orBit;rw[bv_nat,bv_nat];have e:(BitVec.ofNat 32 n ||| BitVec.ofNat 32 m).toNat=n ||| m:=by
  rw[BitVec.toNat_or,BitVec.toNat_ofNat,BitVec.toNat_ofNat,Nat.mod_eq_of_lt (by omega),Nat.mod_eq_of_lt (by omega)]
 have b:n ||| m<2 ^ 32:=Nat.or_lt_two_pow (by omega) (by omega);refine⟨?_,by omega⟩;show IntKind.u32.wrap ((BitVec.ofNat 32 n ||| BitVec.ofNat 32 m).toNat:Int)=_;rw[e,u32_nat _ (by omega)]
def inOf(r:Row):Int:=if r.Lost then r.Marks else not32 r.Marks
def addOk(b:Bool)(a:Int)(r:Row):Bool:=decide (and32 a (inOf r)=0)&&(r.Lost||!b)
structure EndsAt (res:Bool) (par:Int) (bad:Int->Bool):Prop where
 res:res=bad (-1)
 par:∃p:Nat,p<4294967296/\par=p/\∀c:Nat,c<32->p.testBit c=bad c
def plainB(c:UInt8):Bool:=decide (33<=c.toNat/\c.toNat<=126/\c.toNat≠34/\c.toNat≠92)
def digs8:Str:=[48,49,50,51,52,53,54,55]
def octOf(c:UInt8):Str:=(digs8.drop (c.toNat / 64)).take 1++(digs8.drop (c.toNat / 8 % 8)).take 1++(digs8.drop (c.toNat % 8)).take 1
def escOf(c:UInt8):Str:=if c.toNat=34\/c.toNat=92 then [92,c] else if c.toNat=10 then [92,110] else if c.toNat=9 then [92,116] else if c.toNat<32\/126<c.toNat then 92::octOf c else [c]
def A23(s:Str):Str:=if s≠[]/\s.all plainB=true then s else 34::((s.map escOf).flatten++[34])
def A24(n:Int):Str:=if n<0\/2147483647<n then [] else Lib.itoa n
def NZ(a n:Int):Str:=if a<0\/n<0\/2147483647<a\/2147483647-a<n then [] else if n=0 then A24 a++[44,48] else if n=1 then A24 (a+1) else A24 (a+1)++[44]++A24 n
def R9(a:Str):Str->List Str
 | []=>[a]
 | c::r=>if c=10 then (a++[c])::R9 [] r else R9 (a++[c]) r
def X1(b:Str):List Str:=R9 [] b
theorem IJ(a b:Str)(h:(10:UInt8)∉a):R9 b a=[b++a]:=by
 induction a generalizing b with
 | nil=>simp[R9]
 | cons c r d =>
  simp only[C50,not_or]at h;rw[R9,A7 (fun e=>h.1 e.symm),d _ h.2];simp
theorem OA(a b d:Str)(h:(10:UInt8)∉a):R9 d (a++10::b)=(d++a++[10])::R9 [] b:=by
 induction a generalizing d with
 | nil=>simp[R9]
 | cons c r f =>
  simp only[C50,not_or]at h;rw[C92,R9,A7 (fun e=>h.1 e.symm),f _ h.2];simp
theorem y3(s a:Str):(R9 a s).length=s.count 10+1:=by
 induction s generalizing a with
 | nil=>rfl
 | cons c r d =>
  by_cases b:c=10
  ·subst b;rw[R9,A6 rfl,C46,d,List.count_cons_self]
  ·rw[R9,A7 b,d,List.count_cons_of_ne b]
theorem TJ(s b:Str):K1 b s=if (R9 b s).getLastD []=[] then (R9 b s).dropLast else R9 b s:=by
 induction s generalizing b with
 | nil=>by_cases h:b=[]<;>simp[K1,R9,h]
 | cons c r j =>
  rw[K1,R9];by_cases f:c=10
  ·rw[A6 f,A6 f,j];have l:R9 [] r≠[]:=fun e=>by have:=y3 r [];rw[e]at this;simp at this
   obtain⟨x,y,i⟩:=List.exists_cons_of_ne_nil l;rw[i];have k:((b++[c])::x::y).getLastD []=(x::y).getLastD []:=by cases y<;>simp[List.getLastD]
   rw[k];split
   ·rfl
   ·rfl
  ·rw[A7 f,A7 f,j]
theorem FH(s a:Str):(K1 a s).length=s.count 10+if s=[] then (if a=[] then 0 else 1) else if ended s=true then 0 else 1:=by
 induction s generalizing a with
 | nil=>by_cases h:a=[]<;>simp[K1,h]
 | cons c r i =>
  have j:ended (c::r)=if r=[] then c == 10 else ended r:=by
   cases r with
   | nil=>simp[ended]
   | cons d t=>simp[ended,List.getLast?_cons_cons]
  rw[K1,A7 (List.cons_ne_nil _ _),j];by_cases b:c=10
  ·subst b;rw[A6 rfl,C46,i,List.count_cons_self];by_cases f:r=[]<;>simp[f];omega
  ·rw[A7 b,i,List.count_cons_of_ne b];by_cases f:r=[]<;>simp[f,b]
theorem kK(s:Str):(F8 s).length=s.count 10+if s≠[]/\ended s=false then 1 else 0:=by
 unfold F8;rw[FH];by_cases a:s=[]<;>simp[a];cases ended s<;>simp
theorem YM{P:List Str}{i:Nat}{r a b:Str}(h:P.drop i=X1 r)(c:r=a++10::b)(ha:(10:UInt8)∉a):P[i]?=some (a++[10])/\P.drop (i+1)=X1 b:=by
 have e:X1 r=(a++[10])::X1 b:=by rw[c];unfold X1;rw[OA _ _ _ ha];rfl
 rw[e]at h;refine⟨by rw[<-List.head?_drop,h];rfl,?_⟩;rw[<-List.tail_drop,h];rfl
theorem KQ{α:Type}(P:List α)(z x:α)(i:Nat)(h:P[i]?=some x):(P.take i++List.replicate (P.length-i) z).set i x=P.take (i+1)++List.replicate (P.length-(i+1)) z:=by
 obtain⟨a,c⟩:=C44.1 h;have b:(P.take i).length=i:=by rw[C59];omega
 rw[List.set_append_right _ _ (by omega),b,D18,show P.length-i=(P.length-(i+1))+1 by omega,List.replicate_succ,List.set_cons_zero,D08 a,c,C65];rfl
def T6(b:Str):List Str×Int:=if b.length>1048576\/(F8 b).length>4096 then ([],1) else (F8 b,0)
def R1(n:Int):Prop:=0<=n/\n<=4096
instance (n:Int):Decidable (R1 n):=by unfold R1;exact inferInstance
def badC(k:Nat)(i j:Int)(c:Change):Prop:=((((((¬R1 c.Old\/¬R1 c.OldLen)\/¬R1 c.New)\/¬R1 c.NewLen)\/c.OldLen+c.NewLen=0)\/c.Old-i≠c.New-j)\/c.Old<i)\/(0<(k:Int)/\c.Old=i)
instance (k:Nat) (i j:Int) (c:Change):Decidable (badC k i j c):=by unfold badC;exact inferInstance
def U7(k:Nat)(i j:Int):List Change->Int->Int->Bool
 | [],m,n=>decide (¬(m-i≠n-j\/m<i))
 | c::r,m,n=>decide (¬badC k i j c)&&U7 (k+1) (c.Old+c.OldLen) (c.New+c.NewLen) r m n
def check8(l:List Change)(m n:Int):Int:=if ¬R1 m\/¬R1 n then 80 else if U7 0 0 0 l m n=true then 0 else 80
def ScOk(i j:Int):List Change->Int->Int->Prop
 | [],m,n=>i<=m/\j<=n
 | c::r,m,n=>R1 c.Old/\R1 c.OldLen/\R1 c.New/\R1 c.NewLen/\i<=c.Old/\j<=c.New/\ScOk (c.Old+c.OldLen) (c.New+c.NewLen) r m n
theorem pS:∀(l:List Change) (k:Nat) (i j m n:Int),U7 k i j l m n=true->ScOk i j l m n
 | [],k,i,j,m,n,h=>by simp only[U7,decide_eq_true_eq]at h;simp only[ScOk];omega
 | c::r,k,i,j,m,n,h=>by
  simp only[U7,C39,decide_eq_true_eq]at h;obtain⟨a,e⟩:=h;unfold badC at a;refine⟨?_,?_,?_,?_,?_,?_,pS r _ _ _ m n e⟩
  all_goals (by_cases b:R1 c.Old<;>by_cases d:R1 c.OldLen<;>by_cases a3:R1 c.New<;>by_cases a4:R1 c.NewLen<;>simp[b,d,a3,a4]at a ⊢<;>omega)
def L5(l:List Change)(k:Nat):Change:=l.getD k ⟨0,0,0,0⟩
theorem ScOk.end_le:∀{l:List Change} {i j m n:Int},ScOk i j l m n->i<=m/\j<=n
 | [],_,_,_,_,h=>h
 | c::r,i,j,m,n,⟨h1,h2,h3,h4,h5,h6,h7⟩=>by have:=h7.end_le;unfold R1 at *;omega
theorem ScOk.get:∀{l:List Change} {i j m n:Int} (k:Nat),ScOk i j l m n->k<l.length->R1 (L5 l k).Old/\R1 (L5 l k).OldLen/\R1 (L5 l k).New/\R1 (L5 l k).NewLen/\(L5 l k).Old+(L5 l k).OldLen<=m/\(L5 l k).New+(L5 l k).NewLen<=n
 | c::r,i,j,m,n,0,⟨h1,h2,h3,h4,h5,h6,h7⟩,_=>by have:=h7.end_le;exact⟨h1,h2,h3,h4,this.1,this.2⟩
 | c::r,i,j,m,n,k+1,⟨h1,h2,h3,h4,h5,h6,h7⟩,hk=>by
  have:=h7.get k (by simpa using hk);simpa[L5] using this
theorem ScOk.next:∀{l:List Change} {i j m n:Int} (k:Nat),ScOk i j l m n->k+1<l.length->(L5 l k).Old+(L5 l k).OldLen<=(L5 l (k+1)).Old
 | [c],_,_,_,_,_,_,hk=>by simp at hk
 | c::c2::r,i,j,m,n,0,⟨_,_,_,_,_,_,h7⟩,_=>by simpa[L5] using h7.2.2.2.2.1
 | c::c2::r,i,j,m,n,k+1,⟨_,_,_,_,_,_,h7⟩,hk=>by
  have:=h7.next k (by simpa using hk);simpa[L5] using this
theorem ScOk.mono{l:List Change}{m n:Int}(h:ScOk 0 0 l m n):∀(a b:Nat),a<=b->b<l.length->(L5 l a).Old<=(L5 l b).Old/\(L5 l a).Old+(L5 l a).OldLen<=(L5 l b).Old+(L5 l b).OldLen
 | a,0,h1,h2=>by rw[show a=0 by omega];omega
 | a,b+1,h1,h2=>by
  by_cases c:a=b+1
  ·subst c;omega
  ·have f:=h.mono a b (by omega) (by omega);have g:=h.next b h2;have i:=h.get b (by omega);have j:=h.get (b+1) h2;unfold R1 at *;omega
def OB(a b:Int):Int:=if b<a then b else a
def opens(l:List Change)(a:Int)(k:Nat):Prop:=k=0\/2*a<(L5 l k).Old-(L5 l (k-1)).Old-(L5 l (k-1)).OldLen
instance (l:List Change) (ctx:Int) (k:Nat):Decidable (opens l ctx k):=by unfold opens;exact inferInstance
def A25:Hunk:=⟨0,0,⟨0,0⟩,⟨0,0⟩⟩
def lL(l:List Change)(a:Int)(k:Nat):Hunk:=⟨k,0,⟨(L5 l k).Old-OB a (L5 l k).Old,0⟩,⟨(L5 l k).New-OB a (L5 l k).Old,0⟩⟩
def wG(l:List Change)(m b:Int)(k:Nat)(h:Hunk):Hunk :=
 let c:=L5 l k;let a:=OB b (m-(c.Old+c.OldLen))
 ⟨h.First,k+1,⟨h.Old.From,c.Old+c.OldLen+a⟩,⟨h.New.From,c.New+c.NewLen+a⟩⟩
def yK(l:List Change)(a:Int)(k:Nat)(b:List Hunk):List Hunk:=if opens l a k then b++[lL l a k] else b
def u6(l:List Change)(m b:Int):Nat->List Hunk
 | 0=>[]
 | k+1=>let a:=yK l b k (u6 l m b k);a.set (a.length-1) (wG l m b k (a.getD (a.length-1) A25))
theorem AA(l:List Change)(m a:Int):∀k,(u6 l m a k).length<=k/\(0<k->0<(u6 l m a k).length)
 | 0=>by simp[u6]
 | k+1=>by
  have h:=AA l m a k;simp only[u6,C78,yK];split
  ·simp only[C40,C46,List.length_nil];omega
  ·rename_i b;have:k≠0:=fun e=>b (.inl e);omega
def nameOk(s:Str):Bool:=decide (1<=s.length/\s.length<=200)
def H5(b:List PatchLine)(k:UInt8):List Str:=(b.filter (fun x=>decide (x.Kind≠k))).map (·.Text)
def badLn(x:PatchLine):Prop:=((x.Kind≠32/\x.Kind≠45)/\x.Kind≠43)\/bL x.Text=false
instance (x:PatchLine):Decidable (badLn x):=by unfold badLn;exact inferInstance
def tW(x:PatchLine):Bool:=decide (¬badLn x)
def kL(a:List PatchLine):Bool:=a.any (fun x=>decide (x.Kind≠32))
def wH(some:Bool)(i j:Int)(h:PatchHunk):Prop:=((((some=false\/h.Old<i)\/h.New<j)\/4096<h.Old)\/4096<h.New)\/h.Old-i≠h.New-j
instance (s:Bool) (i j:Int) (h:PatchHunk):Decidable (wH s i j h):=by unfold wH;exact inferInstance
def lM(h:PatchHunk):Int:=(H5 h.Lines 43).length
def lN(h:PatchHunk):Int:=(H5 h.Lines 45).length
def yL(i j:Int):List PatchHunk->Bool
 | []=>true
 | h::r=>h.Lines.all tW&&(decide (¬wH (kL h.Lines) i j h)&&(decide (¬(4096<h.Old+lM h\/4096<h.New+lN h))&&yL (h.Old+lM h) (h.New+lN h) r))
def Q5(b:List PatchHunk)(k:UInt8):List Str:=(b.map (fun h=>H5 h.Lines k)).flatten
def fB:List Str->Bool
 | []=>true
 | x::r=>(r.isEmpty||ended x)&&fB r
def YN(a:List PatchHunk)(k:UInt8):Bool:=fB (Q5 a k)
def yM(a:List PatchHunk):Bool:=yL 0 0 a&&(YN a 43&&YN a 45)
def markS:Str:=[10,92,32,78,111,32,110,101,119,108,105,110,101,32,97,116,32,101,110,100,32,111,102,32,102,105,108,101,10]
def linePs(x:PatchLine):List Str:=if ended x.Text then [[x.Kind]++x.Text] else [[x.Kind]++x.Text,markS]
def headW(h:PatchHunk):Str:=[64,64,32,45]++NZ h.Old (lM h)++[32,43]++NZ h.New (lN h)++[32,64,64,10]
def hunkPs(h:PatchHunk):List Str:=headW h::(h.Lines.map linePs).flatten
def namePs(p:Patch):List Str:=[[45,45,45,32]++A23 p.OldName++[10],[43,43,43,32]++A23 p.NewName++[10]]
def writePs(p:Patch):List Str:=namePs p++(p.Hunks.map hunkPs).flatten
def A26(p:Patch):Str:=(writePs p).flatten
def wI(p:Patch):Int:=if nameOk p.OldName=false\/nameOk p.NewName=false then 120 else if yM p.Hunks=false then 121 else if 16777216<(A26 p).length then 1 else 0
def szL(x:PatchLine):Nat:=x.Text.length+64
def szH(h:PatchHunk):Nat:=64+(h.Lines.map szL).sum
def szP(a:List PatchHunk):Nat:=(a.map szH).sum
structure PFit (p:Patch):Prop where
 old:p.OldName.length<=4194304
 new:p.NewName.length<=4194304
 hunks:szP p.Hunks<=268435456
theorem szL_len(a:List PatchLine):64*a.length<=(a.map szL).sum:=by
 induction a with
 | nil=>simp
 | cons x r b=>simp only[C73,D19,C46,szL];omega
def jQ(k:UInt8)(a:List Str):List PatchLine:=a.map fun t=>⟨k,t⟩
def sub(x:List Str)(a b:Int):List Str:=(x.drop a.toNat).take (b.toNat-a.toNat)
def oG(c:Change):Int:=c.Old+c.OldLen
def jR(l:List Change)(b:Int)(a t:Nat):Int:=if t=0 then b else oG (L5 l (a+t-1))
theorem YO(l:List Change)(b:Int)(a t:Nat):jR l b a (t+1)=oG (L5 l (a+t)):=by
 unfold jR;rw[A7 (by omega)];congr 2
def fL(l:List Change)(x y:List Str)(b:Int)(a:Nat):Nat->List PatchLine
 | 0=>[]
 | t+1=>fL l x y b a t++jQ 32 (sub x (jR l b a t) (L5 l (a+t)).Old)++jQ 45 (sub x (L5 l (a+t)).Old (oG (L5 l (a+t))))++jQ 43 (sub y (L5 l (a+t)).New ((L5 l (a+t)).New+(L5 l (a+t)).NewLen))
def u7(l:List Change)(x y:List Str)(h:Hunk):PatchHunk :=
 ⟨h.Old.From,h.New.From,fL l x y h.Old.From h.First.toNat (h.Last.toNat-h.First.toNat)++jQ 32 (sub x (jR l h.Old.From h.First.toNat (h.Last.toNat-h.First.toNat)) h.Old.To)⟩
def TK(i j:Int)(h:PatchHunk):Prop:=((((h.Old<0\/h.New<0)\/4096<h.Old)\/4096<h.New)\/h.Old<i)\/h.Old-i≠h.New-j
instance (i j:Int) (h:PatchHunk):Decidable (TK i j h):=by unfold TK;exact inferInstance
theorem wJ(b s:Str)(h:s∈F8 b):s.length<=b.length:=by
 have i:(F8 b).flatten=b:=by
  have key:∀(s d:Str),(K1 d s).flatten=d++s:=by
   intro s;induction s with
   | nil=>intro d;unfold K1;split<;>simp[*]
   | cons c r g=>intro d;unfold K1;split<;>simp[g]
  exact key b []
 have j:∀(l:List Str),s∈l->s.length<=l.flatten.length:=by
  intro l;induction l with
  | nil=>intro h;cases h
  | cons x r g =>
   intro h;rcases C50.1 h with rfl | h
   ·simp
   ·have:=g h;simp only[D03,C40];omega
 have:=j _ h;rw[i]at this;exact this
theorem BL{x:List Str}{a b:Int}{s:Str}(h:s∈sub x a b):s∈x:=by
 unfold sub at h;exact List.mem_of_mem_drop (C97 h)
def OC(c:Change):Int:=c.New+c.NewLen
def gI(i:Int)(l:List Change)(k:Nat):Int:=if k=0 then i else oG (L5 l (k-1))
def oH(j:Int)(l:List Change)(k:Nat):Int:=if k=0 then j else OC (L5 l (k-1))
theorem fC(i:Int)(c:Change)(r:List Change)(k:Nat):gI i (c::r) (k+1)=gI (oG c) r k:=by
 cases k<;>rfl
theorem fD(j:Int)(c:Change)(r:List Change)(k:Nat):oH j (c::r) (k+1)=oH (OC c) r k:=by
 cases k<;>rfl
theorem pT(i:Int)(l:List Change)(k:Nat):gI i l (k+1)=oG (L5 l k):=rfl
theorem pU(j:Int)(l:List Change)(k:Nat):oH j l (k+1)=OC (L5 l k):=rfl
theorem wK(c:Change)(r:List Change)(k:Nat):L5 (c::r) (k+1)=L5 r k:=rfl
def yN(x y:List Str)(i j:Int):List Change->Prop
 | []=>sub x i x.length=sub y j y.length
 | c::r=>sub x i c.Old=sub y j c.New/\yN x y (oG c) (OC c) r
theorem fM(m n:Int):∀(l:List Change) (b:Nat) (i j:Int),U7 b i j l m n=true->∀k,k<l.length ->
  R1 (L5 l k).Old/\R1 (L5 l k).OldLen/\R1 (L5 l k).New/\R1 (L5 l k).NewLen/\(L5 l k).OldLen+(L5 l k).NewLen≠0/\(L5 l k).Old-gI i l k=(L5 l k).New-oH j l k/\gI i l k<=(L5 l k).Old/\(0<b+k->gI i l k<(L5 l k).Old)
 | [],_,_,_,_,k,hk=>by simp at hk
 | c :: r,b,i,j,h,k,hk=>by
  simp only[U7,C39,decide_eq_true_eq]at h;obtain⟨a,C⟩:=h;cases k with
  | zero =>
   unfold badC at a;show R1 c.Old/\R1 c.OldLen/\R1 c.New/\R1 c.NewLen/\c.OldLen+c.NewLen≠0/\c.Old-i=c.New-j/\i<=c.Old/\(0<b+0->i<c.Old)
   have f:R1 c.Old:=by by_cases q:R1 c.Old;exact q;exact absurd (.inl (.inl (.inl (.inl (.inl (.inl (.inl q))))))) a
   have g:R1 c.OldLen:=by by_cases q:R1 c.OldLen;exact q;exact absurd (.inl (.inl (.inl (.inl (.inl (.inl (.inr q))))))) a
   have o:R1 c.New:=by by_cases q:R1 c.New;exact q;exact absurd (.inl (.inl (.inl (.inl (.inl (.inr q)))))) a
   have p:R1 c.NewLen:=by by_cases q:R1 c.NewLen;exact q;exact absurd (.inl (.inl (.inl (.inl (.inr q))))) a
   refine⟨f,g,o,p,fun q=>a (.inl (.inl (.inl (.inr q)))),?_,?_,fun B=>?_⟩
   ·by_cases q:c.Old-i=c.New-j
    ·exact q
    ·exact absurd (.inl (.inl (.inr q))) a
   ·by_cases q:c.Old<i
    ·exact absurd (.inl (.inr q)) a
    ·omega
   ·by_cases q:c.Old<i
    ·exact absurd (.inl (.inr q)) a
    ·by_cases D:c.Old=i
     ·exact absurd (.inr ⟨by omega,D⟩) a
     ·omega
  | succ k =>
   have:=fM m n r (b+1) _ _ C k (by simpa using hk);rw[wK,fC,fD];obtain⟨s,t,u,v,x,y,z,A⟩:=this;exact⟨s,t,u,v,x,y,z,fun B=>A (by omega)⟩
theorem OD(m n:Int):∀(l:List Change) (a:Nat) (i j:Int),U7 a i j l m n=true->m-gI i l l.length=n-oH j l l.length/\gI i l l.length<=m
 | [],_,i,j,h=>by
  simp only[U7,decide_eq_true_eq]at h;show m-i=n-j/\i<=m;omega
 | c::r,a,i,j,h=>by
  simp only[U7,C39,decide_eq_true_eq]at h;rw[C46,fC,fD];exact OD m n r _ _ _ h.2
theorem FI(x y:List Str):∀(l:List Change) (i j:Int),yN x y i j l->∀k,k<l.length->sub x (gI i l k) (L5 l k).Old=sub y (oH j l k) (L5 l k).New
 | [],_,_,_,k,hk=>by simp at hk
 | c::r,i,j,h,k,hk=>by
  cases k with
  | zero=>exact h.1
  | succ k=>rw[fC,fD,wK];exact FI x y r _ _ h.2 k (by simpa using hk)
theorem OE(x y:List Str):∀(l:List Change) (i j:Int),yN x y i j l->sub x (gI i l l.length) x.length=sub y (oH j l l.length) y.length
 | [],_,_,h=>h
 | c::r,i,j,h=>by rw[C46,fC,fD];exact OE x y r _ _ h.2
def KR(l:List Change)(m c:Int)(a b:Nat):Hunk:=wG l m c (b-1) (lL l c a)
def GrOk(l:List Change)(m c:Int):Nat->List Hunk->Nat->Prop
 | a,[],k=>a=k
 | a,h::r,k=>∃b,a<b/\opens l c a/\h=KR l m c a b/\GrOk l m c b r k
theorem GrOk.le{l:List Change}{m c:Int}:∀{d:List Hunk} {a k:Nat},GrOk l m c a d k->a<=k
 | [],a,k,h=>Nat.le_of_eq h
 | _::_,a,k,⟨b,h1,_,_,h2⟩=>by have:=GrOk.le h2;omega
theorem GrOk.snoc{l:List Change}{m c:Int}{k:Nat}(d:opens l c k):∀{e:List Hunk} {a:Nat},GrOk l m c a e k->GrOk l m c a (e++[KR l m c k (k+1)]) (k+1)
 | [],a,h=>by
  obtain rfl:a=k:=h;exact⟨a+1,by omega,d,rfl,rfl⟩
 | _::_,a,⟨b,h1,h2,h3,h4⟩=>⟨b,h1,h2,h3,GrOk.snoc d h4⟩
theorem GrOk.last{l:List Change}{m c:Int}{k:Nat}:∀{d:List Hunk} {a:Nat},GrOk l m c a d k->d≠[]->GrOk l m c a (d.set (d.length-1) (wG l m c k (d.getD (d.length-1) A25))) (k+1)
 | [],_,_,h0=>absurd rfl h0
 | [h],a,⟨b,h1,h2,h3,h4⟩,_=>by
  obtain rfl:b=k:=h4;subst h3;exact⟨b+1,by omega,h2,rfl,rfl⟩
 | h::h'::r,a,⟨b,h1,h2,h3,h4⟩,_=>by
  have e:=GrOk.last h4 (by simp);refine⟨b,h1,h2,h3,?_⟩;simpa using e
theorem nI(l:List Change)(m a:Int):∀k,GrOk l m a 0 (u6 l m a k) k
 | 0=>rfl
 | k+1=>by
  have d:=nI l m a k;have c:=(AA l m a k).2;simp only[u6,yK];by_cases b:opens l a k
  ·rw[A6 b];have e:(u6 l m a k++[lL l a k]).set ((u6 l m a k++[lL l a k]).length-1) (wG l m a k ((u6 l m a k++[lL l a k]).getD ((u6 l m a k++[lL l a k]).length-1) A25))=u6 l m a k++[KR l m a k (k+1)]:=by
    simp[KR]
   rw[e];exact d.snoc b
  ·rw[A7 b];refine d.last ?_;have:k≠0:=fun e=>b (.inl e);have:=c (by omega);intro e;rw[e]at this;simp at this
theorem nJ(x:List Str){a b c:Int}(f:0<=a)(g:a<=b)(h:b<=c):sub x a b++sub x b c=sub x a c:=by
 unfold sub;obtain⟨u,rfl⟩:∃u:Nat,(u:Int)=a:=⟨a.toNat,by omega⟩
 obtain⟨v,rfl⟩:∃v:Nat,(v:Int)=b:=⟨b.toNat,by omega⟩
 obtain⟨w,rfl⟩:∃w:Nat,(w:Int)=c:=⟨c.toNat,by omega⟩
 simp only[C37];have e:x.drop v=(x.drop u).drop (v-u):=by rw[List.drop_drop];congr 1;omega
 rw[e,show w-u=(v-u)+(w-v) by omega,List.take_add]
theorem A27(x:List Str)(a:Int):sub x a a=[]:=by simp[sub]
theorem nK(x:List Str){a b:Int}(c:0<=a)(d:a<=b)(f:b<=x.length):((sub x a b).length:Int)=b-a:=by
 unfold sub;rw[C59,C61];omega
theorem pV{x y:List Str}{p q f c e:Int}(h:sub x p q=sub y f c)(i:0<=p)(g:0<=f)(l:0<=e)(j:e<=q-p)(k:q-p=c-f):sub x (q-e) q=sub y (c-e) c:=by
 have key:∀(z:List Str) (a b:Int),0<=a->e<=b-a->sub z (b-e) b=(sub z a b).drop (b-a-e).toNat:=by
  intro z a b ha hb;unfold sub;rw[List.drop_take,List.drop_drop]
  congr 1
  ·omega
  ·congr 1;omega
 rw[key x p q i j,key y f c g (by omega),h,k]
theorem FJ{x y:List Str}{p q c f e:Int}(h:sub x p q=sub y c f)(g:0<=p)(d:0<=c)(l:0<=e)(i:e<=q-p)(j:q-p=f-c):sub x p (p+e)=sub y c (c+e):=by
 have key:∀(z:List Str) (a b:Int),0<=a->e<=b-a->sub z a (a+e)=(sub z a b).take e.toNat:=by
  intro z a b ha hb;unfold sub;rw[List.take_take]
  congr 1
  omega
 rw[key x p q g i,key y c f d (by omega),h]
theorem nL(p q:List PatchLine)(k:UInt8):H5 (p++q) k=H5 p k++H5 q k:=by simp[H5]
theorem nN(k a:UInt8)(b:List Str):H5 (jQ k b) a=if k=a then [] else b:=by
 unfold H5 jQ;by_cases h:k=a
 ·rw[A6 h];subst h;simp[List.filter_eq_nil_iff]
 ·rw[A7 h];rw[List.filter_eq_self.2 (by simp[h])];simp[Function.comp_def]
structure ScFit (x y:List Str) (l:List Change):Prop where
 lx:(x.length:Int)<=4096
 ly:(y.length:Int)<=4096
 sc:U7 0 0 0 l x.length y.length=true
 eq:yN x y 0 0 l
variable {x y:List Str}{l:List Change}
theorem ScFit.ok(h:ScFit x y l):ScOk 0 0 l x.length y.length:=pS _ _ _ _ _ _ h.sc
theorem ScFit.check(h:ScFit x y l):check8 l x.length y.length=0:=by
 have a:=h.lx;have b:=h.ly;unfold check8;rw[A7 (by unfold R1;omega),A6 h.sc]
theorem ScFit.nn(h:ScFit x y l)(k:Nat)(n:k<=l.length):0<=gI 0 l k/\0<=oH 0 l k/\gI 0 l k<=x.length/\oH 0 l k<=y.length:=by
 cases k with
 | zero=>exact⟨Int.le_refl _,Int.le_refl _,Int.natCast_nonneg _,Int.natCast_nonneg _⟩
 | succ k =>
  obtain⟨⟨a,b⟩,⟨c,d⟩,⟨e,f⟩,⟨g,i⟩,j,m⟩:=h.ok.get k (by omega);rw[pT,pU];unfold oG OC;omega
def eA(l:List Change)(b:Int)(a:Nat):Int:=OB b (L5 l a).Old
def eB(l:List Change)(m a:Int)(b:Nat):Int:=OB a (m-gI 0 l b)
theorem A28{a b:Int}(h:0<=a)(c:0<=b):0<=OB a b/\OB a b<=a/\OB a b<=b:=by unfold OB;split<;>omega
theorem rE{b:Int}{a:Nat}(c:opens l b a)(ha:a≠0):2*b<(L5 l a).Old-gI 0 l a:=by
 rcases c with h | h
 ·exact absurd h ha
 ·unfold gI;rw[A7 ha];unfold oG;omega
theorem ScFit.before(h:ScFit x y l){b:Int}(f:0<=b){a:Nat}(ha:a<l.length)(g:opens l b a) :
  0<=eA l b a/\eA l b a<=b/\eA l b a<=(L5 l a).Old-gI 0 l a:=by
 obtain⟨⟨e,i⟩,_⟩:=h.ok.get a ha;have j:=A28 f e;unfold eA;by_cases c:a=0
 ·subst c;show _/\_/\_<=(L5 l 0).Old-0;omega
 ·have:=rE g c;omega
theorem ScFit.after(h:ScFit x y l){a:Int}(k:0<=a){b:Nat}(hb:b<=l.length)(m:b<l.length->opens l a b)(f:b≠0) :
  0<=eB l x.length a b/\eB l x.length a b<=a/\gI 0 l b+eB l x.length a b<=x.length/\oH 0 l b+eB l x.length a b<=y.length /\
   sub x (gI 0 l b) (gI 0 l b+eB l x.length a b)=sub y (oH 0 l b) (oH 0 l b+eB l x.length a b):=by
 obtain⟨g,i,D,E⟩:=h.nn b hb;have d:=A28 k (show 0<=(x.length:Int)-gI 0 l b by omega);unfold eB;rcases Nat.lt_or_ge b l.length with c | hge
 ·obtain⟨g1,j,v,w,z,A,B,C⟩:=fM _ _ _ _ _ _ h.sc b c;obtain⟨⟨n,o⟩,⟨p,q⟩,⟨r,s⟩,⟨t,u⟩,k5,k6⟩:=h.ok.get b c;have F:=rE (m c) f;refine⟨d.1,d.2.1,by omega,by omega,FJ (FI x y l 0 0 h.eq b c) g i d.1 (by omega) (by omega)⟩
 ·have e:b=l.length:=by omega
  subst e;obtain⟨g1,j⟩:=OD _ _ _ _ _ _ h.sc;refine⟨d.1,d.2.1,by omega,by omega,FJ (OE x y l 0 0 h.eq) g i d.1 (by omega) (by omega)⟩
def OF(l:List Change)(b:Int)(a t:Nat):Int:=if t=0 then b else OC (L5 l (a+t-1))
theorem FK(c:Int)(a t:Nat)(b:t≠0):jR l c a t=gI 0 l (a+t):=by
 unfold jR gI;rw[A7 b,A7 (by omega)]
theorem A29(c:Int)(a t:Nat)(b:t≠0):OF l c a t=oH 0 l (a+t):=by
 unfold OF oH;rw[A7 b,A7 (by omega)]
theorem ScFit.made(h:ScFit x y l){b:Int}(H:0<=b){a:Nat}(I:opens l b a):∀t,a+t<=l.length->(t=0->a<l.length) ->
  H5 (fL l x y ((L5 l a).Old-eA l b a) a t) 43=sub x ((L5 l a).Old-eA l b a) (jR l ((L5 l a).Old-eA l b a) a t) /\
  H5 (fL l x y ((L5 l a).Old-eA l b a) a t) 45=sub y ((L5 l a).New-eA l b a) (OF l ((L5 l a).New-eA l b a) a t)
 | 0,_,_=>by
  unfold jR OF;rw[A6 rfl,A6 rfl,A27,A27];exact⟨rfl,rfl⟩
 | t + 1,hl,_=>by
  have j:a+t<l.length:=by omega
  have f:a<l.length:=by omega
  obtain⟨B,C⟩:=ScFit.made h H I t (by omega) (fun _=>f);obtain⟨q1,q2,q3⟩:=h.before H f I;obtain⟨p1,p2,p3,p4⟩:=h.nn (a+t) (by omega);obtain⟨T,U,r3,r4⟩:=h.nn a (by omega);obtain⟨g1,g2,g3,g4,g5,g6,g7,g8⟩:=fM _ _ _ _ _ _ h.sc (a+t) j;obtain⟨k1,⟨k2,Q⟩,k3,⟨k4,R⟩,k5,k6,k7,k8⟩:=fM _ _ _ _ _ _ h.sc a f;obtain⟨⟨V,W⟩,⟨X,Y⟩,⟨Z,c2⟩,⟨d1,d2⟩,w5,w6⟩:=h.ok.get (a+t) j
  have c:sub x (jR l ((L5 l a).Old-eA l b a) a t) (L5 l (a+t)).Old=sub y (OF l ((L5 l a).New-eA l b a) a t) (L5 l (a+t)).New /\
    (L5 l a).Old-eA l b a<=jR l ((L5 l a).Old-eA l b a) a t/\jR l ((L5 l a).Old-eA l b a) a t<=(L5 l (a+t)).Old /\
    (L5 l a).New-eA l b a<=OF l ((L5 l a).New-eA l b a) a t/\OF l ((L5 l a).New-eA l b a) a t<=(L5 l (a+t)).New:=by
   have c:=FI x y l 0 0 h.eq (a+t) j;by_cases k:t=0
   ·subst k;unfold jR OF;rw[A6 rfl,A6 rfl];rw[show a+0=a from rfl]at *;exact⟨pV c T U q1 (by omega) (by omega),by omega,by omega,by omega,by omega⟩
   ·rw[FK _ _ _ k,A29 _ _ _ k];have m1:=h.ok.mono a (a+t-1) (by omega) (by omega);have m2:gI 0 l (a+t)=(L5 l (a+t-1)).Old+(L5 l (a+t-1)).OldLen:=by unfold gI;rw[A7 (by omega)];rfl
    have S:∀u,u<=t->(L5 l a).New<=oH 0 l (a+u)\/u=0:=by
     intro u;induction u with
     | zero=>exact fun _=>.inr rfl
     | succ u D =>
      intro hu;obtain⟨E,F,⟨e3,J⟩,⟨K,M⟩,e5,e6,e7,e8⟩:=fM _ _ _ _ _ _ h.sc (a+u) (by omega);have P:oH 0 l (a+(u+1))=(L5 l (a+u)).New+(L5 l (a+u)).NewLen:=rfl;rcases D (by omega) with G | G
      ·left;omega
      ·left;subst G;rw[P];show (L5 l a).New<=(L5 l a).New+(L5 l a).NewLen;exact Int.le_add_of_nonneg_right K
    have m5:=(S t (C45 _)).resolve_right k;refine⟨c,by omega,by omega,by omega,by omega⟩
  obtain⟨m,p,q,z,A⟩:=c;simp (decide:=true) only [fL,nL,nN,B,C,if_true,if_false,C77];have E:jR l ((L5 l a).Old-eA l b a) a (t+1)=oG (L5 l (a+t)):=YO _ _ _ _;have F:OF l ((L5 l a).New-eA l b a) a (t+1)=OC (L5 l (a+t)):=rfl;rw[E,F];have s0:0<=(L5 l a).Old-eA l b a:=by omega
  have s1:0<=(L5 l a).New-eA l b a:=by omega
  refine⟨?_,?_⟩
  ·rw[nJ x s0 p q,nJ x s0 (by omega) (by unfold oG;omega)]
  ·rw[m,nJ y s1 z A];exact nJ y s1 (by omega) (by omega)
structure HunkIs (x y:List Str) (l:List Change) (ctx:Int) (a b:Nat) (h:PatchHunk):Prop where
 old:h.Old=(L5 l a).Old-eA l ctx a
 new:h.New=(L5 l a).New-eA l ctx a
 o0:0<=h.Old
 n0:0<=h.New
 oe:h.Old+lM h=gI 0 l b+eB l x.length ctx b
 ne:h.New+lN h=oH 0 l b+eB l x.length ctx b
 ox:h.Old+lM h<=x.length
 ny:h.New+lN h<=y.length
 ol:H5 h.Lines 43=sub x h.Old (h.Old+lM h)
 nl:H5 h.Lines 45=sub y h.New (h.New+lN h)
 ch:kL h.Lines=true
 gl:(∀s∈x,bL s=true)->(∀s∈y,bL s=true)->h.Lines.all tW=true
theorem FL(p q:List PatchLine):kL (p++q)=(kL p||kL q):=by simp[kL]
theorem FM{k:UInt8}{a:List Str}(b:k≠32)(h:a≠[]):kL (jQ k a)=true:=by
 cases a with
 | nil=>exact absurd rfl h
 | cons t a=>simp[kL,jQ,b]
theorem nO{k:UInt8}{d:List Str}(i:k=32\/k=45\/k=43)(h:∀t∈d,bL t=true):(jQ k d).all tW=true:=by
 rw[C47];intro q c;unfold jQ at c;obtain⟨t,j,rfl⟩:=C71.1 c;unfold tW;refine A4 ?_;rintro (⟨⟨b,f⟩,g⟩ | b)
 ·rcases i with e | e | e
  ·exact b e
  ·exact f e
  ·exact g e
 ·rw[show (PatchLine.mk k t).Text=t from rfl,h t j]at b;cases b
theorem AB(c:∀s∈x,bL s=true)(d:∀s∈y,bL s=true)(e:Int)(a:Nat):∀t,(fL l x y e a t).all tW=true
 | 0=>rfl
 | t+1=>by
  simp only[fL,D10,AB c d e a t,C84,C39];exact⟨⟨nO (.inl rfl) (fun s b=>c s (BL b)),nO (.inr (.inl rfl)) (fun s b=>c s (BL b))⟩,nO (.inr (.inr rfl)) (fun s b=>d s (BL b))⟩
theorem ScFit.hunk(h:ScFit x y l){c:Int}(I:0<=c){a b:Nat}(ag:a<b)(hb:b<=l.length)(S:opens l c a)(K:b<l.length->opens l c b) :
  HunkIs x y l c a b (u7 l x y (KR l x.length c a b)):=by
 have z:a<l.length:=by omega
 obtain⟨q1,q2,q3⟩:=h.before I z S;obtain⟨w1,w2,w3,w4,w5⟩:=h.after I hb K (by omega);obtain⟨m1,Q⟩:=h.made I S (b-a) (by omega) (fun e=>by omega);rw[FK _ _ _ (by omega)]at m1;rw[A29 _ _ _ (by omega)]at Q;rw[show a+(b-a)=b by omega]at m1 Q;obtain⟨r1,r2,r3,r4⟩:=h.nn a (by omega);obtain⟨s1,s2,s3,s4⟩:=h.nn b hb;obtain⟨k1,⟨k2,aj⟩,k3,⟨k4,ak⟩,k5,k6,k7,k8⟩:=fM _ _ _ _ _ _ h.sc a z;have J:b-1<l.length:=by omega
 obtain⟨g1,⟨g2,ac⟩,g3,⟨g4,ae⟩,g5,g6,g7,g8⟩:=fM _ _ _ _ _ _ h.sc (b-1) J;have Z:gI 0 l b=(L5 l (b-1)).Old+(L5 l (b-1)).OldLen:=by unfold gI;rw[A7 (by omega)];rfl
 have en:oH 0 l b=(L5 l (b-1)).New+(L5 l (b-1)).NewLen:=by unfold oH;rw[A7 (by omega)];rfl
 have mo:=h.ok.mono a (b-1) (by omega) (by omega);have mn:(L5 l a).New<=oH 0 l b:=by
  have m4:∀u,a+u<=l.length->(L5 l a).New<=oH 0 l (a+u)\/u=0:=by
   intro u;induction u with
   | zero=>exact fun _=>.inr rfl
   | succ u M =>
    intro hu;obtain⟨C,e2,⟨e3,V⟩,⟨W,X⟩,e5,e6,e7,e8⟩:=fM _ _ _ _ _ _ h.sc (a+u) (by omega);have Y:oH 0 l (a+(u+1))=(L5 l (a+u)).New+(L5 l (a+u)).NewLen:=rfl;rcases M (by omega) with R | R
    ·left;omega
    ·left;subst R;rw[Y];show (L5 l a).New<=(L5 l a).New+(L5 l a).NewLen;exact Int.le_add_of_nonneg_right W
  have:=(m4 (b-a) (by omega)).resolve_right (by omega)
  rwa[show a+(b-a)=b by omega]at this
 have hF:(KR l x.length c a b).First.toNat=a:=by show ((a:Int)).toNat=a;omega
 have hL:(KR l x.length c a b).Last.toNat-(KR l x.length c a b).First.toNat=b-a:=by
  show (((b-1:Nat):Int)+1).toNat-((a:Int)).toNat=b-a;omega
 have G:(KR l x.length c a b).Old.From=(L5 l a).Old-eA l c a:=rfl;have af:(KR l x.length c a b).New.From=(L5 l a).New-eA l c a:=rfl;have H:(KR l x.length c a b).Old.To=gI 0 l b+eB l x.length c b:=by
  unfold eB;rw[Z];rfl
 obtain⟨P,A⟩:∃P,P=u7 l x y (KR l x.length c a b):=⟨_,rfl⟩
 have f:P.Lines=fL l x y ((L5 l a).Old-eA l c a) a (b-a)++jQ 32 (sub x (gI 0 l b) (gI 0 l b+eB l x.length c b)):=by
  rw[A];unfold u7;show fL l x y _ (KR l x.length c a b).First.toNat ((KR l x.length c a b).Last.toNat-(KR l x.length c a b).First.toNat)++jQ 32 (sub x (jR l _ (KR l x.length c a b).First.toNat ((KR l x.length c a b).Last.toNat-(KR l x.length c a b).First.toNat)) _)=_;rw[hL,hF,G,H,FK _ _ _ (by omega),show a+(b-a)=b by omega]
 have q:P.Old=(L5 l a).Old-eA l c a:=by rw[A];rfl
 have p:P.New=(L5 l a).New-eA l c a:=by rw[A];rfl
 have j:H5 P.Lines 43=sub x ((L5 l a).Old-eA l c a) (gI 0 l b+eB l x.length c b):=by
  rw[f,nL,nN,A7 (by decide),m1];exact nJ x (by omega) (by omega) (by omega)
 have k:H5 P.Lines 45=sub y ((L5 l a).New-eA l c a) (oH 0 l b+eB l x.length c b):=by
  rw[f,nL,nN,A7 (by decide),Q,w5];exact nJ y (by omega) (by omega) (by omega)
 have ai:lM P=gI 0 l b+eB l x.length c b-((L5 l a).Old-eA l c a):=by
  unfold lM;rw[j];exact nK x (by omega) (by omega) (by omega)
 have ah:lN P=oH 0 l b+eB l x.length c b-((L5 l a).New-eA l c a):=by
  unfold lN;rw[k];exact nK y (by omega) (by omega) (by omega)
 rw[<-A];refine⟨q,p,by omega,by omega,by omega,by omega,by omega,by omega,?_,?_,?_,?_⟩
 ·rw[j];congr 1
  ·exact q.symm
  ·omega
 ·rw[k];congr 1
  ·exact p.symm
  ·omega
 ·rw[f,FL];have e:fL l x y ((L5 l a).Old-eA l c a) a (b-a)=fL l x y ((L5 l a).Old-eA l c a) a (b-1-a+1):=by congr 1;omega
  rw[e];simp only[fL,FL];rw[show a+(b-1-a)=b-1 by omega];have key:kL (jQ 45 (sub x (L5 l (b-1)).Old (oG (L5 l (b-1)))))=true\/kL (jQ 43 (sub y (L5 l (b-1)).New ((L5 l (b-1)).New+(L5 l (b-1)).NewLen)))=true:=by
   obtain⟨E,ad⟩:=g3;obtain⟨D,ab⟩:=g1;by_cases h0:(L5 l (b-1)).OldLen=0
   ·right;refine FM (by decide) fun B=>?_;have:=nK y (a:=(L5 l (b-1)).New) (b:=(L5 l (b-1)).New+(L5 l (b-1)).NewLen) E (by omega) (by omega);rw[B]at this;simp at this;omega
   ·left;refine FM (by decide) fun B=>?_;have:=nK x (a:=(L5 l (b-1)).Old) (b:=oG (L5 l (b-1))) D (by unfold oG;omega) (by unfold oG;omega);rw[B]at this;unfold oG at this;simp at this;omega
  rcases key with C | C<;>rw[C]<;>simp
 ·intro U hy;rw[f,D10,AB U hy,C84];exact nO (.inl rfl) (fun s hs=>U s (BL hs))
theorem ScFit.hunks(h:ScFit x y l){c:Int}(C:0<=c)(K:∀s∈x,bL s=true)(L:∀s∈y,bL s=true):∀(g:List Hunk) (a:Nat),GrOk l x.length c a g l.length ->
  ∀(i j e:Int),i=gI 0 l a+e->j=oH 0 l a+e->0<=e->e<=c->(a=0->e=0) ->
  yL i j (g.map (u7 l x y))=true/\(Q5 (g.map (u7 l x y)) 43).Sublist (x.drop i.toNat)/\(Q5 (g.map (u7 l x y)) 45).Sublist (y.drop j.toNat) /\
   ∀p∈g.map (u7 l x y),(p.Old+lM p<=x.length/\p.New+lN p<=y.length/\0<=p.Old/\0<=p.New)/\H5 p.Lines 43=sub x p.Old (p.Old+lM p)/\H5 p.Lines 45=sub y p.New (p.New+lN p)
 | [],a,_,i,j,e,_,_,_,_,_=>⟨rfl,by simp[Q5],by simp[Q5],by simp⟩
 | J::g,a,⟨b,hab,ho,hE,w⟩,i,j,e,hi,hj,he,hec,he0=>by
  have hb:=w.le;have A:b<l.length->opens l c b:=by
   intro W;cases g with
   | nil=>exact absurd w (by show ¬b=l.length;omega)
   | cons G X=>obtain⟨_,_,E,_⟩:=w;exact E
  obtain⟨w1,w2,w3,w4,w5⟩:=h.after C hb A (by omega);obtain⟨q1,q2,q3⟩:=h.before C (show a<l.length by omega) ho;have H:=h.hunk C hab hb ho A;rw[<-hE]at H;obtain⟨P,B⟩:∃P,P=u7 l x y J:=⟨_,rfl⟩
  rw[<-B]at H;obtain⟨Y,Z,i3,i4⟩:=ScFit.hunks h C K L g b w (P.Old+lM P) (P.New+lN P) (eB l x.length c b) H.oe H.ne w1 w2 (by omega);obtain⟨k1,⟨k2,ab⟩,k3,⟨k4,ac⟩,k5,k6,k7,k8⟩:=fM _ _ _ _ _ _ h.sc a (show a<l.length by omega);have Q:=H.old;have G:=H.new;have R:=H.o0;have T:=H.n0;have U:=H.ox;have V:=H.ny;have h7:=h.lx;have h8:=h.ly;have n1:0<=lM P:=by unfold lM;omega
  have n2:0<=lN P:=by unfold lN;omega
  have I:e+eA l c a<=(L5 l a).Old-gI 0 l a:=by
   by_cases D:a=0
   ·have:=he0 D;omega
   ·have:=rE ho D;omega
  obtain⟨r1,r2,r3,r4⟩:=h.nn a (by omega);have n:i<=P.Old/\j<=P.New/\P.Old-i=P.New-j/\0<=i/\0<=j:=by omega
  have q:∀(z:List Str) (i f t:Int),0<=i->i<=f->f<=t->∀r:List Str,r.Sublist (z.drop t.toNat)->(sub z f t++r).Sublist (z.drop i.toNat):=by
   intro z i f t D Q G r w;have M:z.drop f.toNat=sub z f t++z.drop t.toNat:=by
    unfold sub;rw[show t.toNat=f.toNat+(t.toNat-f.toNat) by omega,<-List.drop_drop,show f.toNat+(t.toNat-f.toNat)-f.toNat=t.toNat-f.toNat by omega,D16]
   have N:z.drop f.toNat=(z.drop i.toNat).drop (f.toNat-i.toNat):=by rw[List.drop_drop];congr 1;omega
   refine List.Sublist.trans ?_ (List.drop_sublist (f.toNat-i.toNat) (z.drop i.toNat));rw[<-N,M];exact List.Sublist.append_left w _
  have key:∀(k:UInt8),Q5 ((J::g).map (u7 l x y)) k=H5 P.Lines k++Q5 (g.map (u7 l x y)) k:=by
   intro k;rw[B];simp[Q5]
  refine⟨?_,?_,?_,?_⟩
  ·rw[C73,<-B];simp only[yL,H.gl K L,Y,Bool.and_true,C84,C39,decide_eq_true_eq];refine⟨?_,by omega⟩;unfold wH;rw[H.ch];rintro (((((v | v) | v) | v) | v) | v)
   ·cases v
   all_goals omega
  ·rw[key,H.ol];exact q x i P.Old (P.Old+lM P) n.2.2.2.1 n.1 (by omega) _ Z
  ·rw[key,H.nl];exact q y j P.New (P.New+lN P) n.2.2.2.2 n.2.1 (by omega) _ i3
  ·rw[C73,<-B];intro p F;rcases C50.1 F with rfl | F
   ·exact⟨⟨U,V,R,T⟩,H.ol,H.nl⟩
   ·exact i4 p F
theorem wL:∀{s z:List Str},s.Sublist z->fB z=true->fB s=true:=by
 intro s z e;induction e with
 | slnil=>exact fun h=>h
 | cons a _ d =>
  intro h;simp only[fB,C39]at h;exact d h.2
 | cons_cons a b d =>
  intro h;simp only[fB,C39,C67]at h ⊢;refine⟨?_,d h.2⟩;rcases h.1 with c | c
  ·left;rw[List.isEmpty_iff]at c ⊢;rw[c]at b;exact List.sublist_nil.1 b
  ·exact .inr c
def bB(l:List Change)(x y:List Str)(b:Int):List PatchHunk:=(u6 l x.length b l.length).map (u7 l x y)
theorem ScFit.good(h:ScFit x y l){a:Int}(b:0<=a)(i:∀s∈x,bL s=true)(j:∀s∈y,bL s=true)(c:fB x=true)(d:fB y=true):yM (bB l x y a)=true:=by
 obtain⟨e,f,g,_⟩:=h.hunks b i j _ 0 (nI l x.length a l.length) 0 0 0 rfl rfl (Int.le_refl _) b (fun _=>rfl);unfold yM YN bB;rw[e,wL f (by simpa using c),wL g (by simpa using d)];rfl
theorem ScFit.texts(h:ScFit x y l){a:Int}(b:0<=a)(c:∀s∈x,bL s=true)(d:∀s∈y,bL s=true):∀p∈bB l x y a,(p.Old+lM p<=x.length/\p.New+lN p<=y.length/\0<=p.Old/\0<=p.New)/\H5 p.Lines 43=sub x p.Old (p.Old+lM p)/\H5 p.Lines 45=sub y p.New (p.New+lN p) :=
 (h.hunks b c d _ 0 (nI l x.length a l.length) 0 0 0 rfl rfl (Int.le_refl _) b (fun _=>rfl)).2.2.2
def EqAt(X Y:List Str)(s:Span):Prop:=0<=s.From/\0<=s.To/\∃v,X[s.From.toNat]?=some v/\Y[s.To.toNat]?=some v
theorem TL{X:List Str}{a b:Int}{v:Str}(c:0<=a)(d:a<=b)(g:X[b.toNat]?=some v):sub X a (b+1)=sub X a b++[v]:=by
 rw[<-nJ X c d (by omega:b<=b+1)]
 congr 1
 unfold sub;obtain⟨f,e⟩:=C44.1 g;rw[C57 f,e,show (b+1).toNat-b.toNat=1 by omega];rfl
theorem KS:∀(b:List PatchLine),b.all tW=true->(b.map szL).sum<=64*((H5 b 43).length+(H5 b 45).length)+((H5 b 43).flatten.length+(H5 b 45).flatten.length)
 | [],_=>by simp
 | q::b,h=>by
  rw[List.all_cons,C39]at h;have x:=KS b h.2;have v:q.Kind=32\/q.Kind=45\/q.Kind=43:=by
   have c:=h.1;unfold tW at c;have c:=A1 c;by_cases d:q.Kind=32
   ·exact .inl d
   by_cases j:q.Kind=45
   ·exact .inr (.inl j)
   by_cases o:q.Kind=43
   ·exact .inr (.inr o)
   exact absurd (.inl ⟨⟨d,j⟩,o⟩) c
  have p:∀k:UInt8,H5 (q::b) k=if q.Kind≠k then q.Text::H5 b k else H5 b k:=by
   intro k;unfold H5;by_cases e:q.Kind=k
   ·rw[A7 (by simpa using e),List.filter_cons_of_neg (by simpa using e)]
   ·rw[A6 e,List.filter_cons_of_pos (by simpa using e)];rfl
  rw[p 43,p 45,C73,D19];have w:szL q=q.Text.length+64:=rfl;rcases v with e | e | e<;>rw[e]<;>simp (decide:=true) only [if_true,if_false,ne_eq,not_true_eq_false,not_false_eq_true,C46,D03,C40]<;>omega
theorem wM:∀(c:List PatchHunk) (i j:Int),yL i j c=true->szP c<=128*((Q5 c 43).length+(Q5 c 45).length)+((Q5 c 43).flatten.length+(Q5 c 45).flatten.length)
 | [],_,_,_=>by simp[szP]
 | h :: c,i,j,hg=>by
  simp only[yL,C39,decide_eq_true_eq]at hg;obtain⟨y,z,E,A⟩:=hg;have D:=wM c _ _ A;have F:=KS h.Lines y;have B:1<=h.Lines.length:=by
   cases C:h.Lines with
   | nil=>exact absurd (.inl (.inl (.inl (.inl (.inl (by rw[C];rfl)))))) z
   | cons a b=>simp
  have v:h.Lines.length<=(H5 h.Lines 43).length+(H5 h.Lines 45).length:=by
   have:64*h.Lines.length<=(h.Lines.map szL).sum:=szL_len h.Lines;have key:∀d:List PatchLine,d.length<=(H5 d 43).length+(H5 d 45).length:=by
    intro d;induction d with
    | nil=>simp
    | cons q d D =>
     have w:∀k:UInt8,(H5 (q::d) k).length=if q.Kind≠k then (H5 d k).length+1 else (H5 d k).length:=by
      intro k;unfold H5;by_cases e:q.Kind=k
      ·rw[A7 (by simpa using e),List.filter_cons_of_neg (by simpa using e)]
      ·rw[A6 e,List.filter_cons_of_pos (by simpa using e)];simp
     rw[w 43,w 45,C46];by_cases e:q.Kind=43
     ·have x:q.Kind≠45:=by rw[e];decide
      rw[A6 x];split<;>omega
     ·rw[A6 e];split<;>omega
   exact key h.Lines
  have r:szP (h::c)=szH h+szP c:=by simp[szP]
  have p:szH h=64+(h.Lines.map szL).sum:=rfl;have o:∀k,Q5 (h::c) k=H5 h.Lines k++Q5 c k:=by intro k;simp[Q5]
  rw[r,p,o 43,o 45];simp only[C40,D11];omega
theorem AC:∀{s z:List Str},s.Sublist z->s.flatten.length<=z.flatten.length:=by
 intro s z b;induction b with
 | slnil=>exact C45 _
 | cons a _ c=>simp only[D03,C40];omega
 | cons_cons a _ c=>simp only[D03,C40];omega
theorem ScFit.size{x y:List Str}{l:List Change}(h:ScFit x y l){c:Int}(k:0<=c)(q:∀s∈x,bL s=true)(r:∀s∈y,bL s=true):szP (bB l x y c)<=128*(x.length+y.length)+(x.flatten.length+y.flatten.length):=by
 obtain⟨n,g,j,_⟩:=h.hunks k q r _ 0 (nI l x.length c l.length) 0 0 0 rfl rfl (Int.le_refl _) k (fun _=>rfl);have o:=wM _ _ _ n;have e:bB l x y c=(u6 l x.length c l.length).map (u7 l x y):=rfl;rw[<-e]at g j o;have d:(Q5 (bB l x y c) 43).Sublist x:=by simpa using g
 have f:(Q5 (bB l x y c) 45).Sublist y:=by simpa using j
 have:=d.length_le;have:=f.length_le;have:=AC d;have:=AC f;omega
abbrev tX:Int->Nat->Cell:=fun x _=>.v (.int .u16 x)
abbrev pU16s(l:List Int):PV:=.one (.list Int 1 tX l)
theorem YP(n:Int)(h:0<=n/\n<65536):IntKind.u16.wrap n=n:=by
 simp[IntKind.wrap,IntKind.signed,IntKind.bits];omega
def flat(a b:List Int)(done:Nat->Nat->Bool):List Int :=
 (List.range ((a.length+1)*(b.length+1))).map fun p=>if done (p / (b.length+1)) (p % (b.length+1))=true then (dist (a.drop (p / (b.length+1))) (b.drop (p % (b.length+1))):Int) else 0
theorem AD(a b:List Int)(done:Nat->Nat->Bool):(flat a b done).length=(a.length+1)*(b.length+1):=by simp[flat]
theorem BM{a b:List Int}{i j:Nat}(c:i<=a.length)(d:j<=b.length):i*(b.length+1)+j<(a.length+1)*(b.length+1)/\(i*(b.length+1)+j) / (b.length+1)=i/\(i*(b.length+1)+j) % (b.length+1)=j:=by
 refine⟨?_,?_,?_⟩
 ·have:(i+1)*(b.length+1)<=(a.length+1)*(b.length+1):=C70 _ (by omega);rw[C88,Nat.one_mul]at this;omega
 ·rw[Nat.mul_comm,Nat.mul_add_div (by omega),Nat.div_eq_of_lt (by omega),Nat.add_zero]
 ·rw[Nat.mul_comm,Nat.mul_add_mod,Nat.mod_eq_of_lt (by omega)]
theorem FN{a b:List Int}{done:Nat->Nat->Bool}{i j:Nat}(f:i<=a.length)(g:j<=b.length):(flat a b done)[i*(b.length+1)+j]?=some (if done i j=true then (dist (a.drop i) (b.drop j):Int) else 0):=by
 obtain⟨c,d,e⟩:=BM f g;unfold flat
 rw[yJ _ _ _ c,d,e]
theorem TM{a b:List Int}{done c:Nat->Nat->Bool}{i j:Nat}{v:Int}(n:i<=a.length)(o:j<=b.length)(x:v=(dist (a.drop i) (b.drop j):Int))(m:c i j=true)
  (p:∀r q,r<=a.length->q<=b.length->¬(r=i/\q=j)->c r q=done r q):(flat a b done).set (i*(b.length+1)+j) v=flat a b c:=by
 obtain⟨y,k,l⟩:=BM n o;unfold flat
 refine rC _ _ _ _ _ (fun _=>?_) (fun q u d=>?_)
 ·rw[k,l,A6 m,x]
 ·have f:0<b.length+1:=by omega
  have e:=Nat.div_add_mod q (b.length+1);have w:q / (b.length+1)<=a.length:=by
   have:=(Nat.div_lt_iff_lt_mul f).2 u;omega
  have z:=Nat.mod_lt q f;rw[p _ _ w (by omega) (fun ⟨g,h⟩=>d (by rw[g,h,Nat.mul_comm]at e;exact e.symm))]
theorem B11(a b:List Int):List.replicate ((a.length+1)*(b.length+1)) 0=flat a b (fun _ _=>false):=by
 unfold flat
 simp only[Bool.false_eq_true,if_false];rw[List.map_const',C94]
theorem nP{a b:List Int}{done c:Nat->Nat->Bool}(h:∀r q,r<=a.length->q<=b.length->(done r q=c r q\/dist (a.drop r) (b.drop q)=0)):flat a b done=flat a b c:=by
 unfold flat
 apply C81;intro p d;have d:=C62.1 d;have f:0<b.length+1:=by omega
 have g:p / (b.length+1)<=a.length:=by have:=(Nat.div_lt_iff_lt_mul f).2 d;omega
 have i:=Nat.mod_lt p f;rcases h (p / (b.length+1)) (p % (b.length+1)) g (by omega) with e | e
 ·rw[e]
 ·rw[e];simp
def n5:List Int->List Int->Nat
 | x::a,y::b=>if x=y then n5 a b+1 else 0
 | _,_=>0
theorem TN:∀(a b:List Int),n5 a b<=a.length/\n5 a b<=b.length
 | [],_=>by simp[n5]
 | _::_,[]=>by simp[n5]
 | x::a,y::b=>by
  have:=TN a b;unfold n5;simp only[C46];split<;>omega
theorem FO(a b:List Int)(k:Nat)(d:k<a.length)(c:k<b.length):n5 (a.drop k) (b.drop k)=if a[k]=b[k] then n5 (a.drop (k+1)) (b.drop (k+1))+1 else 0:=by
 rw[C57 d,C57 c];rfl
theorem B12(a b:List Int)(k:Nat)(h:¬(k<a.length/\k<b.length)):n5 (a.drop k) (b.drop k)=0:=by
 by_cases c:k<a.length
 ·rw[C64 (as:=b) (by omega)];cases a.drop k<;>rfl
 ·rw[C64 (as:=a) (by omega)];rfl
theorem FP:∀(a b:List Int) (p q:Int),K0 p q a b=d6 p q (n5 a b)++K0 (p+n5 a b) (q+n5 a b) (a.drop (n5 a b)) (b.drop (n5 a b))
 | [],b,p,q=>by simp[n5,nH]
 | x::a,[],p,q=>by simp[n5,nH]
 | x::a,y::b,p,q=>by
  unfold n5;by_cases h:x=y
  ·rw[A6 h]
   conv=>lhs;unfold K0
   rw[A6 h,FP a b (p+1) (q+1),NU];simp only[List.drop_succ_cons,C92];rw[show p+1+(n5 a b:Int)=p+((n5 a b+1:Nat):Int) by omega,show q+1+(n5 a b:Int)=q+((n5 a b+1:Nat):Int) by omega]
  ·rw[A7 h];simp[nH]
def GrX(l:List Change)(m d:Int):Nat->List Hunk->Nat->Prop
 | a,[],k=>a=k
 | a,h::r,k=>∃b,a<b/\opens l d a/\(∀c,a<c->c<b->¬opens l d c)/\h=KR l m d a b/\GrX l m d b r k
theorem GrX.le{l:List Change}{m c:Int}:∀{d:List Hunk} {a k:Nat},GrX l m c a d k->a<=k
 | [],a,k,h=>Nat.le_of_eq h
 | _::_,a,k,⟨b,h1,_,_,_,h2⟩=>by have:=GrX.le h2;omega
theorem GrX.snoc{l:List Change}{m d:Int}{k n:Nat}(g:opens l d k)(f:k<n)(e:∀c,k<c->c<n->¬opens l d c):∀{i:List Hunk} {a:Nat},GrX l m d a i k->GrX l m d a (i++[KR l m d k n]) n
 | [],a,h=>by
  obtain rfl:a=k:=h;exact⟨n,f,g,e,rfl,rfl⟩
 | _::_,a,⟨b,h1,h2,h3,h4,h5⟩=>⟨b,h1,h2,h3,h4,GrX.snoc g f e h5⟩
theorem GrX.last{l:List Change}{m d:Int}{k:Nat}(f:¬opens l d k):∀{e:List Hunk} {a:Nat},GrX l m d a e k->e≠[]->GrX l m d a (e.set (e.length-1) (wG l m d k (e.getD (e.length-1) A25))) (k+1)
 | [],_,_,h0=>absurd rfl h0
 | [h],a,⟨b,h1,h2,h3,h4,h5⟩,_=>by
  obtain rfl:b=k:=h5;subst h4;refine⟨b+1,by omega,h2,fun c g j=>?_,rfl,rfl⟩;by_cases i:c=b
  ·rw[i];exact f
  ·exact h3 c g (by omega)
 | h::h'::r,a,⟨b,h1,h2,h3,h4,h5⟩,_=>by
  have n:=GrX.last f h5 (by simp);refine⟨b,h1,h2,h3,h4,?_⟩;simpa using n
theorem GrX.len{l:List Change}{m c:Int}:∀{d:List Hunk} {a k:Nat},GrX l m c a d k->d.length<=k-a
 | [],_,_,_=>C41 _
 | _::_,a,k,⟨b,h1,_,_,_,h2⟩=>by have:=GrX.len h2;have:=h2.le;simp only[C46];omega
def gJ:List Str->Int->List (Str×Cell)
 | [],_=>[]
 | s::r,i=>(s,.v (.int .i64 i))::gJ r (i+1)
theorem KT(s:Str):∀(l:List Str) (i:Int),gJ (l++[s]) i=gJ l i++[(s,.v (.int .i64 (i+l.length)))]
 | [],i=>by simp[gJ]
 | x::r,i=>by
  simp only[C92,gJ,KT s r,C46];rw[show i+1+(r.length:Int)=i+((r.length+1:Nat):Int) by omega]
theorem KU(s:Str):∀(l:List Str) (i:Int),s∈l->O5 (gJ l i) s=some (.v (.int .i64 (M5 l s i)))
 | [],_,h=>by simp at h
 | x::r,i,h=>by
  simp only[gJ,O5,M5];by_cases a:x=s
  ·rw[A6 a,A6 a]
  ·rw[A7 a,A7 a];exact KU s r (i+1) ((C50.1 h).resolve_left (fun q=>a q.symm))
theorem FQ(s:Str):∀(l:List Str) (i:Int),s∉l->O5 (gJ l i) s=none
 | [],_,_=>rfl
 | x::r,i,h=>by
  simp only[gJ,O5];rw[A7 (fun q=>h (by simp[q]))];exact FQ s r (i+1) (fun q=>h (by simp[q]))
theorem pW(s:Str)(r:List Str):∀(l:List Str) (i:Int),s∈l->M5 (l++r) s i=M5 l s i
 | [],_,h=>by simp at h
 | x::l,i,h=>by
  simp only[C92,M5];by_cases a:x=s
  ·rw[A6 a,A6 a]
  ·rw[A7 a,A7 a];exact pW s r l (i+1) ((C50.1 h).resolve_left (fun q=>a q.symm))
theorem AE(s:Str):∀(l:List Str) (i:Int),s∉l->M5 (l++[s]) s i=i+l.length
 | [],i,_=>by simp[M5]
 | x::l,i,h=>by
  simp only[C92,M5,C46];rw[A7 (fun q=>h (by simp[q])),AE s l (i+1) (fun q=>h (by simp[q]))];omega
theorem wN:∀(l a:List Str),∃r,l.foldl K2 a=a++r
 | [],a=>⟨[],by simp⟩
 | s::l,a=>by
  obtain⟨r,b⟩:=wN l (K2 a s);rw[D00,b];unfold K2;split
  ·exact⟨r,rfl⟩
  ·exact⟨s::r,by simp⟩
def Q8(files:List (List Str))(k j:Nat):List Str:=((files.take k).flatten++(files.getD k []).take j).foldl K2 []
theorem TO(files:List (List Str))(k:Nat):Q8 files (k+1) 0=Q8 files k (files.getD k []).length:=by
 unfold Q8;rw[C79,C77,C48];by_cases h:k<files.length
 ·rw[t8 files k h]
  congr 2
  simp[h]
 ·rw[C83 (by omega),C83 (by omega)];have:files.getD k []=[]:=by simp[show files.length<=k by omega]
  rw[this,C77]
theorem OG(files:List (List Str))(k j:Nat)(s:Str)(h:(files.getD k [])[j]?=some s):Q8 files k (j+1)=K2 (Q8 files k j) s:=by
 unfold Q8;have b:j<(files.getD k []).length:=(C44.1 h).1;have a:=(C44.1 h).2;rw[D08 b,a,<-C65,D09];rfl
theorem TP(files:List (List Str)):Q8 files files.length 0=E0 files:=by
 unfold Q8 E0;rw[C48];simp
theorem AF(files:List (List Str))(k j:Nat):∃r,E0 files=Q8 files k j++r:=by
 have h:∃m,files.flatten=((files.take k).flatten++(files.getD k []).take j)++m:=by
  refine⟨(files.getD k []).drop j++(files.drop (k+1)).flatten,?_⟩;by_cases b:k<files.length
  ·have e:files=files.take k++files.getD k []::files.drop (k+1):=by
    have:files.getD k []=files[k]:=by simp[b]
    rw[this,List.getElem_cons_drop,D16]
   conv=>lhs;rw[e]
   rw[D11,D03,C65]
   congr 1
   rw[<-C65,D16]
  ·have:files.getD k []=[]:=by simp[show files.length<=k by omega]
   rw[this,C83 (by omega:files.length<=k),C64 (by omega:files.length<=k+1)];simp
 obtain⟨m,c⟩:=h;unfold E0 Q8;rw[c,D09];obtain⟨r,g⟩:=wN m (((files.take k).flatten++(files.getD k []).take j).foldl K2 []);exact⟨r,g⟩
theorem FR(files:List (List Str))(k j:Nat):(Q8 files k j).length<=files.flatten.length:=by
 obtain⟨r,a⟩:=AF files k j;have:=pK files;rw[a,C40]at this;omega
def S3(files:List (List Str))(k:Nat):List TC:=(List.range files.length).map fun r=>if r<k then .p (.list Int 1 C7 (L0 (E0 files) (files.getD r []))) else .p (.v (.slice none 0 0))
theorem B13{files:List (List Str)}{k:Nat}(h:k<files.length):(S3 files k)[k]?=some (.p (.v (.slice none 0 0))):=by
 simp[S3,h]
theorem OH(files:List (List Str))(k m:Nat)(_h:k<files.length):((S3 files k).set k (.buf m Int 1 C7 (L0 (E0 files) (files.getD k [])))).map (TC.forget m)=S3 files (k+1):=by
 have c:(S3 files k).map (TC.forget m)=S3 files k:=by
  unfold S3;rw[D01];apply C81;intro r _;simp only[Function.comp];split<;>rfl
 rw[List.map_set,c];have d:(TC.buf m Int 1 C7 (L0 (E0 files) (files.getD k []))).forget m=.p (.list Int 1 C7 (L0 (E0 files) (files.getD k []))):=by simp[TC.forget]
 rw[d];unfold S3;refine rC _ _ _ _ _ (fun _=>by simp) (fun q n j=>?_);simp only[show (q<k+1)=(q<k) from propext ⟨fun h=>by omega,fun h=>by omega⟩]
theorem YQ(files:List (List Str)):List.replicate files.length (TC.p (.v (.slice none 0 0)))=S3 files 0:=by
 unfold S3;simp only[Nat.not_lt_zero,if_false,List.map_const',C94]
theorem YR(files:List (List Str)):S3 files files.length=(files.map (L0 (E0 files))).map fun x=>TC.p (intsC x 0):=by
 unfold S3;apply List.ext_getElem
 ·simp
 ·intro i b d;have c:i<files.length:=by simpa using b
  simp[c,intsC]
theorem A30(m n:Int):∀(l:List Change) (a:Nat) (i j:Int),(∀k,k<l.length->R1 (L5 l k).Old/\R1 (L5 l k).OldLen/\R1 (L5 l k).New/\R1 (L5 l k).NewLen/\(L5 l k).OldLen+(L5 l k).NewLen≠0/\(L5 l k).Old-gI i l k=(L5 l k).New-oH j l k/\gI i l k<=(L5 l k).Old/\(0<a+k->gI i l k<(L5 l k).Old)) ->
  (m-gI i l l.length=n-oH j l l.length/\gI i l l.length<=m)->U7 a i j l m n=true
 | [],a,i,j,_,h=>by
  have b:m-i=n-j/\i<=m:=h;simp only[U7,decide_eq_true_eq];omega
 | c::r,a,i,j,h,he=>by
  simp only[U7,C39,decide_eq_true_eq];refine⟨?_,A30 m n r (a+1) _ _ (fun k E=>?_) ?_⟩
  ·obtain⟨b,f,g,o,p,s,u,t⟩:=h 0 (by simp);have b:R1 c.Old:=b;have f:R1 c.OldLen:=f;have g:R1 c.New:=g;have o:R1 c.NewLen:=o;have p:c.OldLen+c.NewLen≠0:=p;have s:c.Old-i=c.New-j:=s;have u:i<=c.Old:=u;have t:0<a+0->i<c.Old:=t;unfold badC;rintro (((((((q | q) | q) | q) | q) | q) | q) | ⟨q,G⟩)
   ·exact q b
   ·exact q f
   ·exact q g
   ·exact q o
   ·exact p q
   ·exact q s
   ·omega
   ·have:=t (by omega);omega
  ·have:=h (k+1) (by simpa using E);rw[wK,fC,fD]at this;obtain⟨v,x,y,z,A,B,C,D⟩:=this;exact⟨v,x,y,z,A,B,C,fun F=>D (by omega)⟩
  ·rw[C46,fC,fD]at he;exact he
theorem A31(x y:List Str):∀(l:List Change) (i j:Int),(∀k,k<l.length->sub x (gI i l k) (L5 l k).Old=sub y (oH j l k) (L5 l k).New)->sub x (gI i l l.length) x.length=sub y (oH j l l.length) y.length->yN x y i j l
 | [],_,_,_,h=>h
 | c::r,i,j,h,he=>by
  refine⟨h 0 (by simp),A31 x y r _ _ (fun k a=>?_) ?_⟩
  ·have:=h (k+1) (by simpa using a);rw[wK,fC,fD]at this;exact this
  ·rw[C46,fC,fD]at he;exact he
theorem A32{x:List Str}{p q:Int}{t:Nat}(b:0<=p)(h:p+t<q):(sub x p q)[t]?=x[(p+t).toNat]?:=by
 unfold sub;rw[List.getElem?_take,A6 (by omega),C66]
 congr 1;omega
theorem OI{x y:List Str}{p q b d:Int}(h:sub x p q=sub y b d)(f:0<=p)(c:0<=b)(j:q<=x.length)(i:q-p=d-b){t:Nat}(g:p+t<q):∃v,x[(p+t).toNat]?=some v/\y[(b+t).toNat]?=some v:=by
 have e:x[(p+t).toNat]?=some x[(p+t).toNat]:=C36 (by omega);refine⟨_,e,?_⟩;rw[<-A32 (q:=d) c (by omega),<-h,A32 f g];exact e
theorem AH{i j:Int}{n:Nat}{p:Span}(h:p∈d6 i j n):∃t:Nat,t<n/\p=⟨i+t,j+t⟩:=by
 unfold d6 at h;obtain⟨t,a,b⟩:=C71.1 h;exact⟨t,C62.1 a,b.symm⟩
theorem FS{x y:List Str}:∀(l:List Change) (e:Nat) (i j:Int),U7 e i j l x.length y.length=true->yN x y i j l->0<=i->0<=j->∀p∈lK i j l x.length,EqAt x y p
 | [],e,i,j,hs,d,hi,hj,p,b=>by
  simp only[U7,decide_eq_true_eq]at hs;unfold lK at b;obtain⟨t,s,rfl⟩:=AH b;have d:sub x i x.length=sub y j y.length:=d;exact⟨by dsimp only;omega,by dsimp only;omega,OI d hi hj (by omega) (by omega) (by omega)⟩
 | c::r,e,i,j,hs,d,hi,hj,p,b=>by
  have m:=pS _ _ _ _ _ _ hs;have g:=fM x.length y.length (c::r) e i j hs 0 (by simp);obtain⟨g1,f,h,k,u,n,q,_⟩:=g;have g1:R1 c.Old:=g1;have f:R1 c.OldLen:=f;have h:R1 c.New:=h;have k:R1 c.NewLen:=k;have n:c.Old-i=c.New-j:=n;have q:i<=c.Old:=q;simp only[U7,C39,decide_eq_true_eq]at hs;unfold lK at b;unfold R1 at g1 f h k;have v:=m.2.2.2.2.2.2.end_le;rcases C49.1 b with b | b
  ·obtain⟨t,s,rfl⟩:=AH b;exact⟨by dsimp only;omega,by dsimp only;omega,OI d.1 hi hj (by omega) (by omega) (by omega)⟩
  ·rw[show max i c.Old+c.OldLen=c.Old+c.OldLen by omega,show j+((c.Old-i).toNat:Int)+c.NewLen=c.New+c.NewLen by omega]at b;exact FS r (e+1) _ _ hs.2 d.2 (by omega) (by omega) p b
theorem ScFit.pairs{x y:List Str}{l:List Change}(h:ScFit x y l):∀p∈B10 l x.length,EqAt x y p:=FS l 0 0 0 h.sc h.eq (Int.le_refl _) (Int.le_refl _)
def yO(c:Change):Change:=⟨c.Old+1,c.OldLen,c.New+1,c.NewLen⟩
def nQ(l:List Change)(k:Nat):List Change:=l.set k (yO (L5 l k))
def atI(t:List Int)(i:Int):Int:=t.getD i.toNat 0
def A33(l:List Change)(k:Nat)(t:List Int)(f n:Int):Prop:=(f+n<t.length/\atI t f=atI t (f+n))/\(k+1=l.length\/(L5 l k).Old+(L5 l k).OldLen+1<(L5 l (k+1)).Old)
instance (l:List Change) (k:Nat) (t:List Int) (f n:Int):Decidable (A33 l k t f n):=by unfold A33;exact inferInstance
def BN(l:List Change)(a b:List Int)(k:Nat):Bool :=
 if (L5 l k).NewLen=0 then decide (A33 l k a (L5 l k).Old (L5 l k).OldLen) else if (L5 l k).OldLen=0 then decide (A33 l k b (L5 l k).New (L5 l k).NewLen) else false
theorem cX(l:List Change)(k:Nat):(nQ l k).length=l.length:=by simp[nQ]
theorem rF(l:List Change){k:Nat}(a:k<l.length)(q:Nat):L5 (nQ l k) q=if q=k then yO (L5 l k) else L5 l q:=by
 unfold nQ;by_cases h:q=k
 ·subst h;have:∀z,L5 (l.set q z) q=z:=fun z=>by unfold L5;simp[a]
  rw[A6 rfl,this]
 ·rw[A7 h];unfold L5;simp only[C38];rw[List.getElem?_set_ne (Ne.symm h)]
theorem wO(l:List Change){k:Nat}(a:k<l.length)(q:Nat):gI 0 (nQ l k) q=gI 0 l q+(if q=k+1 then 1 else 0):=by
 cases q with
 | zero=>simp[gI]
 | succ q =>
  rw[pT,pT,rF l a];by_cases h:q=k
  ·subst h;rw[A6 rfl,A6 rfl];simp only[oG,yO];omega
  ·rw[A7 h,A7 (by omega)];omega
theorem wP(l:List Change){k:Nat}(a:k<l.length)(q:Nat):oH 0 (nQ l k) q=oH 0 l q+(if q=k+1 then 1 else 0):=by
 cases q with
 | zero=>simp[oH]
 | succ q =>
  rw[pU,pU,rF l a];by_cases h:q=k
  ·subst h;rw[A6 rfl,A6 rfl];simp only[OC,yO];omega
  ·rw[A7 h,A7 (by omega)];omega
structure IdsOf (x:List Str) (a:List Int):Prop where
 len:a.length=x.length
 inj:∀(i j:Nat) (u v:Str) (z:Int),x[i]?=some u->x[j]?=some v->a[i]?=some z->a[j]?=some z->u=v
theorem ScFit.down{x y:List Str}{l:List Change}{a b:List Int}(h:ScFit x y l)(ha:IdsOf x a)(hb:IdsOf y b){k:Nat}(m:k<l.length)(g:BN l a b k=true):ScFit x y (nQ l k):=by
 have Y:=h.lx;have Z:=h.ly;have R:=fM _ _ _ 0 0 0 h.sc;have u:=OD _ _ _ 0 0 0 h.sc;have hq:=FI _ _ _ _ _ h.eq;have r:=OE _ _ _ _ _ h.eq;have L:=h.ok;obtain⟨c,p⟩:∃c,c=L5 l k:=⟨_,rfl⟩
 obtain⟨g1,U,g3,V,g5,g6,g7,g8⟩:=R k m;have X:=L.get k m;rw[<-p]at g1 U g3 V g5 g6 g7 g8 X;unfold R1 at g1 U g3 V;have i:gI 0 l (k+1)=c.Old+c.OldLen:=by rw[pT,<-p];rfl
 have j:oH 0 l (k+1)=c.New+c.NewLen:=by rw[pU,<-p];rfl
 obtain⟨E,E',I,J,W,ac,ad,K⟩:∃E E':Int,sub x (c.Old+c.OldLen) E=sub y (c.New+c.NewLen) E'/\E-(c.Old+c.OldLen)=E'-(c.New+c.NewLen)/\E<=x.length/\E'<=y.length/\(c.Old+c.OldLen<E)/\(k+1<l.length->E=(L5 l (k+1)).Old/\E'=(L5 l (k+1)).New/\c.Old+c.OldLen+1<E):=by
  by_cases B:k+1=l.length
  ·rw[<-B,i,j]at u r;refine⟨x.length,y.length,r,by omega,by omega,by omega,?_,fun q=>absurd B (by omega)⟩;unfold BN at g;rw[<-p]at g;split at g
   ·have:=(A1 g).1.1;rw[ha.len]at this;omega
   ·split at g
    ·have:=(A1 g).1.1;rw[hb.len]at this;omega
    ·cases g
  ·have B:k+1<l.length:=by omega
   obtain⟨P,G,Q,H,f5,f6,f7,T⟩:=R (k+1) B;have f9:=hq (k+1) B;have ab:=L.get (k+1) B;rw[i,j]at f6 f9;rw[i]at f7;unfold R1 at G H;have z:c.Old+c.OldLen+1<(L5 l (k+1)).Old:=by
    unfold BN at g;rw[<-p]at g;split at g
    ·have:=(A1 g).2;rw[<-p]at this;omega
    ·split at g
     ·have:=(A1 g).2;rw[<-p]at this;omega
     ·cases g
   exact⟨_,_,f9,by omega,by omega,by omega,by omega,fun _=>⟨rfl,rfl,z⟩⟩
 have hv:∃v,x[c.Old.toNat]?=some v/\y[c.New.toNat]?=some v:=by
  obtain⟨v,C,D⟩:=OI (t:=0) I (by omega) (by omega) (by omega) J (by omega);simp only[Int.natCast_zero,Int.add_zero]at C D;unfold BN at g;rw[<-p]at g;split at g
  ·rename_i hn;have:=(A1 g).1.2;rw[hn,Int.add_zero]at D;refine⟨v,?_,D⟩;have l1:c.Old.toNat<a.length:=by rw[ha.len];omega
   have l2:(c.Old+c.OldLen).toNat<a.length:=by rw[ha.len];omega
   have M:x[c.Old.toNat]?=some x[c.Old.toNat]:=C36 (by omega);have S:a[c.Old.toNat]?=some (atI a c.Old):=by unfold atI;rw[C38,C36 l1];rfl
   have F:a[(c.Old+c.OldLen).toNat]?=some (atI a (c.Old+c.OldLen)):=by unfold atI;rw[C38,C36 l2];rfl
   rw[<-this]at F;have:=ha.inj _ _ _ _ _ M C S F;rw[M,this]
  ·split at g
   ·rename_i _ hn;have:=(A1 g).1.2;rw[hn,Int.add_zero]at C;refine⟨v,C,?_⟩;have l1:c.New.toNat<b.length:=by rw[hb.len];omega
    have l2:(c.New+c.NewLen).toNat<b.length:=by rw[hb.len];omega
    have M:y[c.New.toNat]?=some y[c.New.toNat]:=C36 (by omega);have S:b[c.New.toNat]?=some (atI b c.New):=by unfold atI;rw[C38,C36 l1];rfl
    have F:b[(c.New+c.NewLen).toNat]?=some (atI b (c.New+c.NewLen)):=by unfold atI;rw[C38,C36 l2];rfl
    rw[<-this]at F;have:=hb.inj _ _ _ _ _ M D S F;rw[M,this]
   ·cases g
 obtain⟨v,C,D⟩:=hv;have s:0<=gI 0 l k/\0<=oH 0 l k:=by
  cases k with
  | zero=>simp[gI,oH]
  | succ k =>
   obtain⟨P,G,Q,H,_⟩:=R k (by omega);unfold R1 at P G Q H;rw[pT,pU];unfold oG OC;omega
 have A:sub x (c.Old+c.OldLen+1) E=sub y (c.New+c.NewLen+1) E':=by
  have:=pV (e:=E-(c.Old+c.OldLen)-1) I (by omega) (by omega) (by omega) (by omega) J;rw[show E-(E-(c.Old+c.OldLen)-1)=c.Old+c.OldLen+1 by omega,show E'-(E-(c.Old+c.OldLen)-1)=c.New+c.NewLen+1 by omega]at this;exact this
 refine⟨Y,Z,A30 _ _ _ 0 0 0 (fun q n=>?_) ?_,A31 _ _ _ 0 0 (fun q n=>?_) ?_⟩
 ·rw[cX]at n;rw[rF l m,wO l m,wP l m];by_cases e:q=k
  ·rw[A6 e,A7 (show ¬q=k+1 by omega),e,<-p];unfold R1;simp only[yO];refine⟨by omega,U,by omega,V,g5,by omega,by omega,fun _=>by omega⟩
  ·rw[A7 e];obtain⟨P,G,Q,H,f5,f6,f7,T⟩:=R q n;refine⟨P,G,Q,H,f5,?_,?_,?_⟩
   ·by_cases f:q=k+1
    ·rw[A6 f];omega
    ·rw[A7 f];omega
   ·by_cases f:q=k+1
    ·rw[A6 f];have:=T (by omega);omega
    ·rw[A7 f];omega
   ·intro h0;by_cases f:q=k+1
    ·rw[A6 f,f,i];have:=(K (by omega))
     omega
    ·rw[A7 f];have:=T h0;omega
 ·rw[cX,wO l m,wP l m];by_cases f:l.length=k+1
  ·rw[A6 f,f,i,j];rw[f,i,j]at u;have h1:E<=x.length:=W;omega
  ·rw[A7 f];omega
 ·rw[cX]at n;rw[rF l m,wO l m,wP l m];by_cases e:q=k
  ·rw[A6 e,A7 (show ¬q=k+1 by omega),e,<-p];simp only[yO,Int.add_zero];have:=hq k m;rw[<-p]at this;rw[TL s.1 g7 C,TL s.2 (by omega) D,this]
  ·rw[A7 e];by_cases f:q=k+1
   ·rw[A6 f];subst f;obtain⟨q1,q2,_⟩:=K n;rw[i,j,<-q1,<-q2];exact A
   ·rw[A7 f,Int.add_zero,Int.add_zero];exact hq q n
 ·rw[cX,wO l m,wP l m];by_cases f:l.length=k+1
  ·rw[A6 f];rw[f,i,j]at r u ⊢;have:=pV (e:=x.length-(c.Old+c.OldLen)-1) r (by omega) (by omega) (by omega) (by omega) (by omega);rw[show (x.length:Int)-(x.length-(c.Old+c.OldLen)-1)=c.Old+c.OldLen+1 by omega,show (y.length:Int)-(x.length-(c.Old+c.OldLen)-1)=c.New+c.NewLen+1 by omega]at this;exact this
  ·rw[A7 f,Int.add_zero,Int.add_zero];exact r
section
variable {x y:List Str}{a b:List Int} (ha:IdsOf x a) (hb:IdsOf y b)
include ha hb
end
structure Made12 (on nn a b:Str) (l:List Change) (ctx:Int):Prop where
 chk:wI ⟨on,nn,bB l (F8 a) (F8 b) ctx⟩=0
 wr:(A26 ⟨on,nn,bB l (F8 a) (F8 b) ctx⟩).length<=16777216
 fit:PFit ⟨on,nn,bB l (F8 a) (F8 b) ctx⟩
 rg:∀h∈bB l (F8 a) (F8 b) ctx,(-4611686018427387904<=h.Old/\h.Old<=4611686018427387904)/\(-4611686018427387904<=h.New/\h.New<=4611686018427387904)
 sz:szP (bB l (F8 a) (F8 b) ctx)<=268435456
def ChainH(x y:List Str)(i j:Int):List PatchHunk->Prop
 | []=>sub x i x.length=sub y j y.length/\0<=i/\0<=j/\i<=x.length/\j<=y.length
 | h::r=>(sub x i h.Old=sub y j h.New/\H5 h.Lines 43=sub x h.Old (h.Old+lM h)/\H5 h.Lines 45=sub y h.New (h.New+lN h))/\(0<=i/\0<=j/\i<=h.Old/\j<=h.New/\h.Old+lM h<=x.length/\h.New+lN h<=y.length)/\ChainH x y (h.Old+lM h) (h.New+lN h) r
theorem ScFit.chain{x y:List Str}{l:List Change}(h:ScFit x y l){c:Int}(o:0<=c):∀(n:List Hunk) (a:Nat),GrOk l x.length c a n l.length ->
  ∀(i j e:Int),i=gI 0 l a+e->j=oH 0 l a+e->0<=e->e<=c->(a=0->e=0)->i<=x.length->j<=y.length->ChainH x y i j (n.map (u7 l x y))
 | [],a,f,i,j,e,hi,hj,he,_,_,hix,hjy=>by
  have f:a=l.length:=f;have z:=OE _ _ _ _ _ h.eq;have p:=OD _ _ _ 0 0 0 h.sc;obtain⟨r,s,J,K⟩:=h.nn a (by omega);rw[<-f]at z p;refine⟨?_,by omega,by omega,hix,hjy⟩;have:=pV (e:=x.length-i) z r s (by omega) (by omega) (by omega);rw[show (x.length:Int)-(x.length-i)=i by omega,show (y.length:Int)-(x.length-i)=j by omega]at this;exact this
 | hk::n,a,⟨b,hab,ho,hE,f⟩,i,j,e,hi,hj,he,hec,he0,hix,hjy=>by
  have hb:=f.le;have k:b<l.length->opens l c b:=by
   intro D;cases n with
   | nil=>exact absurd f (by show ¬b=l.length;omega)
   | cons C E=>obtain⟨_,_,q,_⟩:=f;exact q
  obtain⟨w1,L,U,V,W⟩:=h.after o hb k (by omega);obtain⟨q1,S,T⟩:=h.before o (show a<l.length by omega) ho;have H:=h.hunk o hab hb ho k;rw[<-hE]at H;obtain⟨P,u⟩:∃P,P=u7 l x y hk:=⟨_,rfl⟩
  rw[<-u]at H;have F:=ScFit.chain h o n b f (P.Old+lM P) (P.New+lN P) (eB l x.length c b) H.oe H.ne w1 L (by omega) H.ox H.ny;obtain⟨k1,⟨k2,G⟩,k3,⟨k4,I⟩,k5,k6,k7,k8⟩:=fM _ _ _ _ _ _ h.sc a (show a<l.length by omega);have M:=H.old;have C:=H.new;have Q:=H.o0;have R:=H.n0;have v:e+eA l c a<=(L5 l a).Old-gI 0 l a:=by
   by_cases t:a=0
   ·have:=he0 t;omega
   ·have:=rE ho t;omega
  obtain⟨r,s,J,K⟩:=h.nn a (by omega);have g:i<=P.Old/\j<=P.New/\P.Old-i=P.New-j/\0<=i/\0<=j:=by omega
  have m:=FI _ _ _ _ _ h.eq a (show a<l.length by omega);have A:=pV (e:=(L5 l a).Old-i) m r s (by omega) (by omega) (by omega);rw[show (L5 l a).Old-((L5 l a).Old-i)=i by omega,show (L5 l a).New-((L5 l a).Old-i)=j by omega]at A;have B:=FJ (e:=P.Old-i) A (by omega) (by omega) (by omega) (by omega) (by omega);rw[show i+(P.Old-i)=P.Old by omega,show j+(P.Old-i)=P.New by omega]at B;rw[C73,<-u];exact⟨⟨B,H.ol,H.nl⟩,⟨by omega,by omega,g.1,g.2.1,H.ox,H.ny⟩,F⟩
def pX(c:UInt8):Bool:=decide (48<=c.toNat/\c.toNat<=57)
def N5(s:Str):Str:=s.takeWhile pX
def cA(a:Str):Nat:=a.foldl (fun n c=>10*n+(c.toNat-48)) 0
def fE(s:Str):Option (Nat×Nat) :=
 if N5 s=[]\/(s.head?=some 48/\1<(N5 s).length)\/2147483647<cA (N5 s) then none else some (cA (N5 s),(N5 s).length)
theorem B14(a:Str)(c:UInt8):cA (a++[c])=10*cA a+(c.toNat-48):=by
 unfold cA;rw[D09];rfl
def rngFin(s:Str)(a c:Nat)(e:Nat):Option (Int×Int×Nat) :=
 if NZ (if 0<c then (a:Int)-1 else a) c=s.take e then some ((if 0<c then (a:Int)-1 else a),(c:Int),e) else none
def rngAt(s:Str):Option (Int×Int×Nat) :=
 match fE s with
 | none=>none
 | some (a,k)=>if s[k]?=some 44 then (match fE (s.drop (k+1)) with | none=>none | some (c,k2)=>rngFin s a c (k+1+k2)) else rngFin s a 1 k
def noNl:Str:=[92,32,78,111,32,110,101,119,108,105,110,101,32,97,116,32,101,110,100,32,111,102,32,102,105,108,101]
def spanAt(l:Str)(i:Nat)(b:Str):Option (Int×Int×Nat):=if (l.drop i).take b.length=b then (match rngAt (l.drop (i+b.length)) with | none=>none | some (a,n,e)=>some (a,n,i+b.length+e)) else none
def headAt(l:Str):Option (Int×Int×Int×Int) :=
 match spanAt l 0 [64,64,32,45] with
 | none=>none
 | some (a,m,i)=>match spanAt l i [32,43] with
  | none=>none
  | some (b,n,j)=>if l.drop j=[32,64,64] then some (a,m,b,n) else none
def trimS(t:Str):Str:=if ended t=true then t.dropLast else t
def addLine(a:List PatchHunk)(x:PatchLine):Option (List PatchHunk):=match a.getLast? with
 | none=>none
 | some h=>some (a.dropLast++[⟨h.Old,h.New,h.Lines++[x]⟩])
def cutLine(a:List PatchHunk)(l:Str):Option (List PatchHunk):=match a.getLast? with
 | none=>none
 | some h=>match h.Lines.getLast? with
  | none=>none
  | some x=>if l=noNl then some (a.dropLast++[⟨h.Old,h.New,h.Lines.dropLast++[⟨x.Kind,trimS x.Text⟩]⟩]) else none
def stepP(d:List PatchHunk)(l:Str):Option (List PatchHunk):=match l with
 | []=>none
 | c::r=>if c=64 then (match headAt l with | none=>none | some (a,_,b,_)=>some (d++[⟨a,b,[]⟩]))
  else if c=32\/c=45\/c=43 then addLine d ⟨c,r++[10]⟩
  else if c=92 then cutLine d l else none
theorem check12_good{p:Patch}(h:wI p=0):yM p.Hunks=true:=by
 unfold wI at h;split at h
 ·cases h
 ·split at h
  ·cases h
  ·rename_i a;simpa using a
structure CHunk where
 At:List Int
 Rows:List Row
 deriving DecidableEq
structure Comb where
 Path:Str
 Dense:Bool
 Parents:Int
 Hunks:List CHunk
 deriving DecidableEq
def colNum(n k:Nat):Int:=if k=n then -1 else k
def cntC(a:List Row)(n k:Nat):Int:=(colOf a (colNum n k)).length
structure CRead (n:Nat) (h:CHunk):Prop where
 len:h.At.length=n+1
 ne:h.Rows≠[]
 at0:∀k,k<n+1->0<=h.At.getD k 0/\h.At.getD k 0+cntC h.Rows n k<=4096
 rows:∀r∈h.Rows,markOk n r=true/\bL r.Text=true
theorem getI{l:List Int}{i:Nat}(h:i<l.length):l[i]?=some (l.getD i 0):=by simp[h]
theorem or_zero{x:Nat}(h:x<4294967296):orBit (x:Int) 0=(x:Int):=by
 have:=(B79 x 0 h (by omega)).1;simpa using this
abbrev M8:Bool->Nat->Cell:=fun b _=>.v (.bool b)
abbrev OJ(l:List Bool):PV:=.one (.list Bool 1 M8 l)
def y4(l:List Int)(i j:Nat):List Int:=(l.set i (I0 l j)).set j (I0 l i)
def upH(a:Int->Int->Bool):Nat->List Int->Nat->List Int
 | 0,l,_=>l
 | f+1,l,j=>if (j-1) / 2=j\/a (I0 l j) (I0 l ((j-1) / 2))=false then l else upH a f (y4 l ((j-1) / 2) j) ((j-1) / 2)
def BB(bf:Int->Int->Bool)(n:Nat)(l:List Int)(i:Nat):Nat:=if 2*i+2<n/\bf (I0 l (2*i+2)) (I0 l (2*i+1))=true then 2*i+2 else 2*i+1
def iH(bf:Int->Int->Bool)(n:Nat):Nat->List Int->Nat->List Int
 | 0,l,_=>l
 | f+1,l,i=>if n<=2*i+1 then l else if bf (I0 l (BB bf n l i)) (I0 l i)=false then l else iH bf n f (y4 l i (BB bf n l i)) (BB bf n l i)
def wQ(a:Int->Int->Bool)(l:List Int)(x:Int):List Int:=upH a (l.length+1) (l++[x]) l.length
def tY(a:Int->Int->Bool)(l:List Int):List Int:=iH a (l.length-1) l.length (y4 l 0 (l.length-1)) 0
theorem Q6(l:List Int)(i j:Nat):(y4 l i j).length=l.length:=by simp[y4]
theorem aW{l:List Int}{i j:Nat}(a:i<l.length)(b:j<l.length)(k:Nat):I0 (y4 l i j) k=if k=j then I0 l i else if k=i then I0 l j else I0 l k:=by
 unfold y4;rw[jO (by rw[C78];exact b),jO a];simp only[@eq_comm Nat j k,@eq_comm Nat i k]
theorem S6{l:List Int}{k:Nat}(h:k<l.length):I0 l k=l[k]:=by unfold I0;rw[C36 h];rfl
theorem KV{l:List Int}{i j:Nat}(a:i<l.length)(b:j<l.length)(x:Int):x∈y4 l i j↔x∈l:=by
 have sub:∀{l:List Int} {i j:Nat},i<l.length->j<l.length->∀x,x∈y4 l i j->x∈l:=by
  intro l i j a b x g;obtain⟨k,d,e⟩:=List.getElem_of_mem g;rw[<-S6 d,aW a b]at e;rw[Q6]at d;split at e
  ·rw[<-e,S6 a];exact C43 a
  ·split at e
   ·rw[<-e,S6 b];exact C43 b
   ·rw[<-e,S6 d];exact C43 d
 refine⟨sub a b x,fun g=>?_⟩;have e:y4 (y4 l i j) i j=l:=by
  refine List.ext_getElem (by rw[Q6,Q6]) fun k h m=>?_;rw[<-S6 h,<-S6 m,aW (by rw[Q6];exact a) (by rw[Q6];exact b),aW a b,aW a b,aW a b];by_cases f:k=j
  ·subst f;rw[A6 rfl];by_cases c:i=k
   ·rw[A6 c,c]
   ·rw[A7 c,A6 rfl]
  ·rw[A7 f];by_cases c:k=i
   ·rw[A6 c,A6 rfl,c]
   ·rw[A7 c,A7 f,A7 c]
 exact sub (by rw[Q6];exact a) (by rw[Q6];exact b) x (by rw[e];exact g)
theorem B80{l:List Int}:l.Nodup↔∀i j,i<l.length->j<l.length->I0 l i=I0 l j->i=j:=by
 constructor
 ·intro h i j a b e;rw[S6 a,S6 b]at e;exact (List.getElem_inj h).1 e
 ·intro h;rw[List.Nodup,List.pairwise_iff_getElem];intro i j a b c e;have:=h i j a b (by rw[S6 a,S6 b];exact e);omega
theorem TQ{l:List Int}{i j:Nat}(g:i<l.length)(k:j<l.length)(h:l.Nodup):(y4 l i j).Nodup:=by
 rw[B80]at h ⊢;intro a b ha hb e;rw[Q6]at ha hb;rw[aW g k,aW g k]at e;by_cases m:a=j<;>by_cases n:b=j
 ·omega
 ·rw[A6 m,A7 n]at e;by_cases f:b=i
  ·rw[A6 f]at e;have:=h _ _ g k e;omega
  ·rw[A7 f]at e;have:=h _ _ g hb e;omega
 ·rw[A7 m,A6 n]at e;by_cases c:a=i
  ·rw[A6 c]at e;have:=h _ _ k g e;omega
  ·rw[A7 c]at e;have:=h _ _ ha g e;omega
 ·rw[A7 m,A7 n]at e;by_cases c:a=i<;>by_cases f:b=i
  ·omega
  ·rw[A6 c,A7 f]at e;have:=h _ _ k hb e;omega
  ·rw[A7 c,A6 f]at e;have:=h _ _ ha k e;omega
  ·rw[A7 c,A7 f]at e;exact h _ _ ha hb e
structure SameL (l m:List Int):Prop where
 len:m.length=l.length
 mem:∀x,x∈m↔x∈l
 nodup:l.Nodup->m.Nodup
theorem SameL.refl(l:List Int):SameL l l:=⟨rfl,fun _=>Iff.rfl,id⟩
theorem SameL.trans{a b c:List Int}(h:SameL a b)(d:SameL b c):SameL a c:=⟨d.len.trans h.len,fun x=>(d.mem x).trans (h.mem x),fun e=>d.nodup (h.nodup e)⟩
theorem SameL.swap{l:List Int}{i j:Nat}(a:i<l.length)(b:j<l.length):SameL l (y4 l i j):=⟨Q6 l i j,KV a b,TQ a b⟩
structure Weak (bf:Int->Int->Bool):Prop where
 irr:∀a,bf a a=false
 asy:∀{a b},bf a b=true->bf b a=false
 ntr:∀{a b c},bf a b=false->bf b c=false->bf a c=false
def wR(bf:Int->Int->Bool)(n:Nat)(l:List Int):Prop:=∀k,k<n->0<k->bf (I0 l k) (I0 l ((k-1) / 2))=false
theorem B15{a:Int->Int->Bool}(w:Weak a){n:Nat}{l:List Int}(h:wR a n l):∀k,k<n->a (I0 l k) (I0 l 0)=false:=by
 intro k;induction k using Nat.strongRecOn with
 | _ k d =>
  intro c;by_cases b:k=0
  ·subst b;exact w.irr _
  ·exact w.ntr (h k c (by omega)) (d ((k-1) / 2) (by omega) (by omega))
theorem TR{g:Int->Int->Bool}(w:Weak g){n:Nat}:∀(f j:Nat) (l:List Int),j<f->j<n->n<=l.length ->
  (∀k,k<n->0<k->k≠j->g (I0 l k) (I0 l ((k-1) / 2))=false)->(∀k,k<n->0<k->(k-1) / 2=j->0<j->g (I0 l k) (I0 l ((j-1) / 2))=false) ->
  wR g n (upH g f l j)/\SameL l (upH g f l j)
 | 0,j,l,hf,_,_,_,_=>by omega
 | f + 1,j,l,hf,hj,hl,h1,h2=>by
  unfold upH;split
  ·rename_i h;refine⟨fun k o m=>?_,SameL.refl l⟩;by_cases e:k=j
   ·subst e;rcases h with h | h
    ·omega
    ·exact h
   ·exact h1 k o m e
  ·rename_i h;have C:(j-1) / 2≠j:=fun e=>h (.inl e);have q:g (I0 l j) (I0 l ((j-1) / 2))=true:=by
    cases hb:g (I0 l j) (I0 l ((j-1) / 2))
    ·exact absurd (.inr hb) h
    ·rfl
   have B:(j-1) / 2<l.length:=by omega
   have p:j<l.length:=by omega
   have d:=aW B p
   obtain⟨a,b⟩:=TR (n:=n) w f ((j-1) / 2) (y4 l ((j-1) / 2) j) (by omega) (by omega) (by rw[Q6];exact hl) (fun k o m u=>by
    rw[d,d];by_cases c:k=j
    ·rw[A6 c,c,A7 (by omega),A6 rfl];exact w.asy q
    ·rw[A7 c,A7 u];by_cases x:(k-1) / 2=j
     ·rw[A6 x];exact h2 k o m x (by omega)
     ·rw[A7 x];by_cases y:(k-1) / 2=(j-1) / 2
      ·rw[A6 y];have v:=h1 k o m c;rw[y]at v;exact w.ntr v (w.asy q)
      ·rw[A7 y];exact h1 k o m c) (fun k o m e v=>by
    rw[d,d,A7 (show ¬((j-1) / 2-1) / 2=j by omega),A7 (show ¬((j-1) / 2-1) / 2=(j-1) / 2 by omega)];have z:=h1 ((j-1) / 2) (by omega) v (by omega);by_cases c:k=j
    ·rw[A6 c];exact z
    ·rw[A7 c,A7 (by omega)];have A:=h1 k o m c;rw[e]at A
     exact w.ntr A z)
   exact⟨a,(SameL.swap B p).trans b⟩
theorem TS{a:Int->Int->Bool}(w:Weak a){l:List Int}(x:Int)(h:wR a l.length l):wR a (l.length+1) (wQ a l x)/\SameL (l++[x]) (wQ a l x):=by
 unfold wQ;have b:∀k,k<l.length->I0 (l++[x]) k=I0 l k:=fun k c=>by unfold I0;rw[C68 c]
 refine TR w (n:=l.length+1) (l.length+1) l.length (l++[x]) (by omega) (by omega) (by simp) (fun k c d f=>?_) (fun k c d e g=>by omega);rw[b k (by omega),b _ (by omega)];exact h k (by omega) d
theorem A34{bf:Int->Int->Bool}{n:Nat}{l:List Int}{i:Nat}(h:2*i+1<n):BB bf n l i<n/\(BB bf n l i-1) / 2=i/\i<BB bf n l i:=by
 unfold BB;split<;>omega
theorem B81{bf:Int->Int->Bool}(w:Weak bf){n:Nat}{l:List Int}{i k:Nat}(d:k<n)(c:0<k)(e:(k-1) / 2=i):bf (I0 l k) (I0 l (BB bf n l i))=false:=by
 unfold BB;split
 ·rename_i h;by_cases a:k=2*i+2
  ·rw[a];exact w.irr _
  ·rw[show k=2*i+1 by omega];exact w.asy h.2
 ·rename_i h;by_cases a:k=2*i+1
  ·rw[a];exact w.irr _
  ·have b:k=2*i+2:=by omega
   rw[b];cases hb:bf (I0 l (2*i+2)) (I0 l (2*i+1))
   ·rfl
   ·exact absurd ⟨by omega,hb⟩ h
theorem FT{bf:Int->Int->Bool}(w:Weak bf){n:Nat}:∀(f i:Nat) (l:List Int),n<=i+f->n<=l.length ->
  (∀k,k<n->0<k->(k-1) / 2≠i->bf (I0 l k) (I0 l ((k-1) / 2))=false)->(∀k,k<n->0<k->(k-1) / 2=i->0<i->bf (I0 l k) (I0 l ((i-1) / 2))=false) ->
  wR bf n (iH bf n f l i)/\SameL l (iH bf n f l i)/\∀k,n<=k->I0 (iH bf n f l i) k=I0 l k
 | 0,i,l,hf,_,h1,h2=>by
  unfold iH;exact⟨fun k d g=>h1 k d g (by omega),SameL.refl l,fun _ _=>rfl⟩
 | f + 1,i,l,hf,hl,h1,h2=>by
  unfold iH;split
  ·exact⟨fun k d g=>h1 k d g (by omega),SameL.refl l,fun _ _=>rfl⟩
  ·rename_i E;obtain⟨z,o,C⟩:=A34 (bf:=bf) (l:=l) (show 2*i+1<n by omega);have q:=fun k d g e=>B81 (bf:=bf) w (n:=n) (l:=l) (i:=i) (k:=k) d g e;generalize BB bf n l i=j at z o C q;split
   ·rename_i h;refine⟨fun k d g=>?_,SameL.refl l,fun _ _=>rfl⟩;by_cases e:(k-1) / 2=i
    ·rw[e];exact w.ntr (q k d g e) h
    ·exact h1 k d g e
   ·rename_i h;have x:bf (I0 l j) (I0 l i)=true:=by simpa using h
    have A:i<l.length:=by omega
    have B:j<l.length:=by omega
    have m:=aW A B
    obtain⟨a,b,c⟩:=FT (n:=n) w f j (y4 l i j) (by omega) (by rw[Q6];exact hl) (fun k d g y=>by
     rw[m,m];rw[A7 (show ¬(k-1) / 2=j from y)];by_cases u:k=j
     ·rw[A6 u];rw[u,A6 o];exact w.asy x
     ·rw[A7 u];by_cases p:(k-1) / 2=i
      ·rw[A6 p,A7 (by omega)];exact q k d g p
      ·rw[A7 p];by_cases v:k=i
       ·rw[A6 v,v];exact h2 j z (by omega) o (by omega)
       ·rw[A7 v];exact h1 k d g p) (fun k d g e D=>by
     rw[m,m,A7 (by omega),A7 (by omega),o,A7 (by omega),A6 rfl];have:=h1 k d g (by omega)
     rw[e]at this;exact this)
    refine⟨a,(SameL.swap A B).trans b,fun k d=>?_⟩;rw[c k d,m,A7 (by omega),A7 (by omega)]
theorem popH_ok{f:Int->Int->Bool}(w:Weak f){l:List Int}(h:wR f l.length l)(p:0<l.length) :
  wR f (l.length-1) (tY f l)/\SameL l (tY f l)/\I0 (tY f l) (l.length-1)=I0 l 0:=by
 unfold tY;have j:0<l.length:=p;have m:l.length-1<l.length:=by omega
 have d:=aW j m
 obtain⟨a,b,c⟩:=FT w (n:=l.length-1) l.length 0 (y4 l 0 (l.length-1)) (by omega) (by rw[Q6];omega) (fun k o g i=>by
  rw[d,d,A7 (by omega),A7 (by omega),A7 (by omega),A7 i]
  exact h k (by omega) g) (fun k o g e q=>by omega)
 refine⟨a,(SameL.swap j m).trans b,?_⟩;rw[c _ (C45 _),d,A6 rfl]
def j7(g:Graph)(c:Nat):Int:=(g[c]?.map (·.Date)).getD 0
def X7(g:Graph)(a b:Int):Bool:=decide (j7 g a.toNat>j7 g b.toNat\/(j7 g a.toNat=j7 g b.toNat/\a<b))
theorem rG(g:Graph):Weak (X7 g) where
 irr:=fun a=>by unfold X7;rw[decide_eq_false_iff_not];omega
 asy:=fun {a b} h=>by unfold X7 at h ⊢;rw[decide_eq_true_eq]at h;rw[decide_eq_false_iff_not];omega
 ntr:=fun {a b c} h d=>by unfold X7 at h d ⊢;rw[decide_eq_false_iff_not]at h d ⊢;omega
def o6(g:Graph)(inn:List Bool)(L:List Int)(c:Nat):Bool:=J3 inn c&&decide ((c:Int)∉L)&&(List.range g.length).all fun k=>!(decide ((c:Int)∈D8 g k)&&J3 inn k&&decide ((k:Int)∉L))
def cY(g:Graph)(inn:List Bool)(L:List Int):Nat->Int
 | 0 => -1
 | m+1=>if o6 g inn L m=true/\(cY g inn L m<0\/j7 g m>j7 g (cY g inn L m).toNat) then m else cY g inn L m
def iI(g:Graph)(inn:List Bool)(L:List Int):Int:=cY g inn L g.length
def rV(g:Graph)(inn:List Bool):Nat->List Int->List Int
 | 0,L=>L
 | f+1,L=>if iI g inn L<0 then L else rV g inn f (L++[iI g inn L])
def nR(g:Graph)(s:List Int):List Int:=rV g (P2 g s) (g.length+1) []
theorem lO(g:Graph)(d:List Bool)(L:List Int):∀m,(cY g d L m = -1/\∀c,c<m->o6 g d L c=false)\/∃b:Nat,b<m/\cY g d L m=b/\o6 g d L b=true/\∀c,c<m->o6 g d L c=true->c≠b->X7 g b c=true
 | 0=>.inl ⟨rfl,fun _ h=>by omega⟩
 | m + 1=>by
  rw[cY];rcases lO g d L m with ⟨p,j⟩ | ⟨b,p,j,h3,h4⟩
  ·rw[p];cases q:o6 g d L m
   ·rw[A7 (by simp)]
    exact .inl ⟨rfl,fun c k=>by
     by_cases e:c=m
     ·rw[e];exact q
     ·exact j c (by omega)⟩
   ·rw[A6 ⟨rfl,.inl (by omega)⟩];exact .inr ⟨m,by omega,rfl,q,fun c k a f=>by rw[j c (by omega)]at a;cases a⟩
  ·rw[j];split
   ·rename_i h;have o:j7 g m>j7 g b:=by
     rcases h.2 with h | h
     ·omega
     ·simpa using h
    refine .inr ⟨m,by omega,rfl,h.1,fun c k a f=>?_⟩;unfold X7;rw[decide_eq_true_eq,C37,C37];by_cases e:c=b
    ·subst e;exact .inl o
    ·have:=A1 (h4 c (by omega) a e);rw[C37,C37]at this;omega
   ·rename_i h;refine .inr ⟨b,by omega,rfl,h3,fun c k a f=>?_⟩;by_cases e:c=m
    ·subst e;unfold X7;rw[decide_eq_true_eq,C37,C37];have:¬j7 g c>j7 g b:=fun o=>h ⟨a,.inr (by simpa using o)⟩;omega
    ·exact h4 c (by omega) a f
theorem YS{g:Graph}{a:List Bool}{L:List Int}(h:∀c,c<g.length->o6 g a L c=false):iI g a L = -1:=by
 rcases lO g a L g.length with d | ⟨b,d,_,h3,_⟩
 ·exact d.1
 ·rw[h b d]at h3;cases h3
theorem B82{g:Graph}{a:List Bool}{L:List Int}{b:Nat}(hb:b<g.length)(f:o6 g a L b=true)(h:∀c,c<g.length->o6 g a L c=true->X7 g c b=false):iI g a L=b:=by
 rcases lO g a L g.length with d | ⟨b',d,h2,h3,h4⟩
 ·rw[d.2 b hb]at f;cases f
 ·unfold iI;rw[h2];by_cases e:b=b'
  ·rw[e]
  ·have:=h4 b hb f e;rw[h b' d h3]at this;cases this
theorem KW{g:Graph}{inn:List Bool}{L:List Int}(h:0<=iI g inn L):∃b:Nat,b<g.length/\iI g inn L=b/\J3 inn b=true/\(b:Int)∉L:=by
 rcases lO g inn L g.length with a | ⟨b,a,h2,h3,_⟩
 ·have:iI g inn L = -1:=a.1;omega
 ·unfold o6 at h3;rw[C39,C39,decide_eq_true_eq]at h3;exact⟨b,a,h2,h3.1.1,h3.1.2⟩
theorem KX{g:Graph}{inn:List Bool}{f:Nat}{L:List Int}(a:0<f)(h:0<=iI g inn L):rV g inn f L=rV g inn (f-1) (L++[iI g inn L]):=by
 obtain⟨f,rfl⟩:∃k,f=k+1:=⟨f-1,by omega⟩
 rw[rV,A7 (by omega)];rfl
theorem TT{g:Graph}{inn:List Bool}{f:Nat}{L:List Int}(h:iI g inn L<0):rV g inn f L=L:=by
 cases f with
 | zero=>rfl
 | succ f=>rw[rV,A6 h]
theorem TU{g:Graph}{inn:List Bool}:∀(f:Nat) (L:List Int),L.Nodup->(∀x∈L,0<=x/\x<g.length)->(rV g inn f L).Nodup/\∀x∈rV g inn f L,0<=x/\x<g.length
 | 0,L,h,h2=>⟨h,h2⟩
 | f+1,L,h,h2=>by
  rw[rV];split
  ·exact⟨h,h2⟩
  ·rename_i hb;obtain⟨b,k,c,_,i⟩:=KW (g:=g) (inn:=inn) (L:=L) (by omega);rw[c];refine TU f _ (List.nodup_append.2 ⟨h,by simp,fun x a y j e=>by rw[C42.1 j]at e;exact i (e ▸ a)⟩) fun x a=>?_;rcases C49.1 a with a | a
   ·exact h2 x a
   ·rw[C42.1 a];omega
theorem bX(g:Graph)(s:List Int):(nR g s).Nodup/\∀x∈nR g s,0<=x/\x<g.length:=TU _ [] List.nodup_nil fun _ h=>by cases h
def yP(g:Graph)(inn:List Bool)(ex:List Int)(p:Nat):Nat:=(List.range g.length).countP fun c:Nat=>J3 inn c&&decide ((c:Int)∉ex/\(p:Int)∈D8 g c)
theorem KY{g:Graph}{inn:List Bool}{ex:List Int}{x p:Nat}(h:(x:Int)∉ex)(a:x<g.length)(b:J3 inn x=true):yP g inn ex p=yP g inn (ex++[(x:Int)]) p+(if (p:Int)∈D8 g x then 1 else 0):=by
 unfold yP;rw[tT (q:=fun c=>J3 inn c&&decide ((c:Int)∉ex/\(p:Int)∈D8 g c)) (r:=fun c=>J3 inn c&&decide ((c:Int)∉ex++[(x:Int)]/\(p:Int)∈D8 g c)) x (fun y=>?_) List.nodup_range]
 ·congr 1
  simp only[C62,a,true_and,decide_eq_true_eq,h,not_false_eq_true,b,C84]
 ·simp only[C49,C42];by_cases d:(y:Int)∈ex<;>by_cases e:y=x<;>by_cases f:(p:Int)∈D8 g y<;>cases J3 inn y<;>simp[d,e,f]<;>omega
theorem B16{g:Graph}{inn:List Bool}{ex:List Int}{p:Nat}:yP g inn ex p=0↔∀c,c<g.length->J3 inn c=true->(p:Int)∈D8 g c->(c:Int)∈ex:=by
 unfold yP;rw[List.countP_eq_zero];constructor
 ·intro h c b e f;have:=h c (C62.2 b);rw[e,C84,decide_eq_true_eq]at this;apply C69;exact fun d=>this ⟨d,f⟩
 ·intro h c b a;rw[C39,decide_eq_true_eq]at a;exact a.2.1 (h c (C62.1 b) a.1 a.2.2)
theorem OK(g:Graph)(inn:List Bool)(ex:List Int)(p:Nat):yP g inn ex p<=g.length:=by
 unfold yP;have:=List.countP_le_length (p:=fun c=>J3 inn c&&decide ((c:Int)∉ex/\(p:Int)∈D8 g c)) (l:=List.range g.length)
 rwa[C94]at this
structure OInv (g:Graph) (inn:List Bool) (k i:Nat) (ch hp out:List Int):Prop where
 len:ch.length=g.length
 cnt:∀p,p<g.length->J3 inn p=true->I0 ch p+(if (p:Int)∈(D8 g (out.getD k 0).toNat).take i then 1 else 0)=yP g inn (out.take k) p
 off:∀p,p<g.length->J3 inn p=false->I0 ch p = -1
 hpm:∀p:Nat,(p:Int)∈hp↔p<g.length/\J3 inn p=true/\(p:Int)∉out/\I0 ch p=0
 hpr:∀x∈hp,0<=x/\x<g.length
 hpn:hp.Nodup
 heap:wR (X7 g) hp.length hp
 outn:out.Nodup
 outr:∀x∈out,0<=x/\x<g.length/\J3 inn x.toNat=true/\I0 ch x.toNat=0
theorem OInv.ready{g:Graph}{inn:List Bool}{m b a:List Int}(h:OInv g inn a.length 0 m b a){c:Nat}(n:c<g.length):o6 g inn a c=true↔(c:Int)∈b:=by
 rw[h.hpm];unfold o6;rw[C39,C39,decide_eq_true_eq,C47];have key:J3 inn c=true->((∀x∈List.range g.length,(!(decide ((c:Int)∈D8 g x)&&J3 inn x&&decide ((x:Int)∉a)))=true)↔I0 m c=0):=by
  intro o;have d:=h.cnt c n o;rw[C48,C79,A7 (by simp)]at d;have f:=B16 (g:=g) (inn:=inn) (ex:=a) (p:=c);constructor
  ·intro i;have:yP g inn a c=0:=f.2 fun k l e b=>by
    have:=i k (C62.2 l);simpa[b,e] using this
   omega
  ·intro q k l;cases e:J3 inn k
   ·simp
   ·by_cases b:(c:Int)∈D8 g k
    ·have:=f.1 (by omega) k (C62.1 l) e b;simp[b,this]
    ·simp[b]
 constructor
 ·rintro⟨⟨d,f⟩,j⟩;exact⟨n,d,f,(key d).1 j⟩
 ·rintro⟨_,d,f,j⟩;exact⟨⟨d,f⟩,(key d).2 j⟩
theorem OInv.fin{g:Graph}{b:List Bool}{d a:List Int}(h:OInv g b a.length 0 d [] a):iI g b a = -1 :=
 YS fun c e=>by
  cases f:o6 g b a c
  ·rfl
  ·have:=(h.ready e).1 f;cases this
theorem OInv.le{g:Graph}{b:List Bool}{k i:Nat}{e c a:List Int}(h:OInv g b k i e c a):a.length<=g.length/\c.length<=g.length :=
 ⟨p5 h.outn fun x d=>⟨(h.outr x d).1,(h.outr x d).2.1⟩,p5 h.hpn h.hpr⟩
theorem B17{l m:List Int}{n:Nat}(v:n+1=l.length)(q:SameL l m)(j:l.Nodup){x:Int}(r:I0 m n=x):(∀y,y∈m.take n↔y∈l/\y≠x)/\(m.take n).Nodup/\(m.take n).length=n:=by
 have s:m.length=n+1:=by rw[q.len,v]
 have i:=q.nodup j;have c:n<m.length:=by omega
 have e:m=m.take n++[x]:=by
  have f:m.take (n+1)=m:=C83 (by omega);rw[C52,C36 c,C53]at f;rw[S6 c]at r;rw[r]at f;exact f.symm
 have a:=i;rw[e,List.nodup_append]at a;refine⟨fun y=>?_,a.1,by rw[C59];omega⟩;rw[<-q.mem y];constructor
 ·intro b;exact⟨C97 b,a.2.2 y b x (by simp)⟩
 ·rintro⟨b,k⟩;rw[e]at b;rcases C49.1 b with b | b
  ·exact b
  ·exact absurd (C42.1 b) k
theorem OInv.pop{g:Graph}{m:List Bool}{C b f:List Int}(h:OInv g m f.length 0 C b f)(v:0<b.length) :
  iI g m f=I0 b 0/\OInv g m f.length 0 C ((tY (X7 g) b).take (b.length-1)) (f++[I0 b 0])/\I0 (tY (X7 g) b) (b.length-1)=I0 b 0:=by
 have A:I0 b 0∈b:=by rw[S6 v];exact C43 v
 have M:=h.hpr _ A;obtain⟨c,q⟩:∃c:Nat,I0 b 0=c:=⟨(I0 b 0).toNat,by omega⟩
 have i:=(h.hpm c).1 (by rw[<-q];exact A);obtain⟨J,K,F⟩:=popH_ok (rG g) h.heap v;obtain⟨B,L,t3⟩:=B17 (n:=b.length-1) (by omega) K h.hpn F;have hb:iI g m f=c:=B82 i.1 ((h.ready i.1).2 (by rw[<-q];exact A)) fun d G w=>by
  obtain⟨j,r,e⟩:=List.getElem_of_mem ((h.ready G).1 w);have:=B15 (rG g) h.heap j r;rw[S6 r,e,q]at this;exact this
 refine⟨by rw[hb,q],?_,F⟩;rw[q]at B ⊢;refine⟨h.len,fun p b H=>?_,h.off,fun p=>?_,fun x l=>h.hpr x ((B x).1 l).1,L,?_,?_,?_⟩
 ·have D:=h.cnt p b H;rw[C79,A7 (by simp)]at D ⊢;rw[eY (C45 _)];exact D
 ·rw[B,h.hpm,C49,C42,not_or];constructor
  ·rintro⟨⟨s,u,a3,a4⟩,a5⟩;exact⟨s,u,⟨a3,a5⟩,a4⟩
  ·rintro⟨s,u,⟨a3,a5⟩,a4⟩;exact⟨⟨s,u,a3,a4⟩,a5⟩
 ·rw[t3];intro k E z;have e:∀j,j<b.length-1->I0 ((tY (X7 g) b).take (b.length-1)) j=I0 (tY (X7 g) b) j:=fun j r=>by
   unfold I0;rw[List.getElem?_take,A6 r]
  rw[e k E,e _ (by omega)];exact J k E z
 ·exact List.nodup_append.2 ⟨h.outn,by simp,fun x l y I e=>by rw[C42.1 I]at e;exact i.2.2.1 (e ▸ l)⟩
 ·intro x l;rcases C49.1 l with l | l
  ·exact h.outr x l
  ·rw[C42.1 l,C37];exact⟨by omega,by omega,i.2.1,i.2.2.2⟩
theorem OInv.step{g:Graph}{inn:List Bool}(T:related g=true)(K:jN g inn){k i:Nat}{o D b:List Int}(h:OInv g inn k i o D b)(W:k+1=b.length){c p:Nat}(A:b[k]?=some (c:Int))(H:i<(D8 g c).length)(u:(D8 g c)[i]=(p:Int)) :
  p<g.length/\1<=I0 o p/\I0 o p<=g.length/\D.length<g.length/\OInv g inn k (i+1) (m9 o p) (if I0 o p-1=0 then wQ (X7 g) D p else D) b:=by
 have hkl:k<b.length:=by omega
 have A:b[k]=(c:Int):=by rw[C36 hkl]at A;exact C85 A
 have hpr:=K6 T c;have hpm:(p:Int)∈D8 g c:=by rw[<-u];exact C43 H
 have f:p<g.length:=by have:=hpr.1 p hpm;omega
 have B:=h.outr b[k] (C43 hkl);rw[A,C37]at B;have E:c<g.length:=by omega
 have s:J3 inn p=true:=by have:=K c B.2.2.1 p hpm;rwa[C37]at this
 have C:b.getD k 0=(c:Int):=by rw[C38,C36 hkl];exact A
 have N:(c:Int)∉b.take k:=by rw[<-A];exact o5 h.outn hkl
 have M:(p:Int)∉(D8 g c).take i:=by rw[<-u];exact o5 hpr.2 H
 have P:=h.cnt p f s;rw[C,C37,A7 M]at P;have Q:=KY (g:=g) (inn:=inn) (ex:=b.take k) (x:=c) (p:=p) N E B.2.2.1;rw[A6 hpm]at Q;have S:=OK g inn (b.take k) p;have L:1<=I0 o p:=by omega
 have m:(p:Int)∉b:=fun j=>by have:=(h.outr _ j).2.2.2;rw[C37]at this;omega
 have w:(p:Int)∉D:=fun j=>by have:=((h.hpm p).1 j).2.2.2;omega
 have v:∀q,I0 (m9 o p) q=if p=q then I0 o p-1 else I0 o q:=fun q=>by
  unfold m9;rw[C37,jO (by rw[h.len];exact f)]
 have F:D.length<g.length:=by
  have:=p5 (l:=(c:Int)::D) (n:=g.length) (List.nodup_cons.2 ⟨fun j=>((h.hpm c).1 j).2.2.1 (by rw[<-A];exact C43 hkl),h.hpn⟩) fun x d=>by
   rcases C50.1 d with rfl | d
   ·omega
   ·exact h.hpr x d
  rw[C46]at this;omega
 obtain⟨V,G⟩:=TS (rG g) (p:Int) h.heap;refine⟨f,L,by omega,F,⟨by unfold m9;rw[C78];exact h.len,?_,?_,?_,?_,?_,?_,h.outn,?_⟩⟩
 ·intro q O I;rw[C,C37,v q];by_cases e:p=q
  ·subst e;rw[A6 rfl,A6 ((X5 H).2 (.inr u.symm))];omega
  ·rw[A7 e];have z:=h.cnt q O I;rw[C,C37]at z;have R:((q:Int)∈(D8 g c).take (i+1))↔(q:Int)∈(D8 g c).take i:=by
    rw[X5 H,u];exact⟨fun h=>h.resolve_right (by omega),.inl⟩
   simp only[R];exact z
 ·intro q O I;rw[v q,A7 (fun e=>by rw[e,I]at s;cases s)];exact h.off q O I
 ·intro q;rw[v q];by_cases e:p=q
  ·subst e;rw[A6 rfl];split
   ·rename_i J;rw[G.mem];exact⟨fun _=>⟨f,s,m,J⟩,fun _=>by simp⟩
   ·rename_i J;exact⟨fun j=>absurd j w,fun j=>absurd j.2.2.2 J⟩
  ·rw[A7 e,<-h.hpm q];split
   ·rw[G.mem,C49,C42];exact⟨fun j=>j.resolve_right (by omega),.inl⟩
   ·exact Iff.rfl
 ·intro x d;split at d
  ·rw[G.mem,C49,C42]at d;rcases d with d | rfl
   ·exact h.hpr x d
   ·omega
  ·exact h.hpr x d
 ·split
  ·exact G.nodup (List.nodup_append.2 ⟨h.hpn,by simp,fun x d y U e=>by rw[C42.1 U]at e;exact w (e ▸ d)⟩)
  ·exact h.hpn
 ·split
  ·rw[G.len,C40,C51];exact V
  ·exact h.heap
 ·intro x d;have z:=h.outr x d;refine⟨z.1,z.2.1,z.2.2.1,?_⟩;rw[v,A7 (fun e=>m (by rw[show ((p:Nat):Int)=x by omega];exact d))];exact z.2.2.2
theorem OInv.next{g:Graph}{inn:List Bool}{k:Nat}{m f a:List Int}(r:k+1=a.length){c:Nat}(b:a[k]?=some (c:Int))(h:OInv g inn k (D8 g c).length m f a):OInv g inn a.length 0 m f a:=by
 refine { h with cnt:=fun p f s=>?_ };have hkl:k<a.length:=by omega
 have b:a[k]=(c:Int):=by rw[C36 hkl]at b;exact C85 b
 have o:=h.cnt p f s;have i:a.getD k 0=(c:Int):=by rw[C38,C36 hkl];exact b
 have d:=h.outr a[k] (C43 hkl);rw[b,C37]at d;rw[i,C37,C48]at o;have q:=KY (g:=g) (inn:=inn) (ex:=a.take k) (x:=c) (p:=p) (by rw[<-b];exact o5 h.outn hkl) (by omega) d.2.2.1;have e:a.take (k+1)=a.take k++[(c:Int)]:=by rw[C52,C36 hkl,C53,b]
 rw[<-r,e,C79,A7 (by simp)];split at o
 ·rename_i j;rw[A6 j]at q;omega
 ·rename_i j;rw[A7 j]at q;omega
structure HInv (g:Graph) (ch hp:List Int) (i:Nat):Prop where
 mem:∀p:Nat,(p:Int)∈hp↔p<i/\I0 ch p=0
 rng:∀x∈hp,0<=x/\x<i
 nodup:hp.Nodup
 heap:wR (X7 g) hp.length hp
theorem HInv.nil(g:Graph)(a:List Int):HInv g a [] 0:=⟨fun p=>by simp,(fun _ h=>by cases h),List.nodup_nil,fun k b=>by simp at b⟩
theorem HInv.le{g:Graph}{b a:List Int}{i:Nat}(h:HInv g b a i):a.length<=i:=p5 h.nodup h.rng
theorem HInv.step{g:Graph}{f k:List Int}{i:Nat}(h:HInv g f k i):HInv g f (if I0 f i=0 then wQ (X7 g) k (i:Int) else k) (i+1):=by
 obtain⟨o,d⟩:=TS (rG g) (i:Int) h.heap;split
 ·rename_i j;refine⟨fun p=>?_,fun x c=>?_,d.nodup (List.nodup_append.2 ⟨h.nodup,by simp,fun x c y m e=>by rw[C42.1 m]at e;have:=h.rng x c;omega⟩),by rw[d.len,C40,C51];exact o⟩
  ·rw[d.mem,C49,C42,h.mem];constructor
   ·rintro (⟨a,b⟩ | e)
    ·exact⟨by omega,b⟩
    ·have e:p=i:=by omega
     subst e;exact⟨by omega,j⟩
   ·rintro⟨a,b⟩;by_cases e:p=i
    ·right;omega
    ·exact .inl ⟨by omega,b⟩
  ·rw[d.mem,C49,C42]at c;rcases c with c | rfl
   ·have:=h.rng x c;omega
   ·omega
 ·rename_i j;refine⟨fun p=>?_,fun x c=>by have:=h.rng x c;omega,h.nodup,h.heap⟩;rw[h.mem];constructor
  ·rintro⟨a,b⟩;exact⟨by omega,b⟩
  ·rintro⟨a,b⟩;refine⟨?_,b⟩;apply C69;intro q;have:p=i:=by omega
   subst this;exact j b
def YT(g:Graph)(D:List Int)(p:Nat):Nat:=D.countP fun x=>decide ((p:Int)∈D8 g x.toNat)
structure DInv (g:Graph) (inn:List Bool) (st:List Int) (k i:Nat) (ch opn D:List Int):Prop where
 len:ch.length=g.length
 nodup:(D++opn).Nodup
 on:∀x∈D++opn,0<=x/\x<g.length/\J3 inn x.toNat=true
 cnt:∀p:Nat,(p:Int)∈D++opn->I0 ch p=YT g (D.take k) p+(if (p:Int)∈(D8 g (D.getD k 0).toNat).take i then 1 else 0)
 off:∀p,p<g.length->(p:Int)∉D++opn->I0 ch p = -1
 clo:∀x∈D.take k,∀p∈D8 g x.toNat,p∈D++opn
 clo2:∀p∈(D8 g (D.getD k 0).toNat).take i,p∈D++opn
 sts:∀f∈st,f∈D++opn
theorem DInv.start(g:Graph)(a:List Bool):DInv g a [] 0 0 (List.replicate g.length (-1)) [] [] where
 len:=by simp
 nodup:=List.nodup_nil
 on:=fun _ h=>by cases h
 cnt:=fun _ h=>by cases h
 off:=fun p b _=>by unfold I0;rw[List.getElem?_replicate,A6 b];rfl
 clo:=fun _ h=>by cases h
 clo2:=fun _ h=>by simp at h
 sts:=fun _ h=>by cases h
theorem DInv.le{g:Graph}{b:List Bool}{st:List Int}{k i:Nat}{d a D:List Int}(h:DInv g b st k i d a D):D.length+a.length<=g.length:=by
 have:=p5 h.nodup fun x c=>⟨(h.on x c).1,(h.on x c).2.1⟩
 rwa[C40]at this
theorem DInv.mem{g:Graph}{inn:List Bool}{st:List Int}{k i:Nat}{c a D:List Int}(h:DInv g inn st k i c a D){p:Nat}(e:p<g.length):I0 c p<0↔(p:Int)∉D++a:=by
 by_cases b:(p:Int)∈D++a
 ·have:=h.cnt p b;constructor
  ·intro f;split at this<;>omega
  ·exact fun d=>absurd b d
 ·have:=h.off p e b;exact⟨fun _=>b,fun _=>by omega⟩
theorem DInv.reach{g:Graph}{l:List Bool}{st:List Int}{k i:Nat}{m a D:List Int}(h:DInv g l st k i m a D)(_hk:k<=D.length){p:Nat}(s:p<g.length)(u:J3 l p=true)(st':List Int)(o:∀f∈st',f∈st\/f=p) :
  DInv g l st' k i (if I0 m p<0 then m.set p 0 else m) (if I0 m p<0 then a++[(p:Int)] else a) D/\(p:Int)∈D++(if I0 m p<0 then a++[(p:Int)] else a):=by
 split
 ·rename_i t;have j:=(h.mem s).1 t;refine⟨⟨by rw[C78];exact h.len,?_,?_,?_,?_,?_,?_,?_⟩,by simp⟩
  ·rw[<-C65];exact List.nodup_append.2 ⟨h.nodup,by simp,fun x c y v e=>by rw[C42.1 v]at e;exact j (e ▸ c)⟩
  ·intro x c;rw[<-C65]at c;rcases C49.1 c with c | c
   ·exact h.on x c
   ·rw[C42.1 c,C37];exact⟨by omega,by omega,u⟩
  ·intro q b;rw[jO (by rw[h.len];exact s)];by_cases e:p=q
   ·subst e;rw[A6 rfl,A7 (fun n=>j (h.clo2 _ n))];have:YT g (D.take k) p=0:=by
     unfold YT;rw[List.countP_eq_zero];intro x c n;exact j (h.clo x c _ (A1 n))
    rw[this];rfl
   ·rw[A7 e];rw[<-C65]at b;rcases C49.1 b with b | b
    ·exact h.cnt q b
    ·exact absurd (C42.1 b) (by omega)
  ·intro q b r;rw[<-C65,C49,not_or,C42]at r;rw[jO (by rw[h.len];exact s),A7 (by omega)];exact h.off q b r.1
  ·intro x c q b;rw[<-C65];exact List.mem_append_left _ (h.clo x c q b)
  ·intro q b;rw[<-C65];exact List.mem_append_left _ (h.clo2 q b)
  ·intro f d;rw[<-C65];rcases o f d with d | rfl
   ·exact List.mem_append_left _ (h.sts f d)
   ·simp
 ·rename_i t;have n:(p:Int)∈D++a:=by
   apply C69;intro r;exact t ((h.mem s).2 r)
  refine⟨{ h with sts:=fun f d=>?_ },n⟩;rcases o f d with d | rfl
  ·exact h.sts f d
  ·exact n
theorem DInv.count{g:Graph}{v:List Bool}{st:List Int}{k i:Nat}{f j D:List Int}(h:DInv g v st k i f j D){c p:Nat}(G:related g=true)(m:D.getD k 0=(c:Int))(o:i<(D8 g c).length)(b:(D8 g c)[i]=(p:Int))(w:(p:Int)∈D++j) :
  0<=I0 f p/\I0 f p<=g.length/\DInv g v st k (i+1) (bump f p) j D:=by
 have hpr:=K6 G c;have s:p<g.length:=by have:=hpr.1 p (by rw[<-b];exact C43 o);omega
 have B:=h.cnt p w;have y:(p:Int)∉(D8 g c).take i:=by rw[<-b];exact o5 hpr.2 o
 rw[m,C37,A7 y]at B;have F:YT g (D.take k) p<=g.length:=by
  unfold YT;have C:=List.countP_le_length (p:=fun x:Int=>decide ((p:Int)∈D8 g x.toNat)) (l:=D.take k);rw[C59]at C;have:=h.le;omega
 have u:∀q,I0 (bump f p) q=if p=q then I0 f p+1 else I0 f q:=fun q=>by
  unfold bump;rw[C37,jO (by rw[h.len];exact s)]
 refine⟨by omega,by omega,{ h with len:=by unfold bump;rw[C78];exact h.len,cnt:=fun q d=>?_,off:=fun q d A=>?_,clo2:=fun q d=>?_ }⟩
 ·rw[u q,m,C37];by_cases e:p=q
  ·subst e;rw[A6 rfl,A6 ((X5 o).2 (.inr b.symm))];omega
  ·rw[A7 e];have z:=h.cnt q d;rw[m,C37]at z;have E:((q:Int)∈(D8 g c).take (i+1))↔(q:Int)∈(D8 g c).take i:=by
    rw[X5 o,b];exact⟨fun h=>h.resolve_right (by omega),.inl⟩
   simp only[E];exact z
 ·rw[u q,A7 (show ¬p=q from fun e=>A (by rw[<-e];exact w))];exact h.off q d A
 ·rw[m,C37]at d;rcases (X5 o).1 d with d | rfl
  ·exact h.clo2 q (by rw[m,C37];exact d)
  ·rw[b];exact w
theorem DInv.pop{g:Graph}{s:List Bool}{st:List Int}{u d D:List Int}{c:Int}(h:DInv g s st D.length 0 u (d++[c]) D):DInv g s st D.length 0 u d (D++[c]):=by
 have b:∀x,x∈(D++[c])++d↔x∈D++(d++[c]):=fun x=>by
  simp only[C49,C42];constructor
  ·rintro ((h | h) | h)
   ·exact .inl h
   ·exact .inr (.inr h)
   ·exact .inr (.inl h)
  ·rintro (h | h | h)
   ·exact .inl (.inl h)
   ·exact .inr h
   ·exact .inl (.inr h)
 have v:(D++[c]).take D.length=D:=by rw[eY (C45 _),C48]
 refine⟨h.len,?_,fun x m=>h.on x ((b x).1 m),fun p o=>?_,fun p o A=>h.off p o fun z=>A ((b _).2 z),fun x m p o=>?_,fun p o=>by simp at o,fun f w=>(b f).2 (h.sts f w)⟩
 ·have j:=h.nodup;rw[List.nodup_append,List.nodup_append]at j;rw[C65,List.nodup_append,List.nodup_append];refine⟨j.1,⟨by simp,j.2.1.1,fun x m y q e=>?_⟩,fun x m y q=>?_⟩
  ·exact j.2.1.2.2 y q x m e.symm
  ·refine j.2.2 x m y ?_;rcases C49.1 q with q | q
   ·exact List.mem_append_right _ q
   ·exact List.mem_append_left _ q
 ·have j:=h.cnt p ((b _).1 o);rw[C79,A7 (by simp),C48]at j;rw[v,C79,A7 (by simp)];exact j
 ·rw[v]at m;exact (b p).2 (h.clo x (by rw[C48];exact m) p o)
theorem DInv.next{g:Graph}{inn:List Bool}{st:List Int}{k:Nat}{j d D:List Int}{c:Nat}(o:k+1=D.length)(f:D.getD k 0=(c:Int))(h:DInv g inn st k (D8 g c).length j d D):DInv g inn st D.length 0 j d D:=by
 have hkl:k<D.length:=by omega
 have i:D[k]?=some (c:Int):=by
  rw[C38,C36 hkl]at f;rw[C36 hkl];exact congrArg some f
 have e:D.take D.length=D.take k++[(c:Int)]:=by rw[<-o,C52,i,C53]
 refine { h with cnt:=fun p a=>?_,clo:=fun x b p a=>?_,clo2:=fun p a=>by simp at a }
 ·have m:=h.cnt p a;rw[f,C37,C48]at m;rw[C79,A7 (show ¬(p:Int)∈([]:List Int) by simp),m,e];unfold YT;rw[List.countP_append,List.countP_singleton,C37];by_cases q:(p:Int)∈D8 g c<;>simp[q]
 ·rw[e]at b;rcases C49.1 b with b | b
  ·exact h.clo x b p a
  ·rw[C42.1 b,C37]at a;exact h.clo2 p (by rw[f,C37,C48];exact a)
theorem TV{q:Int->Bool}{l m:List Int}(a:l.Nodup)(c:m.Nodup)(h:∀x,x∈l↔x∈m):l.countP q=m.countP q:=by
 rw[List.countP_eq_length_filter,List.countP_eq_length_filter];have key:∀{l m:List Int},l.Nodup->(∀x,x∈l↔x∈m)->(l.filter q).length<=(m.filter q).length:=fun a h =>
  qX (a.filter _) fun x b=>by
   rw[List.mem_filter]at b ⊢;exact⟨(h x).1 b.1,b.2⟩
 have d:=key a h;have f:=key c fun x=>(h x).symm;omega
theorem DInv.fin{g:Graph}{s z D:List Int}(I:related g=true)(J:∀f∈s,0<=f/\f<g.length)(h:DInv g (P2 g s) s D.length 0 z [] D) :
  ∀p,p<g.length->I0 z p=if J3 (P2 g s) p=true then (yP g (P2 g s) [] p:Int) else -1:=by
 have b:∀p:Nat,J3 (P2 g s) p=true↔(p:Int)∈D:=by
  intro p;constructor
  ·intro j;obtain⟨f,F,d⟩:=(rA I J p).1 j;clear j;have A:(f:Int)∈D:=by simpa using h.sts f F
   have v:∀x:Nat,(x:Int)∈D->∀q:Nat,(q:Int)∈D8 g x->(q:Int)∈D:=fun x k q H=>by
    have:=h.clo x (by rw[C48];exact k) q (by rw[C37];exact H);simpa using this
   rcases d with rfl | d
   ·exact A
   ·induction d with
    | one h=>exact v _ A _ h
    | more _ d K=>exact v _ K _ d
  ·intro w;have:=(h.on p (by simpa using w)).2.2
   rwa[C37]at this
 intro p G;split
 ·rename_i j;have B:=h.cnt p (by simpa using (b p).1 j);rw[C48,C79,A7 (by simp)]at B;rw[B,Int.add_zero]
  congr 1
  have C:D.Nodup:=by have:=h.nodup;rwa[C77]at this
  have d:∀x∈D,0<=x/\x<g.length:=fun x k=>by
   have:=h.on x (by simpa using k);exact⟨this.1,this.2.1⟩
  unfold YT yP;have e:(List.range g.length).countP (fun c=>J3 (P2 g s) c&&decide ((c:Int)∉([]:List Int)/\(p:Int)∈D8 g c))=(((List.range g.length).filter fun c=>J3 (P2 g s) c).map fun c:Nat=>(c:Int)).countP fun x=>decide ((p:Int)∈D8 g x.toNat):=by
   rw[List.countP_map,List.countP_filter];refine List.countP_congr fun c _=>?_;simp only[D07,not_false_eq_true,true_and,Function.comp_def,C37,C39,decide_eq_true_eq];exact And.comm
  rw[e];refine TV C ((List.nodup_range.filter _).map (fun i:Nat=>(i:Int)) fun _ _ y e=>y (Int.ofNat.inj e)) fun x=>?_;rw[C71];constructor
  ·intro k;have:=d x k;refine⟨x.toNat,List.mem_filter.2 ⟨C62.2 (by omega),(b _).2 (by rw[Int.toNat_of_nonneg this.1];exact k)⟩,by omega⟩
  ·rintro⟨c,E,rfl⟩;exact (b c).1 (List.mem_filter.1 E).2
 ·rename_i j;exact h.off p G fun w=>j ((b p).2 (by simpa using w))
theorem OInv.start{g:Graph}{c:List Bool}{f d:List Int}(j:f.length=g.length)(_hin:c.length=g.length)(i:∀p,p<g.length->I0 f p=if J3 c p=true then (yP g c [] p:Int) else -1)(h:HInv g f d g.length):OInv g c 0 0 f d [] where
 len:=j
 cnt:=fun p d e=>by rw[i p d,A6 e,C79,C79];simp
 off:=fun p d e=>by rw[i p d,e];rfl
 hpm:=fun p=>by
  rw[h.mem];constructor
  ·rintro⟨a,b⟩;refine⟨a,?_,by simp,b⟩;cases e:J3 c p
   ·rw[i p a,e]at b;simp at b
   ·rfl
  ·rintro⟨a,_,_,b⟩;exact⟨a,b⟩
 hpr:=h.rng
 hpn:=h.nodup
 heap:=h.heap
 outn:=List.nodup_nil
 outr:=fun _ h=>by cases h
def o7(b s:Str)(p:Nat):Option Nat:=if b=[]\/p>s.length\/Lib.index (s.drop p) b<0 then none else some (p+(Lib.index (s.drop p) b).toNat)
def iJ(a s:Str):Nat->Nat->List Int->List Int
 | 0,_,out=>out
 | f+1,p,out=>match o7 a s p with
  | none=>out
  | some i=>iJ a s f (i+a.length) (out++[(i:Int)])
def y5(a s:Str):List Int:=iJ a s (s.length+2) 0 []
def u9(nd s:Str):Int:=(y5 nd s).length
theorem jS{a s:Str}{p i:Nat}(h:o7 a s p=some i):a≠[]/\p<=s.length/\p<=i/\i+a.length<=s.length:=by
 unfold o7 at h;split at h
 ·cases h
 ·rename_i b;simp only[not_or]at b;have c:=Lib.index_room (s.drop p) a (by omega);rw[C61]at c;have e:=C85 h;exact⟨b.1,by omega,by omega,by omega⟩
theorem tZ{b s:Str}{f p i:Nat}{a:List Int}(c:s.length<f+p)(h:o7 b s p=some i):iJ b s f p a=iJ b s (f-1) (i+b.length) (a++[(i:Int)]):=by
 have:=jS h;obtain⟨f,rfl⟩:∃k,f=k+1:=⟨f-1,by omega⟩
 rw[iJ,h];rfl
theorem lP{b s:Str}{f p:Nat}{a:List Int}(h:o7 b s p=none):iJ b s f p a=a:=by
 cases f with
 | zero=>rfl
 | succ f=>rw[iJ,h]
theorem FU{c s:Str}:∀(f d p:Nat) (a:List Int),s.length<f+p->s.length<d+p->iJ c s f p a=iJ c s d p a
 | 0,d,p,a,h,_=>by
  have:o7 c s p=none:=by
   cases b:o7 c s p with
   | none=>rfl
   | some i=>have:=jS b;omega
  rw[lP this,lP this]
 | f+1,d,p,a,h,h'=>by
  cases b:o7 c s p with
  | none=>rw[lP b,lP b]
  | some i =>
   have e:=jS b;have g:0<c.length:=List.length_pos_iff.2 e.1;rw[tZ h b,tZ h' b];exact FU f (d-1) _ _ (by omega) (by omega)
theorem kM(b s:Str):(y5 b s).length<=s.length+2:=by
 have key:∀(f p:Nat) (a:List Int),(iJ b s f p a).length<=a.length+f:=by
  intro f;induction f with
  | zero=>intro p a;exact C45 _
  | succ f c =>
   intro p a;rw[iJ];split
   ·omega
   ·rename_i i _;have:=c (i+b.length) (a++[(i:Int)]);rw[C40,C51]at this;omega
 have:=key (s.length+2) 0 [];unfold y5;simpa using this
def Q9(g:Graph)(c:Nat):List File:=(g[c]?.map (·.Files)).getD []
def O9(g:Graph)(c:Nat):List (List File):=if D8 g c=[] then [[]] else (D8 g c).map fun p=>Q9 g p.toNat
def bC(l:List File)(p:Str):Str:=(J7 l p).getD []
def YU(t u:List File)(d:Delta):Str×Str:=(bC t d.Path,bC u d.Path)
def gK(t u:List File):List (Str×Str):=(W7 t u).map (YU t u)
def L9(g:Graph)(c:Nat):List (List (Str×Str)):=(O9 g c).map fun t=>gK t (Q9 g c)
def differs(a:Str)(x:Str×Str):Bool:=decide (u9 a x.1≠u9 a x.2)
def R0(f:Str×Str->Bool)(g:Graph)(c:Nat):Bool:=(L9 g c).any fun l=>l.any f
def p6(g:Graph)(c:Int):Prop:=0<=c/\c<g.length
instance (g:Graph) (c:Int):Decidable (p6 g c):=inferInstanceAs (Decidable (_/\_))
def N6(g:Graph)(s:Int):List Int×Int:=if K7 g≠0 then ([],K7 g) else if p6 g s then (nR g [s],0) else ([],5)
def Q7(f:Str×Str->Bool)(g:Graph)(s:Int):List Int×Int:=if (N6 g s).2≠0 then ([],(N6 g s).2) else ((N6 g s).1.filter fun c=>R0 f g c.toNat,0)
def dN(g:Graph)(s:Int)(a:Str):List Int×Int:=if a=[] then ([],2) else if a.length>256 then ([],1) else Q7 (differs a) g s
def y6(nd:Str)(l:List (Str×Str)):Int:=(l.map fun x=>u9 nd x.2-u9 nd x.1).sum
def bO(g:Graph)(c:Int):Int:=if K7 g≠0 then K7 g else if p6 g c then 0 else 5
def dO(g:Graph)(c:Int)(nd:Str):List Int×Int:=if bO g c≠0 then ([],bO g c) else ((L9 g c.toNat).map (y6 nd),0)
def dD:Str×Str->Nat->Cell:=fun x j=>match j with
 | 0=>.v (.string ⟨x.1.toArray⟩)
 | _=>.v (.string ⟨x.2.toArray⟩)
abbrev aH:List (Str×Str)->Nat->Cell:=fun l _=>.list (Str×Str) 2 dD l
abbrev pPairs(l:List (Str×Str)):PV:=.one (.list (Str×Str) 2 dD l)
abbrev wS(l:List (List (Str×Str))):PV:=.one (.list (List (Str×Str)) 1 aH l)
section
structure Set4 where
 a:Int
 b:Int
 c:Int
 d:Int
 deriving DecidableEq
def KZ(x y:Int):Int:=((x.toNat ||| y.toNat:Nat):Int)
def set0:Set4:=⟨0,0,0,0⟩
def Set4.with_(s:Set4)(c:Nat):Set4:=match c / 64 with
 | 0=>{ s with a:=KZ s.a (2 ^ (c % 64)) }
 | 1=>{ s with b:=KZ s.b (2 ^ (c % 64)) }
 | 2=>{ s with c:=KZ s.c (2 ^ (c % 64)) }
 | _=>{ s with d:=KZ s.d (2 ^ (c % 64)) }
def N9:Nat->Nat->Set4->Set4
 | 0,_,s=>s
 | n+1,c,s=>N9 n (c+1) (s.with_ c)
def Set4.through(s:Set4)(a b:Nat):Set4:=N9 (b+1-a) a s
def Set4.compl(s:Set4):Set4:=⟨18446744073709551615-s.a,18446744073709551615-s.b,18446744073709551615-s.c,18446744073709551615-s.d⟩
def j8(s:Set4)(name:Str):Option Set4 :=
 if name=[97,108,112,104,97] then some ((s.through 97 122).through 65 90)
 else if name=[100,105,103,105,116] then some (s.through 48 57)
 else if name=[97,108,110,117,109] then some (((s.through 97 122).through 65 90).through 48 57)
 else if name=[117,112,112,101,114] then some (s.through 65 90)
 else if name=[108,111,119,101,114] then some (s.through 97 122)
 else if name=[115,112,97,99,101] then some ((s.through 9 13).with_ 32)
 else if name=[112,117,110,99,116] then some ((((s.through 33 47).through 58 64).through 91 96).through 123 126)
 else none
def O0(s:Set4):Prop:=(0<=s.a/\s.a<18446744073709551616)/\(0<=s.b/\s.b<18446744073709551616)/\(0<=s.c/\s.c<18446744073709551616)/\(0<=s.d/\s.d<18446744073709551616)
theorem wT{x:Int}(e:0<=x/\x<18446744073709551616)(k:Nat)(d:k<64):0<=KZ x (2 ^ k)/\KZ x (2 ^ k)<18446744073709551616:=by
 unfold KZ;have b:x.toNat<2 ^ 64:=by omega
 have c:((2:Int) ^ k).toNat<2 ^ 64:=by
  have:((2:Int) ^ k).toNat=2 ^ k:=by
   rw[show ((2:Int) ^ k)=((2 ^ k:Nat):Int) by simp];exact C37 _
  rw[this];exact Nat.pow_lt_pow_right (by decide) d
 have:=Nat.or_lt_two_pow b c;omega
theorem rH{s:Set4}(h:O0 s)(c:Nat):O0 (s.with_ c):=by
 obtain⟨a,b,d,e⟩:=h;have f:c % 64<64:=Nat.mod_lt _ (by decide);unfold Set4.with_;split
 ·exact⟨wT a _ f,b,d,e⟩
 ·exact⟨a,wT b _ f,d,e⟩
 ·exact⟨a,b,wT d _ f,e⟩
 ·exact⟨a,b,d,wT e _ f⟩
theorem cZ:∀(n c:Nat) {s:Set4},O0 s->O0 (N9 n c s)
 | 0,_,_,h=>h
 | n+1,c,_,h=>cZ n (c+1) (rH h c)
theorem M9{s:Set4}(h:O0 s)(a b:Nat):O0 (s.through a b):=cZ _ _ h
theorem iK:∀(n c:Nat) (s:Set4),N9 (n+1) c s=(N9 n c s).with_ (c+n)
 | 0,_,_=>rfl
 | n+1,c,s=>by
  rw[N9,iK n (c+1),N9,show c+1+n=c+(n+1) by omega]
theorem FV{s t:Set4}(h:O0 s){n:Str}(a:j8 s n=some t):O0 t:=by
 unfold j8 at a
 repeat' split at a
 all_goals first
  | (rw[<-C85 a];(repeat (with_reducible first | apply M9 | apply rH));exact h)
  | exact absurd a (by simp)
structure Node where
 Kind:Int
 Set:Set4
 Min:Int
 Max:Int
 Kids:List Int
 deriving DecidableEq
def P5:Node->Nat->Cell:=fun n j=>match j with
 | 0=>.v (.int .i64 n.Kind)
 | 1=>.v (.int .u64 n.Set.a)
 | 2=>.v (.int .u64 n.Set.b)
 | 3=>.v (.int .u64 n.Set.c)
 | 4=>.v (.int .u64 n.Set.d)
 | 5=>.v (.int .i64 n.Min)
 | 6=>.v (.int .i64 n.Max)
 | _=>.list Int 1 C7 n.Kids
abbrev S9(s:Set4):PV:=.agg [.v (.int .u64 s.a),.v (.int .u64 s.b),.v (.int .u64 s.c),.v (.int .u64 s.d)]
abbrev bY(n:Node):PV:=.agg [.v (.int .i64 n.Kind),.v (.int .u64 n.Set.a),.v (.int .u64 n.Set.b),.v (.int .u64 n.Set.c),.v (.int .u64 n.Set.d),.v (.int .i64 n.Min),.v (.int .i64 n.Max),.list Int 1 C7 n.Kids]
abbrev P8(l:List Node):PV:=.one (.list Node 8 P5 l)
def K8:Node:=⟨0,set0,0,0,[]⟩
structure PSt where
 at_:Nat
 depth:Nat
 nodes:List Node
abbrev Ps(α:Type):=Except Int (PSt×α)
section
variable (s:Str)
def O1(c:UInt8)(st:PSt):Bool:=decide (s[st.at_]?=some c)
def PSt.skip(st:PSt)(n:Nat):PSt:={ st with at_:=st.at_+n }
def fU(c:UInt8)(st:PSt):PSt:=if O1 s c st=true then st.skip 1 else st
def fF(st:PSt):Ps UInt8:=match s[st.at_]? with
 | none=>.error 40
 | some c=>.ok (st.skip 1,c)
def X8(n:Node)(st:PSt):PSt×Int:=({ st with nodes:=st.nodes++[n] },st.nodes.length)
def y7(a:Int)(kids:List Int)(st:PSt):PSt×Int:=match kids with
 | []=>X8 K8 st
 | [k]=>(st,k)
 | _=>X8 { K8 with Kind:=a,Kids:=kids } st
def iL(t:Set4)(st:PSt):PSt×Int:=X8 { K8 with Kind:=1,Set:=t } st
def bD(a b:UInt8)(l:Str):Bool:=decide (l[0]?=some a/\l[1]?=some b)
def n6(t:Set4)(st:PSt):Ps Set4 :=
 let rest:=s.drop st.at_
 if bD 91 58 rest=true then
  let r:=rest.drop 2
  if Lib.index r [58,93]<0 then .error 40
  else match j8 t (r.take (Lib.index r [58,93]).toNat) with
   | none=>.error 40
   | some b=>.ok (st.skip (4+(Lib.index r [58,93]).toNat),b)
 else match s[st.at_]? with
  | none=>.error 40
  | some c =>
   let r:=s.drop (st.at_+1)
   if r.length<2\/r[0]?≠some 45\/r[1]?=some 93 then .ok (st.skip 1,t.with_ c.toNat)
   else if (r.getD 1 0).toNat<c.toNat then .error 40
   else .ok (st.skip 3,t.through c.toNat (r.getD 1 0).toNat)
def s8:Nat->Set4->PSt->Ps Set4
 | 0,_,_=>.error 0
 | f+1,t,st=>if O1 s 93 st=true then .ok (st.skip 1,t) else match n6 s t st with
  | .error e=>.error e
  | .ok (st',t')=>s8 f t' st'
def s9(f:Nat)(st:PSt):Ps Int :=
 let st1:=st.skip 1;let a:=fU s 94 st1
 match n6 s set0 a with
 | .error e=>.error e
 | .ok (st3,t)=>match s8 s f t st3 with
  | .error e=>.error e
  | .ok (st4,t')=>.ok (iL (if O1 s 94 st1=true then t'.compl else t') st4)
def X2(a:Int)(st:PSt):Ps Int :=
 let r:=X8 { K8 with Kind:=a } (st.skip 1)
 match s[r.1.at_]? with
 | some c=>if c∈([42,43,63,123]:Str) then .error 40 else .ok r
 | none=>.ok r
def kN(a:Str->Nat->Option (Int×Nat))(st:PSt):Ps Int:=match a s st.at_ with
 | none=>.error 40
 | some (n,e)=>if n>100 then .error 40 else .ok ({ st with at_:=e },n)
def Y9(d:Str->Nat->Option (Int×Nat))(st:PSt):Ps (Int×Int):=match kN s d st with
 | .error e=>.error e
 | .ok (st1,least) =>
  let fin:=fun (st:PSt) (a:Int)=>(if O1 s 125 st=false\/(0<=a/\a<least) then .error 40 else .ok (st.skip 1,(least,a)):Ps (Int×Int))
  if O1 s 44 st1=true then
   let b:=st1.skip 1
   match s[b.at_]? with
   | none=>fin b (-1)
   | some c=>if c=125 then fin b (-1) else match kN s d b with
    | .error e=>.error e
    | .ok (st3,a)=>fin st3 a
  else fin st1 least
def Y5(a:Str->Nat->Option (Int×Nat))(st:PSt):Ps (Option (Int×Int)) :=
 if O1 s 42 st=true then .ok (st.skip 1,some (0,-1))
 else if O1 s 43 st=true then .ok (st.skip 1,some (1,-1))
 else if O1 s 63 st=true then .ok (st.skip 1,some (0,1))
 else if O1 s 123 st=true then match Y9 s a (st.skip 1) with
  | .error e=>.error e
  | .ok (st',b)=>.ok (st',some b)
 else .ok (st,none)
def T7(st:PSt):Ps Int:=match fF s st with
 | .error e=>.error e
 | .ok (st',c)=>.ok (iL (set0.with_ c.toNat) st')
def eC(st:PSt):Ps Int:=T7 s (st.skip 1)
def BC(st:PSt):PSt×Int:=iL set0.compl (st.skip 1)
def T8(a:Str->Nat->Option (Int×Nat))(r:Ps Int):Ps Int:=match r with
 | .error e=>.error e
 | .ok (st,atom)=>match Y5 s a st with
  | .error e=>.error e
  | .ok (st',none)=>.ok (st',atom)
  | .ok (st',some (least,most))=>.ok (X8 { K8 with Kind:=6,Min:=least,Max:=most,Kids:=[atom] } st')
mutual
def dA(a:Str->Nat->Option (Int×Nat)):Nat->PSt->Ps Int
 | 0,_=>.error 0
 | f+1,st=>match aI a f st [] with
  | .error e=>.error e
  | .ok (st',k)=>d7 a f st' [k]
def d7(a:Str->Nat->Option (Int×Nat)):Nat->PSt->List Int->Ps Int
 | 0,_,_=>.error 0
 | f+1,st,kids=>if O1 s 124 st=true then match aI a f (st.skip 1) [] with
   | .error e=>.error e
   | .ok (st',k)=>d7 a f st' (kids++[k])
  else .ok (y7 5 kids st)
def aI(a:Str->Nat->Option (Int×Nat)):Nat->PSt->List Int->Ps Int
 | 0,_,_=>.error 0
 | f+1,st,kids=>match s[st.at_]? with
  | none=>.ok (y7 4 kids st)
  | some c=>if c=124\/c=41 then .ok (y7 4 kids st) else match j9 a f st c with
   | .error e=>.error e
   | .ok (st',k)=>aI a f st' (kids++[k])
def j9(a:Str->Nat->Option (Int×Nat)):Nat->PSt->UInt8->Ps Int
 | 0,_,_=>.error 0
 | f+1,st,c =>
  if c=94 then X2 s 2 st
  else if c=36 then X2 s 3 st
  else if c=40 then T8 s a (U8 a f st)
  else if c=91 then T8 s a (s9 s (s.length+2) st)
  else if c=46 then T8 s a (.ok (BC st))
  else if c=92 then T8 s a (eC s st)
  else if c∈([42,43,63,123]:Str) then .error 40
  else T8 s a (T7 s st)
def U8(a:Str->Nat->Option (Int×Nat)):Nat->PSt->Ps Int
 | 0,_=>.error 0
 | f+1,st=>if st.depth=50 then .error 1 else match dA a f { st with at_:=st.at_+1,depth:=st.depth+1 } with
  | .error e=>.error e
  | .ok (st',n)=>if O1 s 41 st'=true then .ok ({ st' with at_:=st'.at_+1,depth:=st'.depth-1 },n) else .error 40
end
def y8(a:Str->Nat->Option (Int×Nat))(f:Nat):List Node×Int :=
 if s.length>256 then ([],1) else match dA s a f ⟨0,0,[]⟩ with
  | .error e=>([],e)
  | .ok (st,_)=>if st.at_<s.length then ([],40) else (st.nodes,0)
end
def v6(n:Node)(i:Int):Bool:=n.Kids.all (fun k=>decide (0<=k/\k<i)) &&
 (if n.Kind=0\/n.Kind=1\/n.Kind=2\/n.Kind=3 then decide (n.Kids.length=0)
 else if n.Kind=4\/n.Kind=5 then decide (2<=n.Kids.length)
 else if n.Kind=6 then decide (n.Kids.length=1/\0<=n.Min/\n.Min<=100/\(n.Max = -1\/n.Min<=n.Max/\n.Max<=100)) else false)
def fN(l:List Node):Int:=if l.length=0\/l.length>4000 then 2 else if (List.range l.length).all (fun i=>v6 (l.getD i K8) i)=true then 0 else 2
def V1(a b:Int):Int:=if b<a then b else a
def w8(w:List Int):Int->List Int->Int
 | acc,[]=>acc
 | acc,k::r=>w8 w (V1 (acc+I0 w k.toNat) 4001) r
def V2(n:Node)(w:List Int):Int :=
 let a:=w8 w 0 n.Kids
 if n.Kind=4 then a
 else if n.Kind=5 then V1 (a+n.Kids.length-1) 4001
 else if n.Kind=6 then (if n.Max<0 then V1 (n.Min*a+a+1) 4001 else V1 (n.Min*a+(n.Max-n.Min)*(a+1)) 4001)
 else 1
def l4:List Node->Nat->List Int->List Int
 | [],_,w=>w
 | n::r,i,w=>l4 r (i+1) (w.set i (V2 n w))
def E9(l:List Node):List Int:=l4 l 0 (List.replicate l.length 0)
structure State where
 Kind:Int
 Set:Set4
 Next:Int
 Other:Int
 deriving DecidableEq
def iM:State->Nat->Cell:=fun n j=>match j with
 | 0=>.v (.int .i64 n.Kind)
 | 1=>.v (.int .u64 n.Set.a)
 | 2=>.v (.int .u64 n.Set.b)
 | 3=>.v (.int .u64 n.Set.c)
 | 4=>.v (.int .u64 n.Set.d)
 | 5=>.v (.int .i64 n.Next)
 | _=>.v (.int .i64 n.Other)
structure Auto where
 States:List State
 Start:Int
 deriving DecidableEq
abbrev YV(n:State):PV:=.agg [.v (.int .i64 n.Kind),.v (.int .u64 n.Set.a),.v (.int .u64 n.Set.b),.v (.int .u64 n.Set.c),.v (.int .u64 n.Set.d),.v (.int .i64 n.Next),.v (.int .i64 n.Other)]
abbrev A35(l:List State):PV:=.one (.list State 7 iM l)
abbrev lQ(a:Auto):PV:=.agg [.list State 7 iM a.States,.v (.int .i64 a.Start)]
def V8:State:=⟨0,set0,0,0⟩
abbrev Bld:=List State×Int
def addS(q:State)(st:List State):Bld:=(st++[q],st.length)
section
variable (ns:List Node) (w:List Int)
mutual
def J8:Nat->Int->Int->List State->Option Bld
 | 0,_,_,_=>none
 | f + 1,i,next,st =>
  if I0 w i.toNat=0 then some (st,next)
  else
   let n:=ns.getD i.toNat K8
   if n.Kind=1 then some (addS { V8 with Kind:=0,Set:=n.Set,Next:=next } st)
   else if n.Kind=2 then some (addS { V8 with Kind:=2,Next:=next } st)
   else if n.Kind=3 then some (addS { V8 with Kind:=3,Next:=next } st)
   else if n.Kind=4 then cB f n.Kids.reverse next st
   else if n.Kind=5 then match n.Kids.reverse with
    | []=>none
    | k::r=>match J8 f k next st with
     | none=>none
     | some (st',start)=>bP f r next start st'
   else if n.Kind=6 then
    let c:=n.Kids.getD 0 0
    if n.Max<0 then
     let b:Int:=st.length
     match J8 f c b (st++[{ V8 with Kind:=1,Other:=next }]) with
     | none=>none
     | some (st',start)=>aK f c n.Min.toNat b (st'.set b.toNat { (st'.getD b.toNat V8) with Next:=start })
    else match aJ f c (n.Max-n.Min).toNat next next st with
     | none=>none
     | some (st',next')=>aK f c n.Min.toNat next' st'
   else some (st,next)
def cB:Nat->List Int->Int->List State->Option Bld
 | 0,_,_,_=>none
 | _+1,[],next,st=>some (st,next)
 | f+1,k::r,next,st=>match J8 f k next st with
  | none=>none
  | some (st',next')=>cB f r next' st'
def bP:Nat->List Int->Int->Int->List State->Option Bld
 | 0,_,_,_,_=>none
 | _+1,[],_,start,st=>some (st,start)
 | f+1,k::r,next,start,st=>match J8 f k next st with
  | none=>none
  | some (st',b)=>bP f r next st'.length (st'++[{ V8 with Kind:=1,Next:=b,Other:=start }])
def aJ:Nat->Int->Nat->Int->Int->List State->Option Bld
 | 0,_,_,_,_,_=>none
 | _+1,_,0,_,next,st=>some (st,next)
 | f+1,kid,m+1,last,next,st=>match J8 f kid next st with
  | none=>none
  | some (st',b)=>aJ f kid m last st'.length (st'++[{ V8 with Kind:=1,Next:=b,Other:=last }])
def aK:Nat->Int->Nat->Int->List State->Option Bld
 | 0,_,_,_,_=>none
 | _+1,_,0,next,st=>some (st,next)
 | f+1,kid,m+1,next,st=>match J8 f kid next st with
  | none=>none
  | some (st',next')=>aK f kid m next' st'
end
end
end
def S0(q:State)(start fin:Bool):List Int :=
 if q.Kind=1 then [q.Next,q.Other] else if q.Kind=2 then (if start=true then [q.Next] else []) else if q.Kind=3 then (if fin=true then [q.Next] else []) else []
def X9(n:Int)(q:State):Bool :=
 if q.Kind=0\/q.Kind=2\/q.Kind=3 then decide (0<=q.Next/\q.Next<n)
 else if q.Kind=1 then decide (0<=q.Next/\q.Next<n/\0<=q.Other/\q.Other<n)
 else decide (q.Kind=4)
def OL(a:Auto):Int:=if a.States.length<1\/a.States.length>8000\/a.Start<0\/a.Start>=a.States.length then 2 else if a.States.all (X9 a.States.length)=true then 0 else 2
structure Thread where
 state:Int
 from_:Int
 deriving DecidableEq
def z8:Thread->Nat->Cell:=fun t j=>match j with
 | 0=>.v (.int .i64 t.state)
 | _=>.v (.int .i64 t.from_)
abbrev Mach:=List Thread×List Bool
section
variable (a:Auto) (s:Str)
def R2(i:Int):State:=a.States.getD i.toNat V8
def fV(at_:Nat)(fr:Int):Nat->List Int->Mach->Mach
 | 0,_,m=>m
 | f+1,opn,m=>match opn.getLast? with
  | none=>m
  | some i=>if J3 m.2 i.toNat=true then fV at_ fr f opn.dropLast m
   else fV at_ fr f (opn.dropLast++S0 (R2 a i) (decide (at_=0)) (decide (at_=s.length))) (m.1++[⟨i,fr⟩],m.2.set i.toNat true)
def wU(at_:Nat)(t:Thread)(m:Mach):Mach:=fV a s at_ t.from_ (3*a.States.length+2) [t.state] m
def V3:List Thread->Int
 | [] => -1
 | t::r=>if (R2 a t.state).Kind=4 then t.from_ else V3 r
def aL(q:Set4)(c:Nat):Int:=match c / 64 with
 | 0=>q.a.fdiv (2 ^ (c % 64)) % 2
 | 1=>q.b.fdiv (2 ^ (c % 64)) % 2
 | 2=>q.c.fdiv (2 ^ (c % 64)) % 2
 | _=>q.d.fdiv (2 ^ (c % 64)) % 2
def kO(at_:Nat)(c:Nat):List Thread->Mach->Mach
 | [],m=>m
 | t::r,m=>kO at_ c r (if (R2 a t.state).Kind=0/\aL (R2 a t.state).Set c=1 then wU a s at_ ⟨(R2 a t.state).Next,t.from_⟩ m else m)
def wV(at_:Nat)(m:Mach):Mach:=kO a s (at_+1) (s.getD at_ 0).toNat m.1 ([],List.replicate a.States.length false)
def iN(fr:Int):List Thread->List Thread
 | []=>[]
 | t::r=>if t.from_>fr then [] else t::iN fr r
def kP:Nat->Nat->Mach->(Int×Int)->Bool->(Int×Int)×Bool
 | 0,_,_,b,fd=>(b,fd)
 | f+1,at_,m,b,fd =>
  let m1:=if fd=true then m else wU a s at_ ⟨a.Start,at_⟩ m
  let i:=V3 a m1.1;let d:=if 0<=i then (i,(at_:Int)) else b
  let c:=if 0<=i then true else fd
  let e:Mach:=if 0<=i then (iN i m1.1,m1.2) else m1
  if at_=s.length\/(c=true/\e.1=[]) then (d,c) else kP f (at_+1) (wV a s at_ e) d c
def iO(b:Nat):(Int×Int)×Bool:=kP a s (s.length+1-b) b ([],List.replicate a.States.length false) (0,0) false
end
structure AG (A:Auto):Prop where
 len:1<=A.States.length/\A.States.length<=8000
 start:0<=A.Start/\A.Start<A.States.length
 good:∀q∈A.States,X9 A.States.length q=true
theorem AG.check{A:Auto}(h:AG A):OL A=0:=by
 obtain⟨a,b⟩:=h.len;obtain⟨c,d⟩:=h.start;unfold OL;rw[A7 (by omega),A6 (C47.2 h.good)]
theorem wW{A:Auto}{i:Int}(h:0<=i/\i<A.States.length):A.States[i.toNat]?=some (R2 A i):=by
 rw[R2,C38,C36 (show i.toNat<A.States.length by omega)];rfl
theorem lR{A:Auto}(a:AG A){i:Int}(h:0<=i/\i<A.States.length):X9 A.States.length (R2 A i)=true:=a.good _ (C60 (wW h))
theorem dP{n:Int}{q:State}(h:X9 n q=true) :
  ((q.Kind=0\/q.Kind=2\/q.Kind=3)/\0<=q.Next/\q.Next<n)\/(q.Kind=1/\(0<=q.Next/\q.Next<n)/\0<=q.Other/\q.Other<n)\/q.Kind=4:=by
 unfold X9 at h;split at h
 ·rename_i a;exact .inl ⟨a,A1 h⟩
 ·split at h
  ·rename_i a;have:=A1 h;exact .inr (.inl ⟨a,⟨this.1,this.2.1⟩,this.2.2⟩)
  ·exact .inr (.inr (A1 h))
theorem wX{A:Auto}(c:AG A){i:Int}(h:0<=i/\i<A.States.length)(b e:Bool):(S0 (R2 A i) b e).length<=2/\∀k∈S0 (R2 A i) b e,0<=k/\k<A.States.length:=by
 have d:=dP (lR c h);unfold S0
 repeat' split
 all_goals refine⟨by simp,fun k a=>?_⟩
 all_goals simp only[C50,D07,or_false]at a
 ·rcases a with rfl | rfl
  ·omega
  ·omega
 ·subst a;omega
 ·subst a;omega
structure MG (A:Auto) (m:Mach):Prop where
 sl:m.2.length=A.States.length
 cnt:m.1.length+m.2.count false<=A.States.length
 st:∀t∈m.1,0<=t.state/\t.state<A.States.length
theorem LA{sn:List Bool}:∀{i:Nat},sn[i]?=some false->(sn.set i true).count false+1=sn.count false:=by
 induction sn with
 | nil=>intro i h;cases h
 | cons b r a =>
  intro i h;cases i with
  | zero =>
   rw[List.getElem?_cons_zero]at h;cases h;simp
  | succ i =>
   rw[List.getElem?_cons_succ]at h;have:=a h;rw[List.set_cons_succ,List.count_cons,List.count_cons];omega
theorem MG.first(A:Auto):MG A ([],List.replicate A.States.length false):=⟨by simp,by simp,fun _ h=>by cases h⟩
theorem YW{sn:List Bool}{i:Nat}(h:i<sn.length):sn[i]?=some (J3 sn i):=by
 unfold J3;rw[C36 h];rfl
theorem MG.push{A:Auto}{m:Mach}(h:MG A m){i:Int}(c:0<=i/\i<A.States.length)(fr:Int)(d:J3 m.2 i.toNat=false):MG A (m.1++[⟨i,fr⟩],m.2.set i.toNat true):=by
 have b:=h.sl;have e:=LA (sn:=m.2) (i:=i.toNat) (by rw[<-d];exact YW (by omega));have f:=h.cnt;refine⟨by dsimp only;rw[C78];exact b,by dsimp only;rw[C40,C51];omega,fun t a=>?_⟩;rcases C49.1 a with a | a
 ·exact h.st t a
 ·rw[C42.1 a];exact c
section
variable (A:Auto) (s:Str)
def TW(a:List Int)(m:Mach):Nat:=3*m.2.count false+a.length
theorem LB(a:Nat)(fr:Int)(f:Nat)(m:Mach):fV A s a fr f [] m=m:=by
 cases f<;>rfl
theorem FW{a:Nat}{fr:Int}{f:Nat}{b:List Int}{i:Int}{m:Mach}(h:b.getLast?=some i)(c:J3 m.2 i.toNat=true):fV A s a fr (f+1) b m=fV A s a fr f b.dropLast m:=by
 rw[fV,h];simp only[c,if_true]
theorem LC{a:Nat}{fr:Int}{f:Nat}{b:List Int}{i:Int}{m:Mach}(h:b.getLast?=some i)(c:J3 m.2 i.toNat=false) :
  fV A s a fr (f+1) b m=fV A s a fr f (b.dropLast++S0 (R2 A i) (decide (a=0)) (decide (a=s.length))) (m.1++[⟨i,fr⟩],m.2.set i.toNat true):=by
 rw[fV,h];simp only[c,Bool.false_eq_true,if_false]
theorem wY{a:List Int}{i:Int}(h:a.getLast?=some i):a≠[]/\a[a.length-1]?=some i/\i∈a:=by
 have b:a≠[]:=fun e=>by rw[e]at h;cases h
 rw[List.getLast?_eq_getElem?]at h;exact⟨b,h,C60 h⟩
variable {A}
theorem uA(e:AG A){a:Nat}{fr:Int}:∀(f:Nat) (b:List Int) (m:Mach),(∀k∈b,0<=k/\k<A.States.length)->MG A m->MG A (fV A s a fr f b m)
 | 0,_,_,_,h=>h
 | f+1,b,m,ho,h=>by
  cases d:b.getLast? with
  | none=>rw[fV,d];exact h
  | some i =>
   have l:=ho i (wY d).2.2;have j:∀k∈b.dropLast,0<=k/\k<A.States.length:=fun k c=>ho k (List.dropLast_subset _ c);cases g:J3 m.2 i.toNat
   ·rw[LC A s d g];refine uA e f _ _ (fun k c=>?_) (h.push l fr g);rcases C49.1 c with c | c
    ·exact j k c
    ·exact (wX e l _ _).2 k c
   ·rw[FW A s d g];exact uA e f _ _ j h
theorem yQ(b:AG A){a:Nat}{t:Thread}(d:0<=t.state/\t.state<A.States.length){m:Mach}(h:MG A m):MG A (wU A s a t m) :=
 uA s b _ _ _ (fun k c=>by rw[C42.1 c];exact d) h
theorem AI(y:AG A){a:Nat}{fr:Int}{f:Nat}{b:List Int}{m R:Mach}(q:MG A m)(v:∀k∈b,0<=k/\k<A.States.length)(z:TW b m<f)(l:fV A s a fr f b m=R){i:Int}(p:b.getLast?=some i) :
  ∃e c j,f=e+1/\fV A s a fr e c j=R/\TW c j<e/\TW c j<TW b m/\MG A j/\(∀k∈c,0<=k/\k<A.States.length) /\
   (J3 m.2 i.toNat=true->c=b.dropLast/\j=m)/\(J3 m.2 i.toNat=false->c=b.dropLast++S0 (R2 A i) (decide (a=0)) (decide (a=s.length))/\j=(m.1++[⟨i,fr⟩],m.2.set i.toNat true)):=by
 obtain⟨r,C,o⟩:=wY p;have u:=v i o;have w:0<b.length:=List.length_pos_iff.2 r;have d:b.dropLast.length=b.length-1:=List.length_dropLast;have t:∀k∈b.dropLast,0<=k/\k<A.States.length:=fun k g=>v k (List.dropLast_subset _ g);obtain⟨e,rfl⟩:∃e,f=e+1:=⟨f-1,by omega⟩
 unfold TW at z;cases n:J3 m.2 i.toNat
 ·have B:=LA (sn:=m.2) (i:=i.toNat) (by rw[<-n];exact YW (by rw[q.sl];omega));have x:=wX y u (decide (a=0)) (decide (a=s.length));rw[LC A s p n]at l;refine⟨e,_,_,rfl,l,?_,?_,q.push u fr n,(fun k g=>?_),⟨(fun h=>by cases h),fun _=>⟨rfl,rfl⟩⟩⟩
  ·unfold TW;rw[C40,d];dsimp only;omega
  ·unfold TW;rw[C40,d];dsimp only;omega
  ·rcases C49.1 g with g | g
   ·exact t k g
   ·exact x.2 k g
 ·rw[FW A s p n]at l;refine⟨e,_,_,rfl,l,?_,?_,q,t,⟨(fun _=>⟨rfl,rfl⟩),fun h=>by cases h⟩⟩
  ·unfold TW;rw[d];omega
  ·unfold TW;rw[d];omega
theorem AJ(b:AG A){a c:Nat}:∀(d:List Thread) (m:Mach),(∀t∈d,0<=t.state/\t.state<A.States.length)->MG A m->MG A (kO A s a c d m)
 | [],_,_,h=>h
 | t::r,m,ht,h=>by
  rw[kO];refine AJ b r _ (fun x e=>ht x (C55 _ e)) ?_;split
  ·rename_i f;refine yQ s b ?_ h;have:=dP (lR b (ht t (C56 ..)));dsimp only;omega
  ·exact h
theorem FX(b:AG A){a:Nat}{m:Mach}(h:MG A m):MG A (wV A s a m):=AJ s b _ _ h.st (MG.first A)
theorem uB{fr:Int}:∀{th:List Thread} {i:Nat},(∀t∈th.take i,t.from_<=fr)->(∀t,th[i]?=some t->t.from_>fr)->iN fr th=th.take i
 | [],i,_,_=>by simp[iN]
 | t::r,0,_,h2=>by
  have:=h2 t rfl;unfold iN;rw[A6 this];rfl
 | t::r,i+1,h1,h2=>by
  have c:=h1 t (by simp);have b:=uB (fr:=fr) (th:=r) (i:=i) (fun x a=>h1 x (by rw[List.take_succ_cons];exact C55 _ a)) (fun x a=>h2 x a);rw[iN,A7 (by omega),List.take_succ_cons,b]
theorem TX(fr:Int):∀a:List Thread,(iN fr a).length<=a.length/\∀t∈iN fr a,t∈a
 | []=>⟨C45 _,fun _ h=>h⟩
 | t::r=>by
  have c:=TX fr r;unfold iN;split
  ·exact⟨C41 _,fun _ h=>by cases h⟩
  ·refine⟨by rw[C46,C46];omega,fun x b=>?_⟩;rcases C50.1 b with rfl | b
   ·simp
   ·exact C55 _ (c.2 x b)
theorem MG.keep{m:Mach}(h:MG A m)(fr:Int):MG A (iN fr m.1,m.2):=by
 have a:=TX fr m.1;have c:=h.cnt;exact⟨h.sl,by dsimp only;omega,fun t b=>h.st t (a.2 t b)⟩
end
end Go.AL
attribute [local semireducible] Go.AL.Neu Go.AL.Eff Go.AL.EffV Go.AL.WpL Go.AL.WpC Go.AL.FnOk Go.AL.LexD Go.AL.Sees Go.AL.RetOk Go.AL.FnIo Go.AL.Met Go.AL.RetS
namespace Go.AL
open Go Go.RowKit
set_option linter.unusedVariables false
variable {P:Program}{dst:Option Tmp}{ty:TypeId}{pos:String}{af:Array Edge}{gd:Option (Nat×Bool)}{fr:Fr}{ob:Obs}{nt:Nat}
theorem V4{x y:Operand}{t e:TypeId}{n a k off m:Nat}{h:IntKind}{i:Int}[ht:TyArr P t e n a](c:opv fr x=some (.s (.one (.ref k off))))(g:opv fr y=some (I7 (.int h i)))(b:i=(m:Int))(l:m<n) :
  Neu P ⟨dst,.indexAddr t x y,ty,pos,af,gd⟩ fr ob (fun j=>j=.s (.one (.ref k (off+m*a)))):=by
 subst b;exact dI c g (by omega) (by omega)
theorem rI{ops:Array Oper}{rest:List Oper}{Q:Post}{d:Nat}{z:Op}{ty:TypeId}{pos:String}{af:Array Edge}{j t:Nat}{b:Bool}(q:(ops[j]?).bind (·.dst)=some t)(m:Nat.blt t nt=true)(r:D5 fr t=some .un)(o:Nat.blt d nt=true)
  (k:WpL P nt ops rest ((d,.un)::fr) ob Q):WpL P nt ops (⟨some d,z,ty,pos,af,some (j,b)⟩::rest) fr ob Q:=by
 intro S G a w h f;have g:d<S.nt:=by rw[h];simpa using o
 have p:=k S G _ w h (f.put (s:=.un) (v:=undef) g rfl);have c:t<a.tmps.size:=by rw[f.nt,h];simpa using m
 have x:=(Wants.un (b:=b)).yields (f.fact (by rw[<-f.nt];exact c) r) q c rfl;unfold wpList;rw[A7 (by unfold Region.wanted;simp only;rw[x];simp)];exact p
theorem A36{c m:Nat}(a:c<256)(h:c / 64=m):IntKind.u8.wrap ((c:Int).tdiv 64)=(m:Int):=by
 rw[Int.tdiv_eq_ediv_of_nonneg (by omega)];simp[IntKind.wrap,IntKind.signed,IntKind.bits];omega
theorem A37(c:Nat):min ((c:Int).tmod 64).toNat IntKind.u64.bits=c % 64:=by
 rw[Int.tmod_eq_emod_of_nonneg (by omega)];simp only[IntKind.bits];omega
theorem FY(x:Int):IntKind.u64.wrap ((BitVec.ofInt IntKind.u64.bits x &&& BitVec.ofInt IntKind.u64.bits 1).toNat:Int)=x % 2:=by
 have b:(BitVec.ofInt IntKind.u64.bits 1).toNat=1:=by decide
 rw[BitVec.toNat_and,b,Nat.and_one_is_mod,BitVec.toNat_ofInt,show ((2 ^ IntKind.u64.bits:Nat):Int)=18446744073709551616 by rfl];simp[IntKind.wrap,IntKind.signed,IntKind.bits];omega
def G6(s:Str)(i:Nat):Option (Int×Nat):=(fE (s.drop i)).map fun p=>((p.1:Int),i+p.2)
theorem digs_le(s:Str):(N5 s).length<=s.length:=(List.takeWhile_sublist _).length_le
theorem numF_le{s:Str}{i e:Nat}{n:Int}(f:i<=s.length)(h:G6 s i=some (n,e)):i<e/\e<=s.length/\0<=n:=by
 unfold G6 at h;cases a:fE (s.drop i) with
 | none=>rw[a]at h;cases h
 | some p =>
  obtain⟨m,k⟩:=p;rw[a]at h;cases h;unfold fE at a;split at a
  ·cases a
  ·rename_i b;cases a;have c:=digs_le (s.drop i);rw[C61]at c;have d:0<(N5 (s.drop i)).length:=List.length_pos_iff.2 fun e=>b (.inl e);omega
def FZ(l:List Node):Prop:=∀(i:Nat) (n:Node),l[i]?=some n->v6 n i=true
theorem B83{l:List Node}{n:Node}(h:FZ l)(f:v6 n l.length=true):FZ (l++[n]):=fun i x a=>by
 rw[List.getElem?_append]at a;split at a
 ·exact h i x a
 ·rename_i d;obtain⟨c,b⟩:=C44.1 a;simp only[C51]at c;have e:i=l.length:=by omega
  subst e;simp at b;rw[<-b];exact f
section
variable (s:Str)
abbrev uC(st:PSt)(k:Int):Prop:=0<=k/\k<st.nodes.length
structure Gr (a b:Nat) (st st':PSt):Prop where
 at_:st.at_<=st'.at_
 len:st'.at_<=s.length
 dep:st'.depth=st.depth
 cnt:st'.nodes.length+st.at_+a<=st.nodes.length+st'.at_+b
 more:st.nodes.length<=st'.nodes.length
 ok:FZ st.nodes->FZ st'.nodes
variable {s}
theorem Gr.trans{a b c d:Nat}{x y z:PSt}(h:Gr s a b x y)(g:Gr s c d y z):Gr s (a+c) (b+d) x z where
 at_:=C82 h.at_ g.at_
 len:=g.len
 dep:=g.dep.trans h.dep
 cnt:=by have:=h.cnt;have:=g.cnt;omega
 more:=C82 h.more g.more
 ok:=fun k=>g.ok (h.ok k)
theorem Gr.le{a b c d:Nat}{x y:PSt}(h:Gr s a b x y)(e:c+b<=a+d):Gr s c d x y where
 at_:=h.at_
 len:=h.len
 dep:=h.dep
 cnt:=by have:=h.cnt;omega
 more:=h.more
 ok:=h.ok
theorem Gr.refl{x:PSt}(h:x.at_<=s.length):Gr s 0 0 x x:=⟨C45 _,h,rfl,by omega,C45 _,fun h=>h⟩
theorem L7{x:PSt}(k:Nat)(h:x.at_+k<=s.length):Gr s k 0 x (x.skip k):=⟨Nat.le_add_right _ _,h,rfl,by show x.nodes.length+x.at_+k<=x.nodes.length+(x.at_+k)+0;omega,C45 _,fun h=>h⟩
theorem gr_at{x:PSt}(e:Nat)(h:x.at_<=e)(a:e<=s.length):Gr s (e-x.at_) 0 x { x with at_:=e }:=⟨h,a,rfl,by show x.nodes.length+x.at_+(e-x.at_)<=x.nodes.length+e+0;omega,C45 _,fun h=>h⟩
theorem uD{x:PSt}{n:Node}(h:x.at_<=s.length)(a:v6 n x.nodes.length=true):Gr s 0 1 x (X8 n x).1/\uC (X8 n x).1 (X8 n x).2:=by
 refine⟨⟨C45 _,h,rfl,?_,?_,fun k=>B83 k a⟩,?_⟩
 ·show (x.nodes++[n]).length+x.at_+0<=x.nodes.length+x.at_+1;rw[C40,C51];omega
 ·show x.nodes.length<=(x.nodes++[n]).length;rw[C40];omega
 ·show 0<=(x.nodes.length:Int)/\(x.nodes.length:Int)<((x.nodes++[n]).length:Int);rw[C40,C51];omega
theorem lS{k:Int}{t:Set4}{i:Int}(h:k=0\/k=1\/k=2\/k=3):v6 ⟨k,t,0,0,[]⟩ i=true:=by
 unfold v6;rw[A6 h];rfl
theorem YX{x:PSt}(t:Set4)(h:x.at_<=s.length):Gr s 0 1 x (iL t x).1/\uC (iL t x).1 (iL t x).2:=uD h (lS (.inr (.inl rfl)))
theorem A38{kids:List Int}{n:Nat}(h:∀k∈kids,0<=k/\k<(n:Int)):(kids.all fun k=>decide (0<=k/\k<(n:Int)))=true:=C47.2 fun k a=>A4 (h k a)
theorem GC{x:PSt}{kind:Int}(b:kind=4\/kind=5){kids:List Int}(a:∀k∈kids,uC x k)(h:x.at_<=s.length):Gr s 0 1 x (y7 kind kids x).1/\uC (y7 kind kids x).1 (y7 kind kids x).2:=by
 match kids,a with
 | [],_=>exact uD h (lS (.inl rfl))
 | [k],a=>exact⟨(Gr.refl h).le (by omega),a k (C56 ..)⟩
 | k::l::r,a =>
  refine uD h ?_;unfold v6;dsimp only[K8];rw[A38 a,A7 (by omega),A6 b,C84];exact A4 (by simp only[C46];omega)
theorem l5{x:PSt}{c:UInt8}(h:O1 s c x=true):x.at_+1<=s.length:=by
 have a:=A1 h;have:=(C44.1 a).1;omega
theorem pY{x:PSt}(c:UInt8)(h:x.at_<=s.length):Gr s 0 0 x (fU s c x):=by
 unfold fU;split
 ·rename_i a;exact (L7 1 (l5 a)).le (by omega)
 ·exact Gr.refl h
theorem rJ{x y:PSt}{c:UInt8}(h:fF s x=.ok (y,c)):Gr s 1 0 x y:=by
 unfold fF at h;split at h
 ·cases h
 ·rename_i a;cases h;exact L7 1 (by have:=(C44.1 a).1;omega)
theorem lT{x y:PSt}{n:Int}(h:T7 s x=.ok (y,n)):Gr s 0 0 x y/\uC y n:=by
 unfold T7 at h;cases a:fF s x with
 | error e=>rw[a]at h;cases h
 | ok p =>
  obtain⟨z,c⟩:=p;rw[a]at h;have g:=rJ a;obtain⟨g1,b⟩:=YX (s:=s) (x:=z) (set0.with_ c.toNat) g.len;cases h;exact⟨(g.trans g1).le (by omega),b⟩
theorem YY{x:PSt}(h:x.at_+1<=s.length):Gr s 0 0 x (BC x).1/\uC (BC x).1 (BC x).2:=by
 have g:=L7 (s:=s) (x:=x) 1 h;obtain⟨g1,a⟩:=YX (s:=s) (x:=x.skip 1) set0.compl h;exact⟨(g.trans g1).le (by omega),a⟩
theorem rK{x y:PSt}{n:Int}(b:x.at_+1<=s.length)(h:eC s x=.ok (y,n)):Gr s 0 0 x y/\uC y n:=by
 have g:=L7 (s:=s) (x:=x) 1 b;obtain⟨g1,a⟩:=lT h;exact⟨(g.trans g1).le (by omega),a⟩
theorem LD{x y:PSt}{kind n:Int}(f:kind=2\/kind=3)(b:x.at_+1<=s.length)(h:X2 s kind x=.ok (y,n)):Gr s 0 0 x y/\uC y n:=by
 have g:=L7 (s:=s) (x:=x) 1 b;obtain⟨g1,a⟩:=uD (s:=s) (x:=x.skip 1) (n:={ K8 with Kind:=kind }) b (lS (by omega));have key:X2 s kind x=.ok (X8 { K8 with Kind:=kind } (x.skip 1))->Gr s 0 0 x y/\uC y n:=fun e=>by
  rw[e]at h;cases h;exact⟨(g.trans g1).le (by omega),a⟩
 unfold X2 at h key;dsimp only at h key;split at h
 ·split at h
  ·cases h
  ·rename_i c d;cases h;exact⟨(g.trans g1).le (by omega),a⟩
 ·cases h;exact⟨(g.trans g1).le (by omega),a⟩
theorem OM{x y:PSt}{n:Int}(a:x.at_<=s.length)(h:kN s G6 x=.ok (y,n)):Gr s 1 0 x y/\0<=n/\n<=100:=by
 unfold kN at h;split at h
 ·cases h
 ·rename_i m e d;obtain⟨f,b,c⟩:=numF_le a d;split at h
  ·cases h
  ·cases h;exact⟨(gr_at e (by omega) b).le (by omega),c,by omega⟩
abbrev bndOk(b:Int×Int):Prop:=0<=b.1/\b.1<=100/\(b.2 = -1\/b.1<=b.2/\b.2<=100)
theorem ON{x y:PSt}{c a:Int}{b:Int×Int}(h:(if O1 s 125 x=false\/(0<=a/\a<c) then .error 40 else .ok (x.skip 1,(c,a)):Ps (Int×Int))=.ok (y,b)):Gr s 1 0 x y/\b=(c,a)/\¬(0<=a/\a<c):=by
 split at h
 ·cases h
 ·rename_i d;have f:O1 s 125 x=true:=by
   cases g:O1 s 125 x
   ·exact absurd (.inl g) d
   ·rfl
  cases h;exact⟨L7 1 (l5 f),rfl,fun e=>d (.inr e)⟩
theorem B18{x y:PSt}{b:Int×Int}(B:x.at_<=s.length)(h:Y9 s G6 x=.ok (y,b)):Gr s 1 0 x y/\bndOk b:=by
 unfold Y9 at h;cases u:kN s G6 x with
 | error e=>rw[u]at h;cases h
 | ok p =>
  obtain⟨z,v⟩:=p;rw[u]at h;dsimp only at h;obtain⟨g1,g,d⟩:=OM B u;split at h
  ·rename_i j;have f:=L7 (s:=s) (x:=z) 1 (l5 j);split at h
   ·obtain⟨c,rfl,_⟩:=ON h;exact⟨((g1.trans f).trans c).le (by omega),g,d,.inl rfl⟩
   ·split at h
    ·obtain⟨c,rfl,_⟩:=ON h;exact⟨((g1.trans f).trans c).le (by omega),g,d,.inl rfl⟩
    ·cases m:kN s G6 (z.skip 1) with
     | error e=>rw[m]at h;cases h
     | ok q =>
      obtain⟨D,w⟩:=q;rw[m]at h;dsimp only at h;obtain⟨c,m1,C⟩:=OM f.len m;obtain⟨A,rfl,j⟩:=ON h;refine⟨(((g1.trans f).trans c).trans A).le (by omega),g,d,.inr ?_⟩;dsimp only;omega
  ·obtain⟨c,rfl,j⟩:=ON h;exact⟨(g1.trans c).le (by omega),g,d,.inr ⟨Int.le_refl _,d⟩⟩
theorem pZ{x y:PSt}{b:Option (Int×Int)}(_h0:x.at_<=s.length)(h:Y5 s G6 x=.ok (y,b)):(b=none/\y=x)\/∃q,b=some q/\Gr s 1 0 x y/\bndOk q:=by
 unfold Y5 at h;split at h
 ·rename_i a;cases h;exact .inr ⟨_,rfl,L7 1 (l5 a),by decide⟩
 split at h
 ·rename_i a;cases h;exact .inr ⟨_,rfl,L7 1 (l5 a),by decide⟩
 split at h
 ·rename_i a;cases h;exact .inr ⟨_,rfl,L7 1 (l5 a),by decide⟩
 split at h
 ·rename_i a;have g:=L7 (s:=s) (x:=x) 1 (l5 a);split at h
  ·cases h
  ·rename_i z q hb;obtain⟨c,d⟩:=B18 g.len hb;cases h;exact .inr ⟨_,rfl,(g.trans c).le (by omega),d⟩
 ·cases h;exact .inl ⟨rfl,rfl⟩
theorem lU{x y:PSt}{r:Ps Int}{n:Int}(A:∀z k,r=.ok (z,k)->Gr s 0 0 x z/\uC z k)(h:T8 s G6 r=.ok (y,n)):Gr s 0 0 x y/\uC y n:=by
 unfold T8 at h;split at h
 ·cases h
 ·rename_i z k;obtain⟨g1,g⟩:=A z k rfl;split at h
  ·cases h
  ·rename_i f;cases h;rcases pZ g1.len f with ⟨_,rfl⟩ | ⟨q,c,_⟩
   ·exact⟨g1,g⟩
   ·cases c
  ·rename_i i b d f;rcases pZ g1.len f with ⟨c,_⟩ | ⟨q,c,g2,hb⟩
   ·cases c
   ·cases c;have B:uC i k:=⟨g.1,by have:=g2.more;have:=g.2;omega⟩
    obtain⟨v,i3⟩:=uD (s:=s) (x:=i) (n:={ K8 with Kind:=6,Min:=b,Max:=d,Kids:=[k] }) g2.len (by
     unfold v6;dsimp only[K8];rw[A38 (fun j w=>by rw[C42.1 w];exact B),A7 (by omega),A7 (by omega),A6 rfl,C84];obtain⟨m,p,u⟩:=hb
     exact A4 ⟨rfl,m,p,u⟩)
    cases h;exact⟨((g1.trans g2).trans v).le (by omega),i3⟩
theorem nS{x y:PSt}{t v:Set4}(_h0:x.at_<=s.length)(h:n6 s t x=.ok (y,v)):Gr s 1 0 x y:=by
 unfold n6 at h;dsimp only at h;split at h
 ·rename_i b;split at h
  ·cases h
  ·rename_i w;split at h
   ·cases h
   ·cases h;have f:=Lib.index_room ((s.drop x.at_).drop 2) [58,93] (by omega);rw[C61,C61,show (([58,93]:Str).length)=2 from rfl]at f;have i:=A1 b;have j:=(C44.1 i.2).1;rw[C61]at j;refine (L7 (4+(Lib.index ((s.drop x.at_).drop 2) [58,93]).toNat) ?_).le (by omega);omega
 ·split at h
  ·cases h
  ·rename_i c m;have q:=(C44.1 m).1;split at h
   ·cases h;exact L7 1 (by omega)
   ·rename_i u;split at h
    ·cases h
    ·cases h;refine (L7 3 ?_).le (by omega);rw[C61]at u;omega
theorem GD:∀(f:Nat) {x y:PSt} {t a:Set4},x.at_<=s.length->s8 s f t x=.ok (y,a)->Gr s 1 0 x y
 | 0,_,_,_,_,_,h=>by cases h
 | f+1,x,y,t,a,h0,h=>by
  unfold s8 at h;split at h
  ·rename_i b;cases h;exact L7 1 (l5 b)
  ·split at h
   ·cases h
   ·rename_i z d c;have g:=nS h0 c;exact (g.trans (GD f g.len h)).le (by omega)
theorem wZ{f:Nat}{x y:PSt}{n:Int}(p:x.at_+1<=s.length)(h:s9 s f x=.ok (y,n)):Gr s 0 0 x y/\uC y n:=by
 unfold s9 at h;dsimp only at h;have g1:=L7 (s:=s) (x:=x) 1 p;have g:=pY (s:=s) (x:=x.skip 1) 94 g1.len;split at h
 ·cases h
 ·rename_i w t q;have i:=nS g.len q;split at h
  ·cases h
  ·rename_i v m u;have j:=GD f i.len u;have b:=YX (s:=s) (x:=v) (if O1 s 94 (x.skip 1)=true then m.compl else m) j.len;have e:=Except.ok.inj h;have c:=congrArg Prod.fst e;have d:=congrArg Prod.snd e;dsimp only at c d;rw[c,d]at b;exact⟨((((g1.trans g).trans i).trans j).trans b.1).le (by omega),b.2⟩
theorem LF{x y:PSt}{t b:Set4}(a:O0 t)(h:n6 s t x=.ok (y,b)):O0 b:=by
 unfold n6 at h;dsimp only at h;split at h
 ·split at h
  ·cases h
  ·split at h
   ·cases h
   ·rename_i c;cases h;exact FV a c
 ·split at h
  ·cases h
  ·split at h
   ·cases h;exact rH a _
   ·split at h
    ·cases h
    ·cases h;exact M9 a _ _
theorem iP{x y:PSt}{k:Int}(h:x.nodes.length<=y.nodes.length)(a:uC x k):uC y k:=⟨a.1,by have:=a.2;omega⟩
structure GrAll (f:Nat):Prop where
 pat:∀{x y:PSt} {n:Int},x.at_<=s.length->dA s G6 f x=.ok (y,n)->Gr s 0 2 x y/\uC y n
 loop:∀{x y:PSt} {kids:List Int} {n:Int},x.at_<=s.length->(∀k∈kids,uC x k)->d7 s G6 f x kids=.ok (y,n)->Gr s 0 1 x y/\uC y n
 alt:∀{x y:PSt} {kids:List Int} {n:Int},x.at_<=s.length->(∀k∈kids,uC x k)->aI s G6 f x kids=.ok (y,n)->Gr s 0 1 x y/\uC y n
 piece:∀{x y:PSt} {c:UInt8} {n:Int},s[x.at_]?=some c->j9 s G6 f x c=.ok (y,n)->Gr s 0 0 x y/\uC y n
 paren:∀{x y:PSt} {n:Int},x.at_+1<=s.length->U8 s G6 f x=.ok (y,n)->Gr s 0 0 x y/\uC y n
theorem Y6:∀f:Nat,GrAll (s:=s) f
 | 0=>⟨(fun _ h=>by cases h),(fun _ _ h=>by cases h),(fun _ _ h=>by cases h),(fun _ h=>by cases h),(fun _ h=>by cases h)⟩
 | f + 1=>by
  have m:=Y6 f;refine⟨?_,?_,?_,?_,?_⟩
  ·intro x y n o h;rw[dA]at h;split at h
   ·cases h
   ·rename_i z k ha;obtain⟨g1,i1⟩:=m.alt o (fun k g=>by cases g) ha;obtain⟨q,i2⟩:=m.loop g1.len (fun j a=>by rw[C42.1 a];exact i1) h;exact⟨(g1.trans q).le (by omega),i2⟩
  ·intro x y kids n o g h;rw[d7]at h;split at h
   ·rename_i p;have g0:=L7 (s:=s) (x:=x) 1 (l5 p);split at h
    ·cases h
    ·rename_i z k ha;obtain⟨g1,i1⟩:=m.alt g0.len (fun k g=>by cases g) ha;have u:=g0.trans g1
     obtain⟨q,i2⟩:=m.loop g1.len (fun j a=>by
      rcases C49.1 a with a | a
      ·exact iP u.more (g j a)
      ·rw[C42.1 a];exact i1) h
     exact⟨(u.trans q).le (by omega),i2⟩
   ·have d:=GC (s:=s) (x:=x) (kind:=5) (.inr rfl) g o;have e:=Except.ok.inj h;rw[e]at d;exact d
  ·intro x y kids n o g h;have d:=GC (s:=s) (x:=x) (kind:=4) (.inl rfl) g o;rw[aI]at h;split at h
   ·rw[Except.ok.inj h]at d;exact d
   ·rename_i c p;split at h
    ·rw[Except.ok.inj h]at d;exact d
    ·split at h
     ·cases h
     ·rename_i z k t;obtain⟨g1,i1⟩:=m.piece p t
      obtain⟨q,i2⟩:=m.alt g1.len (fun j a=>by
       rcases C49.1 a with a | a
       ·exact iP g1.more (g j a)
       ·rw[C42.1 a];exact i1) h
      exact⟨(g1.trans q).le (by omega),i2⟩
  ·intro x y c n p h;have b:x.at_+1<=s.length:=by have:=(C44.1 p).1;omega
   rw[j9]at h;split at h
   ·exact LD (.inl rfl) b h
   split at h
   ·exact LD (.inr rfl) b h
   split at h
   ·exact lU (fun z k e=>m.paren b e) h
   split at h
   ·exact lU (fun z k e=>wZ b e) h
   split at h
   ·exact lU (fun z k e=>by
     have d:=YY (s:=s) (x:=x) b
     rw[Except.ok.inj e]at d;exact d) h
   split at h
   ·exact lU (fun z k e=>rK b e) h
   split at h
   ·cases h
   ·exact lU (fun z k e=>lT e) h
  ·intro x y n o h;rw[U8]at h;split at h
   ·cases h
   ·split at h
    ·cases h
    ·rename_i z k t;split at h
     ·rename_i p;obtain⟨g1,i1⟩:=m.pat (x:={ x with at_:=x.at_+1,depth:=x.depth+1 }) o t;cases h;have B:=l5 p;have v:=g1.at_;have w:=g1.dep;have A:=g1.cnt;dsimp only at v w A;exact⟨⟨by dsimp only;omega,by dsimp only;omega,by dsimp only;omega,by dsimp only;omega,g1.more,g1.ok⟩,i1⟩
     ·cases h
end
variable {s:Str}
theorem num_nz{x:PSt}:kN s G6 x≠.error 0:=fun h=>by
 unfold kN at h;split at h
 ·cases h
 ·split at h<;>cases h
theorem B19{x:PSt}:Y9 s G6 x≠.error 0:=fun h=>by
 unfold Y9 at h;dsimp only at h;split at h
 ·rename_i e a;cases h;exact num_nz a
 ·split at h
  ·split at h
   ·split at h<;>cases h
   ·split at h
    ·split at h<;>cases h
    ·split at h
     ·rename_i e a;cases h;exact num_nz a
     ·split at h<;>cases h
  ·split at h<;>cases h
theorem B84{x:PSt}:Y5 s G6 x≠.error 0:=fun h=>by
 unfold Y5 at h;split at h
 ·cases h
 split at h
 ·cases h
 split at h
 ·cases h
 split at h
 ·split at h
  ·rename_i e a;cases h;exact B19 a
  ·cases h
 ·cases h
theorem LG{x:PSt}:T7 s x≠.error 0:=fun h=>by
 unfold T7 at h;split at h
 ·rename_i e a;cases h;unfold fF at a;split at a<;>cases a
 ·cases h
theorem A39{x:PSt}{t:Set4}:n6 s t x≠.error 0:=fun h=>by
 unfold n6 at h;dsimp only at h;split at h
 ·split at h
  ·cases h
  ·split at h<;>cases h
 ·split at h
  ·cases h
  ·split at h
   ·cases h
   ·split at h<;>cases h
theorem Gr.prog{a:Nat}{x y:PSt}(h:Gr s (a+1) 0 x y):x.at_<y.at_:=by have:=h.cnt;have:=h.more;omega
theorem TY:∀(f:Nat) {x:PSt} {t:Set4},x.at_<=s.length->s.length-x.at_<f->s8 s f t x≠.error 0
 | 0,_,_,_,h=>by omega
 | f+1,x,t,h0,h=>fun e=>by
  unfold s8 at e;split at e
  ·cases e
  ·split at e
   ·rename_i c a;cases e;exact A39 a
   ·rename_i y i b;have g:=nS h0 b;have d:=g.prog;exact TY f g.len (by have:=g.len;omega) e
theorem B85{x:PSt}(d:x.at_+1<=s.length):s9 s (s.length+2) x≠.error 0:=fun h=>by
 unfold s9 at h;dsimp only at h;have g1:=L7 (s:=s) (x:=x) 1 d;have b:=pY (s:=s) (x:=x.skip 1) 94 g1.len;split at h
 ·rename_i e a;cases h;exact A39 a
 ·rename_i g t f;have c:=nS b.len f;split at h
  ·rename_i e a;cases h;exact TY _ c.len (by omega) a
  ·cases h
theorem LH{x:PSt}{a:Int}:X2 s a x≠.error 0:=fun h=>by
 unfold X2 at h;dsimp only at h;split at h
 ·split at h<;>cases h
 ·cases h
theorem lV{r:Ps Int}(b:r≠.error 0):T8 s G6 r≠.error 0:=fun h=>by
 unfold T8 at h;split at h
 ·cases h;exact b rfl
 ·split at h
  ·rename_i e a;cases h;exact B84 a
  ·cases h
  ·cases h
theorem AK{x y:PSt}{a n:Int}(h:X2 s a x=.ok (y,n)):x.at_<y.at_:=by
 have key:X2 s a x=.ok (X8 { K8 with Kind:=a } (x.skip 1))->x.at_<y.at_:=fun e=>by
  rw[e]at h;cases h;exact Nat.lt_succ_self _
 unfold X2 at h key;dsimp only at h key;split at h
 ·split at h
  ·cases h
  ·cases h;exact Nat.lt_succ_self _
 ·cases h;exact Nat.lt_succ_self _
theorem fG{x y:PSt}{r:Ps Int}{n:Int}(g:∀z k,r=.ok (z,k)->x.at_<z.at_/\z.at_<=s.length)(h:T8 s G6 r=.ok (y,n)):x.at_<y.at_:=by
 unfold T8 at h;split at h
 ·cases h
 ·rename_i z k;obtain⟨f,d⟩:=g z k rfl;split at h
  ·cases h
  ·rename_i b;cases h;rcases pZ d b with ⟨_,rfl⟩ | ⟨q,a,_⟩
   ·exact f
   ·cases a
  ·rename_i i c e b;rcases pZ d b with ⟨a,_⟩ | ⟨q,a,g2,_⟩
   ·cases a
   ·cases h;show x.at_<i.at_;have:=g2.at_;omega
theorem AM{x y:PSt}{n:Int}(h:T7 s x=.ok (y,n)):x.at_<y.at_:=by
 unfold T7 at h;cases a:fF s x with
 | error e=>rw[a]at h;cases h
 | ok p =>
  obtain⟨z,c⟩:=p;rw[a]at h;have g:=(rJ a).prog;cases h;exact g
theorem YZ{f:Nat}{x y:PSt}{n:Int}(e:x.at_+1<=s.length)(h:s9 s f x=.ok (y,n)):x.at_<y.at_:=by
 unfold s9 at h;dsimp only at h;have g1:=L7 (s:=s) (x:=x) 1 e;have b:=pY (s:=s) (x:=x.skip 1) 94 g1.len;split at h
 ·cases h
 ·rename_i u t g;have c:=nS b.len g;split at h
  ·cases h
  ·rename_i j r i;have d:=GD f c.len i;have q:=(b.trans (c.trans d)).at_;have l:j.at_=y.at_:=congrArg (fun p=>p.1.at_) (Except.ok.inj h);have m:(x.skip 1).at_=x.at_+1:=rfl;omega
theorem ZA{f:Nat}{x y:PSt}{n:Int}(b:x.at_+1<=s.length)(h:U8 s G6 f x=.ok (y,n)):x.at_<y.at_:=by
 cases f with
 | zero=>cases h
 | succ f =>
  rw[U8]at h;split at h
  ·cases h
  ·split at h
   ·cases h
   ·rename_i z k d;split at h
    ·obtain⟨g1,_⟩:=(Y6 f).pat (x:={ x with at_:=x.at_+1,depth:=x.depth+1 }) b d;have c:=g1.at_;have e:z.at_+1=y.at_:=congrArg (fun p=>p.1.at_) (Except.ok.inj h);dsimp only at c;omega
    ·cases h
theorem GH{f:Nat}{x y:PSt}{c:UInt8}{n:Int}(g:s[x.at_]?=some c)(h:j9 s G6 f x c=.ok (y,n)):x.at_<y.at_:=by
 have b:x.at_+1<=s.length:=by have:=(C44.1 g).1;omega
 cases f with
 | zero=>cases h
 | succ f =>
  rw[j9]at h;split at h
  ·exact AK h
  split at h
  ·exact AK h
  split at h
  ·exact fG (fun z k e=>⟨ZA b e,((Y6 f).paren b e).1.len⟩) h
  split at h
  ·exact fG (fun z k e=>⟨YZ b e,(wZ b e).1.len⟩) h
  split at h
  ·exact fG (fun z k e=>by
    have i:(BC x).1.at_=z.at_:=congrArg (fun p=>p.1.at_) (Except.ok.inj e);have d:(BC x).1.at_=x.at_+1:=rfl
    omega) h
  split at h
  ·exact fG (fun z k e=>⟨by
    have j:=AM (x:=x.skip 1) e;have d:(x.skip 1).at_=x.at_+1:=rfl
    omega,(rK b e).1.len⟩) h
  split at h
  ·cases h
  ·exact fG (fun z k e=>⟨AM e,(lT e).1.len⟩) h
structure NzAll (s:Str) (f:Nat):Prop where
 pat:∀x,x.at_<=s.length->4*(s.length-x.at_)+4<=f->dA s G6 f x≠.error 0
 loop:∀x kids,x.at_<=s.length->4*(s.length-x.at_)+3<=f->d7 s G6 f x kids≠.error 0
 alt:∀x kids,x.at_<=s.length->4*(s.length-x.at_)+3<=f->aI s G6 f x kids≠.error 0
 piece:∀x c,s[x.at_]?=some c->4*(s.length-x.at_)+2<=f->j9 s G6 f x c≠.error 0
 paren:∀x,x.at_+1<=s.length->4*(s.length-x.at_)+1<=f->U8 s G6 f x≠.error 0
theorem uE:∀f:Nat,NzAll s f
 | 0=>⟨(fun _ _ h=>by omega),(fun _ _ _ h=>by omega),(fun _ _ _ h=>by omega),(fun _ _ _ h=>by omega),(fun _ _ h=>by omega)⟩
 | f + 1=>by
  have d:=uE f;refine⟨?_,?_,?_,?_,?_⟩
  ·intro x j o h;rw[dA]at h;split at h
   ·rename_i e g;cases h;exact d.alt x [] j (by omega) g
   ·rename_i z k ha;obtain⟨g1,_⟩:=(Y6 f).alt j (fun k q=>by cases q) ha;have:=g1.at_;exact d.loop z [k] g1.len (by omega) h
  ·intro x kids j o h;rw[d7]at h;split at h
   ·rename_i b;have g0:=L7 (s:=s) (x:=x) 1 (l5 b);have v:(x.skip 1).at_=x.at_+1:=rfl;have w:=l5 b;split at h
    ·rename_i e g;cases h;exact d.alt (x.skip 1) [] g0.len (by omega) g
    ·rename_i z k ha;obtain⟨g1,_⟩:=(Y6 f).alt g0.len (fun k q=>by cases q) ha;have:=g1.at_;exact d.loop z _ g1.len (by omega) h
   ·cases h
  ·intro x kids j o h;rw[aI]at h;split at h
   ·cases h
   ·rename_i c b;split at h
    ·cases h
    ·split at h
     ·rename_i e g;cases h;exact d.piece x c b (by omega) g
     ·rename_i z k r;have g1:=GH b r;have u:=((Y6 f).piece b r).1.len;exact d.alt z _ u (by omega) h
  ·intro x c b o h;have m:x.at_+1<=s.length:=by have:=(C44.1 b).1;omega
   rw[j9]at h;split at h
   ·exact LH h
   split at h
   ·exact LH h
   split at h
   ·exact lV (d.paren x m (by omega)) h
   split at h
   ·exact lV (B85 m) h
   split at h
   ·exact lV (fun h=>by cases h) h
   split at h
   ·exact lV LG h
   split at h
   ·cases h
   ·exact lV LG h
  ·intro x j o h;rw[U8]at h;split at h
   ·cases h
   ·split at h
    ·rename_i e g;cases h;exact d.pat _ j (by dsimp only;omega) g
    ·split at h<;>cases h
section
section
variable (s:Str)
mutual
def nT:Nat->PSt->Ps Int
 | 0,_=>.error 0
 | f+1,st=>match iQ f st [] with
  | .error e=>.error e
  | .ok (st',k)=>y9 f st' [k]
def y9:Nat->PSt->List Int->Ps Int
 | 0,_,_=>.error 0
 | f+1,st,kids=>if O1 s 124 st=true then match iQ f (st.skip 1) [] with
   | .error e=>.error e
   | .ok (st',k)=>y9 f st' (kids++[k])
  else .ok (y7 5 kids st)
def iQ:Nat->PSt->List Int->Ps Int
 | 0,_,_=>.error 0
 | f+1,st,kids=>match s[st.at_]? with
  | none=>.ok (y7 4 kids st)
  | some c=>if c=124\/(c=41/\0<st.depth) then .ok (y7 4 kids st) else match dQ f st c with
   | .error e=>.error e
   | .ok (st',k)=>iQ f st' (kids++[k])
def dQ:Nat->PSt->UInt8->Ps Int
 | 0,_,_=>.error 0
 | f+1,st,c =>
  if c=94 then X2 s 2 st
  else if c=36 then X2 s 3 st
  else if c=40 then T8 s G6 (kQ f st)
  else if c=91 then T8 s G6 (s9 s (s.length+2) st)
  else if c=46 then T8 s G6 (.ok (BC st))
  else if c=92 then T8 s G6 (eC s st)
  else if c∈([42,43,63,123]:Str) then .error 40
  else if c=41 then .error 40
  else T8 s G6 (T7 s st)
def kQ:Nat->PSt->Ps Int
 | 0,_=>.error 0
 | f+1,st=>if st.depth=50 then .error 1 else match nT f { st with at_:=st.at_+1,depth:=st.depth+1 } with
  | .error e=>.error e
  | .ok (st',n)=>if O1 s 41 st'=true then .ok ({ st' with at_:=st'.at_+1,depth:=st'.depth-1 },n) else .error 40
end
def OO(f:Nat):List Node×Int :=
 if s.length>256 then ([],1) else match nT s f ⟨0,0,[]⟩ with
  | .error e=>([],e)
  | .ok (st,_)=>if st.at_<s.length then ([],40) else (st.nodes,0)
variable {s}
structure InAll (f:Nat):Prop where
 pat:∀x,0<x.depth->x.at_<=s.length->nT s f x=dA s G6 f x
 loop:∀x kids,0<x.depth->x.at_<=s.length->(∀k∈kids,uC x k)->y9 s f x kids=d7 s G6 f x kids
 alt:∀x kids,0<x.depth->x.at_<=s.length->(∀k∈kids,uC x k)->iQ s f x kids=aI s G6 f x kids
 piece:∀x c,s[x.at_]?=some c->c≠41->dQ s f x c=j9 s G6 f x c
 paren:∀x,x.at_+1<=s.length->kQ s f x=U8 s G6 f x
theorem GI:∀f:Nat,InAll (s:=s) f
 | 0=>⟨(fun _ _ _=>rfl),(fun _ _ _ _ _=>rfl),(fun _ _ _ _ _=>rfl),(fun _ _ _ _=>rfl),(fun _ _=>rfl)⟩
 | f + 1=>by
  have u:=GI f;refine⟨?_,?_,?_,?_,?_⟩
  ·intro x o v;rw[nT,dA,u.alt x [] o v (fun k d=>by cases d)];cases ha:aI s G6 f x [] with
   | error e=>rfl
   | ok p =>
    obtain⟨y,k⟩:=p;obtain⟨g,i⟩:=(Y6 f).alt v (fun k d=>by cases d) ha;exact u.loop y [k] (by rw[g.dep];exact o) g.len (fun j b=>by rw[C42.1 b];exact i)
  ·intro x kids o v d;rw[y9,d7];by_cases m:O1 s 124 x=true
   ·rw[A6 m,A6 m];have A:=l5 m;rw[u.alt (x.skip 1) [] o A (fun k d=>by cases d)];cases ha:aI s G6 f (x.skip 1) [] with
    | error e=>rfl
    | ok p =>
     obtain⟨y,k⟩:=p;obtain⟨g,i⟩:=(Y6 f).alt (x:=x.skip 1) A (fun k d=>by cases d) ha;have B:=(L7 (s:=s) (x:=x) 1 A).trans g
     exact u.loop y _ (by rw[B.dep];exact o) g.len (fun j b=>by
      rcases C49.1 b with b | b
      ·exact iP B.more (d j b)
      ·rw[C42.1 b];exact i)
   ·rw[A7 m,A7 m]
  ·intro x kids o v d;rw[iQ,aI];cases m:s[x.at_]? with
   | none=>rfl
   | some c =>
    dsimp only;by_cases h:c=124\/c=41
    ·rw[A6 h,A6 (h.elim .inl fun e=>.inr ⟨e,o⟩)]
    ·rw[A7 h,A7 (fun q=>h (q.elim .inl fun e=>.inr e.1)),u.piece x c m (fun e=>h (.inr e))];cases C:j9 s G6 f x c with
     | error e=>rfl
     | ok p =>
      obtain⟨y,k⟩:=p;obtain⟨g,i⟩:=(Y6 f).piece m C
      exact u.alt y _ (by rw[g.dep];exact o) g.len (fun j b=>by
       rcases C49.1 b with b | b
       ·exact iP g.more (d j b)
       ·rw[C42.1 b];exact i)
  ·intro x c m w;have z:x.at_+1<=s.length:=by have:=(C44.1 m).1;omega
   rw[dQ,j9,u.paren x z,A7 w]
  ·intro x v;rw[kQ,U8,u.pat _ (Nat.succ_pos _) v]
   try rfl
def RelR(r a:Ps Int):Prop:=a=r\/(a=.error 40/\∃y k,r=.ok (y,k)/\s[y.at_]?=some 41)
theorem OP:∀(f:Nat) (x:PSt) (kids:List Int),x.depth=0->x.at_<=s.length->(∀k∈kids,uC x k)->4*(s.length-x.at_)+3<=f->RelR (s:=s) (aI s G6 f x kids) (iQ s f x kids)
 | 0,_,_,_,_,_,h=>by omega
 | f + 1,x,kids,hd,h0,hk,hf=>by
  rw[aI,iQ];cases d:s[x.at_]? with
  | none=>exact .inl rfl
  | some c =>
   have w:x.at_+1<=s.length:=by have:=(C44.1 d).1;omega
   dsimp only;by_cases h:c=124
   ·rw[A6 (.inl h),A6 (.inl h)];exact .inl rfl
   by_cases b:c=41
   ·rw[A6 (.inr b),A7 (fun q=>q.elim h fun e=>by have:=e.2;omega)];have v:(y7 4 kids x).1.at_=x.at_:=by
     match kids with
     | []=>rfl
     | [k]=>rfl
     | k::l::r=>rfl
    refine .inr ⟨?_,(y7 4 kids x).1,(y7 4 kids x).2,rfl,by rw[v,d,b]⟩;obtain⟨f,rfl⟩:∃g,f=g+1:=⟨f-1,by omega⟩
    subst b;rfl
   ·have o:¬(c=124\/c=41):=fun q=>q.elim h b;rw[A7 o,A7 (fun q=>o (q.elim .inl fun e=>.inr e.1)),(GI f).piece x c d b];cases u:j9 s G6 f x c with
    | error e=>exact .inl rfl
    | ok p =>
     obtain⟨y,k⟩:=p;obtain⟨g,i⟩:=(Y6 f).piece d u;have hpr:=GH d u
     exact OP f y _ (by rw[g.dep];exact hd) g.len (fun j m=>by
      rcases C49.1 m with m | m
      ·exact iP g.more (hk j m)
      ·rw[C42.1 m];exact i) (by have:=g.len;omega)
theorem TZ:∀(f:Nat) (x:PSt) (kids:List Int),x.depth=0->x.at_<=s.length->(∀k∈kids,uC x k)->4*(s.length-x.at_)+3<=f->RelR (s:=s) (d7 s G6 f x kids) (y9 s f x kids)
 | 0,_,_,_,_,_,h=>by omega
 | f + 1,x,kids,hd,h0,d,hf=>by
  rw[d7,y9];by_cases b:O1 s 124 x=true
  ·rw[A6 b,A6 b];have m:=l5 b;have q:(x.skip 1).at_=x.at_+1:=rfl;rcases OP f (x.skip 1) [] hd m (fun k d=>by cases d) (by omega) with h | ⟨h,y,k,h2,h3⟩
   ·rw[h];cases ha:aI s G6 f (x.skip 1) [] with
    | error e=>exact .inl rfl
    | ok p =>
     obtain⟨y,k⟩:=p;obtain⟨g,i⟩:=(Y6 f).alt (x:=x.skip 1) m (fun k d=>by cases d) ha;have o:=(L7 (s:=s) (x:=x) 1 m).trans g;have u:=g.at_
     exact TZ f y _ (by rw[o.dep];exact hd) g.len (fun j c=>by
      rcases C49.1 c with c | c
      ·exact iP o.more (d j c)
      ·rw[C42.1 c];exact i) (by have:=g.len;omega)
   ·rw[h,h2];obtain⟨f,rfl⟩:∃g,f=g+1:=⟨f-1,by omega⟩
    dsimp only;rw[d7,A7 (fun e=>by have:=A1 e;rw[h3]at this;cases this)];refine .inr ⟨rfl,_,_,rfl,?_⟩;rw[<-h3]
    congr 1
    match kids++[k] with
    | []=>rfl
    | [_]=>rfl
    | _::_::_=>rfl
  ·rw[A7 b,A7 b];exact .inl rfl
theorem A40(f:Nat)(x:PSt)(d:x.depth=0)(c:x.at_<=s.length)(q:4*(s.length-x.at_)+4<=f):RelR (s:=s) (dA s G6 f x) (nT s f x):=by
 obtain⟨f,rfl⟩:∃g,f=g+1:=⟨f-1,by omega⟩
 rw[dA,nT];rcases OP f x [] d c (fun k b=>by cases b) (by omega) with h | ⟨h,y,k,h2,h3⟩
 ·rw[h];cases ha:aI s G6 f x [] with
  | error e=>exact .inl rfl
  | ok p =>
   obtain⟨y,k⟩:=p;obtain⟨g,i⟩:=(Y6 f).alt c (fun k b=>by cases b) ha;have o:=g.at_;exact TZ f y _ (by rw[g.dep];exact d) g.len (fun j m=>by rw[C42.1 m];exact i) (by have:=g.len;omega)
 ·rw[h,h2];obtain⟨f,rfl⟩:∃g,f=g+1:=⟨f-1,by omega⟩
  dsimp only;rw[d7,A7 (fun e=>by have:=A1 e;rw[h3]at this;cases this)];exact .inr ⟨rfl,_,_,rfl,h3⟩
theorem ZB(f:Nat)(b:1028<=f):OO s f=y8 s G6 f:=by
 unfold OO y8;by_cases a:s.length>256
 ·rw[A6 a,A6 a]
 rw[A7 a,A7 a];rcases A40 (s:=s) f ⟨0,0,[]⟩ rfl (C41 _) (by dsimp only;omega) with h | ⟨h,y,k,h2,h3⟩
 ·rw[h];try rfl
 ·rw[h,h2];dsimp only;rw[A6 (C44.1 h3).1]
end
end
def yR(s:Str)(i:Nat):Int×Nat×Bool×Int:=match G6 s i with
 | none=>(0,0,false,0)
 | some (low,n)=>if s[n]?=some 44 then (if n+1<s.length/\¬s.getD (n+1) 0=125 then (match G6 s (n+1) with
    | none=>(low,0,false,0)
    | some (h,n2)=>(low,n2,true,h)) else (low,n+1,true,-1)) else (low,n,true,low)
def qA(s:Str)(m:Int×Nat×Bool×Int):Prop:=m.2.2.1=true/\s[m.2.1]?=some 125/\m.1<=100/\m.2.2.2<=100/\¬(0<=m.2.2.2/\m.2.2.2<m.1)
instance (s:Str) (m:Int×Nat×Bool×Int):Decidable (qA s m):=by unfold qA;exact inferInstance
theorem fin_mid{s:Str}{st:PSt}{n:Nat}{low a:Int}(f:low<=100)(d:a<=100):(if O1 s 125 { st with at_:=n }=false\/(0<=a/\a<low) then .error 40 else .ok ((({ st with at_:=n }:PSt).skip 1),(low,a)):Ps (Int×Int))=if qA s (low,n,true,a) then .ok ({ st with at_:=n+1 },(low,a)) else .error 40:=by
 have h:O1 s 125 { st with at_:=n }=decide (s[n]?=some 125):=rfl;rw[h];by_cases b:s[n]?=some 125
 ·rw[A4 b];by_cases c:0<=a/\a<low
  ·rw[A6 (.inr c),A7 (fun g=>g.2.2.2.2 c)]
  ·rw[A7 (fun g=>g.elim (fun e=>by cases e) c),A6 ⟨rfl,b,f,d,c⟩];rfl
 ·rw[A5 b,A6 (.inl rfl),A7 (fun g=>b g.2.1)]
def optP{α:Type}(o:Option UInt8)(a:α)(b:UInt8->α):α:=match o with
 | none=>a
 | some c=>b c
def finM(s:Str)(a:Int)(st:PSt)(b:Int):Ps (Int×Int):=if O1 s 125 st=false\/(0<=b/\b<a) then .error 40 else .ok (st.skip 1,(a,b))
theorem ZC(s:Str)(st:PSt):Y9 s G6 st=match kN s G6 st with
  | .error e=>.error e
  | .ok (st1,least)=>if O1 s 44 st1=true then optP s[(st1.skip 1).at_]? (finM s least (st1.skip 1) (-1)) (fun c=>if c=125 then finM s least (st1.skip 1) (-1) else match kN s G6 (st1.skip 1) with
    | .error e=>.error e
    | .ok (st3,most)=>finM s least st3 most) else finM s least st1 least:=rfl
theorem OQ{s:Str}{st:PSt}{n:Nat}{low a:Int}(c:low<=100)(b:a<=100):finM s low { st with at_:=n } a=if qA s (low,n,true,a) then .ok ({ st with at_:=n+1 },(low,a)) else .error 40:=fin_mid c b
theorem num_is(s:Str)(st:PSt)(i:Nat):kN s G6 { st with at_:=i }=match G6 s i with
  | none=>.error 40
  | some (n,e)=>if n>100 then .error 40 else .ok ({ st with at_:=e },n):=rfl
theorem ZD(s:Str)(st:PSt)(i:Nat):Y9 s G6 { st with at_:=i }=if qA s (yR s i) then .ok ({ st with at_:=(yR s i).2.1+1 },((yR s i).1,(yR s i).2.2.2)) else .error 40:=by
 obtain⟨m,b⟩:∃m,m=yR s i:=⟨_,rfl⟩
 rw[<-b,ZC,num_is];unfold yR at b;cases w:G6 s i with
 | none =>
  rw[w]at b;subst b;dsimp only;rw[A7 (fun g=>by cases g.1)]
 | some p =>
  obtain⟨low,n⟩:=p;rw[w]at b;dsimp only at b ⊢;by_cases v:low>100
  ·rw[A6 v];dsimp only;refine (A7 fun g=>?_).symm;have h:=g.2.2.1;have B:m.1=low:=by
    rw[b];split
    ·split
     ·split<;>rfl
     ·rfl
    ·rfl
   omega
  rw[A7 v];dsimp only;have z:O1 s 44 { st with at_:=n }=decide (s[n]?=some 44):=rfl;have x:(({ st with at_:=n }:PSt).skip 1)={ st with at_:=n+1 }:=rfl;rw[z,x];by_cases d:s[n]?=some 44
  ·rw[A6 d]at b;rw[A4 d,A6 rfl];by_cases f:n+1<s.length
   ·have l:s[({ st with at_:=n+1 }:PSt).at_]?=some (s.getD (n+1) 0):=by
     show s[n+1]?=_;rw[C38,C36 f];rfl
    rw[l];dsimp only[optP];by_cases c:s.getD (n+1) 0=125
    ·rw[A7 (fun g=>g.2 c)]at b;rw[A6 c,b];exact OQ (st:=st) (n:=n+1) (by omega) (by omega)
    ·rw[A6 ⟨f,c⟩]at b;rw[A7 c,num_is];cases j:G6 s (n+1) with
     | none =>
      rw[j]at b;subst b;dsimp only;rw[A7 (fun g=>by cases g.1)]
     | some q =>
      obtain⟨h,A⟩:=q;rw[j]at b;subst b;dsimp only;by_cases u:h>100
      ·rw[A6 u];dsimp only;exact (A7 fun g=>by have:=g.2.2.2.1;dsimp only at this;omega).symm
      ·rw[A7 u];dsimp only;exact OQ (st:=st) (n:=A) (by omega) (by omega)
   ·rw[A7 (fun g=>f g.1)]at b;have l:s[({ st with at_:=n+1 }:PSt).at_]?=none:=C63 (by show s.length<=n+1;omega);rw[l,b];exact OQ (st:=st) (n:=n+1) (by omega) (by omega)
  ·rw[A7 d]at b;rw[A5 d,A7 (by decide),b];exact OQ (st:=st) (n:=n) (by omega) (by omega)
def Set4.or(s u:Set4):Set4:=⟨KZ s.a u.a,KZ s.b u.b,KZ s.c u.c,KZ s.d u.d⟩
theorem B20(x y z:Int):KZ (KZ x y) z=KZ x (KZ y z):=by
 unfold KZ;rw[C37,C37,Nat.or_assoc]
theorem xA{x:Int}(h:0<=x):KZ x 0=x:=by
 unfold KZ;rw[show (0:Int).toNat=0 from rfl,Nat.or_zero,Int.toNat_of_nonneg h]
theorem or_set0{s:Set4}(h:O0 s):s.or set0=s:=by
 obtain⟨a,b,c,d⟩:=h;unfold Set4.or set0;dsimp only;rw[xA a.1,xA b.1,xA c.1,xA d.1]
theorem OS(s u:Set4)(c:Nat):(s.or u).with_ c=s.or (u.with_ c):=by
 unfold Set4.with_;split<;>(unfold Set4.or;dsimp only;rw[B20])
theorem or_go(s:Set4):∀(n c:Nat) (u:Set4),N9 n c (s.or u)=s.or (N9 n c u)
 | 0,_,_=>rfl
 | n+1,c,u=>by rw[N9,N9,OS,or_go s n]
theorem T4(s u:Set4)(a b:Nat):(s.or u).through a b=s.or (u.through a b):=or_go s _ _ u
theorem B86(s u:Set4)(name:Str):j8 (s.or u) name=(j8 u name).map s.or:=by
 unfold j8;split
 ·rw[T4,T4];rfl
 split
 ·rw[T4];rfl
 split
 ·rw[T4,T4,T4];rfl
 split
 ·rw[T4];rfl
 split
 ·rw[T4];rfl
 split
 ·rw[T4,OS];rfl
 split
 ·rw[T4,T4,T4,T4];rfl
 ·rfl
def X3(f:Nat->Bool):Nat->Set4->Set4
 | 0,s=>s
 | n+1,s=>if f n=true then (X3 f n s).with_ n else X3 f n s
theorem A41(f:Nat->Bool)(s:Set4):∀(n:Nat) (u:Set4),X3 f n (s.or u)=s.or (X3 f n u)
 | 0,_=>rfl
 | n+1,u=>by
  rw[X3,X3,A41 f s n u];split
  ·rw[OS]
  ·rfl
def i8(c:Nat):Bool:=decide (97<=c/\c<=122)||decide (65<=c/\c<=90)
def oC(c:Nat):Bool:=decide (48<=c/\c<=57)
def iR(name:Str)(c:Nat):Option Bool :=
 if name=[97,108,112,104,97] then some (i8 c)
 else if name=[100,105,103,105,116] then some (oC c)
 else if name=[97,108,110,117,109] then some (i8 c||oC c)
 else if name=[117,112,112,101,114] then some (i8 c&&decide (c<=90))
 else if name=[108,111,119,101,114] then some (i8 c&&decide (97<=c))
 else if name=[115,112,97,99,101] then some (decide (9<=c/\c<=13)||decide (c=32))
 else if name=[112,117,110,99,116] then some (decide (33<=c/\c<=126)&&(!i8 c&&!oC c))
 else none
def fH(name:Str)(c:Nat):Bool:=(iR name c).getD false
theorem GJ(s:Set4)(name:Str):j8 s name=none↔iR name 0=none:=by
 unfold j8 iR
 repeat' split
 all_goals simp
theorem B21(name:Str):∀t,j8 set0 name=some t->X3 (fH name) 256 set0=t:=by
 intro t h;unfold j8 at h;split at h
 ·rename_i e;rw[e];cases h;kernel_rfl
 split at h
 ·rename_i e;rw[e];cases h;kernel_rfl
 split at h
 ·rename_i e;rw[e];cases h;kernel_rfl
 split at h
 ·rename_i e;rw[e];cases h;kernel_rfl
 split at h
 ·rename_i e;rw[e];cases h;kernel_rfl
 split at h
 ·rename_i e;rw[e];cases h;kernel_rfl
 split at h
 ·rename_i e;rw[e];cases h;kernel_rfl
 ·cases h
theorem ZE{s:Set4}(b:O0 s){name:Str}{t:Set4}(h:j8 s name=some t):X3 (fH name) 256 s=t:=by
 rw[<-or_set0 b]at h ⊢;rw[B86]at h;rw[A41];cases a:j8 set0 name with
 | none=>rw[a]at h;cases h
 | some u =>
  rw[a]at h;rw[B21 name u a];exact C85 h
theorem occ2(r:Str)(j:Nat):Lib.occAt r [58,93] j=decide (r[j]?=some 58/\r[j+1]?=some 93):=by
 unfold Lib.occAt;have c:(r.drop j)[0]?=r[j]?:=by rw[C66];rfl
 have d:(r.drop j)[1]?=r[j+1]?:=by rw[C66]
 rw[<-c,<-d]
 match r.drop j with
 | []=>simp
 | [a]=>simp[List.isPrefixOf]
 | a::b::t=>rw[Bool.eq_iff_iff];simp[List.isPrefixOf,eq_comm (a:=a),eq_comm (a:=b)]
def NoEnd(s:Str)(a i:Nat):Prop:=∀j,a<=j->j<i->¬(s[j]?=some 58/\s[j+1]?=some 93)
theorem NoEnd.start(s:Str)(a:Nat):NoEnd s a a:=fun j b c=>by omega
theorem NoEnd.next{s:Str}{a i:Nat}(h:NoEnd s a i)(c:¬(s[i]?=some 58/\s[i+1]?=some 93)):NoEnd s a (i+1):=fun j b d=>by
 by_cases e:j=i
 ·rw[e];exact c
 ·exact h j b (by omega)
theorem end_at{s:Str}{a i:Nat}(h:NoEnd s a i)(f:a<=i)(d:s[i]?=some 58/\s[i+1]?=some 93):Lib.index (s.drop a) [58,93]=((i-a:Nat):Int):=by
 have g:=(C44.1 d.1).1;rcases Lib.index_spec (s.drop a) [58,93] with ⟨_,e⟩ | ⟨k,hk,_,c,hno⟩
 ·have:=e (i-a) (by rw[C61];omega);rw[occ2,C66,C66,show a+(i-a)=i by omega,show a+(i-a+1)=i+1 by omega]at this;exact absurd d (A3 this)
 ·rw[hk];rw[occ2,C66,C66]at c;have c:=A1 c;rcases Nat.lt_trichotomy k (i-a) with b | b | b
  ·exact absurd c (h (a+k) (by omega) (by omega))
  ·rw[b]
  ·have:=hno (i-a) b;rw[occ2,C66,C66,show a+(i-a)=i by omega,show a+(i-a+1)=i+1 by omega]at this;exact absurd d (A3 this)
theorem end_no{s:Str}{a i:Nat}(h:NoEnd s a i)(e:s.length<=i+1):Lib.index (s.drop a) [58,93]<0:=by
 rcases Lib.index_spec (s.drop a) [58,93] with ⟨c,_⟩ | ⟨k,_,_,b,_⟩
 ·rw[c];decide
 ·rw[occ2,C66,C66]at b;have b:=A1 b;have d:=(C44.1 b.2).1;exact absurd b (h (a+k) (by omega) (by omega))
def IK(s:Str)(f:Nat)(first:Bool)(t:Set4)(x:PSt):Ps Set4:=if first=true then (match n6 s t x with
  | .error e=>.error e
  | .ok (x',t')=>s8 s f t' x') else s8 s (f+1) t x
theorem B22(s:Str)(f:Nat)(x:PSt):s9 s f x=match IK s f true set0 (fU s 94 (x.skip 1)) with
  | .error e=>.error e
  | .ok (y,t)=>.ok (iL (if O1 s 94 (x.skip 1)=true then t.compl else t) y):=by
 unfold s9 IK;rw[A6 rfl];dsimp only;cases n6 s set0 (fU s 94 (x.skip 1)) with
 | error e=>rfl
 | ok p=>rfl
theorem cls_end{s:Str}{f:Nat}{t:Set4}{x:PSt}(h:O1 s 93 x=true):IK s f false t x=.ok (x.skip 1,t):=by
 unfold IK;rw[A7 (by decide),s8,A6 h]
theorem B87{s:Str}{f:Nat}{first:Bool}{t:Set4}{x:PSt}(h:first=true\/¬O1 s 93 x=true):IK s f first t x=match n6 s t x with
  | .error e=>.error e
  | .ok (x',t')=>s8 s f t' x':=by
 unfold IK;by_cases a:first=true
 ·rw[A6 a]
 ·rw[A7 a,s8,A7 (h.resolve_left a)]
  try rfl
theorem UA{s:Str}{f:Nat}{t:Set4}{x:PSt}:s8 s (f+1) t x=IK s f false t x:=by
 unfold IK;rw[A7 (by decide)]
theorem ZF{s:Str}{t:Set4}{x:PSt}(b:s[x.at_]?=some 91)(c:s[x.at_+1]?=some 58):n6 s t x=if Lib.index (s.drop (x.at_+2)) [58,93]<0 then .error 40 else match j8 t ((s.drop (x.at_+2)).take (Lib.index (s.drop (x.at_+2)) [58,93]).toNat) with
  | none=>.error 40
  | some f=>.ok (x.skip (4+(Lib.index (s.drop (x.at_+2)) [58,93]).toNat),f):=by
 unfold n6;have d:bD 91 58 (s.drop x.at_)=true:=by
  unfold bD;rw[C66,C66];exact A4 ⟨b,c⟩
 dsimp only;rw[A6 d,List.drop_drop]
 try rfl
theorem ZG{s:Str}{t:Set4}{x:PSt}(h:¬(s[x.at_]?=some 91/\s[x.at_+1]?=some 58)){c:UInt8}(f:s[x.at_]?=some c):n6 s t x=if (s.length<x.at_+3\/s[x.at_+1]?≠some 45\/s[x.at_+2]?=some 93) then .ok (x.skip 1,t.with_ c.toNat)
  else if (s.getD (x.at_+2) 0).toNat<c.toNat then .error 40 else .ok (x.skip 3,t.through c.toNat (s.getD (x.at_+2) 0).toNat):=by
 unfold n6
 have q:¬bD 91 58 (s.drop x.at_)=true:=fun g=>h (by
  unfold bD at g;rw[C66,C66]at g
  exact A1 g)
 dsimp only;rw[A7 q,f];dsimp only;rw[C66,C66,C61,show (s.drop (x.at_+1)).getD 1 0=s.getD (x.at_+2) 0 by rw[C38,C66,<-C38]];have p:=(C44.1 f).1;by_cases j:s.length<x.at_+3
 ·have b:s.length-(x.at_+1)<2:=by omega
  rw[A6 (.inl b),A6 (.inl j)]
 ·have b:¬s.length-(x.at_+1)<2:=by omega
  by_cases d:s[x.at_+1]?≠some 45\/s[x.at_+2]?=some 93
  ·rw[A6 (.inr d),A6 (.inr d)]
  ·rw[A7 (fun g=>g.elim b d)];exact (A7 (fun g=>g.elim j d)).symm
theorem A42{f:Nat}{x y:PSt}{c:UInt8}{n:Int}(b:s[x.at_]?=some c)(h:dQ s f x c=.ok (y,n)):j9 s G6 f x c=.ok (y,n):=by
 by_cases a:c=41
 ·subst a;cases f with
  | zero=>cases h
  | succ f=>rw[dQ]at h;cases h
 ·rw[<-(GI f).piece x c b a];exact h
theorem OT:∀(f:Nat) {x y:PSt} {kids:List Int} {n:Int},x.at_<=s.length->(∀k∈kids,uC x k)->iQ s f x kids=.ok (y,n)->Gr s 0 1 x y/\uC y n
 | 0,_,_,_,_,_,_,h=>by cases h
 | f + 1,x,y,kids,n,h0,hk,h=>by
  have b:=GC (s:=s) (x:=x) (kind:=4) (.inl rfl) hk h0;rw[iQ]at h;split at h
  ·rw[Except.ok.inj h]at b;exact b
  ·rename_i c d;split at h
   ·rw[Except.ok.inj h]at b;exact b
   ·split at h
    ·cases h
    ·rename_i z k m;obtain⟨g1,q⟩:=(Y6 f).piece d (A42 d m)
     obtain⟨g,r⟩:=OT f g1.len (fun j a=>by
      rcases C49.1 a with a | a
      ·exact iP g1.more (hk j a)
      ·rw[C42.1 a];exact q) h
     exact⟨(g1.trans g).le (by omega),r⟩
def lW(s:Str)(f:Nat)(st:PSt)(c:UInt8):Ps Int :=
 if c=40 then kQ s f st
 else if c=91 then s9 s (s.length+2) st
 else if c=46 then .ok (BC st)
 else if c=94 then .ok (X8 ⟨2,set0,0,0,[]⟩ (st.skip 1))
 else if c=36 then .ok (X8 ⟨3,set0,0,0,[]⟩ (st.skip 1))
 else if c∈([41,124,42,43,63,123]:Str) then .error 40
 else if c=92 then eC s st
 else T7 s st
theorem B88{f:Nat}{st:PSt}{c:UInt8}(b:st.at_+1<=s.length){z:PSt}{k:Int}(h:lW s f st c=.ok (z,k)):Gr s 0 0 st z/\uC z k:=by
 have g1:=L7 (s:=s) (x:=st) 1 b;unfold lW at h;split at h
 ·rw[(GI f).paren st b]at h;exact (Y6 f).paren b h
 split at h
 ·exact wZ b h
 split at h
 ·have j:=YY (s:=s) (x:=st) b;rw[Except.ok.inj h]at j;exact j
 split at h
 ·obtain⟨d,g⟩:=uD (s:=s) (x:=st.skip 1) (n:=⟨2,set0,0,0,[]⟩) b (lS (.inr (.inr (.inl rfl))));rw[Except.ok.inj h]at d g;exact⟨(g1.trans d).le (by omega),g⟩
 split at h
 ·obtain⟨d,g⟩:=uD (s:=s) (x:=st.skip 1) (n:=⟨3,set0,0,0,[]⟩) b (lS (.inr (.inr (.inr rfl))));rw[Except.ok.inj h]at d g;exact⟨(g1.trans d).le (by omega),g⟩
 split at h
 ·cases h
 split at h
 ·exact rK b h
 ·exact lT h
def nU(s:Str)(a:Bool)(r:Ps Int):Ps Int:=match r with
 | .error e=>.error e
 | .ok (st,k)=>if a=true then (match s[st.at_]? with
   | some q=>if q∈([42,43,63,123]:Str) then .error 40 else .ok (st,k)
   | none=>.ok (st,k)) else match Y5 s G6 st with
   | .error e=>.error e
   | .ok (st',none)=>.ok (st',k)
   | .ok (st',some (least,most))=>.ok (X8 ⟨6,set0,least,most,[k]⟩ st')
theorem lX(r:Ps Int):T8 s G6 r=nU s false r:=by
 cases r with
 | error e=>rfl
 | ok p =>
  obtain⟨st,k⟩:=p;unfold T8 nU;dsimp only;rw[A7 (by decide)];cases Y5 s G6 st with
  | error e=>rfl
  | ok q =>
   obtain⟨st',b⟩:=q;cases b with
   | none=>rfl
   | some b=>rfl
theorem xB(a:Int)(st:PSt):X2 s a st=nU s true (.ok (X8 ⟨a,set0,0,0,[]⟩ (st.skip 1))):=by
 unfold X2 nU;dsimp only;rw[A6 rfl];rfl
theorem ZH{f:Nat}{st:PSt}{c:UInt8}(m:c≠124):dQ s (f+1) st c=nU s (decide (c=94)||decide (c=36)) (lW s f st c):=by
 rw[dQ];unfold lW;by_cases j:c=94
 ·subst j;rw[A6 rfl,xB];rfl
 rw[A7 j];by_cases b:c=36
 ·subst b;rw[A6 rfl,xB];rfl
 rw[A7 b,A5 j,A5 b,Bool.or_false,A7 j,A7 b];by_cases d:c=40
 ·rw[A6 d,A6 d,lX]
 rw[A7 d,A7 d];by_cases i:c=91
 ·rw[A6 i,A6 i,lX]
 rw[A7 i,A7 i];by_cases g:c=46
 ·rw[A6 g,A6 g,lX]
 rw[A7 g,A7 g];by_cases k:c∈([42,43,63,123]:Str)
 ·have a:¬c=92:=fun e=>by rw[e]at k;revert k;decide
  rw[A7 a,A6 k,A6]
  ·rfl
  ·simp only[C50,D07,or_false]at k ⊢;rcases k with h | h | h | h<;>simp[h]
 by_cases l:c=41
 ·subst l;rfl
 have n:¬c∈([41,124,42,43,63,123]:Str):=fun e=>by
  simp only[C50,D07,or_false]at e k;rcases e with h | h | h
  ·exact l h
  ·exact m h
  ·exact k h
 rw[A7 n];by_cases a:c=92
 ·rw[A6 a,A6 a,lX]
 ·rw[A7 a,A7 a,A7 k,A7 l,lX]
section
variable (A:Auto) (s:Str)
abbrev fW(p:Nat)(k:Int):List Int:=S0 (R2 A k) (decide (p=0)) (decide (p=s.length))
def reads(p:Nat)(k:Int):Prop:=(R2 A k).Kind=0/\aL (R2 A k).Set (s.getD p 0).toNat=1
inductive Run:Int->Nat->Prop
 | start {i:Nat} (hi:i<=s.length):Run A.Start i
 | eps {k j:Int} {p:Nat} (h:Run k p) (hj:j∈fW A s p k):Run j p
 | read {k:Int} {p:Nat} (h:Run k p) (hp:p<s.length) (hr:reads A s p k):Run (R2 A k).Next (p+1)
abbrev inA(k:Int):Prop:=0<=k/\k<A.States.length
variable {A s}
theorem Run.in_(b:AG A){k:Int}{p:Nat}(h:Run A s k p):inA A k/\p<=s.length:=by
 induction h with
 | start c=>exact⟨b.start,c⟩
 | eps _ d a=>exact⟨(wX b a.1 _ _).2 _ d,a.2⟩
 | read _ e f a =>
  refine⟨?_,e⟩;have:=dP (lR b a.1);have g:=f.1;omega
variable (A s)
def uF(m:Mach)(k:Int):Prop:=inA A k/\J3 m.2 k.toNat=true
structure Sy (p:Nat) (m:Mach):Prop where
 mg:MG A m
 fr:∀t∈m.1,0<=t.from_
 sync:∀k,uF A m k↔∃t∈m.1,t.state=k
variable {A s}
theorem B23{a:List Bool}{i c:Nat}(b:i<a.length):J3 (a.set i true) c=(J3 a c||decide (i=c)):=by
 unfold J3;rw[D22];by_cases e:i=c
 ·subst e;rw[A6 rfl,A6 b];simp
 ·rw[A7 e];simp[e]
theorem UB{m:Mach}(d:MG A m){i:Int}(c:inA A i){fr:Int}(k:Int):uF A (m.1++[⟨i,fr⟩],m.2.set i.toNat true) k↔uF A m k\/k=i:=by
 unfold uF;rw[B23 (by rw[d.sl];have:=c.2;have:=c.1;omega),C67,decide_eq_true_eq];constructor
 ·rintro⟨a,b | b⟩
  ·exact .inl ⟨a,b⟩
  ·right;have:=c.1;have:=a.1;omega
 ·rintro (⟨a,b⟩ | rfl)
  ·exact⟨a,.inl b⟩
  ·exact⟨c,.inr rfl⟩
theorem Sy.push{p:Nat}{m:Mach}(h:Sy A p m){i:Int}(c:inA A i){fr:Int}(b:0<=fr)(d:J3 m.2 i.toNat=false):Sy A p (m.1++[⟨i,fr⟩],m.2.set i.toNat true) where
 mg:=h.mg.push c fr d
 fr:=fun t a=>by
  rcases C49.1 a with a | a
  ·exact h.fr t a
  ·rw[C42.1 a];exact b
 sync:=fun k=>by
  rw[UB h.mg c,h.sync k];constructor
  ·rintro (⟨t,a,e⟩ | rfl)
   ·exact⟨t,List.mem_append_left _ a,e⟩
   ·exact⟨⟨k,fr⟩,by simp,rfl⟩
  ·rintro⟨t,a,e⟩;rcases C49.1 a with a | a
   ·exact .inl ⟨t,a,e⟩
   ·right;rw[<-e,C42.1 a]
theorem yS(S:AG A){p:Nat}{fr:Int}(y:0<=fr):∀(f:Nat) (c:List Int) (m:Mach),TW c m<f->Sy A p m->(∀k∈c,inA A k)->(∀k,uF A m k->∀j∈fW A s p k,uF A m j\/j∈c) ->
  let R:=fV A s p fr f c m
  Sy A p R/\(∀k,uF A R k->∀j∈fW A s p k,uF A R j)/\(∀k,uF A m k->uF A R k)/\(∀k∈c,uF A R k) /\
   ∀P:Int->Prop,(∀k,P k->∀j∈fW A s p k,P j)->(∀k,uF A m k->P k)->(∀k∈c,P k)->∀k,uF A R k->P k
 | 0,_,_,h,_,_,_=>absurd h (Nat.not_lt_zero _)
 | f + 1,c,m,hf,hm,ho,hc=>by
  dsimp only;cases U:c.getLast? with
  | none =>
   have h0:c=[]:=List.getLast?_eq_none_iff.1 U;subst h0;rw[LB];exact⟨hm,fun k b j C=>(hc k b j C).resolve_right (by simp),fun _ h=>h,(fun k b=>by cases b),fun P _ w _ k b=>w k b⟩
  | some i =>
   obtain⟨f',Z,m',ab,E,F,X,ac,x,z,H⟩:=AI s S (a:=p) (fr:=fr) hm.mg ho hf rfl U;obtain rfl:f=f':=by omega
   obtain⟨V,hg,G⟩:=wY U;have T:=ho i G;have u:c=c.dropLast++[i]:=by
    rw[List.dropLast_eq_take];have Y:0<c.length:=List.length_pos_iff.2 V;have w:=C52 (l:=c) (i:=c.length-1);rw[hg,show c.length-1+1=c.length by omega,C48]at w;exact w
   have d:∀k,k∈c↔k∈c.dropLast\/k=i:=fun k=>by
    conv=>lhs;rw[u]
    rw[C49,C42]
   cases L:J3 m.2 i.toNat
   ·obtain⟨O,Q⟩:=H L;subst O Q;have W:=hm.push T y L;have q:=UB (fr:=fr) hm.mg T
    have B:=yS S y f _ _ F W x (fun k b j C=>by
     rw[q,C49];rcases (q k).1 b with b | rfl
     ·rcases hc k b j C with h | h
      ·exact .inl (.inl h)
      ·rcases (d j).1 h with h | h
       ·exact .inr (.inl h)
       ·exact .inl (.inr h)
     ·exact .inr (.inr C))
    dsimp only at B;rw[E]at B;obtain⟨M,N,a3,a4,a5⟩:=B;refine⟨M,N,fun k b=>a3 k ((q k).2 (.inl b)),fun k b=>?_,fun P K w J k b=>?_⟩
    ·rcases (d k).1 b with b | rfl
     ·exact a4 k (List.mem_append_left _ b)
     ·exact a3 _ ((q _).2 (.inr rfl))
    ·have D:=J i G;refine a5 P K (fun k b=>?_) (fun k b=>?_) k b
     ·rcases (q k).1 b with b | rfl
      ·exact w k b
      ·exact D
     ·rcases C49.1 b with b | b
      ·exact J k ((d k).2 (.inl b))
      ·exact K i D k b
   ·obtain⟨O,Q⟩:=z L;subst O Q;have I:uF A m' i:=⟨T,L⟩
    have B:=yS S y f _ _ F hm x (fun k b j C=>by
     rcases hc k b j C with h | h
     ·exact .inl h
     ·rcases (d j).1 h with h | rfl
      ·exact .inr h
      ·exact .inl I)
    dsimp only at B;rw[E]at B;obtain⟨M,N,a3,a4,a5⟩:=B;refine⟨M,N,a3,fun k b=>?_,fun P K w J k b=>a5 P K w (fun k b=>J k ((d k).2 (.inl b))) k b⟩;rcases (d k).1 b with b | rfl
    ·exact a4 k b
    ·exact a3 _ I
def Shut(A:Auto)(s:Str)(p:Nat)(m:Mach):Prop:=∀k,uF A m k->∀j∈fW A s p k,uF A m j
theorem UC(h:AG A){p:Nat}{q fr:Int}(b:0<=fr)(v:inA A q){m:Mach}(c:Sy A p m)(r:Shut A s p m) :
  Sy A p (wU A s p ⟨q,fr⟩ m)/\Shut A s p (wU A s p ⟨q,fr⟩ m)/\(∀k,uF A m k->uF A (wU A s p ⟨q,fr⟩ m) k)/\uF A (wU A s p ⟨q,fr⟩ m) q /\
   ∀P:Int->Prop,(∀k,P k->∀j∈fW A s p k,P j)->(∀k,uF A m k->P k)->P q->∀k,uF A (wU A s p ⟨q,fr⟩ m) k->P k:=by
 have t:=c.mg.cnt;obtain⟨d,e,a3,a4,a5⟩:=yS (s:=s) h b (3*A.States.length+2) [q] m (by unfold TW;simp only[C51];omega) c (fun k a=>by rw[C42.1 a];exact v) (fun k a j u=>.inl (r k a j u));exact⟨d,e,a3,a4 q (by simp),fun P o f g=>a5 P o f fun k a=>by rw[C42.1 a];exact g⟩
theorem uG(u:AG A){p c:Nat}:∀(y:List Thread) (m:Mach),(∀t∈y,inA A t.state/\0<=t.from_)->Sy A p m->Shut A s p m ->
  let R:=kO A s p c y m
  Sy A p R/\Shut A s p R/\(∀k,uF A m k->uF A R k)/\(∀t∈y,(R2 A t.state).Kind=0->aL (R2 A t.state).Set c=1->uF A R (R2 A t.state).Next) /\
   ∀P:Int->Prop,(∀k,P k->∀j∈fW A s p k,P j)->(∀k,uF A m k->P k)->(∀t∈y,(R2 A t.state).Kind=0->aL (R2 A t.state).Set c=1->P (R2 A t.state).Next)->∀k,uF A R k->P k
 | [],m,_,hm,hc=>⟨hm,hc,fun _ h=>h,(fun t w=>by cases w),fun P _ b _ k g=>b k g⟩
 | t::r,m,w,hm,hc=>by
  dsimp only;rw[kO];have l:∀x∈r,inA A x.state/\0<=x.from_:=fun x a=>w x (C55 _ a);obtain⟨F,G⟩:=w t (C56 ..);by_cases g:(R2 A t.state).Kind=0/\aL (R2 A t.state).Set c=1
  ·rw[A6 g];have J:inA A (R2 A t.state).Next:=by have:=dP (lR u F);have:=g.1;unfold inA;omega
   obtain⟨H,I,a3,a4,a5⟩:=UC u (q:=(R2 A t.state).Next) G J hm hc;obtain⟨z,B,o,C,D⟩:=uG u r _ l H I;refine⟨z,B,fun k h=>o k (a3 k h),fun x a b f=>?_,fun P v b f k E=>?_⟩
   ·rcases C50.1 a with rfl | a
    ·exact o _ a4
    ·exact C x a b f
   ·exact D P v (a5 P v b (f t (C56 ..) g.1 g.2)) (fun x a=>f x (C55 _ a)) k E
  ·rw[A7 g];obtain⟨z,B,o,C,D⟩:=uG u r _ l hm hc;refine⟨z,B,o,fun x a b f=>?_,fun P v b f k E=>D P v b (fun x a=>f x (C55 _ a)) k E⟩;rcases C50.1 a with rfl | a
   ·exact absurd ⟨b,f⟩ g
   ·exact C x a b f
theorem Sy.first(A:Auto)(p:Nat):Sy A p ([],List.replicate A.States.length false) where
 mg:=MG.first A
 fr:=fun _ h=>by cases h
 sync:=fun k=>by
  constructor
  ·rintro⟨b,a⟩;unfold J3 at a;rw[List.getElem?_replicate]at a;split at a<;>cases a
  ·rintro⟨_,h,_⟩;cases h
theorem nV(A:Auto)(k:Int):¬uF A ([],List.replicate A.States.length false) k:=fun h=>by
 obtain⟨_,h,_⟩:=((Sy.first A 0).sync k).1 h;cases h
theorem OU{m:Mach}(h:∀t∈m.1,0<=t.from_):0<=V3 A m.1↔∃t∈m.1,(R2 A t.state).Kind=4:=by
 obtain⟨f,g⟩:=m;dsimp only at h ⊢;induction f with
 | nil=>simp[V3]
 | cons t r c =>
  unfold V3;split
  ·rename_i b;exact⟨fun _=>⟨t,C56 ..,b⟩,fun _=>h t (C56 ..)⟩
  ·rename_i b;rw[c fun x a=>h x (C55 _ a)];constructor
   ·rintro⟨x,a,e⟩;exact⟨x,C55 _ a,e⟩
   ·rintro⟨x,a,e⟩;rcases C50.1 a with rfl | a
    ·exact absurd e b
    ·exact⟨x,a,e⟩
theorem ite_snd{α:Type}{c:Prop}[Decidable c]{x y:α×Bool}(a:x.2=true)(b:y.2=true):(if c then x else y).2=true:=by split<;>assumption
theorem AN:∀(f a:Nat) (m:Mach) (b:Int×Int),(kP A s f a m b true).2=true
 | 0,_,_,_=>rfl
 | f+1,a,m,b=>by
  rw[kP]
  (try dsimp only)
  have e:(if 0<=V3 A (if true=true then m else wU A s a ⟨A.Start,a⟩ m).1 then true else true)=true:=ite_self _;rw[e];exact ite_snd rfl (AN f _ _ _)
structure NI (A:Auto) (s:Str) (a:Nat) (m:Mach):Prop where
 sy:Sy A a m
 shut:Shut A s a m
 sound:∀k,uF A m k->Run A s k a
 all:∀p k,p+1=a->Run A s k p->reads A s p k->uF A m (R2 A k).Next
 no:∀p k,p<a->Run A s k p->(R2 A k).Kind≠4
theorem GK(C:AG A):∀(f a:Nat) (m:Mach) (b:Int×Int),f=s.length+1-a->a<=s.length->NI A s a m->((kP A s f a m b false).2=true↔∃k p,Run A s k p/\(R2 A k).Kind=4)
 | 0,a,m,b,hf,ha,_=>by omega
 | f + 1,a,m,b,hf,ha,h=>by
  obtain⟨y,J,a3,a4,a5⟩:=UC (s:=s) C (q:=A.Start) (fr:=(a:Int)) (by omega) C.start h.sy h.shut;obtain⟨m1,F⟩:∃m1,m1=wU A s a ⟨A.Start,a⟩ m:=⟨_,rfl⟩
  rw[<-F]at y J a3 a4 a5;have w:∀k,uF A m1 k↔Run A s k a:=fun k=>by
   constructor
   ·exact a5 (fun k=>Run A s k a) (fun k B j E=>.eps B E) h.sound (.start ha) k
   ·have key:∀k p,Run A s k p->p=a->uF A m1 k:=fun k p u=>by
     induction u with
     | start _=>exact fun _=>a4
     | eps _ E S=>intro e;subst e;exact J _ (S rfl) _ E
     | read I _ x _=>intro e;exact a3 _ (h.all _ _ e I x)
    exact fun u=>key k a u rfl
  have z:0<=V3 A m1.1↔∃k,Run A s k a/\(R2 A k).Kind=4:=by
   rw[OU y.fr];constructor
   ·rintro⟨t,v,e⟩;exact⟨t.state,(w _).1 ((y.sync _).2 ⟨t,v,rfl⟩),e⟩
   ·rintro⟨k,u,e⟩;obtain⟨t,v,rfl⟩:=(y.sync k).1 ((w k).2 u);exact⟨t,v,e⟩
  rw[kP]
  (try dsimp only)
  rw[A7 (show ¬false=true by decide),<-F];by_cases g:0<=V3 A m1.1
  ·rw[A6 g,A6 g,A6 g];obtain⟨k,u,e⟩:=z.1 g;refine⟨fun _=>⟨k,a,u,e⟩,fun _=>?_⟩;split
   ·rfl
   ·exact AN _ _ _ _
  ·rw[A7 g,A7 g,A7 g];have G:∀p k,p<=a->Run A s k p->(R2 A k).Kind≠4:=fun p k L u e=>by
    rcases Nat.lt_or_ge p a with H | H
    ·exact h.no p k H u e
    ·obtain rfl:p=a:=by omega
     exact g (z.2 ⟨k,u,e⟩)
   by_cases D:a=s.length
   ·rw[A6 (.inl D)];refine⟨(fun h=>by cases h),fun ⟨k,p,u,e⟩=>?_⟩;have:=(u.in_ C).2;exact absurd e (G p k (by omega) u)
   ·rw[A7 (fun h=>h.elim D fun h=>by cases h.1)];obtain⟨M,O,T,P,Q⟩:=uG (s:=s) C (p:=a+1) (c:=(s.getD a 0).toNat) m1.1 ([],List.replicate A.States.length false) (fun t v=>⟨y.mg.st t v,y.fr t v⟩) (Sy.first A _) (fun k B=>absurd B (nV A k));refine GK C f (a+1) _ b (by omega) (by omega) ⟨M,O,?_,?_,fun p k L u=>G p k (by omega) u⟩
    ·refine Q (fun k=>Run A s k (a+1)) (fun k B j E=>.eps B E) (fun k B=>absurd B (nV A k)) fun t v H R=>?_;exact .read ((w _).1 ((y.sync _).2 ⟨t,v,rfl⟩)) (by omega) ⟨H,R⟩
    ·intro p k L u x;obtain rfl:p=a:=by omega
     obtain⟨t,v,rfl⟩:=(y.sync k).1 ((w k).2 u);exact P t v x.1 x.2
theorem B89(b:AG A):(iO A s 0).2=true↔∃k p,Run A s k p/\(R2 A k).Kind=4:=by
 unfold iO;exact GK b _ 0 _ _ rfl (C41 _) ⟨Sy.first A 0,fun k a=>absurd a (nV A k),fun k a=>absurd a (nV A k),fun p k h=>by omega,fun p k h=>by omega⟩
end
abbrev Lng:=Nat->Nat->Prop
def z6(R:Lng):Nat->Lng
 | 0,i,j=>i=j
 | m+1,i,j=>∃p,R i p/\z6 R m p j
theorem pow_add{R:Lng}:∀{a b i j:Nat},z6 R (a+b) i j↔∃p,z6 R a i p/\z6 R b p j
 | 0,b,i,j=>by
  rw[C91];exact⟨fun h=>⟨i,rfl,h⟩,fun ⟨p,c,d⟩=>by rw[show i=p from c];exact d⟩
 | a+1,b,i,j=>by
  rw[show a+1+b=(a+b)+1 by omega];constructor
  ·rintro⟨q,c,d⟩;obtain⟨p,e,f⟩:=pow_add.1 d;exact⟨p,⟨q,c,e⟩,f⟩
  ·rintro⟨p,⟨q,c,e⟩,f⟩;exact⟨q,c,pow_add.2 ⟨p,e,f⟩⟩
theorem pow_one{R:Lng}{i j:Nat}:z6 R 1 i j↔R i j:=⟨fun ⟨p,a,b⟩=>by rw[<-show p=j from b];exact a,fun h=>⟨j,h,rfl⟩⟩
theorem pow_snoc{R:Lng}{m i j:Nat}:z6 R (m+1) i j↔∃p,z6 R m i p/\R p j :=
 pow_add.trans ⟨fun ⟨p,a,b⟩=>⟨p,a,pow_one.1 b⟩,fun ⟨p,a,b⟩=>⟨p,a,pow_one.2 b⟩⟩
def xC(D:Int->Lng):List Int->Lng
 | [],i,j=>i=j
 | k::r,i,j=>∃p,xC D r i p/\D k p j
section
variable (L:List Node) (s:Str)
def fO(n:Node)(D:Int->Lng):Lng:=fun i j =>
 if n.Kind=0 then i=j
 else if n.Kind=1 then i<s.length/\j=i+1/\aL n.Set (s.getD i 0).toNat=1
 else if n.Kind=2 then i=0/\j=0
 else if n.Kind=3 then i=s.length/\j=s.length
 else if n.Kind=4 then xC D n.Kids.reverse i j
 else if n.Kind=5 then ∃k∈n.Kids,D k i j
 else ∃m:Nat,n.Min<=m/\(n.Max<0\/(m:Int)<=n.Max)/\z6 (D (n.Kids.getD 0 0)) m i j
def DenF:Nat->Int->Lng
 | 0,_,_,_=>False
 | f+1,k,i,j=>fO s (L.getD k.toNat K8) (DenF f) i j
theorem uH{R S:Lng}(h:∀i j,R i j↔S i j):∀(m i j:Nat),z6 R m i j↔z6 S m i j
 | 0,_,_=>Iff.rfl
 | m+1,i,j=>⟨fun ⟨p,a,b⟩=>⟨p,(h i p).1 a,(uH h m p j).1 b⟩,fun ⟨p,a,b⟩=>⟨p,(h i p).2 a,(uH h m p j).2 b⟩⟩
theorem GL{D E:Int->Lng}:∀{l:List Int},(∀k∈l,∀i j,D k i j↔E k i j)->∀i j,xC D l i j↔xC E l i j
 | [],_,_,_=>Iff.rfl
 | k::r,h,i,j=>by
  have c:=GL (l:=r) fun k e=>h k (C55 _ e);have d:=h k (C56 ..);exact⟨fun ⟨p,a,b⟩=>⟨p,(c i p).1 a,(d p j).1 b⟩,fun ⟨p,a,b⟩=>⟨p,(c i p).2 a,(d p j).2 b⟩⟩
theorem r7{n:Node}{i:Int}(h:v6 n i=true):∀k∈n.Kids,0<=k/\k<i:=fun k a=>by
 unfold v6 at h;rw[C39]at h;exact A1 (C47.1 h.1 k a)
theorem fI{n:Node}{i:Int}(h:v6 n i=true)(b:n.Kind=6):n.Kids.length=1/\0<=n.Min/\n.Min<=100/\(n.Max = -1\/n.Min<=n.Max/\n.Max<=100):=by
 unfold v6 at h;rw[C39]at h;have a:=h.2;rw[A7 (by omega),A7 (by omega),A6 b]at a;exact A1 a
theorem bZ{n:Node}{i:Int}(h:v6 n i=true):0<=n.Kind/\n.Kind<=6:=by
 unfold v6 at h;rw[C39]at h;have a:=h.2;split at a
 ·omega
 ·split at a
  ·omega
  ·split at a
   ·omega
   ·cases a
variable {L s}
theorem nd_get{k:Int}(h:0<=k/\k<L.length):L[k.toNat]?=some (L.getD k.toNat K8):=by
 rw[C38,C36 (by omega)];rfl
theorem jT(a:FZ L){k:Int}(h:0<=k/\k<L.length):v6 (L.getD k.toNat K8) k=true:=by
 have:=a k.toNat _ (nd_get h)
 rwa[Int.toNat_of_nonneg h.1]at this
theorem GM{n:Node}{b:Int}(g:v6 n b=true){D E:Int->Lng}(h:∀k,0<=k->k<b->∀i j,D k i j↔E k i j)(i j:Nat):fO s n D i j↔fO s n E i j:=by
 have e:=r7 g;unfold fO;split
 ·exact Iff.rfl
 split
 ·exact Iff.rfl
 split
 ·exact Iff.rfl
 split
 ·exact Iff.rfl
 split
 ·exact GL (fun k d=>h k (e k (List.mem_reverse.1 d)).1 (e k (List.mem_reverse.1 d)).2) i j
 split
 ·exact⟨fun ⟨k,d,f⟩=>⟨k,d,(h k (e k d).1 (e k d).2 i j).1 f⟩,fun ⟨k,d,f⟩=>⟨k,d,(h k (e k d).1 (e k d).2 i j).2 f⟩⟩
 ·rename_i p q r t u v;have w:=bZ g;obtain⟨o,_⟩:=fI g (by omega);have d:n.Kids.getD 0 0∈n.Kids:=by
   match n.Kids,o with
   | [x],_=>exact C56 ..
  have l:=uH (h _ (e _ d).1 (e _ d).2);exact⟨fun ⟨m,a,b,c⟩=>⟨m,a,b,(l m i j).1 c⟩,fun ⟨m,a,b,c⟩=>⟨m,a,b,(l m i j).2 c⟩⟩
theorem UD(a:FZ L):∀(f g:Nat) (k:Int),0<=k->k<L.length->k<f->k<g->∀i j,DenF L s f k i j↔DenF L s g k i j
 | 0,_,_,_,_,_,_,_,_=>by omega
 | _+1,0,_,_,_,_,_,_,_=>by omega
 | f+1,g+1,k,h0,h1,h2,h3,i,j=>GM (jT a ⟨h0,h1⟩) (fun c b d=>UD a f g c b (by omega) (by omega) (by omega)) i j
variable (L s)
abbrev Den(k:Int):Lng:=DenF L s L.length k
variable {L s}
theorem GO(a:FZ L){k:Int}(h:0<=k/\k<L.length)(i j:Nat):Den L s k i j↔fO s (L.getD k.toNat K8) (Den L s) i j:=by
 obtain⟨n,f⟩:∃n,L.length=n+1:=⟨L.length-1,by omega⟩
 have d:Den L s k i j↔fO s (L.getD k.toNat K8) (DenF L s n) i j:=by unfold Den;rw[f];exact Iff.rfl
 exact d.trans (GM (jT a h) (fun c b e=>UD a n L.length c b (by omega) (by omega) (by omega)) i j)
end
section
variable (A:Auto) (s:Str)
def AcN:Nat->Int->Nat->Prop
 | 0,k,p=>(R2 A k).Kind=4/\p<=s.length
 | n+1,k,p=>(∃j∈fW A s p k,AcN n j p)\/(p<s.length/\reads A s p k/\AcN n (R2 A k).Next (p+1))
def Ac(k:Int)(p:Nat):Prop:=∃n,AcN A s n k p
def Leads(q next:Int)(R:Lng):Prop:=(∀n i,AcN A s n q i->∃m j,m<=n/\R i j/\AcN A s m next j)/\(∀i j,R i j->Ac A s next j->Ac A s q i)
variable {A s}
theorem Leads.congr{q next:Int}{R S:Lng}(h:Leads A s q next R)(a:∀i j,R i j↔S i j):Leads A s q next S :=
 ⟨fun n i ha=>let ⟨m,j,b,c,d⟩:=h.1 n i ha;⟨m,j,b,(a i j).1 c,d⟩,fun i j e ha=>h.2 i j ((a i j).2 e) ha⟩
theorem lY(q:Int):Leads A s q q (fun i j=>i=j):=⟨fun n i h=>⟨n,i,C45 _,rfl,h⟩,fun i j h ha=>by rw[show i=j from h];exact ha⟩
theorem Leads.trans{q r t:Int}{R S:Lng}(h:Leads A s q r R)(g:Leads A s r t S):Leads A s q t (fun i j=>∃p,R i p/\S p j) :=
 ⟨fun n i ha=>let ⟨m,p,d,b,e⟩:=h.1 n i ha;let ⟨f,j,g1,a,c⟩:=g.1 m p e;⟨f,j,C82 g1 d,⟨p,b,a⟩,c⟩,
  fun i j ⟨p,b,a⟩ ha=>h.2 i p b (g.2 p j a ha)⟩
theorem B24{q:Int}{z:Set4}{next o:Int}(h:R2 A q=⟨0,z,next,o⟩):Leads A s q next (fun i j=>i<s.length/\j=i+1/\aL z (s.getD i 0).toNat=1):=by
 refine⟨fun n i ha=>?_,fun i j ⟨c,d,e⟩ ⟨n,ha⟩=>⟨n+1,.inr ⟨c,?_,?_⟩⟩⟩
 ·cases n with
  | zero=>have:=ha.1;rw[h]at this;cases this
  | succ n =>
   rcases ha with ⟨j,b,_⟩ | ⟨hp,hr,ha⟩
   ·unfold fW S0 at b;rw[h]at b;simp at b
   ·rw[h]at ha;have hb:=hr.2;rw[h]at hb;exact⟨n,i+1,Nat.le_succ _,⟨hp,rfl,hb⟩,ha⟩
 ·unfold reads;rw[h];exact⟨rfl,e⟩
 ·rw[h,<-d];exact ha
theorem UE{q:Int}{z:Set4}{next o:Int}(h:R2 A q=⟨2,z,next,o⟩):Leads A s q next (fun i j=>i=0/\j=0):=by
 refine⟨fun n i ha=>?_,fun i j ⟨c,d⟩ ⟨n,ha⟩=>⟨n+1,.inl ⟨next,?_,?_⟩⟩⟩
 ·cases n with
  | zero=>have:=ha.1;rw[h]at this;cases this
  | succ n =>
   rcases ha with ⟨j,a,ha⟩ | ⟨hp,hr,ha⟩
   ·unfold fW S0 at a;rw[h]at a;by_cases b:i=0
    ·simp[b]at a;rw[a,b]at ha;exact⟨n,0,Nat.le_succ _,⟨b,rfl⟩,ha⟩
    ·simp[b]at a
   ·have:=hr.1;rw[h]at this;cases this
 ·unfold fW S0;rw[h];simp[c]
 ·rw[c,<-d];exact ha
theorem B25{q:Int}{z:Set4}{next o:Int}(h:R2 A q=⟨3,z,next,o⟩):Leads A s q next (fun i j=>i=s.length/\j=s.length):=by
 refine⟨fun n i ha=>?_,fun i j ⟨c,d⟩ ⟨n,ha⟩=>⟨n+1,.inl ⟨next,?_,?_⟩⟩⟩
 ·cases n with
  | zero=>have:=ha.1;rw[h]at this;cases this
  | succ n =>
   rcases ha with ⟨j,a,ha⟩ | ⟨hp,hr,ha⟩
   ·unfold fW S0 at a;rw[h]at a;by_cases b:i=s.length
    ·simp[b]at a;rw[a,b]at ha;exact⟨n,s.length,Nat.le_succ _,⟨b,rfl⟩,ha⟩
    ·simp[b]at a
   ·have:=hr.1;rw[h]at this;cases this
 ·unfold fW S0;rw[h];simp[c]
 ·rw[c,<-d];exact ha
theorem gP{q:Int}{z:Set4}{b o:Int}(h:R2 A q=⟨1,z,b,o⟩){n i:Nat}:AcN A s (n+1) q i↔AcN A s n b i\/AcN A s n o i:=by
 constructor
 ·rintro (⟨j,a,ha⟩ | ⟨_,c,_⟩)
  ·unfold fW S0 at a;rw[h]at a;simp at a;rcases a with rfl | rfl
   ·exact .inl ha
   ·exact .inr ha
  ·have:=c.1;rw[h]at this;cases this
 ·rintro (ha | ha)
  ·exact .inl ⟨b,by unfold fW S0;rw[h];simp,ha⟩
  ·exact .inl ⟨o,by unfold fW S0;rw[h];simp,ha⟩
theorem UF{q:Int}{z:Set4}{b o:Int}(h:R2 A q=⟨1,z,b,o⟩){i:Nat}:¬AcN A s 0 q i:=fun ha=>by have:=ha.1;rw[h]at this;cases this
theorem AO{q:Int}{z:Set4}{b o next:Int}{R S:Lng}(h:R2 A q=⟨1,z,b,o⟩)(e:Leads A s b next R)(f:Leads A s o next S):Leads A s q next (fun i j=>R i j\/S i j):=by
 refine⟨fun n i ha=>?_,fun i j d ha=>?_⟩
 ·cases n with
  | zero=>exact absurd ha (UF h)
  | succ n =>
   rcases (gP h).1 ha with ha | ha
   ·obtain⟨m,j,a,b,c⟩:=e.1 n i ha;exact⟨m,j,Nat.le_succ_of_le a,.inl b,c⟩
   ·obtain⟨m,j,a,b,c⟩:=f.1 n i ha;exact⟨m,j,Nat.le_succ_of_le a,.inr b,c⟩
 ·rcases d with d | d
  ·obtain⟨n,ha⟩:=e.2 i j d ha;exact⟨n+1,(gP h).2 (.inl ha)⟩
  ·obtain⟨n,ha⟩:=f.2 i j d ha;exact⟨n+1,(gP h).2 (.inr ha)⟩
theorem ZI{q:Int}{z:Set4}{b next:Int}{R:Lng}(h:R2 A q=⟨1,z,b,next⟩)(e:Leads A s b q R):Leads A s q next (fun i j=>∃m,z6 R m i j):=by
 have key:∀B n,n<B->∀i,AcN A s n q i->∃m j,m<=n/\(∃t,z6 R t i j)/\AcN A s m next j:=by
  intro B;induction B with
  | zero=>intro n o;omega
  | succ B d =>
   intro n o i ha;cases n with
   | zero=>exact absurd ha (UF h)
   | succ n =>
    rcases (gP h).1 ha with ha | ha
    ·obtain⟨m,p,a,b,c⟩:=e.1 n i ha;obtain⟨w,j,x,⟨t,g⟩,k⟩:=d m (by omega) p c;exact⟨w,j,by omega,⟨t+1,p,b,g⟩,k⟩
    ·exact⟨n,i,Nat.le_succ _,⟨0,rfl⟩,ha⟩
 refine⟨fun n i ha=>key (n+1) n (Nat.lt_succ_self _) i ha,?_⟩;rintro i j ⟨m,f⟩ ha;induction m generalizing i with
 | zero =>
  obtain⟨n,ha⟩:=ha;rw[show i=j from f];exact⟨n+1,(gP h).2 (.inr ha)⟩
 | succ m d =>
  obtain⟨p,v,u⟩:=f;obtain⟨n,hb⟩:=e.2 i p v (d p u);exact⟨n+1,(gP h).2 (.inl hb)⟩
end
def Pre(st st':List State):Prop:=st.length<=st'.length/\∀x,x<st.length->st'[x]?=st[x]?
theorem Pre.refl(st:List State):Pre st st:=⟨C45 _,fun _ _=>rfl⟩
theorem Pre.trans{a b c:List State}(h:Pre a b)(g:Pre b c):Pre a c:=⟨C82 h.1 g.1,fun x d=>(g.2 x (C93 d h.1)).trans (h.2 x d)⟩
theorem Pre.snoc(st:List State)(q:State):Pre st (st++[q]):=⟨by simp,fun x a=>C68 a⟩
theorem Pre.set{st st':List State}(h:Pre st st'){l:Nat}(b:st.length<=l)(v:State):Pre st (st'.set l v):=⟨by rw[C78];exact h.1,fun x a=>by rw[List.getElem?_set_ne (by omega)];exact h.2 x a⟩
section
variable (L:List Node) (w:List Int)
structure BPre (f:Nat):Prop where
 build:∀{k next:Int} {st st':List State} {q:Int},J8 L w f k next st=some (st',q)->Pre st st'
 cat:∀{l:List Int} {next:Int} {st st':List State} {q:Int},cB L w f l next st=some (st',q)->Pre st st'
 alt:∀{l:List Int} {next start:Int} {st st':List State} {q:Int},bP L w f l next start st=some (st',q)->Pre st st'
 max:∀{kid:Int} {m:Nat} {last next:Int} {st st':List State} {q:Int},aJ L w f kid m last next st=some (st',q)->Pre st st'
 min:∀{kid:Int} {m:Nat} {next:Int} {st st':List State} {q:Int},aK L w f kid m next st=some (st',q)->Pre st st'
variable {L w}
theorem L4{st st':List State}{q a:Int}(h:(some (st,q):Option Bld)=some (st',a)):st=st'/\q=a:=by cases h;exact⟨rfl,rfl⟩
theorem bpre:∀f:Nat,BPre L w f
 | 0=>⟨(fun h=>by rw[J8]at h;cases h),(fun h=>by rw[cB]at h;cases h),(fun h=>by rw[bP]at h;cases h),(fun h=>by rw[aJ]at h;cases h),(fun h=>by rw[aK]at h;cases h)⟩
 | f + 1=>by
  have b:=bpre f;refine⟨?_,?_,?_,?_,?_⟩
  ·intro k next st st' q h;rw[J8]at h;dsimp only at h;split at h
   ·obtain⟨rfl,_⟩:=L4 h;exact .refl _
   split at h
   ·obtain⟨rfl,_⟩:=L4 h;exact .snoc _ _
   split at h
   ·obtain⟨rfl,_⟩:=L4 h;exact .snoc _ _
   split at h
   ·obtain⟨rfl,_⟩:=L4 h;exact .snoc _ _
   split at h
   ·exact b.cat h
   split at h
   ·split at h
    ·cases h
    ·split at h
     ·cases h
     ·rename_i hb;exact (b.build hb).trans (b.alt h)
   split at h
   ·split at h
    ·split at h
     ·cases h
     ·rename_i hb;exact ((Pre.snoc st _).trans (b.build hb)).set (C45 _) _ |>.trans (b.min h)
    ·split at h
     ·cases h
     ·rename_i hb;exact (b.max hb).trans (b.min h)
   ·obtain⟨rfl,_⟩:=L4 h;exact .refl _
  ·intro l next st st' q h;cases l with
   | nil=>rw[cB]at h;obtain⟨rfl,_⟩:=L4 h;exact .refl _
   | cons k r =>
    rw[cB]at h;split at h
    ·cases h
    ·rename_i hb;exact (b.build hb).trans (b.cat h)
  ·intro l next start st st' q h;cases l with
   | nil=>rw[bP]at h;obtain⟨rfl,_⟩:=L4 h;exact .refl _
   | cons k r =>
    rw[bP]at h;split at h
    ·cases h
    ·rename_i hb;exact ((b.build hb).trans (.snoc _ _)).trans (b.alt h)
  ·intro d m last next st st' q h;cases m with
   | zero=>rw[aJ]at h;obtain⟨rfl,_⟩:=L4 h;exact .refl _
   | succ m =>
    rw[aJ]at h;split at h
    ·cases h
    ·rename_i hb;exact ((b.build hb).trans (.snoc _ _)).trans (b.max h)
  ·intro d m next st st' q h;cases m with
   | zero=>rw[aK]at h;obtain⟨rfl,_⟩:=L4 h;exact .refl _
   | succ m =>
    rw[aK]at h;split at h
    ·cases h
    ·rename_i hb;exact (b.build hb).trans (b.min h)
end
section
variable (A:Auto)
def Agree(a:Nat)(st:List State):Prop:=∀x,a<=x->x<st.length->A.States[x]?=st[x]?
variable {A}
theorem Agree.sub{a:Nat}{st st':List State}(h:Agree A a st')(c:Pre st st'):Agree A a st:=fun x d b=>(h x d (C93 b c.1)).trans (c.2 x b)
theorem Agree.from{a b:Nat}{st:List State}(h:Agree A a st)(hb:a<=b):Agree A b st:=fun x c d=>h x (C82 hb c) d
theorem Agree.at{a:Nat}{st st':List State}{q:State}(h:Agree A a st')(ha:a<=st.length)(d:Pre (st++[q]) st'):R2 A (st.length:Int)=q:=by
 have b:st.length<(st++[q]).length:=by simp
 have c:=h st.length ha (C93 b d.1);rw[d.2 _ b,List.getElem?_concat_length]at c;unfold R2;rw[C37,C38,c];rfl
variable (A) (L:List Node) (w:List Int) (s:Str)
structure BLead (f:Nat):Prop where
 build:∀{k next:Int} {st st':List State} {q:Int},0<=k/\k<L.length->J8 L w f k next st=some (st',q)->Agree A st.length st'->Leads A s q next (Den L s k)
 cat:∀{l:List Int} {next:Int} {st st':List State} {q:Int},(∀k∈l,0<=k/\k<L.length)->cB L w f l next st=some (st',q)->Agree A st.length st'->Leads A s q next (xC (Den L s) l)
 alt:∀{l:List Int} {next start:Int} {st st':List State} {q:Int} {S:Lng},(∀k∈l,0<=k/\k<L.length)->bP L w f l next start st=some (st',q)->Agree A st.length st'->Leads A s start next S->Leads A s q next (fun i j=>S i j\/∃k∈l,Den L s k i j)
 max:∀{kid:Int} {m:Nat} {last next:Int} {st st':List State} {q:Int} {c:Nat},0<=kid/\kid<L.length->aJ L w f kid m last next st=some (st',q)->Agree A st.length st'->Leads A s next last (fun i j=>∃t,t<=c/\z6 (Den L s kid) t i j)->Leads A s q last (fun i j=>∃t,t<=c+m/\z6 (Den L s kid) t i j)
 min:∀{kid:Int} {m:Nat} {next:Int} {st st':List State} {q:Int},0<=kid/\kid<L.length->aK L w f kid m next st=some (st',q)->Agree A st.length st'->Leads A s q next (z6 (Den L s kid) m)
variable {A L w s}
theorem blead(Q:FZ L)(hz:∀k:Int,0<=k/\k<L.length->I0 w k.toNat=0->∀i j,Den L s k i j↔i=j):∀f:Nat,BLead A L w s f
 | 0=>⟨(fun _ h=>by rw[J8]at h;cases h),(fun _ h=>by rw[cB]at h;cases h),(fun _ h=>by rw[bP]at h;cases h),(fun _ h=>by rw[aJ]at h;cases h),(fun _ h=>by rw[aK]at h;cases h)⟩
 | f + 1=>by
  have C:=blead Q hz f;have D:=bpre (L:=L) (w:=w) f;refine⟨?_,?_,?_,?_,?_⟩
  ·intro k next st st' q M h ha;have z:=GO (s:=s) Q M;have hf:=jT Q M;rw[J8]at h;obtain⟨n,hn⟩:∃n,n=L.getD k.toNat K8:=⟨_,rfl⟩
   rw[<-hn]at h z hf;dsimp only at h;have Z:=r7 hf;have ae:=bZ hf;have hkl:∀c∈n.Kids,0<=c/\c<(L.length:Int):=fun c hc=>by have:=Z c hc;omega
   unfold fO at z;split at h
   ·rename_i h0;obtain⟨_,rfl⟩:=L4 h;exact (lY _).congr fun i j=>(hz k M h0 i j).symm
   split at h
   ·rename_i G;obtain⟨rfl,rfl⟩:=L4 h;simp only[G,A6,A7,show ¬(1:Int)=0 by decide,if_false,if_true]at z;exact (B24 (ha.at (C45 _) (.refl _))).congr fun i j=>(z i j).symm
   split at h
   ·rename_i G F;obtain⟨rfl,rfl⟩:=L4 h;simp only[F,show ¬(2:Int)=0 by decide,show ¬(2:Int)=1 by decide,if_false,if_true]at z;exact (UE (ha.at (C45 _) (.refl _))).congr fun i j=>(z i j).symm
   split at h
   ·rename_i G F K;obtain⟨rfl,rfl⟩:=L4 h;simp only[K,show ¬(3:Int)=0 by decide,show ¬(3:Int)=1 by decide,show ¬(3:Int)=2 by decide,if_false,if_true]at z;exact (B25 (ha.at (C45 _) (.refl _))).congr fun i j=>(z i j).symm
   split at h
   ·rename_i G F K W;simp only[W,show ¬(4:Int)=0 by decide,show ¬(4:Int)=1 by decide,show ¬(4:Int)=2 by decide,show ¬(4:Int)=3 by decide,if_false,if_true]at z;exact (C.cat (fun c hc=>hkl c (List.mem_reverse.1 hc)) h ha).congr fun i j=>(z i j).symm
   split at h
   ·rename_i G F K W h5;simp only[h5,show ¬(5:Int)=0 by decide,show ¬(5:Int)=1 by decide,show ¬(5:Int)=2 by decide,show ¬(5:Int)=3 by decide,show ¬(5:Int)=4 by decide,if_false,if_true]at z;split at h
    ·cases h
    ·rename_i c r hr;have hm:∀x,x∈n.Kids↔x=c\/x∈r:=fun x=>by rw[<-List.mem_reverse,hr,C50]
     split at h
     ·cases h
     ·rename_i st1 start hb;have a:=D.alt h;have d:=D.build hb;have E:=C.build (hkl c ((hm c).2 (.inl rfl))) hb (ha.sub a);refine (C.alt (fun x v=>hkl x ((hm x).2 (.inr v))) h (ha.from d.1) E).congr fun i j=>Iff.trans ?_ (z i j).symm;constructor
      ·rintro (h | ⟨x,v,h⟩)
       ·exact⟨c,(hm c).2 (.inl rfl),h⟩
       ·exact⟨x,(hm x).2 (.inr v),h⟩
      ·rintro⟨x,v,h⟩;rcases (hm x).1 v with rfl | v
       ·exact .inl h
       ·exact .inr ⟨x,v,h⟩
   split at h
   ·rename_i G F K W h5 h6;obtain⟨ag,aj,_,al⟩:=fI hf h6;simp only[h6,show ¬(6:Int)=0 by decide,show ¬(6:Int)=1 by decide,show ¬(6:Int)=2 by decide,show ¬(6:Int)=3 by decide,show ¬(6:Int)=4 by decide,show ¬(6:Int)=5 by decide,if_false]at z;obtain⟨B,Y⟩:∃B,B=n.Kids.getD 0 0:=⟨_,rfl⟩
    rw[<-Y]at h z;have af:B∈n.Kids:=by
     rw[Y]
     match n.Kids,ag with
     | [x],_=>exact C56 ..
    have N:=hkl B af;split at h
    ·rename_i O;split at h
     ·cases h
     ·rename_i st1 start hb;have d:=D.build hb;have a:=D.min h;rw[C37]at h a;obtain⟨sp,ac⟩:∃sp:State,sp={ V8 with Kind:=1,Other:=next }:=⟨_,rfl⟩
      rw[<-ac]at hb d;have ab:st.length<st1.length:=C93 (by simp) d.1;have hg:st1[st.length]?=some sp:=by rw[d.2 _ (by simp),List.getElem?_concat_length]
      have ad:Agree A (st++[sp]).length st1:=fun x U V=>by
       rw[C40,C51]at U;have H:x<(st1.set st.length { st1.getD st.length V8 with Next:=start }).length:=by rw[C78];exact V
       rw[ha x (by omega) (C93 H a.1),a.2 x H,List.getElem?_set_ne (by omega)]
      have ai:R2 A (st.length:Int)=⟨1,set0,start,next⟩:=by
       have H:st.length<(st1.set st.length { st1.getD st.length V8 with Next:=start }).length:=by rw[C78];exact ab
       have h7:=ha st.length (C45 _) (C93 H a.1);rw[a.2 _ H,D13 ab]at h7;unfold R2;rw[C37,C38,h7,C38,hg,ac];rfl
      have E:=C.build N hb ad;have I:=ZI ai E;have l3:=C.min N h (fun x U V=>ha x (by rw[C78]at U;omega) V);refine (l3.trans I).congr fun i j=>Iff.trans ?_ (z i j).symm;constructor
      ·rintro⟨p,R,t,T⟩;exact⟨n.Min.toNat+t,by omega,.inl O,pow_add.2 ⟨p,R,T⟩⟩
      ·rintro⟨m,ah,_,P⟩;obtain⟨t,rfl⟩:∃t,m=n.Min.toNat+t:=⟨m-n.Min.toNat,by omega⟩
       obtain⟨p,R,T⟩:=pow_add.1 P;exact⟨p,R,t,T⟩
    ·rename_i O;split at h
     ·cases h
     ·rename_i st1 J hb;have d:=D.max hb;have a:=D.min h
      have l0:Leads A s next next (fun i j=>∃t,t<=0/\z6 (Den L s B) t i j):=(lY next).congr fun i j=>⟨fun e=>⟨0,C45 _,e⟩,fun ⟨t,G,F⟩=>by
       have e:t=0:=by omega
       subst e;exact F⟩
      have E:=C.max N hb (ha.sub a) l0;have I:=C.min N h (ha.from d.1);refine (I.trans E).congr fun i j=>Iff.trans ?_ (z i j).symm;constructor
      ·rintro⟨p,R,t,am,T⟩;exact⟨n.Min.toNat+t,by omega,.inr (by omega),pow_add.2 ⟨p,R,T⟩⟩
      ·rintro⟨m,ah,ak,P⟩;obtain⟨t,rfl⟩:∃t,m=n.Min.toNat+t:=⟨m-n.Min.toNat,by omega⟩
       obtain⟨p,R,T⟩:=pow_add.1 P;exact⟨p,R,t,by omega,T⟩
   ·rename_i G F K W h5 h6;obtain⟨_,rfl⟩:=L4 h;have h0:n.Kind=0:=by omega
    simp only[h0,if_true]at z;exact (lY _).congr fun i j=>(z i j).symm
  ·intro l next st st' q hl h ha;cases l with
   | nil=>rw[cB]at h;obtain⟨_,rfl⟩:=L4 h;exact lY _
   | cons k r =>
    rw[cB]at h;split at h
    ·cases h
    ·rename_i st1 J hb;have a:=D.cat h;have d:=D.build hb;have E:=C.build (hl k (C56 ..)) hb (ha.sub a);have I:=C.cat (fun x v=>hl x (C55 _ v)) h (ha.from d.1);exact I.trans E
  ·intro l next start st st' q S hl h ha X;cases l with
   | nil =>
    rw[bP]at h;obtain⟨_,rfl⟩:=L4 h;exact X.congr fun i j=>⟨.inl,fun h=>h.elim id fun ⟨_,v,_⟩=>by cases v⟩
   | cons k r =>
    rw[bP]at h;split at h
    ·cases h
    ·rename_i st1 b hb;have a:=D.alt h;have d:=D.build hb;have E:=C.build (hl k (C56 ..)) hb ((ha.sub a).sub (.snoc _ _));have I:=AO (ha.at d.1 a) E X;refine (C.alt (fun x v=>hl x (C55 _ v)) h (ha.from (C82 d.1 (Pre.snoc _ _).1)) I).congr fun i j=>?_;constructor
     ·rintro ((h | h) | ⟨x,v,h⟩)
      ·exact .inr ⟨k,C56 ..,h⟩
      ·exact .inl h
      ·exact .inr ⟨x,C55 _ v,h⟩
     ·rintro (h | ⟨x,v,h⟩)
      ·exact .inl (.inr h)
      ·rcases C50.1 v with rfl | v
       ·exact .inl (.inl h)
       ·exact .inr ⟨x,v,h⟩
  ·intro B m last next st st' q c M h ha X;cases m with
   | zero=>rw[aJ]at h;obtain⟨_,rfl⟩:=L4 h;exact X
   | succ m =>
    rw[aJ]at h;split at h
    ·cases h
    ·rename_i st1 b hb;have a:=D.max h;have d:=D.build hb;have E:=C.build M hb ((ha.sub a).sub (.snoc _ _));have I:=AO (ha.at d.1 a) (E.trans X) (lY last);have l3:Leads A s (st1.length:Int) last (fun i j=>∃t,t<=c+1/\z6 (Den L s B) t i j):=I.congr fun i j=>by
      constructor
      ·rintro (⟨p,G,t,F,K⟩ | h)
       ·exact⟨t+1,by omega,p,G,K⟩
       ·exact⟨0,C41 _,h⟩
      ·rintro⟨t,G,F⟩;cases t with
       | zero=>exact .inr F
       | succ t =>
        obtain⟨p,K,W⟩:=F;exact .inl ⟨p,K,t,by omega,W⟩
     exact (C.max M h (ha.from (C82 d.1 (Pre.snoc _ _).1)) l3).congr fun i j=>by rw[show c+1+m=c+(m+1) by omega]
  ·intro B m next st st' q M h ha;cases m with
   | zero=>rw[aK]at h;obtain⟨_,rfl⟩:=L4 h;exact lY _
   | succ m =>
    rw[aK]at h;split at h
    ·cases h
    ·rename_i st1 J hb;have a:=D.min h;have d:=D.build hb;have E:=C.build M hb (ha.sub a);have I:=C.min M h (ha.from d.1);exact (I.trans E).congr fun i j=>pow_snoc.symm
end
def l6(x y:List Str)(c:Change):List Str:=((x.drop c.Old.toNat).take ((c.Old+c.OldLen).toNat-c.Old.toNat))++((y.drop c.New.toNat).take ((c.New+c.NewLen).toNat-c.New.toNat))
def qB(x y:List Str):List Change:=tV (L0 (E0 [x,y]) x) (L0 (E0 [x,y]) y)
def t6(h:Str->Bool)(l:List Str):List Str:=(l.map Y4).filter h
def T9(h:Str->Bool)(x y:List Str)(l:List Change):List Str:=l.flatMap fun c=>t6 h (l6 x y c)
def gL(h:Str->Bool)(a b:Str):List Str:=T9 h (F8 a) (F8 b) (qB (F8 a) (F8 b))
theorem iS(b:List Str)(a:List Str):(L0 b a).length=a.length:=by unfold L0;rw[C74]
theorem LI(x y:List Str):(qB x y).length<=x.length+1/\∀c∈qB x y,0<=c.Old/\0<=c.New/\0<=c.OldLen/\0<=c.NewLen/\c.Old+c.OldLen<=x.length/\c.New+c.NewLen<=y.length:=by
 constructor
 ·have a:=IF (K0 0 0 (L0 (E0 [x,y]) x) (L0 (E0 [x,y]) y)) 0 0 (L0 (E0 [x,y]) x).length (L0 (E0 [x,y]) y).length;have b:=sT 0 0 (L0 (E0 [x,y]) x) (L0 (E0 [x,y]) y);rw[iS]at b;exact C82 a (by omega)
 ·intro c d;have:=NY _ _ c d;rw[iS,iS]at this;exact this
theorem qC(x y:List Str)(c:Change):(l6 x y c).length<=x.length+y.length:=by
 unfold l6;rw[C40,C59,C59,C61,C61];omega
theorem AP{x y:List Str}{c:Change}{s:Str}(h:s∈l6 x y c):s∈x\/s∈y:=by
 rcases C49.1 h with h | h
 ·exact .inl (List.mem_of_mem_drop (C97 h))
 ·exact .inr (List.mem_of_mem_drop (C97 h))
theorem UG(h:Str->Bool)(l:List Str):(t6 h l).length<=l.length:=by
 unfold t6;exact C82 (List.length_filter_le ..) (by rw[C74];exact C45 _)
theorem qD(h:Str->Bool)(x y:List Str):∀l:List Change,(T9 h x y l).length<=l.length*(x.length+y.length)
 | []=>by simp[T9]
 | c::r=>by
  have a:=qD h x y r;have b:=UG h (l6 x y c);have d:=qC x y c;unfold T9 at a ⊢;rw[List.flatMap_cons,C40,C46,C88];omega
structure ChainA (A:Auto) (w:Str):Prop where
 ag:AG A
 start:A.Start=(w.length:Int)+2
 s0:(R2 A ((w.length:Int)+2)).Kind=2/\(R2 A ((w.length:Int)+2)).Next=(w.length:Int)+1
 lt:∀(j:Nat) (c:UInt8),w[j]?=some c->(R2 A ((w.length:Int)+1-j)).Kind=0/\(R2 A ((w.length:Int)+1-j)).Next=(w.length:Int)-j/\∀x:UInt8,aL (R2 A ((w.length:Int)+1-j)).Set x.toNat=1↔x=c
 en:(R2 A 1).Kind=3/\(R2 A 1).Next=0
 ac:(R2 A 0).Kind=4
theorem ag_of{A:Auto}(h:OL A=0):AG A:=by
 unfold OL at h;split at h
 ·cases h
 ·split at h
  ·rename_i b a;exact⟨by omega,by omega,C47.1 a⟩
  ·cases h
theorem B26{n m:Int}{q:State}(h:X9 n q=true)(b:n<=m):X9 m q=true:=by
 unfold X9 at h ⊢;split at h
 ·rename_i a;rw[A6 a];have:=A1 h;exact A4 (by omega)
 ·rename_i a;rw[A7 a];split at h
  ·rename_i a;rw[A6 a];have:=A1 h;exact A4 (by omega)
  ·rename_i a;rw[A7 a];exact h
theorem B27{n:Int}{q:State}(h:X9 n q=true){b:Int}(hb:0<=b/\b<n):X9 n { q with Next:=b }=true:=by
 unfold X9 at h ⊢;dsimp only;split at h
 ·rename_i a;rw[A6 a];exact A4 hb
 ·rename_i a;rw[A7 a];split at h
  ·rename_i a;rw[A6 a];have:=A1 h;exact A4 (by omega)
  ·rename_i a;rw[A7 a];exact h
def GSt(st:List State):Prop:=∀q∈st,X9 st.length q=true
abbrev ZJ(st:List State)(q:Int):Prop:=0<=q/\q<st.length
theorem GSt.snoc{st:List State}(h:GSt st){q:State}(c:X9 (st.length+1) q=true):GSt (st++[q])/\ZJ (st++[q]) st.length:=by
 have b:((st++[q]).length:Int)=st.length+1:=by rw[C40,C51];rfl
 refine⟨fun x a=>?_,by omega,by omega⟩;rw[b];rcases C49.1 a with a | a
 ·exact B26 (h x a) (by omega)
 ·rw[C42.1 a];exact c
theorem lZ{st st':List State}{q:Int}(h:ZJ st q)(a:Pre st st'):ZJ st' q:=⟨h.1,by have:=h.2;have:=a.1;omega⟩
section
variable (L:List Node) (w:List Int)
structure BGood (f:Nat):Prop where
 build:∀{k next:Int} {st st':List State} {q:Int},GSt st->ZJ st next->J8 L w f k next st=some (st',q)->GSt st'/\ZJ st' q
 cat:∀{l:List Int} {next:Int} {st st':List State} {q:Int},GSt st->ZJ st next->cB L w f l next st=some (st',q)->GSt st'/\ZJ st' q
 alt:∀{l:List Int} {next start:Int} {st st':List State} {q:Int},GSt st->ZJ st next->ZJ st start->bP L w f l next start st=some (st',q)->GSt st'/\ZJ st' q
 max:∀{kid:Int} {m:Nat} {last next:Int} {st st':List State} {q:Int},GSt st->ZJ st last->ZJ st next->aJ L w f kid m last next st=some (st',q)->GSt st'/\ZJ st' q
 min:∀{kid:Int} {m:Nat} {next:Int} {st st':List State} {q:Int},GSt st->ZJ st next->aK L w f kid m next st=some (st',q)->GSt st'/\ZJ st' q
variable {L w}
theorem bgood:∀f:Nat,BGood L w f
 | 0=>⟨(fun _ _ h=>by rw[J8]at h;cases h),(fun _ _ h=>by rw[cB]at h;cases h),(fun _ _ _ h=>by rw[bP]at h;cases h),(fun _ _ _ h=>by rw[aJ]at h;cases h),(fun _ _ h=>by rw[aK]at h;cases h)⟩
 | f + 1=>by
  have b:=bgood f;have p:=bpre (L:=L) (w:=w) f;refine⟨?_,?_,?_,?_,?_⟩
  ·intro k next st st' q a d h;obtain⟨g,i⟩:=d;rw[J8]at h;dsimp only at h;split at h
   ·obtain⟨rfl,rfl⟩:=L4 h;exact⟨a,g,i⟩
   split at h
   ·obtain⟨rfl,rfl⟩:=L4 h;exact a.snoc (A4 (by dsimp only;omega))
   split at h
   ·obtain⟨rfl,rfl⟩:=L4 h;exact a.snoc (A4 (by dsimp only;omega))
   split at h
   ·obtain⟨rfl,rfl⟩:=L4 h;exact a.snoc (A4 (by dsimp only;omega))
   split at h
   ·exact b.cat a ⟨g,i⟩ h
   split at h
   ·split at h
    ·cases h
    ·split at h
     ·cases h
     ·rename_i hb;obtain⟨g1,e⟩:=b.build a ⟨g,i⟩ hb;exact b.alt g1 (lZ ⟨g,i⟩ (p.build hb)) e h
   split at h
   ·split at h
    ·split at h
     ·cases h
     ·rename_i st1 start hb;obtain⟨g0,J⟩:=a.snoc (q:={ V8 with Kind:=1,Other:=next }) (A4 (by dsimp only[V8];omega));have I:=p.build hb;obtain⟨g1,e⟩:=b.build g0 J hb;have j:st.length<st1.length:=C93 (by simp) I.1;rw[C37]at h;refine b.min (fun x B=>?_) ?_ h
      ·rw[C78];rcases List.mem_or_eq_of_mem_set B with B | rfl
       ·exact g1 x B
       ·exact B27 (g1 _ (by rw[C38,C36 j];exact C43 j)) e
      ·exact⟨by omega,by rw[C78];omega⟩
    ·split at h
     ·cases h
     ·rename_i hb;obtain⟨g1,e⟩:=b.max a ⟨g,i⟩ ⟨g,i⟩ hb;exact b.min g1 e h
   ·obtain⟨rfl,rfl⟩:=L4 h;exact⟨a,g,i⟩
  ·intro l next st st' q a d h;cases l with
   | nil=>rw[cB]at h;obtain⟨rfl,rfl⟩:=L4 h;exact⟨a,d⟩
   | cons k r =>
    rw[cB]at h;split at h
    ·cases h
    ·rename_i hb;obtain⟨g1,e⟩:=b.build a d hb;exact b.cat g1 e h
  ·intro l next start st st' q a d F h;cases l with
   | nil=>rw[bP]at h;obtain⟨rfl,rfl⟩:=L4 h;exact⟨a,F⟩
   | cons k r =>
    rw[bP]at h;split at h
    ·cases h
    ·rename_i hb;obtain⟨g1,e⟩:=b.build a d hb;have A:=lZ F (p.build hb);have z:=lZ d (p.build hb);obtain⟨t,E⟩:=A;obtain⟨u,G⟩:=e;obtain⟨v,C⟩:=g1.snoc (q:={ V8 with Kind:=1,Next:=_,Other:=start }) (A4 (by dsimp only;exact⟨u,by omega,t,by omega⟩));exact b.alt v (lZ z (.snoc _ _)) C h
  ·intro D m last next st st' q a H d h;cases m with
   | zero=>rw[aJ]at h;obtain⟨rfl,rfl⟩:=L4 h;exact⟨a,d⟩
   | succ m =>
    rw[aJ]at h;split at h
    ·cases h
    ·rename_i hb;obtain⟨g1,u,G⟩:=b.build a d hb;have y:=lZ H (p.build hb);obtain⟨t,E⟩:=y;obtain⟨v,C⟩:=g1.snoc (q:={ V8 with Kind:=1,Next:=_,Other:=last }) (A4 (by dsimp only;exact⟨u,by omega,t,by omega⟩));exact b.max v (lZ ⟨t,E⟩ (.snoc _ _)) C h
  ·intro D m next st st' q a d h;cases m with
   | zero=>rw[aK]at h;obtain⟨rfl,rfl⟩:=L4 h;exact⟨a,d⟩
   | succ m =>
    rw[aK]at h;split at h
    ·cases h
    ·rename_i hb;obtain⟨g1,e⟩:=b.build a d hb;exact b.min g1 e h
end
variable {A:Auto}
theorem acN_le:∀{n:Nat} {k:Int} {p:Nat},AcN A s n k p->p<=s.length
 | 0,_,_,h=>h.2
 | n+1,k,p,h=>by
  rcases h with ⟨j,_,h⟩ | ⟨h,_⟩
  ·exact acN_le h
  ·exact Nat.le_of_lt h
theorem B90{k:Int}{p:Nat}(h:Run A s k p):Ac A s k p->∃i,i<=s.length/\Ac A s A.Start i:=by
 induction h with
 | start b=>exact fun h=>⟨_,b,h⟩
 | eps _ c a=>exact fun ⟨n,h⟩=>a ⟨n+1,.inl ⟨_,c,h⟩⟩
 | read _ d e a=>exact fun ⟨n,h⟩=>a ⟨n+1,.inr ⟨d,e,h⟩⟩
theorem ZK:∀{n:Nat} {k:Int} {p:Nat},Run A s k p->AcN A s n k p->∃k p,Run A s k p/\(R2 A k).Kind=4
 | 0,_,_,hr,h=>⟨_,_,hr,h.1⟩
 | n+1,k,p,hr,h=>by
  rcases h with ⟨j,b,h⟩ | ⟨hp,hrd,h⟩
  ·exact ZK (.eps hr b) h
  ·exact ZK (.read hr hp hrd) h
theorem find_ac(b:AG A):(iO A s 0).2=true↔∃i,i<=s.length/\Ac A s A.Start i:=by
 rw[B89 b];constructor
 ·rintro⟨k,p,c,d⟩;exact B90 c ⟨0,d,(c.in_ b).2⟩
 ·rintro⟨i,e,n,h⟩;exact ZK (.start e) h
theorem B91{L:List Node}{w:List Int}{s:Str}(f:FZ L)(J:1<=L.length)(I:∀k:Int,0<=k/\k<L.length->I0 w k.toNat=0->∀i j,Den L s k i j↔i=j){F:Nat}{st:List State}{r:Int}
  (hb:J8 L w F ((L.length:Int)-1) 0 [⟨4,⟨0,0,0,0⟩,0,0⟩]=some (st,r))(E:st.length<=8000):AG ⟨st,r⟩/\((iO ⟨st,r⟩ s 0).2=true↔∃i j,i<=s.length/\j<=s.length/\Den L s ((L.length:Int)-1) i j):=by
 have v:=(bpre F).build hb;obtain⟨B,a⟩:=(bgood F).build (st:=[⟨4,⟨0,0,0,0⟩,0,0⟩]) (fun q H=>by rw[C42.1 H];rfl) ⟨Int.le_refl _,by decide⟩ hb;have o:AG ⟨st,r⟩:=⟨⟨v.1,E⟩,a,B⟩
 have y:R2 ⟨st,r⟩ 0=⟨4,⟨0,0,0,0⟩,0,0⟩:=by
  have z:=v.2 0 (by decide);unfold R2;rw[C38];show (st[0]?).getD V8=_;rw[z];rfl
 have p:=(blead (A:=⟨st,r⟩) (s:=s) f I F).build ⟨by omega,by omega⟩ hb (fun x _ _=>rfl);refine⟨o,?_⟩;rw[find_ac o];constructor
 ·rintro⟨i,a,n,h⟩;obtain⟨m,j,_,c,G⟩:=p.1 n i h;exact⟨i,j,a,acN_le G,c⟩
 ·rintro⟨i,j,a,C,c⟩;exact⟨i,a,p.2 i j c ⟨0,by rw[y],C⟩⟩
variable {L:List Node}
def Fwd(s:Str)(R:Lng):Prop:=∀i j,i<=s.length->R i j->i<=j/\j<=s.length
theorem Fwd.pow{R:Lng}(h:Fwd s R):∀m,Fwd s (z6 R m)
 | 0,i,j,hi,e=>by rw[<-show i=j from e];exact⟨C45 _,hi⟩
 | m+1,i,j,hi,⟨p,h1,h2⟩=>by
  obtain⟨a,b⟩:=h i p hi h1;obtain⟨c,d⟩:=h.pow m p j b h2;exact⟨C82 a c,d⟩
theorem OV{D:Int->Lng}:∀{l:List Int},(∀k∈l,Fwd s (D k))->Fwd s (xC D l)
 | [],_,i,j,hi,e=>by rw[<-show i=j from e];exact⟨C45 _,hi⟩
 | k::r,h,i,j,hi,⟨p,h1,h2⟩=>by
  obtain⟨a,b⟩:=OV (l:=r) (fun x f=>h x (C55 _ f)) i p hi h1;obtain⟨c,d⟩:=h k (C56 ..) p j b h2;exact⟨C82 a c,d⟩
theorem BO(b:FZ L):∀(B:Nat) (k:Int),k<B->0<=k/\k<L.length->Fwd s (Den L s k)
 | 0,_,h,hk=>by omega
 | B+1,k,hB,hk=>by
  intro i j n a;rw[GO b hk]at a;have q:=jT b hk;have l:=r7 q;have r:=bZ q;have u:∀c∈(L.getD k.toNat K8).Kids,Fwd s (Den L s c):=fun c f=>by
   have:=l c f;exact BO b B c (by omega) (by omega)
  unfold fO at a;split at a
  ·rw[<-a];exact⟨C45 _,n⟩
  split at a
  ·omega
  split at a
  ·omega
  split at a
  ·omega
  split at a
  ·exact OV (fun c f=>u c (List.mem_reverse.1 f)) i j n a
  split at a
  ·obtain⟨c,f,a⟩:=a;exact u c f i j n a
  ·obtain⟨m,_,_,a⟩:=a;obtain⟨v,_⟩:=fI q (by omega);have y:(L.getD k.toNat K8).Kids.getD 0 0∈(L.getD k.toNat K8).Kids:=by
    match (L.getD k.toNat K8).Kids,v with
    | [x],_=>exact C56 ..
   exact (u _ y).pow m i j n a
theorem UH{R:Lng}(h:Fwd s R):∀(m i j:Nat),i<=s.length->z6 R (m+1) i j->j-i<m+1->z6 R m i j
 | 0,i,j,hi,⟨p,h1,h2⟩,hm=>by
  obtain⟨a,_⟩:=h i p hi h1;have e:p=j:=h2;show i=j;omega
 | m+1,i,j,hi,⟨p,h1,h2⟩,hm=>by
  obtain⟨a,b⟩:=h i p hi h1;by_cases e:p=i
  ·rw[e]at h2;exact h2
  ·exact⟨p,h1,UH h m p j b h2 (by omega)⟩
theorem A43{R:Lng}(h:Fwd s R){i j:Nat}(a:i<=s.length)(c:Nat):∀d,z6 R (c+s.length+1+d) i j->z6 R (c+s.length+1) i j
 | 0,hp=>hp
 | d+1,hp=>by
  have b:=(h.pow _ i j a hp).2;exact A43 h a c d (UH h (c+s.length+1+d) i j a hp (by omega))
theorem B92{R:Lng}(h:Fwd s R){i j:Nat}(e:i<=s.length)(c:Nat):(∃m,c<=m/\z6 R m i j)↔∃m,c<=m/\m<=c+(s.length+1)/\z6 R m i j:=by
 constructor
 ·rintro⟨m,b,a⟩;by_cases f:m<=c+(s.length+1)
  ·exact⟨m,b,f,a⟩
  ·obtain⟨d,rfl⟩:∃d,m=c+s.length+1+d:=⟨m-(c+s.length+1),by omega⟩
   exact⟨c+s.length+1,by omega,by omega,A43 h e c d a⟩
 ·rintro⟨m,b,_,a⟩;exact⟨m,b,a⟩
theorem UI{R:Lng}{c r i j:Nat}:(∃m,c<=m/\m<=c+(r+1)/\z6 R m i j)↔(∃m,c<=m/\m<=c+r/\z6 R m i j)\/∃p,(∃m,c<=m/\m<=c+r/\z6 R m i p)/\R p j:=by
 constructor
 ·rintro⟨m,b,e,a⟩;by_cases g:m<=c+r
  ·exact .inl ⟨m,b,g,a⟩
  ·obtain⟨n,rfl⟩:∃n,m=n+1:=⟨m-1,by omega⟩
   obtain⟨p,d,f⟩:=pow_snoc.1 a;exact .inr ⟨p,⟨n,by omega,by omega,d⟩,f⟩
 ·rintro (⟨m,b,e,a⟩ | ⟨p,⟨m,b,e,a⟩,d⟩)
  ·exact⟨m,b,by omega,a⟩
  ·exact⟨m+1,by omega,by omega,pow_snoc.2 ⟨p,a,d⟩⟩
def v7(T:List (List Bool))(i j:Nat):Bool:=((T[i]?).getD [])[j]?.getD false
structure Tab (s:Str) (T:List (List Bool)) (R:Lng):Prop where
 len:T.length=s.length+1
 row:∀r∈T,r.length=s.length+1
 is:∀i j,i<=s.length->j<=s.length->(v7 T i j=true↔R i j)
theorem Tab.congr{T:List (List Bool)}{R S:Lng}(h:Tab s T R)(d:∀i j,i<=s.length->j<=s.length->(R i j↔S i j)):Tab s T S:=⟨h.len,h.row,fun i j b c=>(h.is i j b c).trans (d i j b c)⟩
def aA(n:Nat)(f:Nat->Nat->Bool):List (List Bool):=(List.range n).map fun i=>(List.range n).map fun j=>f i j
theorem B93{n:Nat}{f:Nat->Nat->Bool}{i j:Nat}(b:i<n)(c:j<n):v7 (aA n f) i j=f i j:=by
 unfold v7 aA;rw[C96,D02 b];show (((List.range n).map fun j=>f i j)[j]?).getD false=f i j;rw[C96,D02 c];rfl
theorem OW{s:Str}{f:Nat->Nat->Bool}{R:Lng}(h:∀i j,i<=s.length->j<=s.length->(f i j=true↔R i j)):Tab s (aA (s.length+1) f) R where
 len:=by unfold aA;rw[C74,C94]
 row:=fun r c=>by
  obtain⟨i,_,rfl⟩:=C71.1 c;rw[C74,C94]
 is:=fun i j a b=>by rw[B93 (by omega) (by omega)];exact h i j a b
def oD(n:Nat)(b:Bool):List (List Bool):=aA n fun i j=>decide (i=j)&&b
def GP(n:Nat)(A B:List (List Bool)):List (List Bool):=aA n fun i j=>v7 A i j||v7 B i j
def v8(A B:List (List Bool))(i k j:Nat):Bool:=(List.range k).any fun q=>decide (i<=q)&&(v7 A i q&&(decide (q<=j)&&v7 B q j))
def GQ(n:Nat)(A B:List (List Bool)):List (List Bool):=aA n fun i j=>v8 A B i n j
theorem rL{A B:List (List Bool)}{i k j:Nat}:v8 A B i (k+1) j=(v8 A B i k j||(decide (i<=k)&&(v7 A i k&&(decide (k<=j)&&v7 B k j)))):=by
 unfold v8;rw[D15,D12,List.any_cons,List.any_nil,Bool.or_false]
theorem GR{A B:List (List Bool)}{i j:Nat}:∀k,k<=i->v8 A B i k j=false
 | 0,_=>rfl
 | k+1,h=>by rw[rL,GR k (by omega),A5 (by omega)];rfl
variable {A B:List (List Bool)}{R S:Lng}
theorem tab_diag:Tab s (oD (s.length+1) true) (fun i j=>i=j):=OW fun i j _ _=>by rw[Bool.and_true,decide_eq_true_eq]
theorem tab_none:Tab s (oD (s.length+1) false) (fun _ _=>False):=OW fun i j _ _=>by rw[Bool.and_false];exact⟨(fun h=>by cases h),False.elim⟩
theorem LJ(ha:Tab s A R)(hb:Tab s B S):Tab s (GP (s.length+1) A B) (fun i j=>R i j\/S i j):=OW fun i j a b=>by
 rw[C67,ha.is i j a b,hb.is i j a b]
theorem GS(ha:Tab s A R)(hb:Tab s B S)(k:Fwd s R)(l:Fwd s S):Tab s (GQ (s.length+1) A B) (fun i j=>∃p,R i p/\S p j):=OW fun i j d g=>by
 unfold v8;rw[List.any_eq_true];constructor
 ·rintro⟨q,m,h⟩;have n:=C62.1 m;simp only[C39,decide_eq_true_eq]at h;exact⟨q,(ha.is i q d (by omega)).1 h.2.1,(hb.is q j (by omega) g).1 h.2.2.2⟩
 ·rintro⟨p,e,f⟩;obtain⟨a,b⟩:=k i p d e;obtain⟨c,_⟩:=l p j b f;refine⟨p,C62.2 (by omega),?_⟩;simp only[C39,decide_eq_true_eq];exact⟨a,(ha.is i p d b).2 e,c,(hb.is p j b g).2 f⟩
theorem B94{D:Int->Lng}(l:List Int)(k:Int)(i j:Nat):xC D (l++[k]).reverse i j↔∃p,xC D l.reverse i p/\D k p j:=by
 rw[List.reverse_append];exact Iff.rfl
theorem B95{D:Int->Lng}(l:List Int)(k:Int)(i j:Nat):(∃c∈l++[k],D c i j)↔(∃c∈l,D c i j)\/D k i j:=by
 constructor
 ·rintro⟨c,a,h⟩;rcases C49.1 a with a | a
  ·exact .inl ⟨c,a,h⟩
  ·rw[C42.1 a]at h;exact .inr h
 ·rintro (⟨c,a,h⟩ | h)
  ·exact⟨c,List.mem_append_left _ a,h⟩
  ·exact⟨k,List.mem_append_right _ (List.mem_singleton_self k),h⟩
def Rounds(R:Lng)(c r:Nat):Lng:=fun i j=>∃m,c<=m/\m<=c+r/\z6 R m i j
theorem rounds_zero{R:Lng}{c i j:Nat}:Rounds R c 0 i j↔z6 R c i j:=⟨fun ⟨m,b,d,a⟩=>by
 have e:m=c:=by omega
 rw[<-e];exact a,fun h=>⟨c,C45 _,C45 _,h⟩⟩
theorem rounds_succ{R:Lng}{c r i j:Nat}:Rounds R c (r+1) i j↔Rounds R c r i j\/∃p,Rounds R c r i p/\R p j:=UI
theorem ZL{L:List Node}{s:Str}(h:FZ L){k:Int}(w:0<=k/\k<L.length)(v:(L.getD k.toNat K8).Kind=6){i j:Nat}(y:i<=s.length) :
  Den L s k i j↔Rounds (Den L s ((L.getD k.toNat K8).Kids.getD 0 0)) (L.getD k.toNat K8).Min.toNat (if (L.getD k.toNat K8).Max<0 then s.length+1 else ((L.getD k.toNat K8).Max-(L.getD k.toNat K8).Min).toNat) i j:=by
 have q:=jT h w;rw[GO h w];obtain⟨n,E⟩:∃n,n=L.getD k.toNat K8:=⟨_,rfl⟩
 rw[<-E]at q v ⊢;obtain⟨A,B,_,C⟩:=fI q v;have p:n.Kids.getD 0 0∈n.Kids:=by
  match n.Kids,A with
  | [x],_=>exact C56 ..
 have z:=r7 q _ p;have u:Fwd s (Den L s (n.Kids.getD 0 0)):=BO h L.length _ (by omega) (by omega);unfold fO;rw[A7 (by omega),A7 (by omega),A7 (by omega),A7 (by omega),A7 (by omega),A7 (by omega)];split
 ·rename_i f;refine Iff.trans ?_ (B92 u y n.Min.toNat);exact⟨fun ⟨m,a,_,c⟩=>⟨m,by omega,c⟩,fun ⟨m,a,c⟩=>⟨m,by omega,.inl f,c⟩⟩
 ·rename_i f;exact⟨fun ⟨m,a,b,c⟩=>⟨m,by omega,by omega,c⟩,fun ⟨m,a,b,c⟩=>⟨m,by omega,.inr (by omega),c⟩⟩
abbrev N1:List Bool->Nat->Cell:=fun l _=>.list Bool 1 M8 l
abbrev rM:List (List Bool)->Nat->Cell:=fun l _=>.list (List Bool) 1 N1 l
abbrev dR(l:List (List Bool)):PV:=.one (.list (List Bool) 1 N1 l)
abbrev AQ(l:List (List (List Bool))):PV:=.one (.list (List (List Bool)) 1 rM l)
def l7(n:Nat)(f g:Nat->Bool)(j:Nat):List Bool:=(List.range n).map fun q=>if q<j then g q else f q
theorem OX(n:Nat)(f g:Nat->Bool)(j:Nat):(l7 n f g j).length=n:=by unfold l7;rw[C74,C94]
theorem mix_get{n:Nat}{f g:Nat->Bool}{j:Nat}(h:j<n):(l7 n f g j)[j]?=some (f j):=by
 unfold l7;rw[C96,D02 h];show some (if j<j then g j else f j)=_;rw[A7 (Nat.lt_irrefl j)]
theorem A44{n:Nat}{f g:Nat->Bool}{j:Nat}:(l7 n f g j).set j (g j)=l7 n f g (j+1):=by
 unfold l7;refine List.ext_getElem (by simp) fun q b c=>?_;rw[List.getElem_set];simp only[List.getElem_map,List.getElem_range];by_cases a:j=q
 ·subst a;rw[A6 rfl,A6 (Nat.lt_succ_self j)]
 ·rw[A7 a];by_cases h:q<j
  ·rw[A6 h,A6 (by omega)]
  ·rw[A7 h,A7 (by omega)]
theorem B28{n:Nat}{f g:Nat->Bool}{j:Nat}(h:∀q,q<j->f q=g q):(List.range n).map f=l7 n f g j:=by
 unfold l7;refine C81 fun q _=>?_;by_cases b:q<j
 ·rw[A6 b,h q b]
 ·rw[A7 b]
theorem UJ{n:Nat}{f g:Nat->Bool}:l7 n f g n=(List.range n).map g:=by
 unfold l7;exact C81 fun q b=>A6 (C62.1 b)
theorem GW{n:Nat}{g:Nat->Bool}:List.replicate n false=l7 n (fun _=>false) g 0:=by
 unfold l7;refine List.ext_getElem (by simp) fun q a b=>by simp
theorem UK{n:Nat}{f g:Nat->Bool}{j:Nat}(h:∀q,f q=g q):l7 n f g j=(List.range n).map g:=by
 unfold l7;exact C81 fun q _=>by rw[h q];split<;>rfl
theorem xD{n:Nat}{T:List (List Bool)}(d:T.length=n)(a:∀r∈T,r.length=n){i:Nat}(b:i<n):∃row,T[i]?=some row/\row.length=n/\∀j,j<n->row[j]?=some (v7 T i j):=by
 have h:=a T[i] (C43 (by omega));refine⟨T[i],C36 (by omega),h,fun j c=>?_⟩;unfold v7;rw[C36 (show i<T.length by omega)];dsimp only[Option.getD_some];rw[C36 (by omega)];rfl
theorem BP(n:Nat)(f:Nat->Nat->Bool):(aA n f).length=n:=by unfold aA;rw[C74,C94]
theorem tab_row(n:Nat)(f:Nat->Nat->Bool):∀r∈aA n f,r.length=n:=fun r a=>by
 obtain⟨i,_,rfl⟩:=C71.1 a;rw[C74,C94]
theorem GX{n:Nat}{f:Nat->Nat->Bool}{i:Nat}(b:i<n):(aA n f).take (i+1)=(aA n f).take i++[(List.range n).map (f i)]:=by
 rw[C52]
 congr 1
 unfold aA;rw[C96,D02 b];rfl
def kR(n:Nat)(f:Nat->Option (Nat×Bool))(r:Nat):List Bool:=match f r with
 | none=>List.replicate n false
 | some (j,b)=>(List.replicate n false).set j b
def sU(n:Nat)(f:Nat->Option (Nat×Bool)):List (List Bool):=(List.range n).map (kR n f)
theorem A45(n:Nat)(f:Nat->Option (Nat×Bool))(r:Nat):(kR n f r).length=n:=by
 unfold kR;split
 ·exact C95
 ·rw[C78,C95]
theorem B29{n:Nat}{f:Nat->Option (Nat×Bool)}{i j:Nat}(d:i<n)(a:j<n):v7 (sU n f) i j=true↔f i=some (j,true):=by
 unfold v7 sU;rw[C96,D02 d];show ((kR n f i)[j]?).getD false=true↔_;unfold kR;cases h:f i with
 | none=>simp[a]
 | some p =>
  obtain⟨q,b⟩:=p;dsimp only;rw[D22];by_cases c:q=j
  ·subst c;rw[A6 rfl,A6 (by rw[C95];exact a)];simp
  ·rw[A7 c];simp[a,c]
theorem GY{s:Str}{f:Nat->Option (Nat×Bool)}{R:Lng}(h:∀i j,i<=s.length->j<=s.length->(f i=some (j,true)↔R i j)):Tab s (sU (s.length+1) f) R where
 len:=by unfold sU;rw[C74,C94]
 row:=fun r d=>by
  obtain⟨i,_,rfl⟩:=C71.1 d;exact A45 _ _ _
 is:=fun i j b c=>(B29 (by omega) (by omega)).trans (h i j b c)
def yT(s:Str)(z:Set4)(m r:Nat):Option (Nat×Bool):=if r<m then some (r+1,decide (aL z (s.getD r 0).toNat=1)) else none
def xE(k r:Nat):Option (Nat×Bool):=if r=k then some (k,true) else none
variable {n:Node}{D:Int->Lng}
theorem tab_k0(h:n.Kind=0):Tab s (oD (s.length+1) true) (fO s n D):=tab_diag.congr fun i j _ _=>by unfold fO;rw[A6 h]
theorem tab_k1(h:n.Kind=1):Tab s (sU (s.length+1) (yT s n.Set s.length)) (fO s n D):=GY fun i j e f=>by
 unfold fO;rw[A7 (show ¬n.Kind=0 by omega),A6 h];unfold yT;constructor
 ·intro g;split at g
  ·rename_i a;injection g with g
   injection g with g1 g2
   exact⟨a,g1.symm,A1 g2⟩
  ·cases g
 ·rintro⟨b,c,d⟩;rw[A6 b,c,A4 d]
theorem tab_k2(h:n.Kind=2):Tab s (sU (s.length+1) (xE 0)) (fO s n D):=GY fun i j c d=>by
 unfold fO;rw[A7 (show ¬n.Kind=0 by omega),A7 (show ¬n.Kind=1 by omega),A6 h];unfold xE;constructor
 ·intro g;split at g
  ·rename_i e;injection g with g
   injection g with g1 g2
   exact⟨e,g1.symm⟩
  ·cases g
 ·rintro⟨a,b⟩;rw[A6 a,b]
theorem tab_k3(h:n.Kind=3):Tab s (sU (s.length+1) (xE s.length)) (fO s n D):=GY fun i j c d=>by
 unfold fO;rw[A7 (show ¬n.Kind=0 by omega),A7 (show ¬n.Kind=1 by omega),A7 (show ¬n.Kind=2 by omega),A6 h];unfold xE;constructor
 ·intro g;split at g
  ·rename_i e;injection g with g
   injection g with g1 g2
   exact⟨e,g1.symm⟩
  ·cases g
 ·rintro⟨a,b⟩;rw[A6 a,b]
theorem tab_k4(h:n.Kind=4){T:List (List Bool)}(a:Tab s T (xC D n.Kids.reverse)):Tab s T (fO s n D):=a.congr fun i j _ _=>by
 unfold fO;rw[A7 (by omega),A7 (by omega),A7 (by omega),A7 (by omega),A6 h]
theorem tab_k5(h:n.Kind=5){T:List (List Bool)}(a:Tab s T (fun i j=>∃k∈n.Kids,D k i j)):Tab s T (fO s n D):=a.congr fun i j _ _=>by
 unfold fO;rw[A7 (by omega),A7 (by omega),A7 (by omega),A7 (by omega),A7 (by omega),A6 h]
theorem mA{α:Type}{l:List α}{k:Nat}{x:α}(h:l[k]?=some x):l.take (k+1)=l.take k++[x]:=by
 rw[C52,h];rfl
theorem tab_cat{l:List Int}{k:Nat}{c:Int}(b:l[k]?=some c)(a:∀x∈l,Fwd s (D x)){T B:List (List Bool)}(f:Tab s T (xC D (l.take k).reverse))(d:Tab s B (D c)):Tab s (GQ (s.length+1) T B) (xC D (l.take (k+1)).reverse):=by
 rw[mA b];refine (GS f d (OV fun x h=>a x (C97 (List.mem_reverse.1 h))) (a c (C60 b))).congr fun i j _ _=>?_;exact (B94 (l.take k) c _ _).symm
theorem tab_alt{l:List Int}{k:Nat}{c:Int}(d:l[k]?=some c){T B:List (List Bool)}(b:Tab s T (fun i j=>∃x∈l.take k,D x i j))(a:Tab s B (D c)):Tab s (GP (s.length+1) T B) (fun i j=>∃x∈l.take (k+1),D x i j):=by
 rw[mA d];exact (LJ b a).congr fun _ _ _ _=>(B95 (l.take k) c _ _).symm
theorem B96{l:List Int}:Tab s (oD (s.length+1) false) (fun i j=>∃x∈l.take 0,D x i j):=tab_none.congr fun _ _ _ _=>⟨False.elim,fun ⟨x,a,_⟩=>by rw[C79]at a;cases a⟩
theorem B97{l:List Int}:Tab s (oD (s.length+1) true) (xC D (l.take 0).reverse):=tab_diag
theorem B98{R:Lng}:Tab s (oD (s.length+1) true) (z6 R 0):=tab_diag
theorem tab_pow{R:Lng}(a:Fwd s R){m:Nat}{T B:List (List Bool)}(d:Tab s T (z6 R m))(b:Tab s B R):Tab s (GQ (s.length+1) T B) (z6 R (m+1)) :=
 (GS d b (a.pow m) a).congr fun _ _ _ _=>pow_snoc.symm
theorem ZM{R:Lng}(a:Fwd s R)(c r:Nat):Fwd s (Rounds R c r):=fun _ _ b ⟨m,_,_,h⟩=>a.pow m _ _ b h
theorem UL{R:Lng}{c:Nat}{T:List (List Bool)}(a:Tab s T (z6 R c)):Tab s T (Rounds R c 0):=a.congr fun _ _ _ _=>rounds_zero.symm
theorem ZN{R:Lng}(a:Fwd s R){c r:Nat}{T B:List (List Bool)}(b:Tab s T (Rounds R c r))(d:Tab s B R):Tab s (GP (s.length+1) T (GQ (s.length+1) T B)) (Rounds R c (r+1)) :=
 (LJ b (GS b d (ZM a c r) a)).congr fun _ _ _ _=>rounds_succ.symm
theorem B99(a:FZ L){k:Int}(b:0<=k/\k<L.length){T:List (List Bool)}(h:Tab s T (fO s (L.getD k.toNat K8) (Den L s))):Tab s T (Den L s k):=h.congr fun _ _ _ _=>(GO a b _ _).symm
theorem tab_rep(b:FZ L){k:Int}(j:0<=k/\k<L.length)(c:(L.getD k.toNat K8).Kind=6){T:List (List Bool)}(h:Tab s T (Rounds (Den L s ((L.getD k.toNat K8).Kids.getD 0 0)) (L.getD k.toNat K8).Min.toNat (if (L.getD k.toNat K8).Max<0 then s.length+1 else ((L.getD k.toNat K8).Max-(L.getD k.toNat K8).Min).toNat))):Tab s T (Den L s k) :=
 h.congr fun _ _ f _=>(ZL b j c f).symm
theorem Tab.cell{T:List (List Bool)}{R:Lng}(h:Tab s T R){i:Nat}(a:i<=s.length):∃row,T[i]?=some row/\row.length=s.length+1/\∀j,j<=s.length->row[j]?=some (v7 T i j):=by
 have c:=h.len;refine⟨T[i],C36 (by omega),h.row _ (C43 _),fun j b=>?_⟩;have d:=h.row T[i] (C43 _);unfold v7;rw[C36 (show i<T.length by omega)];dsimp only[Option.getD_some];rw[C36 (by omega)];rfl
abbrev names4:List Str:=[[97],[98,47,120],[98,47,121],[99,32,100]]
theorem names4_asc:names4.Pairwise (fun x y=>dL x y=true):=by decide
theorem UM:∀p∈names4,N8 p=0/\p.length<=3:=by decide
theorem OY:∀p∈names4,∀q∈names4,above p q=false:=by decide
def NoDig(b:Str):Prop:=∀c∈b,c.toNat<48\/57<c.toNat
theorem NoDig.app{a b:Str}(ha:NoDig a)(hb:NoDig b):NoDig (a++b):=fun c d=>(C49.1 d).elim (ha c) (hb c)
theorem NoDig.sub{a b:Str}(h:NoDig b)(e:∀c∈a,c∈b):NoDig a:=fun c d=>h c (e c d)
structure GN (L:Nat) (l:List File):Prop where
 sub:(l.map (·.Path)).Sublist names4
 cnt:∀f∈l,f.Blob.count 10<=L
 dig:∀f∈l,NoDig f.Blob
theorem GN.name{L:Nat}{l:List File}(h:GN L l):∀f∈l,f.Path∈names4:=fun _ a=>h.sub.subset (List.mem_map_of_mem a)
theorem GN.mono{L L':Nat}{l:List File}(h:GN L l)(a:L<=L'):GN L' l:=⟨h.sub,fun f b=>C82 (h.cnt f b) a,h.dig⟩
theorem LK:∀{l:List File},EZ (l.map (·.Path))->ascend l=true
 | [],_=>rfl
 | [_],_=>rfl
 | f::g::r,h=>by
  rw[C73]at h;have b:=List.pairwise_cons.1 h;unfold ascend;rw[b.1 g.Path (by simp),LK b.2];rfl
theorem GN.asc{L:Nat}{l:List File}(h:GN L l):ascend l=true:=LK (names4_asc.sublist h.sub)
theorem GN.tree{L:Nat}{l:List File}(h:GN L l)(o:L+1<=4096)(i:∀f∈l,f.Blob.length<=1048576):E8 l=0:=by
 have d:l.length<=4:=by have:=h.sub.length_le;simpa using this
 unfold E8
 rw[A7 (by omega),A7 (fun a=>by
  obtain⟨f,b,c⟩:=List.any_eq_true.1 a
  exact A1 c (UM _ (h.name f b)).1),A7 (fun a=>by
  rw[tS h.asc fun x j y k=>OY _ (h.name x j) _ (h.name y k)]at a;cases a),A7 (fun a=>by
  obtain⟨f,b,c⟩:=List.any_eq_true.1 a;refine A1 c ?_;unfold I6;have m:=h.cnt f b;have n:=i f b;have e:=kK f.Blob;rw[A7];rintro (g | g)
  ·omega
  ·split at e<;>omega)]
theorem UN{n:Int}:∀{ps a:List Int},(∀p∈ps,0<=p/\p<n/\p∉a)->ps.Nodup->fT n a ps=true
 | [],_,_,_=>rfl
 | p::r,a,h,hn=>by
  have e:=List.nodup_cons.1 hn;unfold fT;rw[A4 (h p (by simp)),C84];refine UN (fun q d=>?_) e.2;have c:=h q (by simp[d]);refine⟨c.1,c.2.1,fun b=>?_⟩;rcases C49.1 b with b | b
  ·exact c.2.2 b
  ·rw[C42.1 b]at d;exact e.1 d
def OneWay(g:Graph):Prop:=(∀c p:Nat,(p:Int)∈D8 g c->p<c)\/(∀c p:Nat,(p:Int)∈D8 g c->c<p)
theorem OneWay.acyc{g:Graph}(h:OneWay g)(c:Nat):¬Reaches g c c:=by
 rcases h with h | h
 ·have key:∀{a b:Nat},Reaches g a b->b<a:=fun {a b} e=>by
   induction e with
   | one d=>exact h _ _ d
   | more _ d f=>have:=h _ _ d;omega
  exact fun e=>Nat.lt_irrefl _ (key e)
 ·have key:∀{a b:Nat},Reaches g a b->a<b:=fun {a b} e=>by
   induction e with
   | one d=>exact h _ _ d
   | more _ d f=>have:=h _ _ d;omega
  exact fun e=>Nat.lt_irrefl _ (key e)
theorem AR:∀{g:List Commit},(∀c∈g,E8 c.Files=0)->j5 g=0
 | [],_=>rfl
 | c::r,h=>by
  unfold j5;rw[A7 (fun a=>a (h c (by simp)))];exact AR fun d b=>h d (by simp[b])
structure GV (g:Graph):Prop where
 len:g.length<=16
 pars:∀c∈g,c.Parents.length<=3/\(∀p∈c.Parents,0<=p/\p<(g.length:Int))/\c.Parents.Nodup/\0<=c.Date/\c.Date<=5
 way:OneWay g
 files:∀c∈g,GN 2111 c.Files/\∀f∈c.Files,f.Blob.length<=1048576
theorem GV.check{g:Graph}(h:GV g):K7 g=0:=by
 have l:related g=true:=by
  unfold related;rw[C47];exact fun c a=>UN (fun p k=>⟨((h.pars c a).2.1 p k).1,((h.pars c a).2.1 p k).2,by simp⟩) (h.pars c a).2.2.1
 have j:¬cyclic g=true:=fun d=>by
  obtain⟨c,a⟩:=(nE l).1 d;exact h.way.acyc c a
 have m:=h.len;have b:j6 g=true:=by
  unfold j6;rw[A4 (by omega),C84];cases ha:g.any fun c=>decide (c.Parents.length>32)
  ·rfl
  obtain⟨c,a,f⟩:=List.any_eq_true.1 ha;have:=A1 f;have:=(h.pars c a).1;omega
 have i:¬jP g=true:=fun d=>by
  obtain⟨c,a,f⟩:=List.any_eq_true.1 d;have:=A1 f;have:=(h.pars c a).2.2.2;omega
 unfold K7;rw[b,l,A7 (by simp),A7 (by simp),A7 j,A7 i];exact AR fun c a=>(h.files c a).1.tree (by omega) (h.files c a).2
section
variable (L:List Node) (w:List Int)
structure BMono (f:Nat):Prop where
 build:∀{k next:Int} {st:List State} {x:Bld},J8 L w f k next st=some x->J8 L w (f+1) k next st=some x
 cat:∀{l:List Int} {next:Int} {st:List State} {x:Bld},cB L w f l next st=some x->cB L w (f+1) l next st=some x
 alt:∀{l:List Int} {next start:Int} {st:List State} {x:Bld},bP L w f l next start st=some x->bP L w (f+1) l next start st=some x
 max:∀{kid:Int} {m:Nat} {last next:Int} {st:List State} {x:Bld},aJ L w f kid m last next st=some x->aJ L w (f+1) kid m last next st=some x
 min:∀{kid:Int} {m:Nat} {next:Int} {st:List State} {x:Bld},aK L w f kid m next st=some x->aK L w (f+1) kid m next st=some x
variable {L w}
theorem bmono:∀f:Nat,BMono L w f
 | 0=>⟨(fun h=>by rw[J8]at h;cases h),(fun h=>by rw[cB]at h;cases h),(fun h=>by rw[bP]at h;cases h),(fun h=>by rw[aJ]at h;cases h),(fun h=>by rw[aK]at h;cases h)⟩
 | f + 1=>by
  have b:=bmono f;refine⟨?_,?_,?_,?_,?_⟩
  ·intro k next st x h;rw[J8]at h ⊢;dsimp only at h ⊢;by_cases e:I0 w k.toNat=0
   ·rw[A6 e]at h ⊢;exact h
   rw[A7 e]at h ⊢;by_cases g:(L.getD k.toNat K8).Kind=1
   ·rw[A6 g]at h ⊢;exact h
   rw[A7 g]at h ⊢;by_cases j:(L.getD k.toNat K8).Kind=2
   ·rw[A6 j]at h ⊢;exact h
   rw[A7 j]at h ⊢;by_cases o:(L.getD k.toNat K8).Kind=3
   ·rw[A6 o]at h ⊢;exact h
   rw[A7 o]at h ⊢;by_cases p:(L.getD k.toNat K8).Kind=4
   ·rw[A6 p]at h ⊢;exact b.cat h
   rw[A7 p]at h ⊢;by_cases q:(L.getD k.toNat K8).Kind=5
   ·rw[A6 q]at h ⊢;split at h
    ·cases h
    ·split at h
     ·cases h
     ·rename_i hb;rw[b.build hb];exact b.alt h
   rw[A7 q]at h ⊢;by_cases s:(L.getD k.toNat K8).Kind=6
   ·rw[A6 s]at h ⊢;by_cases t:(L.getD k.toNat K8).Max<0
    ·rw[A6 t]at h ⊢;split at h
     ·cases h
     ·rename_i hb;rw[b.build hb];exact b.min h
    ·rw[A7 t]at h ⊢;split at h
     ·cases h
     ·rename_i hb;rw[b.max hb];exact b.min h
   ·rw[A7 s]at h ⊢;exact h
  ·intro l next st x h;cases l with
   | nil=>rw[cB]at h ⊢;exact h
   | cons k r =>
    rw[cB]at h ⊢;split at h
    ·cases h
    ·rename_i hb;rw[b.build hb];exact b.cat h
  ·intro l next start st x h;cases l with
   | nil=>rw[bP]at h ⊢;exact h
   | cons k r =>
    rw[bP]at h ⊢;split at h
    ·cases h
    ·rename_i hb;rw[b.build hb];exact b.alt h
  ·intro c m last next st x h;cases m with
   | zero=>rw[aJ]at h ⊢;exact h
   | succ m =>
    rw[aJ]at h ⊢;split at h
    ·cases h
    ·rename_i hb;rw[b.build hb];exact b.max h
  ·intro c m next st x h;cases m with
   | zero=>rw[aK]at h ⊢;exact h
   | succ m =>
    rw[aK]at h ⊢;split at h
    ·cases h
    ·rename_i hb;rw[b.build hb];exact b.min h
theorem iT{f k next st x}:∀d,J8 L w f k next st=some x->J8 L w (f+d) k next st=some x
 | 0,h=>h
 | d+1,h=>(bmono (f+d)).build (iT d h)
theorem cat_le{f l next st x}:∀d,cB L w f l next st=some x->cB L w (f+d) l next st=some x
 | 0,h=>h
 | d+1,h=>(bmono (f+d)).cat (cat_le d h)
theorem ZO{f l next start st x}:∀d,bP L w f l next start st=some x->bP L w (f+d) l next start st=some x
 | 0,h=>h
 | d+1,h=>(bmono (f+d)).alt (ZO d h)
theorem ZP{f kid m last next st x}:∀d,aJ L w f kid m last next st=some x->aJ L w (f+d) kid m last next st=some x
 | 0,h=>h
 | d+1,h=>(bmono (f+d)).max (ZP d h)
theorem OZ{f kid m next st x}:∀d,aK L w f kid m next st=some x->aK L w (f+d) kid m next st=some x
 | 0,h=>h
 | d+1,h=>(bmono (f+d)).min (OZ d h)
def Bable(k:Int)(n:Nat):Prop:=∀next st,∃F st' q,J8 L w F k next st=some (st',q)/\st'.length<=st.length+n
theorem cat_ex{g:Int->Nat}:∀{l:List Int},(∀k∈l,Bable (L:=L) (w:=w) k (g k))->∀next st,∃F st' q,cB L w F l next st=some (st',q)/\st'.length<=st.length+(l.map g).sum
 | [],_,next,st=>⟨1,st,next,by rw[cB],Nat.le_add_right _ _⟩
 | k::r,h,next,st=>by
  obtain⟨F,st1,q1,b,f⟩:=h k (C56 ..) next st;obtain⟨G,a,e,c,i⟩:=cat_ex (l:=r) (fun x d=>h x (C55 _ d)) q1 st1;refine⟨F+G+1,a,e,?_,by simp only[C73,D19];omega⟩;rw[cB,iT G b];have:=cat_le F c
  rwa[show G+F=F+G by omega]at this
theorem alt_ex{g:Int->Nat}:∀{l:List Int},(∀k∈l,Bable (L:=L) (w:=w) k (g k))->∀next start st,∃F st' q,bP L w F l next start st=some (st',q)/\st'.length<=st.length+(l.map g).sum+l.length
 | [],_,next,start,st=>⟨1,st,start,by rw[bP],by omega⟩
 | k::r,h,next,start,st=>by
  obtain⟨F,st1,q1,b,i⟩:=h k (C56 ..) next st;obtain⟨G,a,f,c,d⟩:=alt_ex (l:=r) (fun x e=>h x (C55 _ e)) next st1.length (st1++[{ V8 with Kind:=1,Next:=q1,Other:=start }]);rw[C40,C51]at d;refine⟨F+G+1,a,f,?_,by simp only[C73,D19,C46];omega⟩;rw[bP,iT G b];have:=ZO F c
  rwa[show G+F=F+G by omega]at this
theorem max_ex{a:Int}{g:Nat}(h:Bable (L:=L) (w:=w) a g)(last:Int):∀m next st,∃F st' q,aJ L w F a m last next st=some (st',q)/\st'.length<=st.length+m*(g+1)
 | 0,next,st=>⟨1,st,next,by rw[aJ],by omega⟩
 | m+1,next,st=>by
  obtain⟨F,st1,q1,c,i⟩:=h next st;obtain⟨G,b,f,d,e⟩:=max_ex h last m st1.length (st1++[{ V8 with Kind:=1,Next:=q1,Other:=last }]);rw[C40,C51]at e;refine⟨F+G+1,b,f,?_,by rw[Nat.succ_mul];omega⟩;rw[aJ,iT G c];have:=ZP F d
  rwa[show G+F=F+G by omega]at this
theorem ZQ{a:Int}{g:Nat}(h:Bable (L:=L) (w:=w) a g):∀m next st,∃F st' q,aK L w F a m next st=some (st',q)/\st'.length<=st.length+m*g
 | 0,next,st=>⟨1,st,next,by rw[aK],by omega⟩
 | m+1,next,st=>by
  obtain⟨F,st1,q1,c,f⟩:=h next st;obtain⟨G,b,e,d,i⟩:=ZQ h m q1 st1;refine⟨F+G+1,b,e,?_,by rw[Nat.succ_mul];omega⟩;rw[aK,iT G c];have:=OZ F d
  rwa[show G+F=F+G by omega]at this
end
theorem kS{p:PSt×Int}{y:PSt}{n:Int}(h:(.ok p:Ps Int)=.ok (y,n)):p.1=y:=congrArg Prod.fst (Except.ok.inj h)
theorem LL{x y:PSt}{n:Int}(h:kN s G6 x=.ok (y,n)):y.nodes=x.nodes:=by
 unfold kN at h;split at h
 ·cases h
 ·split at h
  ·cases h
  ·cases h;rfl
theorem rN{x y:PSt}{a c:Int}{b:Int×Int}(h:(if O1 s 125 x=false\/(0<=c/\c<a) then .error 40 else .ok (x.skip 1,(a,c)):Ps (Int×Int))=.ok (y,b)):y.nodes=x.nodes:=by
 split at h
 ·cases h
 ·cases h;rfl
theorem PA{x y:PSt}{b:Int×Int}(h:Y9 s G6 x=.ok (y,b)):y.nodes=x.nodes:=by
 unfold Y9 at h;cases f:kN s G6 x with
 | error e=>rw[f]at h;cases h
 | ok p =>
  obtain⟨j,g⟩:=p;rw[f]at h;dsimp only at h;have c:=LL f;split at h
  ·split at h
   ·exact (rN h).trans c
   ·split at h
    ·exact (rN h).trans c
    ·cases d:kN s G6 (j.skip 1) with
     | error e=>rw[d]at h;cases h
     | ok q =>
      obtain⟨l,i⟩:=q;rw[d]at h;dsimp only at h;exact ((rN h).trans (LL d)).trans c
  ·exact (rN h).trans c
theorem AT{x y:PSt}{b:Option (Int×Int)}(h:Y5 s G6 x=.ok (y,b)):y.nodes=x.nodes:=by
 unfold Y5 at h;split at h
 ·cases h;rfl
 split at h
 ·cases h;rfl
 split at h
 ·cases h;rfl
 split at h
 ·split at h
  ·cases h
  ·rename_i z q hb;cases h;exact PA (x:=x.skip 1) hb
 ·cases h;rfl
theorem GZ{x y:PSt}{t a:Set4}(h:n6 s t x=.ok (y,a)):y.nodes=x.nodes:=by
 unfold n6 at h;dsimp only at h;split at h
 ·split at h
  ·cases h
  ·split at h
   ·cases h
   ·cases h;rfl
 ·split at h
  ·cases h
  ·split at h
   ·cases h;rfl
   ·split at h
    ·cases h
    ·cases h;rfl
theorem AU:∀(f:Nat) {x y:PSt} {t b:Set4},s8 s f t x=.ok (y,b)->y.nodes=x.nodes
 | 0,_,_,_,_,h=>by cases h
 | f+1,x,y,t,b,h=>by
  unfold s8 at h;split at h
  ·cases h;rfl
  ·split at h
   ·cases h
   ·rename_i z d c;exact (AU f h).trans (GZ c)
def KB(B:Nat)(l:List Node):Prop:=∀n∈l,n.Kids.length<=B
theorem KB.snoc{B:Nat}{l:List Node}{n:Node}(h:KB B l)(b:n.Kids.length<=B):KB B (l++[n]):=fun x a=>by
 rcases C49.1 a with a | a
 ·exact h x a
 ·rw[C42.1 a];exact b
theorem HA{B:Nat}{a:Int}{kids:List Int}{x:PSt}(h:KB B x.nodes)(b:kids.length<=B):KB B (y7 a kids x).1.nodes:=by
 match kids,b with
 | [],_=>exact h.snoc (C41 _)
 | [_],_=>exact h
 | _::_::_,b=>exact h.snoc b
theorem LM{B:Nat}{x y:PSt}{n:Int}(h:KB B x.nodes)(b:T7 s x=.ok (y,n)):KB B y.nodes:=by
 unfold T7 at b;cases a:fF s x with
 | error e=>rw[a]at b;cases b
 | ok p =>
  obtain⟨z,c⟩:=p;rw[a]at b;have d:(iL (set0.with_ c.toNat) z).1=y:=congrArg Prod.fst (Except.ok.inj b);have f:z.nodes=x.nodes:=by
   unfold fF at a;split at a
   ·cases a
   ·cases a;rfl
  rw[<-d];exact KB.snoc (by rw[f];exact h) (C41 _)
theorem UO(c:UInt8)(x:PSt):(fU s c x).nodes=x.nodes:=by unfold fU;split<;>rfl
theorem C00{B f:Nat}{x y:PSt}{n:Int}(h:KB B x.nodes)(b:s9 s f x=.ok (y,n)):KB B y.nodes:=by
 unfold s9 at b;dsimp only at b;split at b
 ·cases b
 ·rename_i j t d;split at b
  ·cases b
  ·rename_i g i e;have c:g.nodes=x.nodes:=((AU f e).trans (GZ d)).trans (UO 94 (x.skip 1));rw[<-kS b];exact KB.snoc (by rw[c];exact h) (C41 _)
theorem LN{B:Nat}{x y:PSt}{a n:Int}(h:KB B x.nodes)(b:X2 s a x=.ok (y,n)):KB B y.nodes:=by
 have key:X2 s a x=.ok (X8 { K8 with Kind:=a } (x.skip 1))->KB B y.nodes:=fun e=>by
  rw[e]at b;rw[<-kS b];exact h.snoc (C41 _)
 unfold X2 at b key;dsimp only at b key;split at b
 ·split at b
  ·cases b
  ·rw[<-kS b];exact h.snoc (C41 _)
 ·rw[<-kS b];exact h.snoc (C41 _)
theorem mB{B:Nat}(f:1<=B){y:PSt}{r:Ps Int}{n:Int}(h:∀z k,r=.ok (z,k)->KB B z.nodes)(a:T8 s G6 r=.ok (y,n)):KB B y.nodes:=by
 unfold T8 at a;split at a
 ·cases a
 ·rename_i z k;have d:=h z k rfl;split at a
  ·cases a
  ·rename_i b;cases a;rw[AT b];exact d
  ·rename_i g c e b;rw[<-kS a];exact KB.snoc (by rw[AT b];exact d) f
structure KAll (s:Str) (B f:Nat):Prop where
 pat:∀{x y:PSt} {n:Int},KB B x.nodes->f<=B->dA s G6 f x=.ok (y,n)->KB B y.nodes
 loop:∀{x y:PSt} {kids:List Int} {n:Int},KB B x.nodes->kids.length+f<=B+1->d7 s G6 f x kids=.ok (y,n)->KB B y.nodes
 alt:∀{x y:PSt} {kids:List Int} {n:Int},KB B x.nodes->kids.length+f<=B+1->aI s G6 f x kids=.ok (y,n)->KB B y.nodes
 piece:∀{x y:PSt} {c:UInt8} {n:Int},KB B x.nodes->f<=B->j9 s G6 f x c=.ok (y,n)->KB B y.nodes
 paren:∀{x y:PSt} {n:Int},KB B x.nodes->f<=B->U8 s G6 f x=.ok (y,n)->KB B y.nodes
theorem k_all(B:Nat):∀f:Nat,KAll s B f
 | 0=>⟨(fun _ _ h=>by cases h),(fun _ _ h=>by cases h),(fun _ _ h=>by cases h),(fun _ _ h=>by cases h),(fun _ _ h=>by cases h)⟩
 | f + 1=>by
  have b:=k_all B f;refine⟨?_,?_,?_,?_,?_⟩
  ·intro x y n h d a;rw[dA]at a;split at a
   ·cases a
   ·rename_i z k ha;exact b.loop (b.alt h (by simp only[List.length_nil];omega) ha) (by simp only[C46,List.length_nil];omega) a
  ·intro x y kids n h d a;rw[d7]at a;split at a
   ·split at a
    ·cases a
    ·rename_i z k ha;exact b.loop (b.alt (x:=x.skip 1) h (by simp only[List.length_nil];omega) ha) (by simp only[C40,C46,List.length_nil];omega) a
   ·rw[<-kS a];exact HA h (by omega)
  ·intro x y kids n h d a;rw[aI]at a;split at a
   ·rw[<-kS a];exact HA h (by omega)
   ·split at a
    ·rw[<-kS a];exact HA h (by omega)
    ·split at a
     ·cases a
     ·rename_i z k g;exact b.alt (b.piece h (by omega) g) (by simp only[C40,C46,List.length_nil];omega) a
  ·intro x y c n h d a;rw[j9]at a;split at a
   ·exact LN h a
   split at a
   ·exact LN h a
   split at a
   ·exact mB (by omega) (fun z k e=>b.paren h (by omega) e) a
   split at a
   ·exact mB (by omega) (fun z k e=>C00 h e) a
   split at a
   ·exact mB (by omega) (fun z k e=>by
     rw[<-kS e]
     exact h.snoc (C41 _)) a
   split at a
   ·exact mB (by omega) (fun z k e=>LM (x:=x.skip 1) h e) a
   split at a
   ·cases a
   ·exact mB (by omega) (fun z k e=>LM h e) a
  ·intro x y n h d a;rw[U8]at a;split at a
   ·cases a
   ·split at a
    ·cases a
    ·rename_i z k g;split at a
     ·rw[<-kS a];have i:KB B z.nodes:=b.pat (x:={ x with at_:=x.at_+1,depth:=x.depth+1 }) h (by omega) g;exact i
     ·cases a
theorem nW{s:Str}{f:Nat}(w:f<=4000){L:List Node}(h:y8 s G6 f=(L,0))(c:dA s G6 f ⟨0,0,[]⟩≠.error 0):fN L=0/\∀n∈L,n.Kids.length<=4000:=by
 unfold y8 at h;split at h
 ·have:=congrArg Prod.snd h;cases this
 ·rename_i z;cases d:dA s G6 f ⟨0,0,[]⟩ with
  | error e =>
   rw[d]at h;have u:e=0:=congrArg Prod.snd h;rw[d,u]at c;exact absurd rfl c
  | ok p =>
   obtain⟨st,v⟩:=p;rw[d]at h;dsimp only at h;split at h
   ·have:=congrArg Prod.snd h;cases this
   ·have j:st.nodes=L:=congrArg Prod.fst h;obtain⟨g,i⟩:=(Y6 (s:=s) f).pat (C41 _) d;have l:=g.cnt;have y:=g.len;have m:=g.ok (fun i n b=>by cases b);rw[j]at l m;have q:(1:Int)<=L.length:=by have:=i.1;have:=i.2;rw[j]at this;omega
    dsimp only[List.length_nil]at l;refine⟨?_,fun n b=>?_⟩
    ·unfold fN;rw[A7 (by omega),A6];refine C47.2 fun i q=>?_;have k:=C62.1 q;exact m i _ (by rw[C38,C36 k];rfl)
    ·exact (k_all (s:=s) 4000 f).pat (x:=⟨0,0,[]⟩) (fun n b=>by cases b) w d n (by rw[j];exact b)
end Go.AL
