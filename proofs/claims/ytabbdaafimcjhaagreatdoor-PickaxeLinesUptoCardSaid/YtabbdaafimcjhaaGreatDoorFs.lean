/- Plain facts about data; no project text. -/
import Derived.Test.YtabbdaafimcjhaaGreatDoorD
import Derived.Lib.Strings
import Derived.Lib.Bytealg
import Derived.Lib.Join
import Derived.Lib.ItoaNum
import Derived.Test.YtabbdaafimcjhaaGreatDoorAn
import Derived.Lib.IndexMore
import Derived.KernelRfl
set_option linter.all false
namespace Go.AL
open Go
theorem u8_lf(c:UInt8):((c.toNat:Int)=10)↔c=10:=by
 constructor
 ·intro h;have:c.toNat=10:=by omega
  exact UInt8.toNat_inj.1 (by simpa using this)
 ·rintro rfl;rfl
def I7(a:Str):Str->List Str
 | []=>if a=[] then [] else [a]
 | c::r=>if c=10 then (a++[c])::I7 [] r else I7 (a++[c]) r
def E2(b:Str):List Str:=I7 [] b
theorem mH(a:Str)(s:Str):(I7 a s).length<=s.length+1:=by
 induction s generalizing a with
 | nil=>unfold I7;split<;>simp
 | cons c r b=>unfold I7;split<;>simp<;>(have:=b [];have:=b (a++[c]);omega)
theorem pX(s:Str):(I7 [] s).length<=s.length:=by
 have key:∀(s a:Str),a≠[]->(I7 a s).length<=s.length+1:=fun s a _=>mH a s;induction s with
 | nil=>simp[I7]
 | cons c r b=>unfold I7;split<;>simp<;>(have:=mH ([]++[c]) r;simp at this;omega)
theorem o4(b:Str):(E2 b).length<=b.length:=pX b
theorem iX(a r:Str)(c:UInt8):I7 a (c::r)=if c=10 then (a++[c])::I7 [] r else I7 (a++[c]) r:=rfl
theorem KX(a:Str)(h:a≠[]):I7 a []=[a]:=by simp[I7,h]
theorem or_pick{p q:Prop}[Decidable p][Decidable q]:(if decide p=true then true else decide q)=decide (p\/q):=by by_cases p<;>simp[*]
theorem N1{p q:Prop}[Decidable p][Decidable q]:(if decide p=true then decide q else false)=decide (p/\q):=by by_cases p<;>simp[*]
theorem l8{α:Type}(l:List (List α))(i:Nat)(h:i<l.length):(l.take (i+1)).flatten=(l.take i).flatten++l[i]:=by
 rw[List.take_add_one,B44 h,Option.toList_some,B87];simp
theorem v8{α:Type}(l:List (List α))(i:Nat):(l.take i).flatten.length<=l.flatten.length:=by
 conv=>rhs;rw[<-B91 i l,B87,B48]
 omega
theorem VF(i:Nat):((i:Int)+1).toNat=i+1:=by omega
theorem HS{α:Type}(b:List α)(f i:Nat)(d:f<=i)(c:i<b.length):(b.drop f).take (i-f)++[b[i]]=(b.drop f).take (i+1-f):=by
 rw[show i+1-f=(i-f)+1 by omega,List.take_add_one,B58,show f+(i-f)=i by omega,B44 c];rfl
def ended(s:Str):Bool:=s.getLast? == some 10
theorem A83(s:Str):ended s=(if decide (s≠[])=true then decide (((s.getLastD 0).toNat:Int)=10) else false):=by
 unfold ended;by_cases h:s=[]
 ·simp[h]
 ·rw[List.getLast?_eq_some_getLast h,List.getLastD_eq_getLast?,List.getLast?_eq_some_getLast h];simp only[ne_eq,h,not_false_eq_true,decide_true,if_true,Option.getD_some,u8_lf];rfl
def L2:List Str->Str->Int->Int
 | [],_,_ => -1
 | x::r,s,i=>if x=s then i else L2 r s (i+1)
theorem KY(l:List Str)(s:Str)(k:Nat)(h:k<l.length):L2 (l.drop k) s k=if l[k]=s then (k:Int) else L2 (l.drop (k+1)) s ((k:Int)+1):=by
 rw[B55 h];simp[L2]
theorem QH(l:List Str)(s:Str):∀(k:Int),0<=k->((L2 l s k<0)↔s∉l):=by
 induction l with
 | nil=>intro k _;simp[L2]
 | cons x r a =>
  intro k b;unfold L2;by_cases h:x=s
  ·simp[h];omega
  ·have:=a (k+1) (by omega);simp[h,this,Ne.symm h]
def y3(s:Str):Bool:=s.dropLast.all (·≠10)&&s != []
def I0(b:Str):Int:=if b.length>1048576\/(E2 b).length>4096 then 1 else 0
def J2(a:List Str)(s:Str):List Str:=if s∈a then a else a++[s]
def D5(files:List (List Str)):List Str:=files.flatten.foldl J2 []
def J8(a:List Str)(b:List Str):List Int:=b.map (fun s=>L2 a s 0)
theorem wJ(a:List Str)(s:Str):(J2 a s).length<=a.length+1:=by unfold J2;split<;>simp
theorem fP(l a:List Str):(l.foldl J2 a).length<=a.length+l.length:=by
 induction l generalizing a with
 | nil=>simp
 | cons s r b=>have c:=b (J2 a s);have d:=wJ a s;simp only[B79,B49];omega
theorem nU(a:List (List Str)):(D5 a).length<=a.flatten.length:=by have:=fP a.flatten [];simpa[D5] using this
structure File where
 Path:Str
 Blob:Str
 deriving DecidableEq
structure Delta where
 Path:Str
 Kind:Int
 deriving DecidableEq
structure Commit where
 Parents:List Int
 Date:Int
 Files:List File
 deriving DecidableEq
def eL:File->Nat->Cell:=fun f j=>match j with
 | 0=>.v (.string ⟨f.Path.toArray⟩)
 | _=>.v (.string ⟨f.Blob.toArray⟩)
def lI:Delta->Nat->Cell:=fun d j=>match j with
 | 0=>.v (.string ⟨d.Path.toArray⟩)
 | _=>.v (.int .i64 d.Kind)
def K5:Commit->Nat->Cell:=fun c j=>match j with
 | 0=>.list Int 1 D2 c.Parents
 | 1=>.v (.int .i64 c.Date)
 | _=>.list File 2 eL c.Files
abbrev nV:List File->Nat->Cell:=fun l _=>.list File 2 eL l
abbrev aX:List Delta->Nat->Cell:=fun l _=>.list Delta 2 lI l
abbrev XP(f:File):PV:=.agg [.v (.string ⟨f.Path.toArray⟩),.v (.string ⟨f.Blob.toArray⟩)]
abbrev pDelta(d:Delta):PV:=.agg [.v (.string ⟨d.Path.toArray⟩),.v (.int .i64 d.Kind)]
abbrev tZ(c:Commit):PV:=.agg [.list Int 1 D2 c.Parents,.v (.int .i64 c.Date),.list File 2 eL c.Files]
abbrev bU(l:List File):PV:=.one (.list File 2 eL l)
abbrev KZ(l:List Delta):PV:=.one (.list Delta 2 lI l)
abbrev S3(l:List Commit):PV:=.one (.list Commit 3 K5 l)
abbrev LA(l:List (List File)):PV:=.one (.list (List File) 1 nV l)
theorem W8(a b:Bool):(if a=true then b else false)=(a&&b):=by cases a<;>rfl
theorem aI(a b:Bool):(if a=true then true else b)=(a||b):=by cases a<;>rfl
abbrev jK(a b:Str):Bool:=Op.bytesLess a b
theorem XQ(a:Str):jK a []=false:=by cases a<;>rfl
theorem jU(a b:UInt8)(x y:Str):jK (a::x) (b::y)=(decide (a<b)||(a == b&&jK x y)):=rfl
theorem o5:∀a:Str,jK a a=false
 | []=>rfl
 | c::r=>by
  rw[jU,o5 r];have:¬c<c:=by rw[UInt8.lt_iff_toNat_lt];omega
  simp[this]
theorem bV:∀{a b c:Str},jK a b=true->jK b c=true->jK a c=true
 | _,[],_,h,_=>by rw[XQ]at h;cases h
 | _,_::_,[],_,h=>by rw[XQ]at h;cases h
 | [],_::_,_::_,_,_=>rfl
 | a::x,b::y,c::z,e,d=>by
  rw[jU,B63,B47,decide_eq_true_eq,UInt8.lt_iff_toNat_lt,beq_iff_eq]at e d;rw[jU,B63,B47,decide_eq_true_eq,UInt8.lt_iff_toNat_lt,beq_iff_eq];rcases e with e | ⟨rfl,e⟩
  ·rcases d with d | ⟨rfl,d⟩
   ·left;omega
   ·left;omega
  ·rcases d with d | ⟨rfl,d⟩
   ·left;omega
   ·right;exact⟨rfl,bV e d⟩
theorem pB:∀{a b:Str},jK a b=false->jK b a=false->a=b
 | [],[],_,_=>rfl
 | [],_::_,h,_=>by cases h
 | _::_,[],_,h=>by cases h
 | a::x,b::y,h1,h2=>by
  rw[jU,B72,decide_eq_false_iff_not,UInt8.lt_iff_toNat_lt]at h1 h2;have e:a=b:=UInt8.toNat_inj.1 (by omega);subst e;simp only[beq_self_eq_true,Bool.true_and]at h1 h2;rw[pB h1.2 h2.2]
theorem A13{a b:Str}(h:jK a b=true):jK b a=false:=by
 cases c:jK b a
 ·rfl
 ·have:=bV h c;rw[o5]at this;cases this
theorem XR:∀(a:Str) (c:UInt8) (t:Str),jK a (a++c::t)=true
 | [],_,_=>rfl
 | x::r,c,t=>by rw[B71,jU,XR r c t];simp
def W9(s:Str):Bool:=decide (s≠[]/\s≠[46]/\s≠[46,46])
def K1(a:Str):Str->List Str
 | []=>[a]
 | c::r=>if c=47 then a::K1 [] r else K1 (a++[c]) r
def cpGo(a:Str):Str->Bool
 | []=>W9 a
 | c::r=>if c=0 then false else if c=47 then W9 a&&cpGo [] r else cpGo (a++[c]) r
def aD(p:Str):Int:=if p.length<1\/p.length>200\/cpGo [] p=false then 210 else 0
theorem rW:∀(s b:Str),cpGo b s=(!s.contains 0&&(K1 b s).all W9)
 | [],b=>by simp[cpGo,K1]
 | c::r,b=>by
  rw[cpGo,K1];by_cases d:c=0
  ·subst d;simp
  ·rw[A7 d];have f:(c::r).contains 0=r.contains 0:=by
    rw[List.contains_cons];have:((0:UInt8) == c)=false:=by simpa using fun e=>d e.symm
    rw[this,Bool.false_or]
   rw[f];split
   ·rw[rW r [],List.all_cons];cases W9 b<;>cases r.contains 0<;>rfl
   ·rw[rW r]
theorem LB(p:Str):aD p=if p.length>200\/p.contains 0=true then 210 else if (K1 [] p).all W9=true then 0 else 210:=by
 unfold aD;rw[rW];by_cases b:p.length>200
 ·rw[A6 (.inr (.inl b)),A6 (.inl b)]
 ·cases d:p.contains 0
  ·rw[A7 (show ¬(p.length>200\/false=true) by simp[b])];cases c:(K1 [] p).all W9
   ·simp
   ·have:¬p.length<1:=by
     intro h;have:p=[]:=List.length_eq_zero_iff.1 (by omega);subst this;simp[K1,W9]at c
    rw[A7 (fun h=>by
     rcases h with h | h | h
     ·exact this h
     ·exact b h
     ·cases h)];rfl
  ·rw[A6 (show p.length>200\/true=true from .inr rfl),A6 (.inr (.inr (by simp)))]
def above(a b:Str):Bool:=decide (b.length>a.length/\b.take a.length=a/\b[a.length]?=some 47)
theorem A84{a b:Str}(h:above a b=true):jK a b=true:=by
 obtain⟨c,f,d⟩:=A1 h;have e:b=a++47::b.drop (a.length+1):=by
  conv=>lhs;rw[<-B91 a.length b,f]
  rw[B55 c];rw[B44 c]at d;rw[Option.some.inj d]
 rw[e];exact XR _ _ _
def q9:List File->Bool
 | []=>true
 | f::r=>r.all (fun x=>jK f.Path x.Path&&!above f.Path x.Path)&&q9 r
def G4(l:List File):Int:=if l.length>200 then 1 else if l.any (fun f=>decide (aD f.Path≠0))=true then 210 else if q9 l=false then 211 else if l.any (fun f=>decide (I0 f.Blob≠0))=true then 1 else 0
def T8(p:Str)(ps:List Str):Bool:=(List.range p.length).any fun i=>decide (p.take i∈ps)&&decide (p[i]?=some 47)
def ascend:List File->Bool
 | []=>true
 | [_]=>true
 | f::g::r=>jK f.Path g.Path&&ascend (g::r)
def dG(l:List File):Bool:=ascend l&&l.all fun f=>!T8 f.Path (l.map (·.Path))
theorem CS(p:Str)(ps:List Str):T8 p ps=true↔∃a∈ps,above a p=true:=by
 unfold T8;rw[List.any_eq_true];constructor
 ·rintro⟨i,k,h⟩;rw[B47,decide_eq_true_eq,decide_eq_true_eq]at h;have c:i<p.length:=List.mem_range.1 k;have b:(p.take i).length=i:=by rw[B54];omega
  exact⟨_,h.1,A4 ⟨by rw[b];exact c,by rw[b],by rw[b];exact h.2⟩⟩
 ·rintro⟨a,ha,h⟩;obtain⟨d,f,j⟩:=A1 h;exact⟨a.length,List.mem_range.2 d,by rw[B47,decide_eq_true_eq,decide_eq_true_eq,f];exact⟨ha,j⟩⟩
theorem aE:∀{f:File} {r:List File},ascend (f::r)=true->∀x∈r,jK f.Path x.Path=true
 | _,[],_,_,hx=>by cases hx
 | f,g::r,h,x,hx=>by
  unfold ascend at h;rw[B47]at h;rcases List.mem_cons.1 hx with rfl | hx
  ·exact h.1
  ·exact bV h.1 (aE h.2 x hx)
theorem iB{f:File}{r:List File}(h:ascend (f::r)=true):ascend r=true:=by
 cases r with
 | nil=>rfl
 | cons g r=>unfold ascend at h;rw[B47]at h;exact h.2
theorem aY:∀{l:List File},q9 l=true->ascend l=true
 | [],_=>rfl
 | [_],_=>rfl
 | f::g::r,h=>by
  unfold q9 at h;rw[B47,List.all_eq_true]at h;have a:=h.1 g (by simp);rw[B47]at a;unfold ascend;rw[a.1,aY h.2];rfl
theorem qR:∀{l:List File},q9 l=true->∀x∈l,∀y∈l,above x.Path y.Path=false
 | [],_,x,hx,_,_=>by cases hx
 | f::r,h,x,hx,y,hy=>by
  have ha:=aY h;unfold q9 at h;rw[B47,List.all_eq_true]at h;cases a:above x.Path y.Path
  ·rfl
  have b:=A84 a;rcases List.mem_cons.1 hx with rfl | hx0
  ·rcases List.mem_cons.1 hy with rfl | hy
   ·rw[o5]at b;cases b
   ·have:=h.1 y hy;rw[a,Bool.not_true,Bool.and_false]at this;cases this
  ·have c:=hx0;rcases List.mem_cons.1 hy with d | hy2
   ·have:=aE ha x c;rw[<-d,A13 b]at this;cases this
   ·rw[qR h.2 x c y hy2]at a;cases a
theorem rX:∀{l:List File},ascend l=true->(∀x∈l,∀y∈l,above x.Path y.Path=false)->q9 l=true
 | [],_,_=>rfl
 | f::r,h,ha=>by
  unfold q9;rw[B47,List.all_eq_true];refine⟨fun x a=>?_,rX (iB h) fun x a y b=>ha x (by simp[a]) y (by simp[b])⟩;rw[aE h x a,ha f (by simp) x (by simp[a])];rfl
theorem VG(l:List File):dG l=q9 l:=by
 cases h:q9 l
 ·cases c:dG l
  ·rfl
  unfold dG at c;rw[B47,List.all_eq_true]at c;have:q9 l=true:=rX c.1 fun x d y e=>by
   cases b:above x.Path y.Path
   ·rfl
   have f:=c.2 y e;rw[(CS _ _).2 ⟨x.Path,List.mem_map_of_mem d,b⟩]at f;cases f
  rw[this]at h;cases h
 ·unfold dG;rw[B47,List.all_eq_true];refine⟨aY h,fun y e=>?_⟩;cases g:T8 y.Path (l.map (·.Path))
  ·rfl
  obtain⟨a,ha,b⟩:=(CS _ _).1 g;obtain⟨x,d,rfl⟩:=List.mem_map.1 ha;rw[qR h x d y e]at b;cases b
def L1:List File->Str->Option Str
 | [],_=>none
 | f::r,p=>if f.Path=p then some f.Blob else L1 r p
def cK(a:Str)(k:List Str->List Str):List Str->List Str
 | []=>a::k []
 | b::bs=>if jK a b=true then a::k (b::bs) else if jK b a=true then b::cK a k bs else a::k bs
def fQ:List Str->List Str->List Str
 | [],bs=>bs
 | a::as,bs=>cK a (fQ as) bs
def lJ(a b:List File)(p:Str):Option Delta:=match L1 a p,L1 b p with
 | none,_=>some ⟨p,1⟩
 | some _,none=>some ⟨p,2⟩
 | some x,some y=>if x≠y then some ⟨p,3⟩ else none
def i6(a b:List File):List Delta:=(fQ (a.map (·.Path)) (b.map (·.Path))).filterMap (lJ a b)
def iY(b:List File)(f:File):Option Delta:=match L1 b f.Path with
 | none=>some ⟨f.Path,2⟩
 | some y=>if y≠f.Blob then some ⟨f.Path,3⟩ else none
def pY(a:List File)(f:File):Option Delta:=match L1 a f.Path with
 | none=>some ⟨f.Path,1⟩
 | some _=>none
def cL(a b:List File):List Delta:=a.filterMap (iY b)++b.filterMap (pY a)
def pZ(x:Delta):List Delta->List Delta
 | []=>[x]
 | y::r=>if jK x.Path y.Path=true then y::pZ x r else x::y::r
def bI:List Delta->List Delta->List Delta
 | acc,[]=>acc
 | acc,x::r=>bI (pZ x acc) r
def qS(l:List Delta):List Delta:=(bI [] l).reverse
def diffOf(a b:List File):List Delta:=qS (cL a b)
theorem uA(x:Delta):∀(l:List Delta) (y:Delta),y∈pZ x l↔y=x\/y∈l
 | [],y=>by simp[pZ]
 | z::r,y=>by
  unfold pZ;split
  ·rw[B66,uA x r,B66];constructor
   ·rintro (h | h | h)
    ·exact .inr (.inl h)
    ·exact .inl h
    ·exact .inr (.inr h)
   ·rintro (h | h | h)
    ·exact .inr (.inl h)
    ·exact .inl h
    ·exact .inr (.inr h)
  ·rw[B66]
theorem xY(x:Delta):∀l:List Delta,(pZ x l).length=l.length+1
 | []=>rfl
 | y::r=>by
  unfold pZ;split
  ·rw[B49,xY x r,B49]
  ·rfl
theorem HT:∀(l a:List Delta) (y:Delta),y∈bI a l↔y∈a\/y∈l
 | [],a,y=>by simp[bI]
 | x::r,a,y=>by
  unfold bI;rw[HT r,uA,B66];constructor
  ·rintro ((h | h) | h)
   ·exact .inr (.inl h)
   ·exact .inl h
   ·exact .inr (.inr h)
  ·rintro (h | h | h)
   ·exact .inl (.inr h)
   ·exact .inl (.inl h)
   ·exact .inr h
abbrev QI(l:List Delta):Prop:=l.Pairwise fun x y=>jK y.Path x.Path=true
abbrev AscD(l:List Delta):Prop:=l.Pairwise fun x y=>jK x.Path y.Path=true
theorem HU{x:Delta}:∀{l:List Delta},QI l->(∀y∈l,y.Path≠x.Path)->QI (pZ x l)
 | [],_,_=>by simp[pZ,QI]
 | y::r,h,hn=>by
  unfold pZ;have d:=List.pairwise_cons.1 h;split
  ·rename_i b;refine List.pairwise_cons.2 ⟨fun z a=>?_,HU d.2 fun z a=>hn z (by simp[a])⟩;rcases (uA x r z).1 a with rfl | a
   ·exact b
   ·exact d.1 z a
  ·rename_i b;have c:jK y.Path x.Path=true:=by
    cases f:jK y.Path x.Path
    ·exact absurd (pB (by simpa using b) f) fun e=>hn y (by simp) e.symm
    ·rfl
   refine List.pairwise_cons.2 ⟨fun z a=>?_,h⟩;rcases List.mem_cons.1 a with rfl | a
   ·exact c
   ·exact bV (d.1 z a) c
theorem CT:∀(l b:List Delta),QI b->(l.map (·.Path)).Nodup->(∀x∈l,∀y∈b,y.Path≠x.Path)->QI (bI b l)
 | [],b,h,_,_=>h
 | x::r,b,h,hn,hd=>by
  unfold bI;rw[B62,List.nodup_cons]at hn;refine CT r _ (HU h (hd x (by simp))) hn.2 fun z f y c=>?_;rcases (uA x b y).1 c with rfl | c
  ·intro e;exact hn.1 (by rw[e];exact List.mem_map_of_mem f)
  ·exact hd z (by simp[f]) y c
theorem A14{l:List Delta}(h:(l.map (·.Path)).Nodup):AscD (qS l):=by
 unfold qS AscD;rw[List.pairwise_reverse];exact CT l [] List.Pairwise.nil h fun _ _ _ b=>by cases b
theorem A15(l:List Delta)(y:Delta):y∈qS l↔y∈l:=by
 unfold qS;rw[List.mem_reverse,HT];simp
theorem XS:∀{l m:List Delta},AscD l->AscD m->(∀y,y∈l↔y∈m)->l=m
 | [],[],_,_,_=>rfl
 | [],y::_,_,_,h=>by have:=(h y).2 (by simp);cases this
 | y::_,[],_,_,h=>by have:=(h y).1 (by simp);cases this
 | x::l,y::m,h1,h2,h=>by
  have b:=List.pairwise_cons.1 h1;have c:=List.pairwise_cons.1 h2;have e:x=y:=by
   rcases List.mem_cons.1 ((h x).1 (by simp)) with e | hx
   ·exact e
   rcases List.mem_cons.1 ((h y).2 (by simp)) with e | hy
   ·exact e.symm
   have:=bV (b.1 y hy) (c.1 x hx);rw[o5]at this;cases this
  subst e;refine congrArg (x::·) (XS b.2 c.2 fun z=>⟨fun a=>?_,fun a=>?_⟩)
  ·rcases List.mem_cons.1 ((h z).1 (by simp[a])) with rfl | h3
   ·have:=b.1 z a;rw[o5]at this;cases this
   ·exact h3
  ·rcases List.mem_cons.1 ((h z).2 (by simp[a])) with rfl | h3
   ·have:=c.1 z a;rw[o5]at this;cases this
   ·exact h3
abbrev CU(l:List Str):Prop:=l.Pairwise fun x y=>jK x y=true
theorem nW{a:Str}{k:List Str->List Str}{as:List Str}(d:∀c p,p∈k c↔p∈as\/p∈c):∀(c:List Str) (p:Str),p∈cK a k c↔p=a\/p∈as\/p∈c
 | [],p=>by rw[cK,B66,d]
 | b :: c,p=>by
  rw[cK];split
  ·rw[B66,d]
  ·split
   ·rw[B66,nW d c p,B66];constructor
    ·rintro (h | h | h | h)
     ·exact .inr (.inr (.inl h))
     ·exact .inl h
     ·exact .inr (.inl h)
     ·exact .inr (.inr (.inr h))
    ·rintro (h | h | h | h)
     ·exact .inr (.inl h)
     ·exact .inr (.inr (.inl h))
     ·exact .inl h
     ·exact .inr (.inr (.inr h))
   ·rename_i f g;have e:a=b:=pB (by simpa using f) (by simpa using g);subst e;rw[B66,d,B66];constructor
    ·rintro (h | h | h)
     ·exact .inl h
     ·exact .inr (.inl h)
     ·exact .inr (.inr (.inr h))
    ·rintro (h | h | h | h)
     ·exact .inl h
     ·exact .inr (.inl h)
     ·exact .inl h
     ·exact .inr (.inr h)
theorem fR:∀(as b:List Str) (p:Str),p∈fQ as b↔p∈as\/p∈b
 | [],b,p=>by simp[fQ]
 | a::as,b,p=>by
  rw[fQ,nW (fun b p=>fR as b p) b p,B66];constructor
  ·rintro (h | h | h)
   ·exact .inl (.inl h)
   ·exact .inl (.inr h)
   ·exact .inr h
  ·rintro ((h | h) | h)
   ·exact .inl h
   ·exact .inr (.inl h)
   ·exact .inr (.inr h)
theorem xZ{a:Str}{k:List Str->List Str}{as:List Str}(i:∀d p,p∈k d↔p∈as\/p∈d)(g:∀d,CU d->CU (k d))(ha:∀x∈as,jK a x=true):∀d:List Str,CU d->CU (cK a k d)
 | [],h=>by
  rw[cK];refine List.pairwise_cons.2 ⟨fun x c=>?_,g [] h⟩;rcases (i [] x).1 c with c | c
  ·exact ha x c
  ·cases c
 | b::d,h=>by
  have hb:=List.pairwise_cons.1 h;rw[cK];split
  ·rename_i f;refine List.pairwise_cons.2 ⟨fun x c=>?_,g _ h⟩;rcases (i _ x).1 c with c | c
   ·exact ha x c
   ·rcases List.mem_cons.1 c with rfl | c
    ·exact f
    ·exact bV f (hb.1 x c)
  ·split
   ·rename_i _ f;refine List.pairwise_cons.2 ⟨fun x c=>?_,xZ i g ha d hb.2⟩;rcases (nW i d x).1 c with rfl | c | c
    ·exact f
    ·exact bV f (ha x c)
    ·exact hb.1 x c
   ·rename_i j l;have e:a=b:=pB (by simpa using j) (by simpa using l);subst e;refine List.pairwise_cons.2 ⟨fun x c=>?_,g _ hb.2⟩;rcases (i _ x).1 c with c | c
    ·exact ha x c
    ·exact hb.1 x c
theorem CV:∀(as a:List Str),CU as->CU a->CU (fQ as a)
 | [],_,_,h=>h
 | _::as,a,h1,h2=>by
  have ha:=List.pairwise_cons.1 h1;exact xZ (fun a p=>fR as a p) (fun a hb=>CV as a ha.2 hb) ha.1 a h2
theorem fS:∀{l:List File} {p x:Str},L1 l p=some x->∃f∈l,f.Path=p/\f.Blob=x
 | [],_,_,h=>by cases h
 | f::r,p,x,h=>by
  unfold L1 at h;split at h
  ·rename_i e;exact⟨f,by simp,e,Option.some.inj h⟩
  ·obtain⟨g,b,a⟩:=fS h;exact⟨g,by simp[b],a⟩
theorem findF_none{p:Str}:∀{l:List File},L1 l p=none↔p∉l.map (·.Path)
 | []=>by simp[L1]
 | f::r=>by
  unfold L1;split
  ·rename_i e;simp[e]
  ·rename_i e;rw[findF_none (l:=r),B62,B66,not_or];exact⟨fun h=>⟨fun b=>e b.symm,h⟩,fun h=>h.2⟩
theorem aZ:∀{l:List File},ascend l=true->CU (l.map (·.Path))
 | [],_=>List.Pairwise.nil
 | f::r,h=>by
  rw[B62];refine List.pairwise_cons.2 ⟨fun x c=>?_,aZ (iB h)⟩;obtain⟨g,b,rfl⟩:=List.mem_map.1 c;exact aE h g b
theorem CW{l:List Str}(h:CU l):l.Nodup:=h.imp fun {a b} c e=>by rw[e,o5]at c;cases c
theorem dH:∀{l:List File},ascend l=true->∀f∈l,L1 l f.Path=some f.Blob
 | [],_,f,hf=>by cases hf
 | g::r,h,f,hf=>by
  unfold L1;rcases List.mem_cons.1 hf with rfl | hf
  ·rw[A6 rfl]
  ·have:=aE h f hf;rw[A7 (fun e=>by rw[e,o5]at this;cases this)];exact dH (iB h) f hf
theorem LC{a b:List File}{p:Str}{d:Delta}(h:lJ a b p=some d):d.Path=p:=by
 unfold lJ at h;split at h
 ·cases h;rfl
 ·cases h;rfl
 ·split at h
  ·cases h;rfl
  ·cases h
theorem qT{f:Str->Option Delta}(a:∀p d,f p=some d->d.Path=p):∀{l:List Str},CU l->AscD (l.filterMap f)
 | [],_=>List.Pairwise.nil
 | p::r,h=>by
  have c:=List.pairwise_cons.1 h;have e:=qT a c.2;rw[List.filterMap_cons];cases g:f p with
  | none=>exact e
  | some d =>
   refine List.pairwise_cons.2 ⟨fun y j=>?_,e⟩;obtain⟨q,i,b⟩:=List.mem_filterMap.1 j;rw[a p d g,a q y b];exact c.1 q i
theorem HV{b:List File}{f:File}{d:Delta}(h:iY b f=some d):d.Path=f.Path:=by
 unfold iY at h;split at h
 ·cases h;rfl
 ·split at h
  ·cases h;rfl
  ·cases h
theorem HW{a:List File}{f:File}{d:Delta}(h:pY a f=some d):d.Path=f.Path/\f.Path∉a.map (·.Path):=by
 unfold pY at h;split at h
 ·rename_i b;cases h;exact⟨rfl,findF_none.1 b⟩
 ·cases h
theorem A16{a b:List File}(ha:ascend a=true)(hb:ascend b=true):((cL a b).map (·.Path)).Nodup:=by
 have sub:∀(f:File->Option Delta),(∀x d,f x=some d->d.Path=x.Path)->∀l:List File,((l.filterMap f).map (·.Path)).Sublist (l.map (·.Path)):=by
  intro f k l;induction l with
  | nil=>exact List.Sublist.slnil
  | cons x r n =>
   rw[List.filterMap_cons];cases c:f x with
   | none=>exact n.cons _
   | some d=>rw[B62,B62,k x d c];exact n.cons_cons _
 unfold cL;rw[B77,List.nodup_append];refine⟨(CW (aZ ha)).sublist (sub _ (fun _ _ h=>HV h) a),(CW (aZ hb)).sublist (sub _ (fun _ _ h=>(HW h).1) b),?_⟩;intro x c y z e;subst e;obtain⟨d,w,q⟩:=List.mem_map.1 z;obtain⟨f,k,v⟩:=List.mem_filterMap.1 w;have g:=HW v;have j:=(sub _ (fun _ _ h=>HV h) a).subset c;rw[<-q,g.1]at j;exact g.2 j
theorem raw_mem{a b:List File}(ha:ascend a=true)(_hb:ascend b=true)(y:Delta):y∈cL a b↔y∈i6 a b:=by
 unfold cL i6;rw[B73,List.mem_filterMap,List.mem_filterMap,List.mem_filterMap];constructor
 ·rintro (⟨f,d,h⟩ | ⟨f,d,h⟩)
  ·refine⟨f.Path,(fR _ _ _).2 (.inl (List.mem_map_of_mem d)),?_⟩;unfold iY at h;unfold lJ;rw[dH ha f d];split at h
   ·rename_i c;rw[c];exact h
   ·rename_i z c;rw[c];dsimp only;split at h
    ·rename_i g;rw[A6 (fun e=>g e.symm)];exact h
    ·cases h
  ·refine⟨f.Path,(fR _ _ _).2 (.inr (List.mem_map_of_mem d)),?_⟩;unfold pY at h;unfold lJ;split at h
   ·rename_i c;rw[c];exact h
   ·cases h
 ·rintro⟨p,j,h⟩;unfold lJ at h;split at h
  ·rename_i c;rcases (fR _ _ _).1 j with j | j
   ·exact absurd j (findF_none.1 c)
   ·obtain⟨f,d,rfl⟩:=List.mem_map.1 j;exact .inr ⟨f,d,by unfold pY;rw[c];exact h⟩
  ·rename_i x c g;obtain⟨f,d,rfl,rfl⟩:=fS c;exact .inl ⟨f,d,by unfold iY;rw[g];exact h⟩
  ·rename_i x z c g;obtain⟨f,d,rfl,rfl⟩:=fS c;refine .inl ⟨f,d,?_⟩;unfold iY;rw[g];dsimp only;split at h
   ·rename_i k;rw[A6 (fun e=>k e.symm)];exact h
   ·cases h
theorem A17{a b:List File}(ha:ascend a=true)(hb:ascend b=true):diffOf a b=i6 a b :=
 XS (A14 (A16 ha hb)) (qT (fun _ _ h=>LC h) (CV _ _ (aZ ha) (aZ hb))) fun y=>(A15 _ y).trans (raw_mem ha hb y)
theorem VH(a b:List File):(cL a b).length<=a.length+b.length:=by
 unfold cL;rw[B48];have c:=List.length_filterMap_le (iY b) a;have d:=List.length_filterMap_le (pY a) b;omega
theorem cM{l:List File}(h:G4 l=0):ascend l=true/\l.length<=200/\(∀f∈l,I0 f.Blob=0)/\∀f∈l,aD f.Path=0:=by
 unfold G4 at h;split at h
 ·cases h
 ·rename_i g;split at h
  ·cases h
  ·rename_i b;split at h
   ·cases h
   ·rename_i c;split at h
    ·cases h
    ·rename_i d;refine⟨aY (by simpa using c),by omega,fun f a=>?_,fun f a=>?_⟩
     ·have:=fun e=>d (List.any_eq_true.2 ⟨f,a,e⟩);simpa using this
     ·have:=fun e=>b (List.any_eq_true.2 ⟨f,a,e⟩);simpa using this
theorem pC{α:Type}[DecidableEq α]:∀{l m:List α},l.Nodup->(∀x∈l,x∈m)->l.length<=m.length
 | [],_,_,_=>Nat.zero_le _
 | x::l,m,h,hs=>by
  have b:=List.nodup_cons.1 h;have d:l.length<=(m.erase x).length:=pC b.2 fun y c=>by
   have a:y≠x:=fun e=>b.1 (e ▸ c);exact (List.mem_erase_of_ne a).2 (hs y (by simp[c]))
  have f:=List.length_erase_of_mem (hs x (by simp));have i:0<m.length:=List.length_pos_of_mem (hs x (by simp));rw[B49];omega
theorem bA{l:List Int}{n:Nat}(h:l.Nodup)(b:∀x∈l,0<=x/\x<n):l.length<=n:=by
 have:=pC (m:=(List.range n).map fun i:Nat=>(i:Int)) h fun x c=>by
  have:=b x c;exact List.mem_map.2 ⟨x.toNat,List.mem_range.2 (by omega),by omega⟩
 simpa using this
theorem A85{l:List Int}{n:Nat}(h:l.Nodup)(d:∀x∈l,0<=x/\x<n)(f:n<=l.length)(c:Nat)(e:c<n):(c:Int)∈l:=by
 apply Classical.byContradiction;intro b;have:=bA (l:=(c:Int)::l) (n:=n) (List.nodup_cons.2 ⟨b,h⟩) fun x a=>by
  rcases List.mem_cons.1 a with rfl | a
  ·exact⟨by omega,by omega⟩
  ·exact d x a
 rw[B49]at this;omega
theorem rY{q r:Nat->Bool}(x:Nat)(d:∀y,r y=(q y&&decide (y≠x))):∀{L:List Nat},L.Nodup->L.countP q=L.countP r+(if x∈L/\q x=true then 1 else 0)
 | [],_=>by simp
 | y :: L,h=>by
  have c:=List.nodup_cons.1 h;have g:=rY x d c.2;rw[List.countP_cons,List.countP_cons,g,d y];by_cases e:y=x
  ·subst e;have:¬(y∈L/\q y=true):=fun e=>c.1 e.1;rw[A7 this];cases j:q y<;>simp
  ·have f:(x∈y::L/\q x=true)↔(x∈L/\q x=true):=by
    rw[B66];constructor
    ·rintro⟨a | a,b⟩
     ·exact absurd a.symm e
     ·exact⟨a,b⟩
    ·exact fun ⟨a,b⟩=>⟨.inr a,b⟩
   rw[show (if x∈y::L/\q x=true then 1 else 0)=(if x∈L/\q x=true then 1 else 0) by simp only[f]];simp only[e,ne_eq,not_false_eq_true,decide_true,Bool.and_true];omega
abbrev Graph:=List Commit
def E9(g:Graph)(c:Nat):List Int:=(g[c]?.map (·.Parents)).getD []
def nX(n:Int)(a:List Int):List Int->Bool
 | []=>true
 | p::r=>decide (0<=p/\p<n/\p∉a)&&nX n (a++[p]) r
def related(g:Graph):Bool:=g.all fun c=>nX g.length [] c.Parents
theorem QJ{n:Int}:∀{ps a:List Int},nX n a ps=true->(∀p∈ps,0<=p/\p<n/\p∉a)/\ps.Nodup
 | [],_,_=>⟨(fun _ h=>by cases h),List.nodup_nil⟩
 | p::r,a,h=>by
  unfold nX at h;rw[B47,decide_eq_true_eq]at h;obtain⟨c,d⟩:=QJ h.2;refine⟨fun q b=>?_,List.nodup_cons.2 ⟨fun e=>(c p e).2.2 (by simp),d⟩⟩;rcases List.mem_cons.1 b with rfl | b
  ·exact h.1
  ·have:=c q b;exact⟨this.1,this.2.1,fun f=>this.2.2 (by simp[f])⟩
theorem dI{g:Graph}{c:Nat}(b:c<g.length):E9 g c=g[c].Parents:=by unfold E9;rw[B44 b];rfl
theorem nY{g:Graph}{c:Nat}(a:¬c<g.length):E9 g c=[]:=by unfold E9;rw[B56 (by omega)];rfl
theorem L7{g:Graph}(h:related g=true)(c:Nat):(∀p∈E9 g c,0<=p/\p<g.length)/\(E9 g c).Nodup:=by
 by_cases a:c<g.length
 ·rw[dI a];have:=QJ (List.all_eq_true.1 h g[c] (B50 a));exact⟨fun p b=>⟨(this.1 p b).1,(this.1 p b).2.1⟩,this.2⟩
 ·rw[nY a];exact⟨(fun _ h=>by cases h),List.nodup_nil⟩
inductive Reaches (g:Graph):Nat->Nat->Prop
 | one {c p:Nat} (h:(p:Int)∈E9 g c):Reaches g c p
 | more {c d p:Nat} (h:Reaches g c d) (h2:(p:Int)∈E9 g d):Reaches g c p
theorem Reaches.trans{g:Graph}{a b c:Nat}(h:Reaches g a b)(d:Reaches g b c):Reaches g a c:=by
 induction d with
 | one d=>exact .more h d
 | more _ f i=>exact .more i f
theorem Reaches.lt{g:Graph}(f:related g=true){a b:Nat}(h:Reaches g a b):a<g.length/\b<g.length:=by
 have key:∀{c p:Nat},(p:Int)∈E9 g c->c<g.length/\p<g.length:=fun {c p} h=>by
  refine⟨?_,by have:=(L7 f c).1 p h;omega⟩;apply Classical.byContradiction;intro e;rw[nY e]at h;cases h
 induction h with
 | one h=>exact key h
 | more _ d i=>exact⟨i.1,(key d).2⟩
def bW(ps:List Int)(l:List Bool):List Bool:=ps.foldl (fun l p=>l.set p.toNat true) l
def L9(l:List Bool)(c:Nat):Bool:=l[c]?.getD false
def bJ(g:Graph)(l:List Bool)(c:Nat):List Bool:=if L9 l c=true then bW (E9 g c) l else l
def rZ(g:Graph)(l:List Bool):List Bool:=(List.range g.length).foldl (bJ g) l
def dJ(g:Graph):Nat->List Bool->List Bool
 | 0,l=>l
 | k+1,l=>dJ g k (rZ g l)
def V9(g:Graph)(a:List Int):List Bool:=dJ g g.length (bW a (List.replicate g.length false))
theorem A86{l:List Bool}{i c:Nat}:L9 (l.set i true) c=(L9 l c||decide (i=c/\c<l.length)):=by
 unfold L9;rw[List.getElem?_set];split
 ·rename_i e;subst e;split
  ·rename_i h;simp[h]
  ·rename_i h;simp[h,B56 (Nat.le_of_not_lt h)]
 ·rename_i h;simp[h]
theorem y4:∀(ps:List Int) (l:List Bool),(bW ps l).length=l.length
 | [],_=>rfl
 | p::r,l=>by show (bW r (l.set p.toNat true)).length=_;rw[y4 r];simp
theorem aF:∀(ps:List Int) (l:List Bool) (c:Nat),L9 (bW ps l) c=(L9 l c||(decide (c<l.length)&&ps.any fun p=>decide (p.toNat=c)))
 | [],l,c=>by simp[bW]
 | p::r,l,c=>by
  show L9 (bW r (l.set p.toNat true)) c=_;rw[aF r,A86,B65,List.any_cons];by_cases a:p.toNat=c<;>by_cases b:c<l.length<;>simp[a,b]
theorem A18(g:Graph)(l:List Bool)(c:Nat):(bJ g l c).length=l.length:=by unfold bJ;split<;>simp[y4]
theorem HX(g:Graph):∀(a:List Nat) (l:List Bool),(a.foldl (bJ g) l).length=l.length
 | [],_=>rfl
 | c::r,l=>by rw[B79,HX g r,A18]
theorem CX(g:Graph)(l:List Bool):(rZ g l).length=l.length:=HX g _ l
theorem wK(g:Graph):∀(k:Nat) (l:List Bool),(dJ g k l).length=l.length
 | 0,_=>rfl
 | k+1,l=>by rw[dJ,wK g k,CX]
theorem QK(g:Graph)(s:List Int):(V9 g s).length=g.length:=by unfold V9;rw[wK,y4];simp
def LeB(a b:List Bool):Prop:=a.length=b.length/\∀c,L9 a c=true->L9 b c=true
theorem LeB.refl(a:List Bool):LeB a a:=⟨rfl,fun _ h=>h⟩
theorem LeB.trans{a b c:List Bool}(h:LeB a b)(d:LeB b c):LeB a c:=⟨h.1.trans d.1,fun x e=>d.2 x (h.2 x e)⟩
theorem pD:∀{a b:List Bool},LeB a b->a=b\/a.countP id<b.countP id
 | [],[],_=>.inl rfl
 | [],_::_,h=>by have:=h.1;simp at this
 | _::_,[],h=>by have:=h.1;simp at this
 | x::a,y::b,h=>by
  have e:LeB a b:=⟨by simpa using h.1,fun c f=>h.2 (c+1) f⟩
  have d:x=true->y=true:=fun g=>by simpa[L9] using h.2 0 (by simpa[L9] using g)
  rw[List.countP_cons,List.countP_cons];rcases pD e with rfl | h3
  ·cases x<;>cases y
   ·exact .inl rfl
   ·right;simp
   ·exact absurd (d rfl) (by decide)
   ·exact .inl rfl
  ·right;cases x<;>cases y
   ·simpa using h3
   ·simp;omega
   ·exact absurd (d rfl) (by decide)
   ·simpa using h3
theorem QL{a b:List Bool}(h:LeB a b)(d:LeB b a):a=b:=by
 rcases pD h with e | e
 ·exact e
 ·rcases pD d with c | c
  ·exact c.symm
  ·omega
theorem HY(ps:List Int)(l:List Bool):LeB l (bW ps l):=⟨(y4 ps l).symm,fun c h=>by rw[aF,h];rfl⟩
theorem QM(g:Graph)(l:List Bool)(c:Nat):LeB l (bJ g l c):=by unfold bJ;split<;>first | exact HY _ _ | exact LeB.refl _
theorem uB(g:Graph):∀(b:List Nat) (l:List Bool),LeB l (b.foldl (bJ g) l)
 | [],l=>LeB.refl l
 | c::r,l=>(QM g l c).trans (uB g r _)
theorem QN(g:Graph):∀(k:Nat) (l:List Bool),LeB l (dJ g k l)
 | 0,l=>LeB.refl l
 | k+1,l=>(uB g _ l).trans (QN g k _)
def iC(g:Graph)(l:List Bool):Prop:=∀c,L9 l c=true->∀p∈E9 g c,L9 l p.toNat=true
theorem QO(g:Graph):∀(a:List Nat) (l:List Bool),a.foldl (bJ g) l=l->∀c∈a,bJ g l c=l
 | [],_,_,_,h=>by cases h
 | d::r,l,h,c,hc=>by
  rw[B79]at h;have b:bJ g l d=l:=QL (by have:=uB g r (bJ g l d);rw[h]at this;exact this) (QM g l d);rcases List.mem_cons.1 hc with rfl | hc
  ·exact b
  ·rw[b]at h;exact QO g r l h c hc
theorem XT{l:List Bool}{c:Nat}(h:L9 l c=true):c<l.length:=by
 unfold L9 at h;apply Classical.byContradiction;intro a;rw[B56 (by omega)]at h;cases h
theorem VI{g:Graph}{l:List Bool}(f:related g=true)(e:l.length=g.length)(h:rZ g l=l):iC g l:=by
 intro c b p d;have a:=QO g _ l h c (List.mem_range.2 (by rw[<-e];exact XT b));unfold bJ at a;rw[A6 b]at a;rw[<-a,aF];have:=(L7 f c).1 p d;rw[B63];right;rw[B47,decide_eq_true_eq,List.any_eq_true];exact⟨by omega,p,d,by simp⟩
theorem uC{g:Graph}{l:List Bool}(h:iC g l):rZ g l=l:=by
 have key:∀(b:List Nat),b.foldl (bJ g) l=l:=by
  intro b;induction b with
  | nil=>rfl
  | cons c r f =>
   rw[B79];have:bJ g l c=l:=by
    unfold bJ;split
    ·rename_i d;refine QL ⟨y4 _ _,fun x a=>?_⟩ (HY _ _);rw[aF,B63,B47,List.any_eq_true]at a;rcases a with a | ⟨_,p,hp,e⟩
     ·exact a
     ·rw[<-A1 e];exact h c d p hp
    ·rfl
   rw[this];exact f
 exact key _
theorem yA{g:Graph}(b:related g=true):∀(k:Nat) {l:List Bool},l.length=g.length->iC g (dJ g k l)\/l.countP id+k<=(dJ g k l).countP id
 | 0,l,_=>.inr (by simp[dJ])
 | k+1,l,hl=>by
  rw[dJ];rcases pD (uB g (List.range g.length) l) with e | e
  ·left;have a:iC g l:=VI b hl e.symm;rw[show rZ g l=l from e.symm];have:∀k,dJ g k l=l:=fun k=>by
    induction k with
    | zero=>rfl
    | succ k d=>rw[dJ,uC a];exact d
   rw[this];exact a
  ·rcases yA b k (l:=rZ g l) (by rw[CX];exact hl) with h | h
   ·exact .inl h
   ·right;have e:l.countP id<(rZ g l).countP id:=e;omega
theorem lK{g:Graph}(j:related g=true)(s:List Int)(m:∀f∈s,0<=f/\f<g.length):iC g (V9 g s):=by
 by_cases i:s=[]
 ·subst i;have:iC g (List.replicate g.length false):=fun c d=>by
   unfold L9 at d;rw[List.getElem?_replicate]at d;split at d<;>cases d
  have e:∀k,dJ g k (List.replicate g.length false)=List.replicate g.length false:=fun k=>by
   induction k with
   | zero=>rfl
   | succ k q=>rw[dJ,uC this];exact q
  unfold V9;show iC g (dJ g g.length (List.replicate g.length false));rw[e];exact this
 ·rcases yA j g.length (l:=bW s (List.replicate g.length false)) (by rw[y4];simp) with h | h
  ·exact h
  ·obtain⟨f,r,rfl⟩:=List.exists_cons_of_ne_nil i;have v:(dJ g g.length (bW (f::r) (List.replicate g.length false))).countP id<=g.length:=by
    have:=List.countP_le_length (p:=id) (l:=dJ g g.length (bW (f::r) (List.replicate g.length false)));rw[wK,y4,B74]at this;exact this
   have w:0<(bW (f::r) (List.replicate g.length false)).countP id:=by
    rw[List.countP_pos_iff];have x:=m f (by simp);have a:L9 (bW (f::r) (List.replicate g.length false)) f.toNat=true:=by
     rw[aF,B63];right;rw[B47,decide_eq_true_eq,List.any_eq_true];exact⟨by rw[B74];omega,f,by simp,by simp⟩
    have b:=XT a;unfold L9 at a;rw[B44 b]at a;exact⟨_,B50 b,a⟩
   omega
theorem pE{g:Graph}(y:related g=true){s:List Int}(u:∀f∈s,0<=f/\f<g.length)(x:Nat):L9 (V9 g s) x=true↔∃f:Nat,(f:Int)∈s/\(f=x\/Reaches g f x):=by
 constructor
 ·let Good:List Bool->Prop:=fun l=>∀x,L9 l x=true->∃f:Nat,(f:Int)∈s/\(f=x\/Reaches g f x)
  have z:∀l c,Good l->Good (bJ g l c):=by
   intro l c h x a;unfold bJ at a;split at a
   ·rename_i B;rw[aF,B63,B47,List.any_eq_true]at a;rcases a with a | ⟨_,p,hp,e⟩
    ·exact h x a
    ·have e:=A1 e;have C:=(L7 y c).1 p hp;have v:((x:Nat):Int)=p:=by omega
     obtain⟨f,q,b⟩:=h c B;refine⟨f,q,.inr ?_⟩;rcases b with rfl | b
     ·exact .one (by rw[v];exact hp)
     ·exact .more b (by rw[v];exact hp)
   ·exact h x a
  have b:∀(t:List Nat) l,Good l->Good (t.foldl (bJ g) l):=by
   intro t;induction t with
   | nil=>exact fun l h=>h
   | cons c r j=>exact fun l h=>j _ (z l c h)
  have A:∀k l,Good l->Good (dJ g k l):=by
   intro k;induction k with
   | zero=>exact fun l h=>h
   | succ k j=>exact fun l h=>j _ (b _ l h)
  refine A _ _ (fun x a=>?_) x;rw[aF,B63,B47,List.any_eq_true]at a;rcases a with a | ⟨_,p,hp,e⟩
  ·unfold L9 at a;rw[List.getElem?_replicate]at a;split at a<;>cases a
  ·have e:=A1 e;have:=u p hp;exact⟨x,by rw[show ((x:Nat):Int)=p by omega];exact hp,.inl rfl⟩
 ·rintro⟨f,q,h⟩;have d:=lK y s u;have w:L9 (V9 g s) f=true:=by
   refine (QN g _ _).2 f ?_;rw[aF,B63];right;rw[B47,decide_eq_true_eq,List.any_eq_true];have:=u f q;exact⟨by rw[B74];omega,f,q,by simp⟩
  rcases h with rfl | h
  ·exact w
  ·induction h with
   | one h=>exact d _ w _ h
   | more _ b j=>exact d _ j _ b
def cyclic(g:Graph):Bool:=(List.range g.length).any fun c=>decide (E9 g c≠[])&&L9 (V9 g (E9 g c)) c
theorem lL{g:Graph}(k:related g=true):cyclic g=true↔∃c,Reaches g c c:=by
 unfold cyclic;rw[List.any_eq_true];constructor
 ·rintro⟨c,_,h⟩;rw[B47]at h;obtain⟨f,j,d⟩:=(pE k (L7 k c).1 c).1 h.2;rcases d with rfl | d
  ·exact⟨f,.one j⟩
  ·exact⟨c,(Reaches.one j).trans d⟩
 ·rintro⟨c,h⟩;have q:=(h.lt k).1;refine⟨c,List.mem_range.2 q,?_⟩;have key:∀{a b:Nat},Reaches g a b->∃f:Nat,(f:Int)∈E9 g a/\(f=b\/Reaches g f b):=by
   intro a b h;induction h with
   | one h=>exact⟨_,h,.inl rfl⟩
   | more _ d u =>
    obtain⟨f,j,p⟩:=u;refine⟨f,j,.inr ?_⟩;rcases p with rfl | p
    ·exact .one d
    ·exact .more p d
  obtain⟨f,j,d⟩:=key h;rw[B47,decide_eq_true_eq];exact⟨(fun e=>by rw[e]at j;cases j),(pE k (L7 k c).1 c).2 ⟨f,j,d⟩⟩
def uD(g:Graph)(ex:List Int)(p:Nat):Nat:=(List.range g.length).countP fun c:Nat=>decide ((c:Int)∉ex/\(p:Int)∈E9 g c)
theorem HZ{g:Graph}{ex:List Int}{x p:Nat}(f:(x:Int)∉ex)(a:x<g.length):uD g ex p=uD g (ex++[(x:Int)]) p+(if (p:Int)∈E9 g x then 1 else 0):=by
 unfold uD;rw[rY (q:=fun c:Nat=>decide ((c:Int)∉ex/\(p:Int)∈E9 g c)) (r:=fun c:Nat=>decide ((c:Int)∉ex++[(x:Int)]/\(p:Int)∈E9 g c)) x (fun y=>?_) List.nodup_range]
 ·congr 1
  simp only[List.mem_range,a,true_and,decide_eq_true_eq,f,not_false_eq_true]
 ·simp only[B73,List.mem_singleton];by_cases b:(y:Int)∈ex<;>by_cases d:y=x<;>by_cases e:(p:Int)∈E9 g y<;>simp[b,d,e]<;>omega
theorem A87{g:Graph}{ex:List Int}{p:Nat}(h:0<uD g ex p):∃c,c<g.length/\(c:Int)∉ex/\(p:Int)∈E9 g c:=by
 unfold uD at h;rw[List.countP_pos_iff]at h;obtain⟨c,a,h⟩:=h;have:=A1 h;exact⟨c,List.mem_range.1 a,this.1,this.2⟩
theorem IA{g:Graph}{ex:List Int}{p:Nat}(h:uD g ex p=0){c:Nat}(a:c<g.length)(d:(p:Int)∈E9 g c):(c:Int)∈ex:=by
 apply Classical.byContradiction;intro b;have:0<uD g ex p:=by
  unfold uD;rw[List.countP_pos_iff];exact⟨c,List.mem_range.2 a,by simp[b,d]⟩
 omega
structure KInv (g:Graph) (k i:Nat) (ch:List Int) (out:List Int):Prop where
 len:ch.length=g.length
 nodup:out.Nodup
 rng:∀x∈out,0<=x/\x<g.length
 cnt:∀p,p<g.length->ch[p]?.getD 0+(if (p:Int)∈(E9 g (out.getD k 0).toNat).take i then 1 else 0)=uD g (out.take k) p
 zero:∀p,p<g.length->((p:Int)∈out↔ch[p]?.getD 0=0)
 kids:∀j (h:j<out.length) (c:Nat),out[j]∈E9 g c->(c:Int)∈out.take j
theorem minimal{R:Nat->Nat->Prop}(i:∀a b c,R a b->R b c->R a c)(g:∀a,¬R a a):∀{M:List Nat},M≠[]->∃m∈M,∀x∈M,¬R x m
 | [],h=>absurd rfl h
 | [a],_=>⟨a,by simp,fun x d=>by rw[List.mem_singleton.1 d];exact g a⟩
 | a::b::r,_=>by
  obtain⟨m,j,h⟩:=minimal i g (M:=b::r) (by simp);by_cases e:R a m
  ·refine⟨a,by simp,fun x d f=>?_⟩;rcases List.mem_cons.1 d with rfl | d
   ·exact g _ f
   ·exact h x d (i _ _ _ f e)
  ·refine⟨m,List.mem_cons_of_mem _ j,fun x d=>?_⟩;rcases List.mem_cons.1 d with rfl | d
   ·exact e
   ·exact h x d
theorem KInv.done{g:Graph}(O:related g=true){P b:List Int}(h:KInv g b.length 0 P b):(decide (b.length<g.length))=cyclic g:=by
 cases z:cyclic g
 ·rw[decide_eq_false_iff_not];intro A;have N:∀c,¬Reaches g c c:=fun c d=>by rw[(lL O).2 ⟨c,d⟩]at z;cases z
  let M:=(List.range g.length).filter fun c:Nat=>decide ((c:Int)∉b);have V:M≠[]:=by
   intro e;have w:∀c,c<g.length->(c:Int)∈b:=fun c z=>by
    apply Classical.byContradiction;intro T;have:c∈M:=List.mem_filter.2 ⟨List.mem_range.2 z,by simp[T]⟩;rw[e]at this;cases this
   have:=pC (l:=(List.range g.length).map fun i:Nat=>(i:Int)) (m:=b) ((List.nodup_range).map (fun i:Nat=>(i:Int)) (fun _ _ L e=>L (Int.ofNat.inj e))) fun x X=>by
    obtain⟨i,k,rfl⟩:=List.mem_map.1 X;exact w i (List.mem_range.1 k)
   rw[B68,B75]at this;omega
  obtain⟨m,W,B⟩:=minimal (R:=Reaches g) (fun _ _ _ F C=>F.trans C) N V;obtain⟨q,u⟩:=List.mem_filter.1 W;have q:=List.mem_range.1 q;have u:=A1 u;have F:=h.cnt m q;have C:¬P[m]?.getD 0=0:=fun e=>u ((h.zero m q).2 e);rw[B51,List.take_zero,A7 (by simp),Int.add_zero]at F;obtain⟨c,G,H,I⟩:=A87 (g:=g) (ex:=b) (p:=m) (by omega);exact B c (List.mem_filter.2 ⟨List.mem_range.2 G,by simp[H]⟩) (.one I)
 ·rw[decide_eq_true_eq];obtain⟨c,d⟩:=(lL O).1 z;apply Classical.byContradiction;intro T;have K:=A85 h.nodup h.rng (by omega) c (d.lt O).1;have key:∀{x y:Nat},Reaches g x y->∀j (s:j<b.length),b[j]=(y:Int)->∃i,∃k:i<b.length,i<j/\b[i]=(x:Int):=by
   have one:∀{x y:Nat},(y:Int)∈E9 g x->∀j (s:j<b.length),b[j]=(y:Int)->∃i,∃k:i<b.length,i<j/\b[i]=(x:Int):=by
    intro x y v j s e;have:=h.kids j s x (by rw[e];exact v);obtain⟨i,k,Q⟩:=List.getElem_of_mem this;rw[B54]at k;rw[List.getElem_take]at Q;exact⟨i,by omega,by omega,Q⟩
   intro x y v;induction v with
   | one h=>exact one h
   | more _ C Z =>
    intro j s e;obtain⟨i,k,A,E⟩:=one C j s e;obtain⟨Y,J,S,U⟩:=Z i k E;exact⟨Y,J,by omega,U⟩
  obtain⟨j,s,e⟩:=List.getElem_of_mem K;obtain⟨i,k,A,E⟩:=key d j s e;have:=(List.getElem_inj (i:=i) (j:=j) (h₀:=k) (h₁:=s) h.nodup).1 (E.trans e.symm);omega
def H4(l:List Int)(p:Nat):Int:=l[p]?.getD 0
def bump(l:List Int)(p:Int):List Int:=l.set p.toNat (H4 l p.toNat+1)
def b9(l:List Int)(p:Int):List Int:=l.set p.toNat (H4 l p.toNat-1)
def d7(ps:List Int)(l:List Int):List Int:=ps.foldl bump l
def P1(g:Graph)(i:Nat):List Int:=(g.take i).foldl (fun l c=>d7 c.Parents l) (List.replicate g.length 0)
theorem iD{l:List Int}{i p:Nat}{v:Int}(h:i<l.length):H4 (l.set i v) p=if i=p then v else H4 l p:=by
 unfold H4;rw[List.getElem?_set];split
 ·rename_i e;subst e;simp[h]
 ·rfl
theorem nZ:∀(ps:List Int) (l:List Int),(d7 ps l).length=l.length
 | [],_=>rfl
 | p::r,l=>by show (d7 r (bump l p)).length=_;rw[nZ r];simp[bump]
theorem sA{n:Int}:∀{ps:List Int} {l:List Int},(∀p∈ps,0<=p/\p<l.length)->ps.Nodup->∀p:Nat,H4 (d7 ps l) p=H4 l p+(if (p:Int)∈ps then 1 else 0)
 | [],l,_,_,p=>by simp[d7]
 | q::r,l,h,b,p=>by
  show H4 (d7 r (bump l q)) p=_;have f:=h q (by simp);have b:=List.nodup_cons.1 b;rw[sA (n:=n) (fun x d=>by have:=h x (by simp[d]);simpa[bump] using this) b.2 p];unfold bump;rw[iD (by omega)];by_cases e:q.toNat=p
  ·have a:(p:Int)=q:=by omega
   have c:¬(p:Int)∈r:=by rw[a];exact b.1
   rw[A6 e,A7 c,a,A6 (by simp),e];omega
  ·have a:((p:Int)∈q::r)↔(p:Int)∈r:=by
    rw[B66];exact⟨fun h=>h.resolve_left (by omega),.inr⟩
   rw[A7 e];simp only[a]
theorem eX(g:Graph):∀i,(P1 g i).length=g.length:=by
 intro i;unfold P1;have key:∀(a:List Commit) (l:List Int),(a.foldl (fun l c=>d7 c.Parents l) l).length=l.length:=by
  intro a;induction a with
  | nil=>intro l;rfl
  | cons c r b=>intro l;rw[B79,b,nZ]
 rw[key];simp
theorem qU{g:Graph}{i:Nat}(a:i<g.length):P1 g (i+1)=d7 (E9 g i) (P1 g i):=by
 unfold P1;rw[List.take_add_one,B44 a,Option.toList_some,B88,dI a];rfl
theorem oA{g:Graph}(b:related g=true)(p:Nat)(a:p<g.length):∀i,i<=g.length->H4 (P1 g i) p=((List.range i).countP fun c:Nat=>decide ((p:Int)∈E9 g c):Nat)
 | 0,_=>by
  unfold P1 H4;simp[List.getElem?_replicate,a]
 | i+1,hi=>by
  have hpr:=L7 b i;rw[qU (by omega),sA (n:=0) (fun q d=>by rw[eX];exact hpr.1 q d) hpr.2,oA b p a i (by omega),B96,List.countP_append];by_cases h:(p:Int)∈E9 g i<;>simp[h]
theorem yB{g:Graph}(b:related g=true)(p:Nat)(a:p<g.length):H4 (P1 g g.length) p=uD g [] p:=by
 rw[oA b p a _ (Nat.le_refl _)];unfold uD;simp
def Y0(b:List Int)(i:Nat):List Int:=((List.range i).filter fun c=>decide (H4 b c=0)).map fun c:Nat=>(c:Int)
theorem LD(a:List Int)(i:Nat):Y0 a (i+1)=if H4 a i=0 then Y0 a i++[(i:Int)] else Y0 a i:=by
 unfold Y0;rw[B96,B99,B77];by_cases h:H4 a i=0<;>simp[h]
theorem yC(a:List Int)(i p:Nat):(p:Int)∈Y0 a i↔p<i/\H4 a p=0:=by
 unfold Y0;rw[List.mem_map];constructor
 ·rintro⟨c,b,e⟩;have e:c=p:=Int.ofNat.inj e;subst e;rw[List.mem_filter,List.mem_range,decide_eq_true_eq]at b;exact b
 ·rintro⟨d,f⟩;exact⟨p,by rw[List.mem_filter,List.mem_range,decide_eq_true_eq];exact⟨d,f⟩,rfl⟩
theorem oB{b:List Int}{i:Nat}:∀x∈Y0 b i,0<=x/\x<i:=by
 intro x a;unfold Y0 at a;obtain⟨c,d,rfl⟩:=List.mem_map.1 a;have:=List.mem_range.1 (List.mem_filter.1 d).1;omega
theorem qV(c:List Int)(i:Nat):(Y0 c i).Nodup:=by
 unfold Y0;exact (List.nodup_range.filter _).map (fun i:Nat=>(i:Int)) fun _ _ b e=>b (Int.ofNat.inj e)
theorem QP(a:List Int)(i:Nat):(Y0 a i).length<=i:=bA (qV a i) oB
theorem KInv.start{g:Graph}(l:related g=true):KInv g 0 0 (P1 g g.length) (Y0 (P1 g g.length) g.length) where
 len:=eX g _
 nodup:=qV _ _
 rng:=oB
 cnt:=fun p e=>by
  have:=yB l p e;unfold H4 at this;rw[this,List.take_zero,List.take_zero];simp
 zero:=fun p e=>by
  have:=yC (P1 g g.length) g.length p;rw[this];exact⟨fun h=>h.2,fun h=>⟨e,h⟩⟩
 kids:=fun j k c b=>by
  have f:=oB _ (B50 k);have i:=(yC (P1 g g.length) g.length ((Y0 (P1 g g.length) g.length)[j]).toNat).1 (by rw[Int.toNat_of_nonneg f.1];exact B50 k);rw[yB l _ i.1]at i;have d:c<g.length:=by
   apply Classical.byContradiction;intro m;rw[nY m]at b;cases b
  have:=IA (g:=g) (ex:=[]) (p:=((Y0 (P1 g g.length) g.length)[j]).toNat) (by omega) d (by rw[Int.toNat_of_nonneg f.1];exact b);cases this
theorem KInv.le{g:Graph}{k i:Nat}{b a:List Int}(h:KInv g k i b a):a.length<=g.length:=bA h.nodup h.rng
theorem dK{α:Type}{l m:List α}{k:Nat}(h:k<=l.length):(l++m).take k=l.take k:=by rw[List.take_append_of_le_length h]
theorem QQ{α:Type}{l m:List α}{k:Nat}{d:α}(h:k<l.length):(l++m).getD k d=l.getD k d:=by
 rw[B46,B46,B61 h]
theorem U5{α:Type}{l:List α}{i:Nat}{x:α}(h:i<l.length):x∈l.take (i+1)↔x∈l.take i\/x=l[i]:=by
 rw[List.take_add_one,B44 h,Option.toList_some,B73,List.mem_singleton]
theorem d8{α:Type}{l:List α}(c:l.Nodup){i:Nat}(h:i<l.length):l[i]∉l.take i:=by
 intro b;obtain⟨j,a,e⟩:=List.getElem_of_mem b;rw[B54]at a;rw[List.getElem_take]at e;have:=(List.getElem_inj (i:=j) (j:=i) (h₀:=by omega) (h₁:=h) c).1 e;omega
theorem KInv.step{g:Graph}(Y:related g=true){k i:Nat}{f b:List Int}(h:KInv g k i f b)(E:k<b.length){c p:Nat}(K:b[k]=(c:Int))(G:i<(E9 g c).length)(H:(E9 g c)[i]=(p:Int)) :
  p<g.length/\1<=H4 f p/\H4 f p<=g.length/\KInv g k (i+1) (b9 f p) (if H4 f p-1=0 then b++[(p:Int)] else b):=by
 have hpr:=L7 Y c;have hpm:(p:Int)∈E9 g c:=by rw[<-H];exact B50 G
 have m:p<g.length:=by have:=hpr.1 p hpm;omega
 have A:c<g.length:=by have:=h.rng b[k] (B50 E);omega
 have v:b.getD k 0=(c:Int):=by rw[B46,B44 E];exact K
 have P:(c:Int)∉b.take k:=by rw[<-K];exact d8 h.nodup E
 have O:(p:Int)∉(E9 g c).take i:=by rw[<-H];exact d8 hpr.2 G
 have S:=h.cnt p m;rw[v,B45,A7 O]at S;have T:=HZ (g:=g) (ex:=b.take k) (x:=c) (p:=p) P A;rw[A6 hpm]at T;have W:uD g (b.take k) p<=g.length:=by
  unfold uD;have:=List.countP_le_length (p:=fun c:Nat=>decide ((c:Int)∉b.take k/\(p:Int)∈E9 g c)) (l:=List.range g.length)
  rwa[B75]at this
 have V:H4 f p=f[p]?.getD 0:=rfl;have L:1<=H4 f p:=by omega
 have o:(p:Int)∉b:=fun s=>by have:=(h.zero p m).1 s;omega
 have F:∀q,H4 (b9 f p) q=if p=q then H4 f p-1 else H4 f q:=fun q=>by
  unfold b9;rw[B45,iD (by rw[h.len];exact m)]
 refine⟨m,L,by omega,?_⟩;have w:(if H4 f p-1=0 then b++[(p:Int)] else b).take k=b.take k:=by split<;>first | exact dK (by omega) | rfl
 have B:(if H4 f p-1=0 then b++[(p:Int)] else b).getD k 0=b.getD k 0:=by split<;>first | exact QQ E | rfl
 refine⟨by unfold b9;rw[B65];exact h.len,?_,?_,?_,?_,?_⟩
 ·split
  ·exact List.nodup_append.2 ⟨h.nodup,by simp,fun x d y Z e=>by rw[List.mem_singleton.1 Z]at e;exact o (e ▸ d)⟩
  ·exact h.nodup
 ·intro x d;split at d
  ·rcases List.mem_append.1 d with d | d
   ·exact h.rng x d
   ·rw[List.mem_singleton.1 d];omega
  ·exact h.rng x d
 ·intro q Q;rw[w,B,v,B45];have I:=F q;have J:H4 (b9 f p) q=(b9 f p)[q]?.getD 0:=rfl;rw[<-J,I];by_cases e:p=q
  ·subst e;rw[A6 rfl,A6 ((U5 G).2 (.inr H.symm))];omega
  ·rw[A7 e];have z:=h.cnt q Q;rw[v,B45]at z;have U:((q:Int)∈(E9 g c).take (i+1))↔(q:Int)∈(E9 g c).take i:=by
    rw[U5 G,H];exact⟨fun h=>h.resolve_right (by omega),.inl⟩
   simp only[U];exact z
 ·intro q Q;have I:=F q;have J:H4 (b9 f p) q=(b9 f p)[q]?.getD 0:=rfl;rw[<-J,I];by_cases e:p=q
  ·subst e;rw[A6 rfl];split
   ·rename_i u;simp[u]
   ·rename_i u;exact⟨fun s=>absurd s o,fun e=>absurd e u⟩
  ·rw[A7 e];have z:=h.zero q Q;split
   ·rw[B73,List.mem_singleton];exact⟨fun s=>z.1 (s.resolve_right (by omega)),fun e=>.inl (z.2 e)⟩
   ·exact z
 ·intro j M x d;split at M
  ·rename_i u;simp only[u,if_true]at d ⊢;by_cases C:j<b.length
   ·rw[B98 C]at d;rw[dK (by omega)];exact h.kids j C x d
   ·have N:j=b.length:=by rw[B48,List.length_singleton]at M;omega
    subst N;rw[B95 (Nat.le_refl _)]at d;simp only[B92,List.getElem_cons_zero]at d;have R:x<g.length:=by
     apply Classical.byContradiction;intro X;rw[nY X]at d;cases d
    have hz:uD g (b.take k++[(c:Int)]) p=0:=by omega
    have:=IA hz R d;rw[dK (Nat.le_refl _),B51];rcases List.mem_append.1 this with s | s
    ·exact List.mem_of_mem_take s
    ·rw[List.mem_singleton.1 s,<-K];exact B50 E
  ·rename_i u;simp only[u,if_false]at d ⊢;exact h.kids j M x d
theorem KInv.next{g:Graph}{k:Nat}{m a:List Int}(d:k<a.length){c:Nat}(f:a[k]=(c:Int))(h:KInv g k (E9 g c).length m a):KInv g (k+1) 0 m a where
 len:=h.len
 nodup:=h.nodup
 rng:=h.rng
 cnt:=fun p r=>by
  have o:=h.cnt p r;have i:a.getD k 0=(c:Int):=by rw[B46,B44 d];exact f
  have b:c<g.length:=by have:=h.rng a[k] (B50 d);omega
  rw[i,B45,B51]at o;have q:=HZ (g:=g) (ex:=a.take k) (x:=c) (p:=p) (by rw[<-f];exact d8 h.nodup d) b;have e:a.take (k+1)=a.take k++[(c:Int)]:=by rw[List.take_add_one,B44 d,Option.toList_some,f]
  rw[e,List.take_zero,A7 (by simp)];split at o
  ·rename_i j;rw[A6 j]at q;omega
  ·rename_i j;rw[A7 j]at q;omega
 zero:=h.zero
 kids:=h.kids
def o6:List Commit->Int
 | []=>0
 | c::r=>if G4 c.Files≠0 then G4 c.Files else o6 r
def bB(g:Graph):Bool:=decide (g.length<=300)&&!g.any fun c=>decide (c.Parents.length>32)
def uE(g:Graph):Bool:=g.any fun c=>decide (c.Date<0\/c.Date>2147483647)
def P2(g:Graph):Int:=if bB g=false then 1 else if related g=false then 230 else if cyclic g=true then 231 else if uE g=true then 3 else o6 g
theorem qW:∀{g:List Commit},o6 g=0->∀c∈g,G4 c.Files=0
 | [],_,_,hc=>by cases hc
 | d::r,h,c,hc=>by
  unfold o6 at h;split at h
  ·rename_i a;exact absurd h a
  ·rename_i a;rcases List.mem_cons.1 hc with rfl | hc
   ·simpa using a
   ·exact qW h c hc
structure Valid (g:Graph):Prop where
 len:g.length<=300
 pars:∀c∈g,c.Parents.length<=32
 rel:related g=true
 acyc:∀c,¬Reaches g c c
 tree:∀c∈g,G4 c.Files=0
theorem fT{g:Graph}(h:P2 g=0):Valid g:=by
 unfold P2 at h;split at h
 ·cases h
 ·rename_i a;split at h
  ·cases h
  ·rename_i d;split at h
   ·cases h
   ·rename_i e;split at h
    ·cases h
    ·have a:bB g=true:=by simpa using a
     unfold bB at a;rw[B47,decide_eq_true_eq]at a;have d:related g=true:=by simpa using d
     refine⟨a.1,fun c b=>?_,d,fun c b=>e ((lL d).2 ⟨c,b⟩),fun c b=>qW h c b⟩;apply Classical.byContradiction;intro f;have:g.any (fun c=>decide (c.Parents.length>32))=true:=List.any_eq_true.2 ⟨c,b,by simp;omega⟩;rw[this]at a;cases a.2
def y5(i j:Int):List Span->Int->Int->List Change
 | [],m,n=>if m>i\/n>j then [⟨i,m-i,j,n-j⟩] else []
 | x::r,m,n=>(if x.From>i\/x.To>j then [⟨i,x.From-i,j,x.To-j⟩] else [])++y5 (x.From+1) (x.To+1) r m n
def lM(p:List Span)(m n:Int):List Change:=y5 0 0 p m n
theorem FN(p:List Span)(i j m n:Int):(y5 i j p m n).length<=p.length+1:=by
 induction p generalizing i j with
 | nil=>unfold y5;split<;>simp
 | cons x r a=>unfold y5;have:=a (x.From+1) (x.To+1);split<;>simp<;>omega
def Y1(i j:Int)(n:Nat):List Span:=(List.range n).map fun (t:Nat)=>⟨i+(t:Int),j+(t:Int)⟩
theorem CY(i j:Int)(n:Nat):(Y1 i j n).length=n:=by simp[Y1]
theorem LF(i j:Int)(n:Nat):Y1 i j (n+1)=⟨i,j⟩::Y1 (i+1) (j+1) n:=by
 unfold Y1;rw[List.range_succ_eq_map,B62,B80]
 congr 1
 ·simp
 ·refine List.map_congr_left fun t _=>?_;simp only[Function.comp,Span.mk.injEq];omega
def jV(i j:Int):List Change->Int->List Span
 | [],m=>Y1 i j (m-i).toNat
 | c::r,m=>Y1 i j (c.Old-i).toNat++jV (max i c.Old+c.OldLen) (j+(c.Old-i).toNat+c.NewLen) r m
def A19(l:List Change)(m:Int):List Span:=jV 0 0 l m
def dist:List Int->List Int->Nat
 | [],b=>b.length
 | x::a,[]=>(x::a).length
 | x::a,y::b=>if x=y then dist a b else 1+min (dist a (y::b)) (dist (x::a) b)
theorem fU(a:List Int):dist a []=a.length:=by cases a<;>simp[dist]
theorem pF(a b:List Int):dist a b<=a.length+b.length:=by
 induction a generalizing b with
 | nil=>simp[dist]
 | cons x a c =>
  induction b with
  | nil=>simp[dist]
  | cons y b d =>
   unfold dist;split
   ·have:=c b;simp;omega
   ·have:=c (y::b);have:=d;simp only[B49]at *;omega
def J1(i j:Int):List Int->List Int->List Span
 | [],_=>[]
 | _::_,[]=>[]
 | x::a,y::b=>if x=y then ⟨i,j⟩::J1 (i+1) (j+1) a b else if dist a (y::b)+1=dist (x::a) (y::b) then J1 (i+1) j a (y::b) else J1 i (j+1) (x::a) b
def sB(a b:List Int):List Change:=lM (J1 0 0 a b) a.length b.length
theorem IB(a b:List Int)(i j:Nat)(c:i<a.length)(d:j<b.length) :
  dist (a.drop i) (b.drop j)=if a[i]=b[j] then dist (a.drop (i+1)) (b.drop (j+1)) else 1+min (dist (a.drop (i+1)) (b.drop j)) (dist (a.drop i) (b.drop (j+1))):=by
 rw[B55 c,B55 d]
 conv=>lhs;rw[dist]
theorem dL(a b:List Int)(i j:Nat)(c:i<a.length)(d:j<b.length)(p q:Int) :
  J1 p q (a.drop i) (b.drop j)=if a[i]=b[j] then ⟨p,q⟩::J1 (p+1) (q+1) (a.drop (i+1)) (b.drop (j+1)) else
   if dist (a.drop (i+1)) (b.drop j)+1=dist (a.drop i) (b.drop j) then J1 (p+1) q (a.drop (i+1)) (b.drop j) else J1 p (q+1) (a.drop i) (b.drop (j+1)):=by
 rw[B55 c,B55 d]
 conv=>lhs;rw[J1]
theorem X3(p q:Int)(b:List Int):J1 p q [] b=[]:=by simp[J1]
theorem r5(p q:Int)(a:List Int):J1 p q a []=[]:=by cases a<;>simp[J1]
theorem qX(p q:Int)(a b:List Int):(J1 p q a b).length<=a.length:=by
 induction a generalizing p q b with
 | nil=>simp[J1]
 | cons x a c =>
  induction b generalizing p q with
  | nil=>simp[J1]
  | cons y b d =>
   unfold J1;split
   ·have:=c (p+1) (q+1) b;simp;omega
   ·split
    ·have:=c (p+1) q (y::b);simp;omega
    ·exact d p (q+1)
universe u
theorem pG{α:Type u}(n k:Nat)(f g:Nat->α)(v:α)(i:k<n->g k=v)(h:∀q,q<n->q≠k->g q=f q):((List.range n).map f).set k v=(List.range n).map g:=by
 refine List.ext_getElem (by simp) fun q j d=>?_;have c:q<n:=by simpa using d
 rw[List.getElem_set];by_cases b:k=q
 ·subst b;simp[i c]
 ·rw[A7 b];simp[h q c (Ne.symm b)]
theorem wL{α:Type u}(n k:Nat)(f:Nat->α)(h:k<n):((List.range n).map f)[k]?=some (f k):=by simp[h]
def S8(a b:List Int)(i q:Nat):List Int:=(List.range (b.length+1)).map fun j=>if q<=j then (dist (a.drop i) (b.drop j):Int) else 0
def P3(a b:List Int)(i:Nat):List (List Int):=(List.range (a.length+1)).map fun r=>if i<=r then S8 a b r 0 else []
def pH(a b:List Int):List (List Int):=P3 a b 0
theorem CZ(a b:List Int)(i q:Nat):(S8 a b i q).length=b.length+1:=by simp[S8]
theorem dY(a b:List Int)(i:Nat):(P3 a b i).length=a.length+1:=by simp[P3]
theorem LG(a b:List Int)(i:Nat):List.replicate (b.length+1) 0=S8 a b i (b.length+1):=by
 refine List.ext_getElem (by simp[S8]) fun q c d=>?_;have:¬(b.length+1<=q):=by simp at c;omega
 simp[S8,this]
theorem FO(a b:List Int):List.replicate (a.length+1) []=P3 a b (a.length+1):=by
 refine List.ext_getElem (by simp[P3]) fun q c d=>?_;have:¬(a.length+1<=q):=by simp at c;omega
 simp[P3,this]
theorem QR(a b:List Int)(i j:Nat):(S8 a b i (j+1)).set j (dist (a.drop i) (b.drop j):Int)=S8 a b i j:=by
 unfold S8;refine pG _ _ _ _ _ (fun _=>by simp) fun q d c=>?_;by_cases h:j<=q
 ·rw[A6 h,A6 (by omega)]
 ·rw[A7 h,A7 (by omega)]
theorem dM(a b:List Int)(i q j:Nat)(h:q<=j)(c:j<=b.length):(S8 a b i q)[j]?=some (dist (a.drop i) (b.drop j):Int):=by
 unfold S8;rw[wL _ _ _ (by omega),A6 h]
theorem LH(a b:List Int)(i:Nat):(P3 a b (i+1)).set i (S8 a b i 0)=P3 a b i:=by
 unfold P3;refine pG _ _ _ _ _ (fun _=>by simp) fun q d c=>?_;by_cases h:i<=q
 ·rw[A6 h,A6 (by omega)]
 ·rw[A7 h,A7 (by omega)]
theorem lN(a b:List Int)(i r:Nat)(h:i<=r)(c:r<=a.length):(P3 a b i)[r]?=some (S8 a b r 0):=by
 unfold P3;rw[wL _ _ _ (by omega),A6 h]
theorem lO(i j:Int):Y1 i j 0=[]:=rfl
theorem LI(i j:Int)(n:Nat):Y1 i j (n+1)=Y1 i j n++[⟨i+n,j+n⟩]:=by simp[Y1,B96]
def Asc(m n:Int):Int->Int->List Span->Prop
 | i,j,[]=>i<=m/\j<=n
 | i,j,x::r=>i<=x.From/\j<=x.To/\Asc m n (x.From+1) (x.To+1) r
theorem Asc.le{m n:Int}:∀{p:List Span} {i j:Int},Asc m n i j p->i<=m/\j<=n
 | [],i,j,h=>h
 | x::r,i,j,h=>by have:=Asc.le h.2.2;have:=h.1;have:=h.2.1;omega
theorem Asc.weaken{m n:Int}{p:List Span}{i j i' j':Int}(h:Asc m n i j p)(a:i'<=i)(b:j'<=j):Asc m n i' j' p:=by
 cases p with
 | nil=>exact⟨by have:=h.1;omega,by have:=h.2;omega⟩
 | cons x r=>exact⟨by have:=h.1;omega,by have:=h.2.1;omega,h.2.2⟩
theorem DA(a b:List Int):∀(p q:Int),Asc (p+a.length) (q+b.length) p q (J1 p q a b):=by
 induction a generalizing b with
 | nil=>intro p q;rw[X3];simp only[Asc,List.length_nil];omega
 | cons x a c =>
  induction b with
  | nil=>intro p q;rw[r5];simp only[Asc,List.length_nil];omega
  | cons y b d =>
   intro p q;rw[J1];split
   ·have:=c b (p+1) (q+1);refine⟨Int.le_refl _,Int.le_refl _,?_⟩;simp only[B49]
    rwa[show p+((a.length+1:Nat):Int)=p+1+a.length by omega,show q+((b.length+1:Nat):Int)=q+1+b.length by omega]
   ·split
    ·have:=(c (y::b) (p+1) q).weaken (i':=p) (j':=q) (by omega) (Int.le_refl _)
     rwa[show p+((x::a).length:Int)=p+1+a.length by simp;omega]
    ·have:=(d p (q+1)).weaken (i':=p) (j':=q) (Int.le_refl _) (by omega)
     rwa[show q+((y::b).length:Int)=q+1+b.length by simp;omega]
theorem Asc.made{m n:Int}:∀{p:List Span} {i j:Int},Asc m n i j p->∀c∈y5 i j p m n,i<=c.Old/\j<=c.New/\0<=c.OldLen/\0<=c.NewLen/\c.Old+c.OldLen<=m/\c.New+c.NewLen<=n
 | [],i,j,h,c,a=>by
  unfold y5 at a;split at a
  ·simp only[List.mem_singleton]at a;subst a;have:=h.1;have:=h.2;simp only;omega
  ·cases a
 | x::r,i,j,h,c,a=>by
  unfold y5 at a;obtain⟨d,e,b⟩:=h;have f:=b.le;rcases List.mem_append.1 a with a | a
  ·split at a
   ·simp only[List.mem_singleton]at a;subst a;simp only;omega
   ·cases a
  ·have:=Asc.made b c a;omega
theorem LJ(a b:List Int):∀c∈sB a b,0<=c.Old/\0<=c.New/\0<=c.OldLen/\0<=c.NewLen/\c.Old+c.OldLen<=a.length/\c.New+c.NewLen<=b.length:=by
 have:=DA a b 0 0;rw[Int.zero_add,Int.zero_add]at this;exact this.made
def orBit(a b:Int):Int:=IntKind.u32.wrap ((BitVec.ofInt IntKind.u32.bits a ||| BitVec.ofInt IntKind.u32.bits b).toNat:Int)
def bitAt(m:Int)(c:Nat):Bool:=m / 2 ^ c % 2 == 1
def visB(r:Row)(c:Int):Bool:=if c = -1 then !r.Lost else if c < -1\/32<=c then false else bitAt r.Marks c.toNat == r.Lost
def colOf(b:List Row)(c:Int):List Str:=(b.filter (visB · c)).map (·.Text)
def markOk(n:Nat)(r:Row):Bool:=r.Marks / 2 ^ n == 0&&!(r.Lost&&r.Marks == 0)
theorem VJ{n:Int}(h:0<=n/\n<18446744073709551616):IntKind.u64.wrap n=n:=by simp[IntKind.wrap,IntKind.signed,IntKind.bits];omega
abbrev Loom:=List Int×(Nat->List (List Int))
structure LoomOk (Q:Int->Prop) (B lines n:Nat) (s:Loom):Prop where
 len:s.1.length=lines
 marks:∀m∈s.1,0<=m/\m<4294967296
 gaps:∀k,(s.2 k).length=n/\∀x∈s.2 k,x.length<=B/\∀v∈x,Q v
theorem uF(s:Str):Lib.hasSuffix s [10]=ended s:=by
 unfold Lib.hasSuffix ended;rw[Bool.eq_iff_iff,List.isSuffixOf_iff_suffix,beq_iff_eq];constructor
 ·rintro⟨t,rfl⟩;simp
 ·intro h;obtain⟨a,b⟩:=List.getLast?_eq_some_iff.1 h;exact⟨a,b.symm⟩
def V4(s:Str):Str:=if ended s then s.dropLast else s
theorem FP(s:Str):Lib.trimSuffix s [10]=V4 s:=by
 unfold Lib.trimSuffix V4;rw[uF,List.dropLast_eq_take];rfl
theorem w7(c:UInt8):∀l:Str,(c∉l/\Lib.indexByte l c = -1)\/∃a b,l=a++c::b/\c∉a/\Lib.indexByte l c=a.length
 | []=>.inl ⟨by simp,rfl⟩
 | x::l=>by
  unfold Lib.indexByte;by_cases d:x=c
  ·exact .inr ⟨[],l,by rw[d];rfl,by simp,by simp[d]⟩
  ·rcases w7 c l with ⟨e,f⟩ | ⟨a,b,e,f,h3⟩
   ·exact .inl ⟨by simp[e,Ne.symm d],by simp[d,f]⟩
   ·refine .inr ⟨x::a,b,by rw[e];rfl,by simp[f,Ne.symm d],?_⟩;have g:¬((a.length:Int) = -1):=by omega
    simp[d,h3,g]
theorem iZ(c:UInt8)(l:Str):0<=Lib.indexByte l c↔c∈l:=by
 rcases w7 c l with ⟨d,e⟩ | ⟨a,b,d,e,h3⟩
 ·rw[e];simp[d]
 ·rw[h3,d];simp
def and32(a b:Int):Int:=IntKind.u32.wrap ((BitVec.ofInt IntKind.u32.bits a &&& BitVec.ofInt IntKind.u32.bits b).toNat:Int)
def not32(a:Int):Int:=IntKind.u32.wrap ((BitVec.ofInt IntKind.u32.bits IntKind.u32.max ^^^ BitVec.ofInt IntKind.u32.bits a).toNat:Int)
theorem u32_nat(n:Nat)(h:n<4294967296):IntKind.u32.wrap (n:Int)=n:=by simp[IntKind.wrap,IntKind.signed,IntKind.bits];omega
theorem bv_nat(n:Nat):BitVec.ofInt IntKind.u32.bits (n:Int)=BitVec.ofNat 32 n:=BitVec.ofInt_natCast 32 n
theorem A88(n m:Nat)(d:n<4294967296)(c:m<4294967296):orBit n m=((n ||| m:Nat):Int)/\n ||| m<4294967296:=by
 unfold orBit;rw[bv_nat,bv_nat];have e:(BitVec.ofNat 32 n ||| BitVec.ofNat 32 m).toNat=n ||| m:=by
  rw[BitVec.toNat_or,BitVec.toNat_ofNat,BitVec.toNat_ofNat,Nat.mod_eq_of_lt (by omega),Nat.mod_eq_of_lt (by omega)]
 have b:n ||| m<2 ^ 32:=Nat.or_lt_two_pow (by omega) (by omega);refine⟨?_,by omega⟩;show IntKind.u32.wrap ((BitVec.ofNat 32 n ||| BitVec.ofNat 32 m).toNat:Int)=_;rw[e,u32_nat _ (by omega)]
def inOf(r:Row):Int:=if r.Lost then r.Marks else not32 r.Marks
def addOk(b:Bool)(a:Int)(r:Row):Bool:=decide (and32 a (inOf r)=0)&&(r.Lost||!b)
structure EndsAt (res:Bool) (par:Int) (bad:Int->Bool):Prop where
 res:res=bad (-1)
 par:∃p:Nat,p<4294967296/\par=p/\∀c:Nat,c<32->p.testBit c=bad c
def plainB(c:UInt8):Bool:=decide (33<=c.toNat/\c.toNat<=126/\c.toNat≠34/\c.toNat≠92)
def digs8:Str:=[48,49,50,51,52,53,54,55]
def octOf(c:UInt8):Str:=(digs8.drop (c.toNat / 64)).take 1++(digs8.drop (c.toNat / 8 % 8)).take 1++(digs8.drop (c.toNat % 8)).take 1
def escOf(c:UInt8):Str:=if c.toNat=34\/c.toNat=92 then [92,c] else if c.toNat=10 then [92,110] else if c.toNat=9 then [92,116] else if c.toNat<32\/126<c.toNat then 92::octOf c else [c]
def XU(s:Str):Str:=if s≠[]/\s.all plainB=true then s else 34::((s.map escOf).flatten++[34])
def XV(n:Int):Str:=if n<0\/2147483647<n then [] else Lib.itoa n
def LK(a n:Int):Str:=if a<0\/n<0\/2147483647<a\/2147483647-a<n then [] else if n=0 then XV a++[44,48] else if n=1 then XV (a+1) else XV (a+1)++[44]++XV n
def P4(a:Str):Str->List Str
 | []=>[a]
 | c::r=>if c=10 then (a++[c])::P4 [] r else P4 (a++[c]) r
def U1(b:Str):List Str:=P4 [] b
theorem FQ(a b:Str)(h:(10:UInt8)∉a):P4 b a=[b++a]:=by
 induction a generalizing b with
 | nil=>simp[P4]
 | cons c r d =>
  simp only[B66,not_or]at h;rw[P4,A7 (fun e=>h.1 e.symm),d _ h.2];simp
theorem LL(a b d:Str)(h:(10:UInt8)∉a):P4 d (a++10::b)=(d++a++[10])::P4 [] b:=by
 induction a generalizing d with
 | nil=>simp[P4]
 | cons c r f =>
  simp only[B66,not_or]at h;rw[B71,P4,A7 (fun e=>h.1 e.symm),f _ h.2];simp
theorem o7(s a:Str):(P4 a s).length=s.count 10+1:=by
 induction s generalizing a with
 | nil=>rfl
 | cons c r d =>
  by_cases b:c=10
  ·subst b;rw[P4,A6 rfl,B49,d,List.count_cons_self]
  ·rw[P4,A7 b,d,List.count_cons_of_ne b]
theorem QS(s b:Str):I7 b s=if (P4 b s).getLastD []=[] then (P4 b s).dropLast else P4 b s:=by
 induction s generalizing b with
 | nil=>by_cases h:b=[]<;>simp[I7,P4,h]
 | cons c r j =>
  rw[I7,P4];by_cases f:c=10
  ·rw[A6 f,A6 f,j];have l:P4 [] r≠[]:=fun e=>by have:=o7 r [];rw[e]at this;simp at this
   obtain⟨x,y,i⟩:=List.exists_cons_of_ne_nil l;rw[i];have k:((b++[c])::x::y).getLastD []=(x::y).getLastD []:=by cases y<;>simp[List.getLastD]
   rw[k];split
   ·rfl
   ·rfl
  ·rw[A7 f,A7 f,j]
theorem DB(s a:Str):(I7 a s).length=s.count 10+if s=[] then (if a=[] then 0 else 1) else if ended s=true then 0 else 1:=by
 induction s generalizing a with
 | nil=>by_cases h:a=[]<;>simp[I7,h]
 | cons c r i =>
  have j:ended (c::r)=if r=[] then c == 10 else ended r:=by
   cases r with
   | nil=>simp[ended]
   | cons d t=>simp[ended,List.getLast?_cons_cons]
  rw[I7,A7 (List.cons_ne_nil _ _),j];by_cases b:c=10
  ·subst b;rw[A6 rfl,B49,i,List.count_cons_self];by_cases f:r=[]<;>simp[f];omega
  ·rw[A7 b,i,List.count_cons_of_ne b];by_cases f:r=[]<;>simp[f,b]
theorem qY(s:Str):(E2 s).length=s.count 10+if s≠[]/\ended s=false then 1 else 0:=by
 unfold E2;rw[DB];by_cases a:s=[]<;>simp[a];cases ended s<;>simp
theorem VK{P:List Str}{i:Nat}{r a b:Str}(h:P.drop i=U1 r)(c:r=a++10::b)(ha:(10:UInt8)∉a):P[i]?=some (a++[10])/\P.drop (i+1)=U1 b:=by
 have e:U1 r=(a++[10])::U1 b:=by rw[c];unfold U1;rw[LL _ _ _ ha];rfl
 rw[e]at h;refine⟨by rw[<-List.head?_drop,h];rfl,?_⟩;rw[<-List.tail_drop,h];rfl
theorem IC{α:Type}(P:List α)(z x:α)(i:Nat)(h:P[i]?=some x):(P.take i++List.replicate (P.length-i) z).set i x=P.take (i+1)++List.replicate (P.length-(i+1)) z:=by
 obtain⟨a,c⟩:=List.getElem?_eq_some_iff.1 h;have b:(P.take i).length=i:=by rw[B54];omega
 rw[List.set_append_right _ _ (by omega),b,B92,show P.length-i=(P.length-(i+1))+1 by omega,List.replicate_succ,List.set_cons_zero,B76 a,c,B57];rfl
def R1(b:Str):List Str×Int:=if b.length>1048576\/(E2 b).length>4096 then ([],1) else (E2 b,0)
def O7(n:Int):Prop:=0<=n/\n<=4096
instance (n:Int):Decidable (O7 n):=by unfold O7;exact inferInstance
def badC(k:Nat)(i j:Int)(c:Change):Prop:=((((((¬O7 c.Old\/¬O7 c.OldLen)\/¬O7 c.New)\/¬O7 c.NewLen)\/c.OldLen+c.NewLen=0)\/c.Old-i≠c.New-j)\/c.Old<i)\/(0<(k:Int)/\c.Old=i)
instance (k:Nat) (i j:Int) (c:Change):Decidable (badC k i j c):=by unfold badC;exact inferInstance
def S4(k:Nat)(i j:Int):List Change->Int->Int->Bool
 | [],m,n=>decide (¬(m-i≠n-j\/m<i))
 | c::r,m,n=>decide (¬badC k i j c)&&S4 (k+1) (c.Old+c.OldLen) (c.New+c.NewLen) r m n
def check8(l:List Change)(m n:Int):Int:=if ¬O7 m\/¬O7 n then 80 else if S4 0 0 0 l m n=true then 0 else 80
def ScOk(i j:Int):List Change->Int->Int->Prop
 | [],m,n=>i<=m/\j<=n
 | c::r,m,n=>O7 c.Old/\O7 c.OldLen/\O7 c.New/\O7 c.NewLen/\i<=c.Old/\j<=c.New/\ScOk (c.Old+c.OldLen) (c.New+c.NewLen) r m n
theorem oC:∀(l:List Change) (k:Nat) (i j m n:Int),S4 k i j l m n=true->ScOk i j l m n
 | [],k,i,j,m,n,h=>by simp only[S4,decide_eq_true_eq]at h;simp only[ScOk];omega
 | c::r,k,i,j,m,n,h=>by
  simp only[S4,B47,decide_eq_true_eq]at h;obtain⟨a,e⟩:=h;unfold badC at a;refine⟨?_,?_,?_,?_,?_,?_,oC r _ _ _ m n e⟩
  all_goals (by_cases b:O7 c.Old<;>by_cases d:O7 c.OldLen<;>by_cases a3:O7 c.New<;>by_cases a4:O7 c.NewLen<;>simp[b,d,a3,a4]at a ⊢<;>omega)
def K3(l:List Change)(k:Nat):Change:=l.getD k ⟨0,0,0,0⟩
theorem ScOk.end_le:∀{l:List Change} {i j m n:Int},ScOk i j l m n->i<=m/\j<=n
 | [],_,_,_,_,h=>h
 | c::r,i,j,m,n,⟨h1,h2,h3,h4,h5,h6,h7⟩=>by have:=h7.end_le;unfold O7 at *;omega
theorem ScOk.get:∀{l:List Change} {i j m n:Int} (k:Nat),ScOk i j l m n->k<l.length->O7 (K3 l k).Old/\O7 (K3 l k).OldLen/\O7 (K3 l k).New/\O7 (K3 l k).NewLen/\(K3 l k).Old+(K3 l k).OldLen<=m/\(K3 l k).New+(K3 l k).NewLen<=n
 | c::r,i,j,m,n,0,⟨h1,h2,h3,h4,h5,h6,h7⟩,_=>by have:=h7.end_le;exact⟨h1,h2,h3,h4,this.1,this.2⟩
 | c::r,i,j,m,n,k+1,⟨h1,h2,h3,h4,h5,h6,h7⟩,hk=>by
  have:=h7.get k (by simpa using hk);simpa[K3] using this
theorem ScOk.next:∀{l:List Change} {i j m n:Int} (k:Nat),ScOk i j l m n->k+1<l.length->(K3 l k).Old+(K3 l k).OldLen<=(K3 l (k+1)).Old
 | [c],_,_,_,_,_,_,hk=>by simp at hk
 | c::c2::r,i,j,m,n,0,⟨_,_,_,_,_,_,h7⟩,_=>by simpa[K3] using h7.2.2.2.2.1
 | c::c2::r,i,j,m,n,k+1,⟨_,_,_,_,_,_,h7⟩,hk=>by
  have:=h7.next k (by simpa using hk);simpa[K3] using this
theorem ScOk.mono{l:List Change}{m n:Int}(h:ScOk 0 0 l m n):∀(a b:Nat),a<=b->b<l.length->(K3 l a).Old<=(K3 l b).Old/\(K3 l a).Old+(K3 l a).OldLen<=(K3 l b).Old+(K3 l b).OldLen
 | a,0,h1,h2=>by rw[show a=0 by omega];omega
 | a,b+1,h1,h2=>by
  by_cases c:a=b+1
  ·subst c;omega
  ·have f:=h.mono a b (by omega) (by omega);have g:=h.next b h2;have i:=h.get b (by omega);have j:=h.get (b+1) h2;unfold O7 at *;omega
def LM(a b:Int):Int:=if b<a then b else a
def opens(l:List Change)(a:Int)(k:Nat):Prop:=k=0\/2*a<(K3 l k).Old-(K3 l (k-1)).Old-(K3 l (k-1)).OldLen
instance (l:List Change) (ctx:Int) (k:Nat):Decidable (opens l ctx k):=by unfold opens;exact inferInstance
def XW:Hunk:=⟨0,0,⟨0,0⟩,⟨0,0⟩⟩
def jW(l:List Change)(a:Int)(k:Nat):Hunk:=⟨k,0,⟨(K3 l k).Old-LM a (K3 l k).Old,0⟩,⟨(K3 l k).New-LM a (K3 l k).Old,0⟩⟩
def uG(l:List Change)(m b:Int)(k:Nat)(h:Hunk):Hunk :=
 let c:=K3 l k;let a:=LM b (m-(c.Old+c.OldLen))
 ⟨h.First,k+1,⟨h.Old.From,c.Old+c.OldLen+a⟩,⟨h.New.From,c.New+c.NewLen+a⟩⟩
def wM(l:List Change)(a:Int)(k:Nat)(b:List Hunk):List Hunk:=if opens l a k then b++[jW l a k] else b
def l9(l:List Change)(m b:Int):Nat->List Hunk
 | 0=>[]
 | k+1=>let a:=wM l b k (l9 l m b k);a.set (a.length-1) (uG l m b k (a.getD (a.length-1) XW))
theorem yD(l:List Change)(m a:Int):∀k,(l9 l m a k).length<=k/\(0<k->0<(l9 l m a k).length)
 | 0=>by simp[l9]
 | k+1=>by
  have h:=yD l m a k;simp only[l9,B65,wM];split
  ·simp only[B48,B49,List.length_nil];omega
  ·rename_i b;have:k≠0:=fun e=>b (.inl e);omega
def nameOk(s:Str):Bool:=decide (1<=s.length/\s.length<=200)
def H1(b:List PatchLine)(k:UInt8):List Str:=(b.filter (fun x=>decide (x.Kind≠k))).map (·.Text)
def badLn(x:PatchLine):Prop:=((x.Kind≠32/\x.Kind≠45)/\x.Kind≠43)\/y3 x.Text=false
instance (x:PatchLine):Decidable (badLn x):=by unfold badLn;exact inferInstance
def sC(x:PatchLine):Bool:=decide (¬badLn x)
def jA(a:List PatchLine):Bool:=a.any (fun x=>decide (x.Kind≠32))
def uH(some:Bool)(i j:Int)(h:PatchHunk):Prop:=((((some=false\/h.Old<i)\/h.New<j)\/4096<h.Old)\/4096<h.New)\/h.Old-i≠h.New-j
instance (s:Bool) (i j:Int) (h:PatchHunk):Decidable (uH s i j h):=by unfold uH;exact inferInstance
def jX(h:PatchHunk):Int:=(H1 h.Lines 43).length
def jY(h:PatchHunk):Int:=(H1 h.Lines 45).length
def wN(i j:Int):List PatchHunk->Bool
 | []=>true
 | h::r=>h.Lines.all sC&&(decide (¬uH (jA h.Lines) i j h)&&(decide (¬(4096<h.Old+jX h\/4096<h.New+jY h))&&wN (h.Old+jX h) (h.New+jY h) r))
def O4(b:List PatchHunk)(k:UInt8):List Str:=(b.map (fun h=>H1 h.Lines k)).flatten
def dN:List Str->Bool
 | []=>true
 | x::r=>(r.isEmpty||ended x)&&dN r
def VL(a:List PatchHunk)(k:UInt8):Bool:=dN (O4 a k)
def wO(a:List PatchHunk):Bool:=wN 0 0 a&&(VL a 43&&VL a 45)
def markS:Str:=[10,92,32,78,111,32,110,101,119,108,105,110,101,32,97,116,32,101,110,100,32,111,102,32,102,105,108,101,10]
def linePs(x:PatchLine):List Str:=if ended x.Text then [[x.Kind]++x.Text] else [[x.Kind]++x.Text,markS]
def headW(h:PatchHunk):Str:=[64,64,32,45]++LK h.Old (jX h)++[32,43]++LK h.New (jY h)++[32,64,64,10]
def hunkPs(h:PatchHunk):List Str:=headW h::(h.Lines.map linePs).flatten
def namePs(p:Patch):List Str:=[[45,45,45,32]++XU p.OldName++[10],[43,43,43,32]++XU p.NewName++[10]]
def writePs(p:Patch):List Str:=namePs p++(p.Hunks.map hunkPs).flatten
def XX(p:Patch):Str:=(writePs p).flatten
def uI(p:Patch):Int:=if nameOk p.OldName=false\/nameOk p.NewName=false then 120 else if wO p.Hunks=false then 121 else if 16777216<(XX p).length then 1 else 0
def szL(x:PatchLine):Nat:=x.Text.length+64
def szH(h:PatchHunk):Nat:=64+(h.Lines.map szL).sum
def szP(a:List PatchHunk):Nat:=(a.map szH).sum
structure PFit (p:Patch):Prop where
 old:p.OldName.length<=4194304
 new:p.NewName.length<=4194304
 hunks:szP p.Hunks<=268435456
theorem szL_len(a:List PatchLine):64*a.length<=(a.map szL).sum:=by
 induction a with
 | nil=>simp
 | cons x r b=>simp only[B62,B93,B49,szL];omega
def iE(k:UInt8)(a:List Str):List PatchLine:=a.map fun t=>⟨k,t⟩
def sub(x:List Str)(a b:Int):List Str:=(x.drop a.toNat).take (b.toNat-a.toNat)
def mN(c:Change):Int:=c.Old+c.OldLen
def iF(l:List Change)(b:Int)(a t:Nat):Int:=if t=0 then b else mN (K3 l (a+t-1))
theorem VM(l:List Change)(b:Int)(a t:Nat):iF l b a (t+1)=mN (K3 l (a+t)):=by
 unfold iF;rw[A7 (by omega)];congr 2
def dZ(l:List Change)(x y:List Str)(b:Int)(a:Nat):Nat->List PatchLine
 | 0=>[]
 | t+1=>dZ l x y b a t++iE 32 (sub x (iF l b a t) (K3 l (a+t)).Old)++iE 45 (sub x (K3 l (a+t)).Old (mN (K3 l (a+t))))++iE 43 (sub y (K3 l (a+t)).New ((K3 l (a+t)).New+(K3 l (a+t)).NewLen))
def m3(l:List Change)(x y:List Str)(h:Hunk):PatchHunk :=
 ⟨h.Old.From,h.New.From,dZ l x y h.Old.From h.First.toNat (h.Last.toNat-h.First.toNat)++iE 32 (sub x (iF l h.Old.From h.First.toNat (h.Last.toNat-h.First.toNat)) h.Old.To)⟩
def QT(i j:Int)(h:PatchHunk):Prop:=((((h.Old<0\/h.New<0)\/4096<h.Old)\/4096<h.New)\/h.Old<i)\/h.Old-i≠h.New-j
instance (i j:Int) (h:PatchHunk):Decidable (QT i j h):=by unfold QT;exact inferInstance
theorem uJ(b s:Str)(h:s∈E2 b):s.length<=b.length:=by
 have i:(E2 b).flatten=b:=by
  have key:∀(s d:Str),(I7 d s).flatten=d++s:=by
   intro s;induction s with
   | nil=>intro d;unfold I7;split<;>simp[*]
   | cons c r g=>intro d;unfold I7;split<;>simp[g]
  exact key b []
 have j:∀(l:List Str),s∈l->s.length<=l.flatten.length:=by
  intro l;induction l with
  | nil=>intro h;cases h
  | cons x r g =>
   intro h;rcases List.mem_cons.1 h with rfl | h
   ·simp
   ·have:=g h;simp only[B82,B48];omega
 have:=j _ h;rw[i]at this;exact this
theorem zN{x:List Str}{a b:Int}{s:Str}(h:s∈sub x a b):s∈x:=by
 unfold sub at h;exact List.mem_of_mem_drop (List.mem_of_mem_take h)
def LN(c:Change):Int:=c.New+c.NewLen
def eY(i:Int)(l:List Change)(k:Nat):Int:=if k=0 then i else mN (K3 l (k-1))
def mO(j:Int)(l:List Change)(k:Nat):Int:=if k=0 then j else LN (K3 l (k-1))
theorem dO(i:Int)(c:Change)(r:List Change)(k:Nat):eY i (c::r) (k+1)=eY (mN c) r k:=by
 cases k<;>rfl
theorem dP(j:Int)(c:Change)(r:List Change)(k:Nat):mO j (c::r) (k+1)=mO (LN c) r k:=by
 cases k<;>rfl
theorem oD(i:Int)(l:List Change)(k:Nat):eY i l (k+1)=mN (K3 l k):=rfl
theorem oE(j:Int)(l:List Change)(k:Nat):mO j l (k+1)=LN (K3 l k):=rfl
theorem uK(c:Change)(r:List Change)(k:Nat):K3 (c::r) (k+1)=K3 r k:=rfl
def wP(x y:List Str)(i j:Int):List Change->Prop
 | []=>sub x i x.length=sub y j y.length
 | c::r=>sub x i c.Old=sub y j c.New/\wP x y (mN c) (LN c) r
theorem eC(m n:Int):∀(l:List Change) (b:Nat) (i j:Int),S4 b i j l m n=true->∀k,k<l.length ->
  O7 (K3 l k).Old/\O7 (K3 l k).OldLen/\O7 (K3 l k).New/\O7 (K3 l k).NewLen/\(K3 l k).OldLen+(K3 l k).NewLen≠0/\(K3 l k).Old-eY i l k=(K3 l k).New-mO j l k/\eY i l k<=(K3 l k).Old/\(0<b+k->eY i l k<(K3 l k).Old)
 | [],_,_,_,_,k,hk=>by simp at hk
 | c :: r,b,i,j,h,k,hk=>by
  simp only[S4,B47,decide_eq_true_eq]at h;obtain⟨a,C⟩:=h;cases k with
  | zero =>
   unfold badC at a;show O7 c.Old/\O7 c.OldLen/\O7 c.New/\O7 c.NewLen/\c.OldLen+c.NewLen≠0/\c.Old-i=c.New-j/\i<=c.Old/\(0<b+0->i<c.Old)
   have f:O7 c.Old:=by by_cases q:O7 c.Old;exact q;exact absurd (.inl (.inl (.inl (.inl (.inl (.inl (.inl q))))))) a
   have g:O7 c.OldLen:=by by_cases q:O7 c.OldLen;exact q;exact absurd (.inl (.inl (.inl (.inl (.inl (.inl (.inr q))))))) a
   have o:O7 c.New:=by by_cases q:O7 c.New;exact q;exact absurd (.inl (.inl (.inl (.inl (.inl (.inr q)))))) a
   have p:O7 c.NewLen:=by by_cases q:O7 c.NewLen;exact q;exact absurd (.inl (.inl (.inl (.inl (.inr q))))) a
   refine⟨f,g,o,p,fun q=>a (.inl (.inl (.inl (.inr q)))),?_,?_,fun B=>?_⟩
   ·by_cases q:c.Old-i=c.New-j
    ·exact q
    ·exact absurd (.inl (.inl (.inr q))) a
   ·by_cases q:c.Old<i
    ·exact absurd (.inl (.inr q)) a
    ·omega
   ·by_cases q:c.Old<i
    ·exact absurd (.inl (.inr q)) a
    ·by_cases D:c.Old=i
     ·exact absurd (.inr ⟨by omega,D⟩) a
     ·omega
  | succ k =>
   have:=eC m n r (b+1) _ _ C k (by simpa using hk);rw[uK,dO,dP];obtain⟨s,t,u,v,x,y,z,A⟩:=this;exact⟨s,t,u,v,x,y,z,fun B=>A (by omega)⟩
theorem LO(m n:Int):∀(l:List Change) (a:Nat) (i j:Int),S4 a i j l m n=true->m-eY i l l.length=n-mO j l l.length/\eY i l l.length<=m
 | [],_,i,j,h=>by
  simp only[S4,decide_eq_true_eq]at h;show m-i=n-j/\i<=m;omega
 | c::r,a,i,j,h=>by
  simp only[S4,B47,decide_eq_true_eq]at h;rw[B49,dO,dP];exact LO m n r _ _ _ h.2
theorem DC(x y:List Str):∀(l:List Change) (i j:Int),wP x y i j l->∀k,k<l.length->sub x (eY i l k) (K3 l k).Old=sub y (mO j l k) (K3 l k).New
 | [],_,_,_,k,hk=>by simp at hk
 | c::r,i,j,h,k,hk=>by
  cases k with
  | zero=>exact h.1
  | succ k=>rw[dO,dP,uK];exact DC x y r _ _ h.2 k (by simpa using hk)
theorem LP(x y:List Str):∀(l:List Change) (i j:Int),wP x y i j l->sub x (eY i l l.length) x.length=sub y (mO j l l.length) y.length
 | [],_,_,h=>h
 | c::r,i,j,h=>by rw[B49,dO,dP];exact LP x y r _ _ h.2
def ID(l:List Change)(m c:Int)(a b:Nat):Hunk:=uG l m c (b-1) (jW l c a)
def GrOk(l:List Change)(m c:Int):Nat->List Hunk->Nat->Prop
 | a,[],k=>a=k
 | a,h::r,k=>∃b,a<b/\opens l c a/\h=ID l m c a b/\GrOk l m c b r k
theorem GrOk.le{l:List Change}{m c:Int}:∀{d:List Hunk} {a k:Nat},GrOk l m c a d k->a<=k
 | [],a,k,h=>Nat.le_of_eq h
 | _::_,a,k,⟨b,h1,_,_,h2⟩=>by have:=GrOk.le h2;omega
theorem GrOk.snoc{l:List Change}{m c:Int}{k:Nat}(d:opens l c k):∀{e:List Hunk} {a:Nat},GrOk l m c a e k->GrOk l m c a (e++[ID l m c k (k+1)]) (k+1)
 | [],a,h=>by
  obtain rfl:a=k:=h;exact⟨a+1,by omega,d,rfl,rfl⟩
 | _::_,a,⟨b,h1,h2,h3,h4⟩=>⟨b,h1,h2,h3,GrOk.snoc d h4⟩
theorem GrOk.last{l:List Change}{m c:Int}{k:Nat}:∀{d:List Hunk} {a:Nat},GrOk l m c a d k->d≠[]->GrOk l m c a (d.set (d.length-1) (uG l m c k (d.getD (d.length-1) XW))) (k+1)
 | [],_,_,h0=>absurd rfl h0
 | [h],a,⟨b,h1,h2,h3,h4⟩,_=>by
  obtain rfl:b=k:=h4;subst h3;exact⟨b+1,by omega,h2,rfl,rfl⟩
 | h::h'::r,a,⟨b,h1,h2,h3,h4⟩,_=>by
  have e:=GrOk.last h4 (by simp);refine⟨b,h1,h2,h3,?_⟩;simpa using e
theorem lP(l:List Change)(m a:Int):∀k,GrOk l m a 0 (l9 l m a k) k
 | 0=>rfl
 | k+1=>by
  have d:=lP l m a k;have c:=(yD l m a k).2;simp only[l9,wM];by_cases b:opens l a k
  ·rw[A6 b];have e:(l9 l m a k++[jW l a k]).set ((l9 l m a k++[jW l a k]).length-1) (uG l m a k ((l9 l m a k++[jW l a k]).getD ((l9 l m a k++[jW l a k]).length-1) XW))=l9 l m a k++[ID l m a k (k+1)]:=by
    simp[ID]
   rw[e];exact d.snoc b
  ·rw[A7 b];refine d.last ?_;have:k≠0:=fun e=>b (.inl e);have:=c (by omega);intro e;rw[e]at this;simp at this
theorem lQ(x:List Str){a b c:Int}(f:0<=a)(g:a<=b)(h:b<=c):sub x a b++sub x b c=sub x a c:=by
 unfold sub;obtain⟨u,rfl⟩:∃u:Nat,(u:Int)=a:=⟨a.toNat,by omega⟩
 obtain⟨v,rfl⟩:∃v:Nat,(v:Int)=b:=⟨b.toNat,by omega⟩
 obtain⟨w,rfl⟩:∃w:Nat,(w:Int)=c:=⟨c.toNat,by omega⟩
 simp only[B45];have e:x.drop v=(x.drop u).drop (v-u):=by rw[List.drop_drop];congr 1;omega
 rw[e,show w-u=(v-u)+(w-v) by omega,List.take_add]
theorem XY(x:List Str)(a:Int):sub x a a=[]:=by simp[sub]
theorem lR(x:List Str){a b:Int}(c:0<=a)(d:a<=b)(f:b<=x.length):((sub x a b).length:Int)=b-a:=by
 unfold sub;rw[B54,B53];omega
theorem oF{x y:List Str}{p q f c e:Int}(h:sub x p q=sub y f c)(i:0<=p)(g:0<=f)(l:0<=e)(j:e<=q-p)(k:q-p=c-f):sub x (q-e) q=sub y (c-e) c:=by
 have key:∀(z:List Str) (a b:Int),0<=a->e<=b-a->sub z (b-e) b=(sub z a b).drop (b-a-e).toNat:=by
  intro z a b ha hb;unfold sub;rw[List.drop_take,List.drop_drop]
  congr 1
  ·omega
  ·congr 1;omega
 rw[key x p q i j,key y f c g (by omega),h,k]
theorem DD{x y:List Str}{p q c f e:Int}(h:sub x p q=sub y c f)(g:0<=p)(d:0<=c)(l:0<=e)(i:e<=q-p)(j:q-p=f-c):sub x p (p+e)=sub y c (c+e):=by
 have key:∀(z:List Str) (a b:Int),0<=a->e<=b-a->sub z a (a+e)=(sub z a b).take e.toNat:=by
  intro z a b ha hb;unfold sub;rw[List.take_take]
  congr 1
  omega
 rw[key x p q g i,key y c f d (by omega),h]
theorem lS(p q:List PatchLine)(k:UInt8):H1 (p++q) k=H1 p k++H1 q k:=by simp[H1]
theorem lT(k a:UInt8)(b:List Str):H1 (iE k b) a=if k=a then [] else b:=by
 unfold H1 iE;by_cases h:k=a
 ·rw[A6 h];subst h;simp[List.filter_eq_nil_iff]
 ·rw[A7 h];rw[List.filter_eq_self.2 (by simp[h])];simp[Function.comp_def]
structure ScFit (x y:List Str) (l:List Change):Prop where
 lx:(x.length:Int)<=4096
 ly:(y.length:Int)<=4096
 sc:S4 0 0 0 l x.length y.length=true
 eq:wP x y 0 0 l
variable {x y:List Str}{l:List Change}
theorem ScFit.ok(h:ScFit x y l):ScOk 0 0 l x.length y.length:=oC _ _ _ _ _ _ h.sc
theorem ScFit.check(h:ScFit x y l):check8 l x.length y.length=0:=by
 have a:=h.lx;have b:=h.ly;unfold check8;rw[A7 (by unfold O7;omega),A6 h.sc]
theorem ScFit.nn(h:ScFit x y l)(k:Nat)(n:k<=l.length):0<=eY 0 l k/\0<=mO 0 l k/\eY 0 l k<=x.length/\mO 0 l k<=y.length:=by
 cases k with
 | zero=>exact⟨Int.le_refl _,Int.le_refl _,Int.natCast_nonneg _,Int.natCast_nonneg _⟩
 | succ k =>
  obtain⟨⟨a,b⟩,⟨c,d⟩,⟨e,f⟩,⟨g,i⟩,j,m⟩:=h.ok.get k (by omega);rw[oD,oE];unfold mN LN;omega
def eA(l:List Change)(b:Int)(a:Nat):Int:=LM b (K3 l a).Old
def eB(l:List Change)(m a:Int)(b:Nat):Int:=LM a (m-eY 0 l b)
theorem XZ{a b:Int}(h:0<=a)(c:0<=b):0<=LM a b/\LM a b<=a/\LM a b<=b:=by unfold LM;split<;>omega
theorem pI{b:Int}{a:Nat}(c:opens l b a)(ha:a≠0):2*b<(K3 l a).Old-eY 0 l a:=by
 rcases c with h | h
 ·exact absurd h ha
 ·unfold eY;rw[A7 ha];unfold mN;omega
theorem ScFit.before(h:ScFit x y l){b:Int}(f:0<=b){a:Nat}(ha:a<l.length)(g:opens l b a) :
  0<=eA l b a/\eA l b a<=b/\eA l b a<=(K3 l a).Old-eY 0 l a:=by
 obtain⟨⟨e,i⟩,_⟩:=h.ok.get a ha;have j:=XZ f e;unfold eA;by_cases c:a=0
 ·subst c;show _/\_/\_<=(K3 l 0).Old-0;omega
 ·have:=pI g c;omega
theorem ScFit.after(h:ScFit x y l){a:Int}(k:0<=a){b:Nat}(hb:b<=l.length)(m:b<l.length->opens l a b)(f:b≠0) :
  0<=eB l x.length a b/\eB l x.length a b<=a/\eY 0 l b+eB l x.length a b<=x.length/\mO 0 l b+eB l x.length a b<=y.length /\
   sub x (eY 0 l b) (eY 0 l b+eB l x.length a b)=sub y (mO 0 l b) (mO 0 l b+eB l x.length a b):=by
 obtain⟨g,i,D,E⟩:=h.nn b hb;have d:=XZ k (show 0<=(x.length:Int)-eY 0 l b by omega);unfold eB;rcases Nat.lt_or_ge b l.length with c | hge
 ·obtain⟨g1,j,v,w,z,A,B,C⟩:=eC _ _ _ _ _ _ h.sc b c;obtain⟨⟨n,o⟩,⟨p,q⟩,⟨r,s⟩,⟨t,u⟩,k5,k6⟩:=h.ok.get b c;have F:=pI (m c) f;refine⟨d.1,d.2.1,by omega,by omega,DD (DC x y l 0 0 h.eq b c) g i d.1 (by omega) (by omega)⟩
 ·have e:b=l.length:=by omega
  subst e;obtain⟨g1,j⟩:=LO _ _ _ _ _ _ h.sc;refine⟨d.1,d.2.1,by omega,by omega,DD (LP x y l 0 0 h.eq) g i d.1 (by omega) (by omega)⟩
def LQ(l:List Change)(b:Int)(a t:Nat):Int:=if t=0 then b else LN (K3 l (a+t-1))
theorem DE(c:Int)(a t:Nat)(b:t≠0):iF l c a t=eY 0 l (a+t):=by
 unfold iF eY;rw[A7 b,A7 (by omega)]
theorem YA(c:Int)(a t:Nat)(b:t≠0):LQ l c a t=mO 0 l (a+t):=by
 unfold LQ mO;rw[A7 b,A7 (by omega)]
theorem ScFit.made(h:ScFit x y l){b:Int}(H:0<=b){a:Nat}(I:opens l b a):∀t,a+t<=l.length->(t=0->a<l.length) ->
  H1 (dZ l x y ((K3 l a).Old-eA l b a) a t) 43=sub x ((K3 l a).Old-eA l b a) (iF l ((K3 l a).Old-eA l b a) a t) /\
  H1 (dZ l x y ((K3 l a).Old-eA l b a) a t) 45=sub y ((K3 l a).New-eA l b a) (LQ l ((K3 l a).New-eA l b a) a t)
 | 0,_,_=>by
  unfold iF LQ;rw[A6 rfl,A6 rfl,XY,XY];exact⟨rfl,rfl⟩
 | t + 1,hl,_=>by
  have j:a+t<l.length:=by omega
  have f:a<l.length:=by omega
  obtain⟨B,C⟩:=ScFit.made h H I t (by omega) (fun _=>f);obtain⟨q1,q2,q3⟩:=h.before H f I;obtain⟨p1,p2,p3,p4⟩:=h.nn (a+t) (by omega);obtain⟨T,U,r3,r4⟩:=h.nn a (by omega);obtain⟨g1,g2,g3,g4,g5,g6,g7,g8⟩:=eC _ _ _ _ _ _ h.sc (a+t) j;obtain⟨k1,⟨k2,Q⟩,k3,⟨k4,R⟩,k5,k6,k7,k8⟩:=eC _ _ _ _ _ _ h.sc a f;obtain⟨⟨V,W⟩,⟨X,Y⟩,⟨Z,c2⟩,⟨d1,d2⟩,w5,w6⟩:=h.ok.get (a+t) j
  have c:sub x (iF l ((K3 l a).Old-eA l b a) a t) (K3 l (a+t)).Old=sub y (LQ l ((K3 l a).New-eA l b a) a t) (K3 l (a+t)).New /\
    (K3 l a).Old-eA l b a<=iF l ((K3 l a).Old-eA l b a) a t/\iF l ((K3 l a).Old-eA l b a) a t<=(K3 l (a+t)).Old /\
    (K3 l a).New-eA l b a<=LQ l ((K3 l a).New-eA l b a) a t/\LQ l ((K3 l a).New-eA l b a) a t<=(K3 l (a+t)).New:=by
   have c:=DC x y l 0 0 h.eq (a+t) j;by_cases k:t=0
   ·subst k;unfold iF LQ;rw[A6 rfl,A6 rfl];rw[show a+0=a from rfl]at *;exact⟨oF c T U q1 (by omega) (by omega),by omega,by omega,by omega,by omega⟩
   ·rw[DE _ _ _ k,YA _ _ _ k];have m1:=h.ok.mono a (a+t-1) (by omega) (by omega);have m2:eY 0 l (a+t)=(K3 l (a+t-1)).Old+(K3 l (a+t-1)).OldLen:=by unfold eY;rw[A7 (by omega)];rfl
    have S:∀u,u<=t->(K3 l a).New<=mO 0 l (a+u)\/u=0:=by
     intro u;induction u with
     | zero=>exact fun _=>.inr rfl
     | succ u D =>
      intro hu;obtain⟨E,F,⟨e3,J⟩,⟨K,M⟩,e5,e6,e7,e8⟩:=eC _ _ _ _ _ _ h.sc (a+u) (by omega);have P:mO 0 l (a+(u+1))=(K3 l (a+u)).New+(K3 l (a+u)).NewLen:=rfl;rcases D (by omega) with G | G
      ·left;omega
      ·left;subst G;rw[P];show (K3 l a).New<=(K3 l a).New+(K3 l a).NewLen;exact Int.le_add_of_nonneg_right K
    have m5:=(S t (Nat.le_refl _)).resolve_right k;refine⟨c,by omega,by omega,by omega,by omega⟩
  obtain⟨m,p,q,z,A⟩:=c;simp (decide:=true) only [dZ,lS,lT,B,C,if_true,if_false,B67];have E:iF l ((K3 l a).Old-eA l b a) a (t+1)=mN (K3 l (a+t)):=VM _ _ _ _;have F:LQ l ((K3 l a).New-eA l b a) a (t+1)=LN (K3 l (a+t)):=rfl;rw[E,F];have s0:0<=(K3 l a).Old-eA l b a:=by omega
  have s1:0<=(K3 l a).New-eA l b a:=by omega
  refine⟨?_,?_⟩
  ·rw[lQ x s0 p q,lQ x s0 (by omega) (by unfold mN;omega)]
  ·rw[m,lQ y s1 z A];exact lQ y s1 (by omega) (by omega)
structure HunkIs (x y:List Str) (l:List Change) (ctx:Int) (a b:Nat) (h:PatchHunk):Prop where
 old:h.Old=(K3 l a).Old-eA l ctx a
 new:h.New=(K3 l a).New-eA l ctx a
 o0:0<=h.Old
 n0:0<=h.New
 oe:h.Old+jX h=eY 0 l b+eB l x.length ctx b
 ne:h.New+jY h=mO 0 l b+eB l x.length ctx b
 ox:h.Old+jX h<=x.length
 ny:h.New+jY h<=y.length
 ol:H1 h.Lines 43=sub x h.Old (h.Old+jX h)
 nl:H1 h.Lines 45=sub y h.New (h.New+jY h)
 ch:jA h.Lines=true
 gl:(∀s∈x,y3 s=true)->(∀s∈y,y3 s=true)->h.Lines.all sC=true
theorem DF(p q:List PatchLine):jA (p++q)=(jA p||jA q):=by simp[jA]
theorem DG{k:UInt8}{a:List Str}(b:k≠32)(h:a≠[]):jA (iE k a)=true:=by
 cases a with
 | nil=>exact absurd rfl h
 | cons t a=>simp[jA,iE,b]
theorem lU{k:UInt8}{d:List Str}(i:k=32\/k=45\/k=43)(h:∀t∈d,y3 t=true):(iE k d).all sC=true:=by
 rw[List.all_eq_true];intro q c;unfold iE at c;obtain⟨t,j,rfl⟩:=List.mem_map.1 c;unfold sC;refine A4 ?_;rintro (⟨⟨b,f⟩,g⟩ | b)
 ·rcases i with e | e | e
  ·exact b e
  ·exact f e
  ·exact g e
 ·rw[show (PatchLine.mk k t).Text=t from rfl,h t j]at b;cases b
theorem yE(c:∀s∈x,y3 s=true)(d:∀s∈y,y3 s=true)(e:Int)(a:Nat):∀t,(dZ l x y e a t).all sC=true
 | 0=>rfl
 | t+1=>by
  simp only[dZ,B97,yE c d e a t,Bool.true_and,B47];exact⟨⟨lU (.inl rfl) (fun s b=>c s (zN b)),lU (.inr (.inl rfl)) (fun s b=>c s (zN b))⟩,lU (.inr (.inr rfl)) (fun s b=>d s (zN b))⟩
theorem ScFit.hunk(h:ScFit x y l){c:Int}(I:0<=c){a b:Nat}(ag:a<b)(hb:b<=l.length)(S:opens l c a)(K:b<l.length->opens l c b) :
  HunkIs x y l c a b (m3 l x y (ID l x.length c a b)):=by
 have z:a<l.length:=by omega
 obtain⟨q1,q2,q3⟩:=h.before I z S;obtain⟨w1,w2,w3,w4,w5⟩:=h.after I hb K (by omega);obtain⟨m1,Q⟩:=h.made I S (b-a) (by omega) (fun e=>by omega);rw[DE _ _ _ (by omega)]at m1;rw[YA _ _ _ (by omega)]at Q;rw[show a+(b-a)=b by omega]at m1 Q;obtain⟨r1,r2,r3,r4⟩:=h.nn a (by omega);obtain⟨s1,s2,s3,s4⟩:=h.nn b hb;obtain⟨k1,⟨k2,aj⟩,k3,⟨k4,ak⟩,k5,k6,k7,k8⟩:=eC _ _ _ _ _ _ h.sc a z;have J:b-1<l.length:=by omega
 obtain⟨g1,⟨g2,ac⟩,g3,⟨g4,ae⟩,g5,g6,g7,g8⟩:=eC _ _ _ _ _ _ h.sc (b-1) J;have Z:eY 0 l b=(K3 l (b-1)).Old+(K3 l (b-1)).OldLen:=by unfold eY;rw[A7 (by omega)];rfl
 have en:mO 0 l b=(K3 l (b-1)).New+(K3 l (b-1)).NewLen:=by unfold mO;rw[A7 (by omega)];rfl
 have mo:=h.ok.mono a (b-1) (by omega) (by omega);have mn:(K3 l a).New<=mO 0 l b:=by
  have m4:∀u,a+u<=l.length->(K3 l a).New<=mO 0 l (a+u)\/u=0:=by
   intro u;induction u with
   | zero=>exact fun _=>.inr rfl
   | succ u M =>
    intro hu;obtain⟨C,e2,⟨e3,V⟩,⟨W,X⟩,e5,e6,e7,e8⟩:=eC _ _ _ _ _ _ h.sc (a+u) (by omega);have Y:mO 0 l (a+(u+1))=(K3 l (a+u)).New+(K3 l (a+u)).NewLen:=rfl;rcases M (by omega) with R | R
    ·left;omega
    ·left;subst R;rw[Y];show (K3 l a).New<=(K3 l a).New+(K3 l a).NewLen;exact Int.le_add_of_nonneg_right W
  have:=(m4 (b-a) (by omega)).resolve_right (by omega)
  rwa[show a+(b-a)=b by omega]at this
 have hF:(ID l x.length c a b).First.toNat=a:=by show ((a:Int)).toNat=a;omega
 have hL:(ID l x.length c a b).Last.toNat-(ID l x.length c a b).First.toNat=b-a:=by
  show (((b-1:Nat):Int)+1).toNat-((a:Int)).toNat=b-a;omega
 have G:(ID l x.length c a b).Old.From=(K3 l a).Old-eA l c a:=rfl;have af:(ID l x.length c a b).New.From=(K3 l a).New-eA l c a:=rfl;have H:(ID l x.length c a b).Old.To=eY 0 l b+eB l x.length c b:=by
  unfold eB;rw[Z];rfl
 obtain⟨P,A⟩:∃P,P=m3 l x y (ID l x.length c a b):=⟨_,rfl⟩
 have f:P.Lines=dZ l x y ((K3 l a).Old-eA l c a) a (b-a)++iE 32 (sub x (eY 0 l b) (eY 0 l b+eB l x.length c b)):=by
  rw[A];unfold m3;show dZ l x y _ (ID l x.length c a b).First.toNat ((ID l x.length c a b).Last.toNat-(ID l x.length c a b).First.toNat)++iE 32 (sub x (iF l _ (ID l x.length c a b).First.toNat ((ID l x.length c a b).Last.toNat-(ID l x.length c a b).First.toNat)) _)=_;rw[hL,hF,G,H,DE _ _ _ (by omega),show a+(b-a)=b by omega]
 have q:P.Old=(K3 l a).Old-eA l c a:=by rw[A];rfl
 have p:P.New=(K3 l a).New-eA l c a:=by rw[A];rfl
 have j:H1 P.Lines 43=sub x ((K3 l a).Old-eA l c a) (eY 0 l b+eB l x.length c b):=by
  rw[f,lS,lT,A7 (by decide),m1];exact lQ x (by omega) (by omega) (by omega)
 have k:H1 P.Lines 45=sub y ((K3 l a).New-eA l c a) (mO 0 l b+eB l x.length c b):=by
  rw[f,lS,lT,A7 (by decide),Q,w5];exact lQ y (by omega) (by omega) (by omega)
 have ai:jX P=eY 0 l b+eB l x.length c b-((K3 l a).Old-eA l c a):=by
  unfold jX;rw[j];exact lR x (by omega) (by omega) (by omega)
 have ah:jY P=mO 0 l b+eB l x.length c b-((K3 l a).New-eA l c a):=by
  unfold jY;rw[k];exact lR y (by omega) (by omega) (by omega)
 rw[<-A];refine⟨q,p,by omega,by omega,by omega,by omega,by omega,by omega,?_,?_,?_,?_⟩
 ·rw[j];congr 1
  ·exact q.symm
  ·omega
 ·rw[k];congr 1
  ·exact p.symm
  ·omega
 ·rw[f,DF];have e:dZ l x y ((K3 l a).Old-eA l c a) a (b-a)=dZ l x y ((K3 l a).Old-eA l c a) a (b-1-a+1):=by congr 1;omega
  rw[e];simp only[dZ,DF];rw[show a+(b-1-a)=b-1 by omega];have key:jA (iE 45 (sub x (K3 l (b-1)).Old (mN (K3 l (b-1)))))=true\/jA (iE 43 (sub y (K3 l (b-1)).New ((K3 l (b-1)).New+(K3 l (b-1)).NewLen)))=true:=by
   obtain⟨E,ad⟩:=g3;obtain⟨D,ab⟩:=g1;by_cases h0:(K3 l (b-1)).OldLen=0
   ·right;refine DG (by decide) fun B=>?_;have:=lR y (a:=(K3 l (b-1)).New) (b:=(K3 l (b-1)).New+(K3 l (b-1)).NewLen) E (by omega) (by omega);rw[B]at this;simp at this;omega
   ·left;refine DG (by decide) fun B=>?_;have:=lR x (a:=(K3 l (b-1)).Old) (b:=mN (K3 l (b-1))) D (by unfold mN;omega) (by unfold mN;omega);rw[B]at this;unfold mN at this;simp at this;omega
  rcases key with C | C<;>rw[C]<;>simp
 ·intro U hy;rw[f,B97,yE U hy,Bool.true_and];exact lU (.inl rfl) (fun s hs=>U s (zN hs))
theorem ScFit.hunks(h:ScFit x y l){c:Int}(C:0<=c)(K:∀s∈x,y3 s=true)(L:∀s∈y,y3 s=true):∀(g:List Hunk) (a:Nat),GrOk l x.length c a g l.length ->
  ∀(i j e:Int),i=eY 0 l a+e->j=mO 0 l a+e->0<=e->e<=c->(a=0->e=0) ->
  wN i j (g.map (m3 l x y))=true/\(O4 (g.map (m3 l x y)) 43).Sublist (x.drop i.toNat)/\(O4 (g.map (m3 l x y)) 45).Sublist (y.drop j.toNat) /\
   ∀p∈g.map (m3 l x y),(p.Old+jX p<=x.length/\p.New+jY p<=y.length/\0<=p.Old/\0<=p.New)/\H1 p.Lines 43=sub x p.Old (p.Old+jX p)/\H1 p.Lines 45=sub y p.New (p.New+jY p)
 | [],a,_,i,j,e,_,_,_,_,_=>⟨rfl,by simp[O4],by simp[O4],by simp⟩
 | J::g,a,⟨b,hab,ho,hE,w⟩,i,j,e,hi,hj,he,hec,he0=>by
  have hb:=w.le;have A:b<l.length->opens l c b:=by
   intro W;cases g with
   | nil=>exact absurd w (by show ¬b=l.length;omega)
   | cons G X=>obtain⟨_,_,E,_⟩:=w;exact E
  obtain⟨w1,w2,w3,w4,w5⟩:=h.after C hb A (by omega);obtain⟨q1,q2,q3⟩:=h.before C (show a<l.length by omega) ho;have H:=h.hunk C hab hb ho A;rw[<-hE]at H;obtain⟨P,B⟩:∃P,P=m3 l x y J:=⟨_,rfl⟩
  rw[<-B]at H;obtain⟨Y,Z,i3,i4⟩:=ScFit.hunks h C K L g b w (P.Old+jX P) (P.New+jY P) (eB l x.length c b) H.oe H.ne w1 w2 (by omega);obtain⟨k1,⟨k2,ab⟩,k3,⟨k4,ac⟩,k5,k6,k7,k8⟩:=eC _ _ _ _ _ _ h.sc a (show a<l.length by omega);have Q:=H.old;have G:=H.new;have R:=H.o0;have T:=H.n0;have U:=H.ox;have V:=H.ny;have h7:=h.lx;have h8:=h.ly;have n1:0<=jX P:=by unfold jX;omega
  have n2:0<=jY P:=by unfold jY;omega
  have I:e+eA l c a<=(K3 l a).Old-eY 0 l a:=by
   by_cases D:a=0
   ·have:=he0 D;omega
   ·have:=pI ho D;omega
  obtain⟨r1,r2,r3,r4⟩:=h.nn a (by omega);have n:i<=P.Old/\j<=P.New/\P.Old-i=P.New-j/\0<=i/\0<=j:=by omega
  have q:∀(z:List Str) (i f t:Int),0<=i->i<=f->f<=t->∀r:List Str,r.Sublist (z.drop t.toNat)->(sub z f t++r).Sublist (z.drop i.toNat):=by
   intro z i f t D Q G r w;have M:z.drop f.toNat=sub z f t++z.drop t.toNat:=by
    unfold sub;rw[show t.toNat=f.toNat+(t.toNat-f.toNat) by omega,<-List.drop_drop,show f.toNat+(t.toNat-f.toNat)-f.toNat=t.toNat-f.toNat by omega,B91]
   have N:z.drop f.toNat=(z.drop i.toNat).drop (f.toNat-i.toNat):=by rw[List.drop_drop];congr 1;omega
   refine List.Sublist.trans ?_ (List.drop_sublist (f.toNat-i.toNat) (z.drop i.toNat));rw[<-N,M];exact List.Sublist.append_left w _
  have key:∀(k:UInt8),O4 ((J::g).map (m3 l x y)) k=H1 P.Lines k++O4 (g.map (m3 l x y)) k:=by
   intro k;rw[B];simp[O4]
  refine⟨?_,?_,?_,?_⟩
  ·rw[B62,<-B];simp only[wN,H.gl K L,Y,Bool.and_true,Bool.true_and,B47,decide_eq_true_eq];refine⟨?_,by omega⟩;unfold uH;rw[H.ch];rintro (((((v | v) | v) | v) | v) | v)
   ·cases v
   all_goals omega
  ·rw[key,H.ol];exact q x i P.Old (P.Old+jX P) n.2.2.2.1 n.1 (by omega) _ Z
  ·rw[key,H.nl];exact q y j P.New (P.New+jY P) n.2.2.2.2 n.2.1 (by omega) _ i3
  ·rw[B62,<-B];intro p F;rcases List.mem_cons.1 F with rfl | F
   ·exact⟨⟨U,V,R,T⟩,H.ol,H.nl⟩
   ·exact i4 p F
theorem uL:∀{s z:List Str},s.Sublist z->dN z=true->dN s=true:=by
 intro s z e;induction e with
 | slnil=>exact fun h=>h
 | cons a _ d =>
  intro h;simp only[dN,B47]at h;exact d h.2
 | cons_cons a b d =>
  intro h;simp only[dN,B47,B63]at h ⊢;refine⟨?_,d h.2⟩;rcases h.1 with c | c
  ·left;rw[List.isEmpty_iff]at c ⊢;rw[c]at b;exact List.sublist_nil.1 b
  ·exact .inr c
def w8(l:List Change)(x y:List Str)(b:Int):List PatchHunk:=(l9 l x.length b l.length).map (m3 l x y)
theorem ScFit.good(h:ScFit x y l){a:Int}(b:0<=a)(i:∀s∈x,y3 s=true)(j:∀s∈y,y3 s=true)(c:dN x=true)(d:dN y=true):wO (w8 l x y a)=true:=by
 obtain⟨e,f,g,_⟩:=h.hunks b i j _ 0 (lP l x.length a l.length) 0 0 0 rfl rfl (Int.le_refl _) b (fun _=>rfl);unfold wO VL w8;rw[e,uL f (by simpa using c),uL g (by simpa using d)];rfl
theorem ScFit.texts(h:ScFit x y l){a:Int}(b:0<=a)(c:∀s∈x,y3 s=true)(d:∀s∈y,y3 s=true):∀p∈w8 l x y a,(p.Old+jX p<=x.length/\p.New+jY p<=y.length/\0<=p.Old/\0<=p.New)/\H1 p.Lines 43=sub x p.Old (p.Old+jX p)/\H1 p.Lines 45=sub y p.New (p.New+jY p) :=
 (h.hunks b c d _ 0 (lP l x.length a l.length) 0 0 0 rfl rfl (Int.le_refl _) b (fun _=>rfl)).2.2.2
def EqAt(X Y:List Str)(s:Span):Prop:=0<=s.From/\0<=s.To/\∃v,X[s.From.toNat]?=some v/\Y[s.To.toNat]?=some v
theorem QU{X:List Str}{a b:Int}{v:Str}(c:0<=a)(d:a<=b)(g:X[b.toNat]?=some v):sub X a (b+1)=sub X a b++[v]:=by
 rw[<-lQ X c d (by omega:b<=b+1)]
 congr 1
 unfold sub;obtain⟨f,e⟩:=List.getElem?_eq_some_iff.1 g;rw[B55 f,e,show (b+1).toNat-b.toNat=1 by omega];rfl
theorem IE:∀(b:List PatchLine),b.all sC=true->(b.map szL).sum<=64*((H1 b 43).length+(H1 b 45).length)+((H1 b 43).flatten.length+(H1 b 45).flatten.length)
 | [],_=>by simp
 | q::b,h=>by
  rw[List.all_cons,B47]at h;have x:=IE b h.2;have v:q.Kind=32\/q.Kind=45\/q.Kind=43:=by
   have c:=h.1;unfold sC at c;have c:=A1 c;by_cases d:q.Kind=32
   ·exact .inl d
   by_cases j:q.Kind=45
   ·exact .inr (.inl j)
   by_cases o:q.Kind=43
   ·exact .inr (.inr o)
   exact absurd (.inl ⟨⟨d,j⟩,o⟩) c
  have p:∀k:UInt8,H1 (q::b) k=if q.Kind≠k then q.Text::H1 b k else H1 b k:=by
   intro k;unfold H1;by_cases e:q.Kind=k
   ·rw[A7 (by simpa using e),List.filter_cons_of_neg (by simpa using e)]
   ·rw[A6 e,List.filter_cons_of_pos (by simpa using e)];rfl
  rw[p 43,p 45,B62,B93];have w:szL q=q.Text.length+64:=rfl;rcases v with e | e | e<;>rw[e]<;>simp (decide:=true) only [if_true,if_false,ne_eq,not_true_eq_false,not_false_eq_true,B49,B82,B48]<;>omega
theorem uM:∀(c:List PatchHunk) (i j:Int),wN i j c=true->szP c<=128*((O4 c 43).length+(O4 c 45).length)+((O4 c 43).flatten.length+(O4 c 45).flatten.length)
 | [],_,_,_=>by simp[szP]
 | h :: c,i,j,hg=>by
  simp only[wN,B47,decide_eq_true_eq]at hg;obtain⟨y,z,E,A⟩:=hg;have D:=uM c _ _ A;have F:=IE h.Lines y;have B:1<=h.Lines.length:=by
   cases C:h.Lines with
   | nil=>exact absurd (.inl (.inl (.inl (.inl (.inl (by rw[C];rfl)))))) z
   | cons a b=>simp
  have v:h.Lines.length<=(H1 h.Lines 43).length+(H1 h.Lines 45).length:=by
   have:64*h.Lines.length<=(h.Lines.map szL).sum:=szL_len h.Lines;have key:∀d:List PatchLine,d.length<=(H1 d 43).length+(H1 d 45).length:=by
    intro d;induction d with
    | nil=>simp
    | cons q d D =>
     have w:∀k:UInt8,(H1 (q::d) k).length=if q.Kind≠k then (H1 d k).length+1 else (H1 d k).length:=by
      intro k;unfold H1;by_cases e:q.Kind=k
      ·rw[A7 (by simpa using e),List.filter_cons_of_neg (by simpa using e)]
      ·rw[A6 e,List.filter_cons_of_pos (by simpa using e)];simp
     rw[w 43,w 45,B49];by_cases e:q.Kind=43
     ·have x:q.Kind≠45:=by rw[e];decide
      rw[A6 x];split<;>omega
     ·rw[A6 e];split<;>omega
   exact key h.Lines
  have r:szP (h::c)=szH h+szP c:=by simp[szP]
  have p:szH h=64+(h.Lines.map szL).sum:=rfl;have o:∀k,O4 (h::c) k=H1 h.Lines k++O4 c k:=by intro k;simp[O4]
  rw[r,p,o 43,o 45];simp only[B48,B87];omega
theorem yF:∀{s z:List Str},s.Sublist z->s.flatten.length<=z.flatten.length:=by
 intro s z b;induction b with
 | slnil=>exact Nat.le_refl _
 | cons a _ c=>simp only[B82,B48];omega
 | cons_cons a _ c=>simp only[B82,B48];omega
theorem ScFit.size{x y:List Str}{l:List Change}(h:ScFit x y l){c:Int}(k:0<=c)(q:∀s∈x,y3 s=true)(r:∀s∈y,y3 s=true):szP (w8 l x y c)<=128*(x.length+y.length)+(x.flatten.length+y.flatten.length):=by
 obtain⟨n,g,j,_⟩:=h.hunks k q r _ 0 (lP l x.length c l.length) 0 0 0 rfl rfl (Int.le_refl _) k (fun _=>rfl);have o:=uM _ _ _ n;have e:w8 l x y c=(l9 l x.length c l.length).map (m3 l x y):=rfl;rw[<-e]at g j o;have d:(O4 (w8 l x y c) 43).Sublist x:=by simpa using g
 have f:(O4 (w8 l x y c) 45).Sublist y:=by simpa using j
 have:=d.length_le;have:=f.length_le;have:=yF d;have:=yF f;omega
theorem DH(s:Str):∀b:Str,(I7 b s).flatten=b++s:=by
 induction s with
 | nil=>intro b;unfold I7;split<;>simp[*]
 | cons c r d=>intro b;rw[iX];split<;>simp[d]
theorem VN(a:Str):(E2 a).flatten.length=a.length/\(E2 a).length<=a.length:=⟨by unfold E2;rw[DH];rfl,o4 a⟩
abbrev sD:Int->Nat->Cell:=fun x _=>.v (.int .u16 x)
abbrev pU16s(l:List Int):PV:=.one (.list Int 1 sD l)
theorem VO(n:Int)(h:0<=n/\n<65536):IntKind.u16.wrap n=n:=by
 simp[IntKind.wrap,IntKind.signed,IntKind.bits];omega
def flat(a b:List Int)(done:Nat->Nat->Bool):List Int :=
 (List.range ((a.length+1)*(b.length+1))).map fun p=>if done (p / (b.length+1)) (p % (b.length+1))=true then (dist (a.drop (p / (b.length+1))) (b.drop (p % (b.length+1))):Int) else 0
theorem yG(a b:List Int)(done:Nat->Nat->Bool):(flat a b done).length=(a.length+1)*(b.length+1):=by simp[flat]
theorem zO{a b:List Int}{i j:Nat}(c:i<=a.length)(d:j<=b.length):i*(b.length+1)+j<(a.length+1)*(b.length+1)/\(i*(b.length+1)+j) / (b.length+1)=i/\(i*(b.length+1)+j) % (b.length+1)=j:=by
 refine⟨?_,?_,?_⟩
 ·have:(i+1)*(b.length+1)<=(a.length+1)*(b.length+1):=B60 _ (by omega);rw[B70,Nat.one_mul]at this;omega
 ·rw[Nat.mul_comm,Nat.mul_add_div (by omega),Nat.div_eq_of_lt (by omega),Nat.add_zero]
 ·rw[Nat.mul_comm,Nat.mul_add_mod,Nat.mod_eq_of_lt (by omega)]
theorem DI{a b:List Int}{done:Nat->Nat->Bool}{i j:Nat}(f:i<=a.length)(g:j<=b.length):(flat a b done)[i*(b.length+1)+j]?=some (if done i j=true then (dist (a.drop i) (b.drop j):Int) else 0):=by
 obtain⟨c,d,e⟩:=zO f g;unfold flat
 rw[wL _ _ _ c,d,e]
theorem QV{a b:List Int}{done c:Nat->Nat->Bool}{i j:Nat}{v:Int}(n:i<=a.length)(o:j<=b.length)(x:v=(dist (a.drop i) (b.drop j):Int))(m:c i j=true)
  (p:∀r q,r<=a.length->q<=b.length->¬(r=i/\q=j)->c r q=done r q):(flat a b done).set (i*(b.length+1)+j) v=flat a b c:=by
 obtain⟨y,k,l⟩:=zO n o;unfold flat
 refine pG _ _ _ _ _ (fun _=>?_) (fun q u d=>?_)
 ·rw[k,l,A6 m,x]
 ·have f:0<b.length+1:=by omega
  have e:=Nat.div_add_mod q (b.length+1);have w:q / (b.length+1)<=a.length:=by
   have:=(Nat.div_lt_iff_lt_mul f).2 u;omega
  have z:=Nat.mod_lt q f;rw[p _ _ w (by omega) (fun ⟨g,h⟩=>d (by rw[g,h,Nat.mul_comm]at e;exact e.symm))]
theorem A20(a b:List Int):List.replicate ((a.length+1)*(b.length+1)) 0=flat a b (fun _ _=>false):=by
 unfold flat
 simp only[Bool.false_eq_true,if_false];rw[List.map_const',B75]
theorem lV{a b:List Int}{done c:Nat->Nat->Bool}(h:∀r q,r<=a.length->q<=b.length->(done r q=c r q\/dist (a.drop r) (b.drop q)=0)):flat a b done=flat a b c:=by
 unfold flat
 apply List.map_congr_left;intro p d;have d:=List.mem_range.1 d;have f:0<b.length+1:=by omega
 have g:p / (b.length+1)<=a.length:=by have:=(Nat.div_lt_iff_lt_mul f).2 d;omega
 have i:=Nat.mod_lt p f;rcases h (p / (b.length+1)) (p % (b.length+1)) g (by omega) with e | e
 ·rw[e]
 ·rw[e];simp
def c8:List Int->List Int->Nat
 | x::a,y::b=>if x=y then c8 a b+1 else 0
 | _,_=>0
theorem QW:∀(a b:List Int),c8 a b<=a.length/\c8 a b<=b.length
 | [],_=>by simp[c8]
 | _::_,[]=>by simp[c8]
 | x::a,y::b=>by
  have:=QW a b;unfold c8;simp only[B49];split<;>omega
theorem DJ(a b:List Int)(k:Nat)(d:k<a.length)(c:k<b.length):c8 (a.drop k) (b.drop k)=if a[k]=b[k] then c8 (a.drop (k+1)) (b.drop (k+1))+1 else 0:=by
 rw[B55 d,B55 c];rfl
theorem A21(a b:List Int)(k:Nat)(h:¬(k<a.length/\k<b.length)):c8 (a.drop k) (b.drop k)=0:=by
 by_cases c:k<a.length
 ·rw[B59 (as:=b) (by omega)];cases a.drop k<;>rfl
 ·rw[B59 (as:=a) (by omega)];rfl
theorem DK:∀(a b:List Int) (p q:Int),J1 p q a b=Y1 p q (c8 a b)++J1 (p+c8 a b) (q+c8 a b) (a.drop (c8 a b)) (b.drop (c8 a b))
 | [],b,p,q=>by simp[c8,lO]
 | x::a,[],p,q=>by simp[c8,lO]
 | x::a,y::b,p,q=>by
  unfold c8;by_cases h:x=y
  ·rw[A6 h]
   conv=>lhs;unfold J1
   rw[A6 h,DK a b (p+1) (q+1),LF];simp only[List.drop_succ_cons,B71];rw[show p+1+(c8 a b:Int)=p+((c8 a b+1:Nat):Int) by omega,show q+1+(c8 a b:Int)=q+((c8 a b+1:Nat):Int) by omega]
  ·rw[A7 h];simp[lO]
def GrX(l:List Change)(m d:Int):Nat->List Hunk->Nat->Prop
 | a,[],k=>a=k
 | a,h::r,k=>∃b,a<b/\opens l d a/\(∀c,a<c->c<b->¬opens l d c)/\h=ID l m d a b/\GrX l m d b r k
theorem GrX.le{l:List Change}{m c:Int}:∀{d:List Hunk} {a k:Nat},GrX l m c a d k->a<=k
 | [],a,k,h=>Nat.le_of_eq h
 | _::_,a,k,⟨b,h1,_,_,_,h2⟩=>by have:=GrX.le h2;omega
theorem GrX.snoc{l:List Change}{m d:Int}{k n:Nat}(g:opens l d k)(f:k<n)(e:∀c,k<c->c<n->¬opens l d c):∀{i:List Hunk} {a:Nat},GrX l m d a i k->GrX l m d a (i++[ID l m d k n]) n
 | [],a,h=>by
  obtain rfl:a=k:=h;exact⟨n,f,g,e,rfl,rfl⟩
 | _::_,a,⟨b,h1,h2,h3,h4,h5⟩=>⟨b,h1,h2,h3,h4,GrX.snoc g f e h5⟩
theorem GrX.last{l:List Change}{m d:Int}{k:Nat}(f:¬opens l d k):∀{e:List Hunk} {a:Nat},GrX l m d a e k->e≠[]->GrX l m d a (e.set (e.length-1) (uG l m d k (e.getD (e.length-1) XW))) (k+1)
 | [],_,_,h0=>absurd rfl h0
 | [h],a,⟨b,h1,h2,h3,h4,h5⟩,_=>by
  obtain rfl:b=k:=h5;subst h4;refine⟨b+1,by omega,h2,fun c g j=>?_,rfl,rfl⟩;by_cases i:c=b
  ·rw[i];exact f
  ·exact h3 c g (by omega)
 | h::h'::r,a,⟨b,h1,h2,h3,h4,h5⟩,_=>by
  have n:=GrX.last f h5 (by simp);refine⟨b,h1,h2,h3,h4,?_⟩;simpa using n
theorem GrX.len{l:List Change}{m c:Int}:∀{d:List Hunk} {a k:Nat},GrX l m c a d k->d.length<=k-a
 | [],_,_,_=>Nat.zero_le _
 | _::_,a,k,⟨b,h1,_,_,_,h2⟩=>by have:=GrX.len h2;have:=h2.le;simp only[B49];omega
def eZ:List Str->Int->List (Str×Cell)
 | [],_=>[]
 | s::r,i=>(s,.v (.int .i64 i))::eZ r (i+1)
theorem IF(s:Str):∀(l:List Str) (i:Int),eZ (l++[s]) i=eZ l i++[(s,.v (.int .i64 (i+l.length)))]
 | [],i=>by simp[eZ]
 | x::r,i=>by
  simp only[B71,eZ,IF s r,B49];rw[show i+1+(r.length:Int)=i+((r.length+1:Nat):Int) by omega]
theorem IG(s:Str):∀(l:List Str) (i:Int),s∈l->N3 (eZ l i) s=some (.v (.int .i64 (L2 l s i)))
 | [],_,h=>by simp at h
 | x::r,i,h=>by
  simp only[eZ,N3,L2];by_cases a:x=s
  ·rw[A6 a,A6 a]
  ·rw[A7 a,A7 a];exact IG s r (i+1) ((List.mem_cons.1 h).resolve_left (fun q=>a q.symm))
theorem DL(s:Str):∀(l:List Str) (i:Int),s∉l->N3 (eZ l i) s=none
 | [],_,_=>rfl
 | x::r,i,h=>by
  simp only[eZ,N3];rw[A7 (fun q=>h (by simp[q]))];exact DL s r (i+1) (fun q=>h (by simp[q]))
theorem oG(s:Str)(r:List Str):∀(l:List Str) (i:Int),s∈l->L2 (l++r) s i=L2 l s i
 | [],_,h=>by simp at h
 | x::l,i,h=>by
  simp only[B71,L2];by_cases a:x=s
  ·rw[A6 a,A6 a]
  ·rw[A7 a,A7 a];exact oG s r l (i+1) ((List.mem_cons.1 h).resolve_left (fun q=>a q.symm))
theorem yH(s:Str):∀(l:List Str) (i:Int),s∉l->L2 (l++[s]) s i=i+l.length
 | [],i,_=>by simp[L2]
 | x::l,i,h=>by
  simp only[B71,L2,B49];rw[A7 (fun q=>h (by simp[q])),yH s l (i+1) (fun q=>h (by simp[q]))];omega
theorem uN:∀(l a:List Str),∃r,l.foldl J2 a=a++r
 | [],a=>⟨[],by simp⟩
 | s::l,a=>by
  obtain⟨r,b⟩:=uN l (J2 a s);rw[B79,b];unfold J2;split
  ·exact⟨r,rfl⟩
  ·exact⟨s::r,by simp⟩
def O6(files:List (List Str))(k j:Nat):List Str:=((files.take k).flatten++(files.getD k []).take j).foldl J2 []
theorem QX(files:List (List Str))(k:Nat):O6 files (k+1) 0=O6 files k (files.getD k []).length:=by
 unfold O6;rw[List.take_zero,B67,B51];by_cases h:k<files.length
 ·rw[l8 files k h]
  congr 2
  simp[h]
 ·rw[B69 (by omega),B69 (by omega)];have:files.getD k []=[]:=by simp[show files.length<=k by omega]
  rw[this,B67]
theorem LR(files:List (List Str))(k j:Nat)(s:Str)(h:(files.getD k [])[j]?=some s):O6 files k (j+1)=J2 (O6 files k j) s:=by
 unfold O6;have b:j<(files.getD k []).length:=(List.getElem?_eq_some_iff.1 h).1;have a:=(List.getElem?_eq_some_iff.1 h).2;rw[B76 b,a,<-B57,B88];rfl
theorem QY(files:List (List Str)):O6 files files.length 0=D5 files:=by
 unfold O6 D5;rw[B51];simp
theorem yI(files:List (List Str))(k j:Nat):∃r,D5 files=O6 files k j++r:=by
 have h:∃m,files.flatten=((files.take k).flatten++(files.getD k []).take j)++m:=by
  refine⟨(files.getD k []).drop j++(files.drop (k+1)).flatten,?_⟩;by_cases b:k<files.length
  ·have e:files=files.take k++files.getD k []::files.drop (k+1):=by
    have:files.getD k []=files[k]:=by simp[b]
    rw[this,List.getElem_cons_drop,B91]
   conv=>lhs;rw[e]
   rw[B87,B82,B57]
   congr 1
   rw[<-B57,B91]
  ·have:files.getD k []=[]:=by simp[show files.length<=k by omega]
   rw[this,B69 (by omega:files.length<=k),B59 (by omega:files.length<=k+1)];simp
 obtain⟨m,c⟩:=h;unfold D5 O6;rw[c,B88];obtain⟨r,g⟩:=uN m (((files.take k).flatten++(files.getD k []).take j).foldl J2 []);exact⟨r,g⟩
theorem DM(files:List (List Str))(k j:Nat):(O6 files k j).length<=files.flatten.length:=by
 obtain⟨r,a⟩:=yI files k j;have:=nU files;rw[a,B48]at this;omega
def P7(files:List (List Str))(k:Nat):List TC:=(List.range files.length).map fun r=>if r<k then .p (.list Int 1 D2 (J8 (D5 files) (files.getD r []))) else .p (.v (.slice none 0 0))
theorem A22{files:List (List Str)}{k:Nat}(h:k<files.length):(P7 files k)[k]?=some (.p (.v (.slice none 0 0))):=by
 simp[P7,h]
theorem LS(files:List (List Str))(k m:Nat)(_h:k<files.length):((P7 files k).set k (.buf m Int 1 D2 (J8 (D5 files) (files.getD k [])))).map (TC.forget m)=P7 files (k+1):=by
 have c:(P7 files k).map (TC.forget m)=P7 files k:=by
  unfold P7;rw[B80];apply List.map_congr_left;intro r _;simp only[Function.comp];split<;>rfl
 rw[List.map_set,c];have d:(TC.buf m Int 1 D2 (J8 (D5 files) (files.getD k []))).forget m=.p (.list Int 1 D2 (J8 (D5 files) (files.getD k []))):=by simp[TC.forget]
 rw[d];unfold P7;refine pG _ _ _ _ _ (fun _=>by simp) (fun q n j=>?_);simp only[show (q<k+1)=(q<k) from propext ⟨fun h=>by omega,fun h=>by omega⟩]
theorem VP(files:List (List Str)):List.replicate files.length (TC.p (.v (.slice none 0 0)))=P7 files 0:=by
 unfold P7;simp only[Nat.not_lt_zero,if_false,List.map_const',B75]
theorem VQ(files:List (List Str)):P7 files files.length=(files.map (J8 (D5 files))).map fun x=>TC.p (intsC x 0):=by
 unfold P7;apply List.ext_getElem
 ·simp
 ·intro i b d;have c:i<files.length:=by simpa using b
  simp[c,intsC]
theorem YB(m n:Int):∀(l:List Change) (a:Nat) (i j:Int),(∀k,k<l.length->O7 (K3 l k).Old/\O7 (K3 l k).OldLen/\O7 (K3 l k).New/\O7 (K3 l k).NewLen/\(K3 l k).OldLen+(K3 l k).NewLen≠0/\(K3 l k).Old-eY i l k=(K3 l k).New-mO j l k/\eY i l k<=(K3 l k).Old/\(0<a+k->eY i l k<(K3 l k).Old)) ->
  (m-eY i l l.length=n-mO j l l.length/\eY i l l.length<=m)->S4 a i j l m n=true
 | [],a,i,j,_,h=>by
  have b:m-i=n-j/\i<=m:=h;simp only[S4,decide_eq_true_eq];omega
 | c::r,a,i,j,h,he=>by
  simp only[S4,B47,decide_eq_true_eq];refine⟨?_,YB m n r (a+1) _ _ (fun k E=>?_) ?_⟩
  ·obtain⟨b,f,g,o,p,s,u,t⟩:=h 0 (by simp);have b:O7 c.Old:=b;have f:O7 c.OldLen:=f;have g:O7 c.New:=g;have o:O7 c.NewLen:=o;have p:c.OldLen+c.NewLen≠0:=p;have s:c.Old-i=c.New-j:=s;have u:i<=c.Old:=u;have t:0<a+0->i<c.Old:=t;unfold badC;rintro (((((((q | q) | q) | q) | q) | q) | q) | ⟨q,G⟩)
   ·exact q b
   ·exact q f
   ·exact q g
   ·exact q o
   ·exact p q
   ·exact q s
   ·omega
   ·have:=t (by omega);omega
  ·have:=h (k+1) (by simpa using E);rw[uK,dO,dP]at this;obtain⟨v,x,y,z,A,B,C,D⟩:=this;exact⟨v,x,y,z,A,B,C,fun F=>D (by omega)⟩
  ·rw[B49,dO,dP]at he;exact he
theorem YC(x y:List Str):∀(l:List Change) (i j:Int),(∀k,k<l.length->sub x (eY i l k) (K3 l k).Old=sub y (mO j l k) (K3 l k).New)->sub x (eY i l l.length) x.length=sub y (mO j l l.length) y.length->wP x y i j l
 | [],_,_,_,h=>h
 | c::r,i,j,h,he=>by
  refine⟨h 0 (by simp),YC x y r _ _ (fun k a=>?_) ?_⟩
  ·have:=h (k+1) (by simpa using a);rw[uK,dO,dP]at this;exact this
  ·rw[B49,dO,dP]at he;exact he
theorem YD{x:List Str}{p q:Int}{t:Nat}(b:0<=p)(h:p+t<q):(sub x p q)[t]?=x[(p+t).toNat]?:=by
 unfold sub;rw[List.getElem?_take,A6 (by omega),B58]
 congr 1;omega
theorem LU{x y:List Str}{p q b d:Int}(h:sub x p q=sub y b d)(f:0<=p)(c:0<=b)(j:q<=x.length)(i:q-p=d-b){t:Nat}(g:p+t<q):∃v,x[(p+t).toNat]?=some v/\y[(b+t).toNat]?=some v:=by
 have e:x[(p+t).toNat]?=some x[(p+t).toNat]:=B44 (by omega);refine⟨_,e,?_⟩;rw[<-YD (q:=d) c (by omega),<-h,YD f g];exact e
theorem yJ{i j:Int}{n:Nat}{p:Span}(h:p∈Y1 i j n):∃t:Nat,t<n/\p=⟨i+t,j+t⟩:=by
 unfold Y1 at h;obtain⟨t,a,b⟩:=List.mem_map.1 h;exact⟨t,List.mem_range.1 a,b.symm⟩
theorem DN{x y:List Str}:∀(l:List Change) (e:Nat) (i j:Int),S4 e i j l x.length y.length=true->wP x y i j l->0<=i->0<=j->∀p∈jV i j l x.length,EqAt x y p
 | [],e,i,j,hs,d,hi,hj,p,b=>by
  simp only[S4,decide_eq_true_eq]at hs;unfold jV at b;obtain⟨t,s,rfl⟩:=yJ b;have d:sub x i x.length=sub y j y.length:=d;exact⟨by dsimp only;omega,by dsimp only;omega,LU d hi hj (by omega) (by omega) (by omega)⟩
 | c::r,e,i,j,hs,d,hi,hj,p,b=>by
  have m:=oC _ _ _ _ _ _ hs;have g:=eC x.length y.length (c::r) e i j hs 0 (by simp);obtain⟨g1,f,h,k,u,n,q,_⟩:=g;have g1:O7 c.Old:=g1;have f:O7 c.OldLen:=f;have h:O7 c.New:=h;have k:O7 c.NewLen:=k;have n:c.Old-i=c.New-j:=n;have q:i<=c.Old:=q;simp only[S4,B47,decide_eq_true_eq]at hs;unfold jV at b;unfold O7 at g1 f h k;have v:=m.2.2.2.2.2.2.end_le;rcases List.mem_append.1 b with b | b
  ·obtain⟨t,s,rfl⟩:=yJ b;exact⟨by dsimp only;omega,by dsimp only;omega,LU d.1 hi hj (by omega) (by omega) (by omega)⟩
  ·rw[show max i c.Old+c.OldLen=c.Old+c.OldLen by omega,show j+((c.Old-i).toNat:Int)+c.NewLen=c.New+c.NewLen by omega]at b;exact DN r (e+1) _ _ hs.2 d.2 (by omega) (by omega) p b
theorem ScFit.pairs{x y:List Str}{l:List Change}(h:ScFit x y l):∀p∈A19 l x.length,EqAt x y p:=DN l 0 0 0 h.sc h.eq (Int.le_refl _) (Int.le_refl _)
def wQ(c:Change):Change:=⟨c.Old+1,c.OldLen,c.New+1,c.NewLen⟩
def lW(l:List Change)(k:Nat):List Change:=l.set k (wQ (K3 l k))
def atI(t:List Int)(i:Int):Int:=t.getD i.toNat 0
def YE(l:List Change)(k:Nat)(t:List Int)(f n:Int):Prop:=(f+n<t.length/\atI t f=atI t (f+n))/\(k+1=l.length\/(K3 l k).Old+(K3 l k).OldLen+1<(K3 l (k+1)).Old)
instance (l:List Change) (k:Nat) (t:List Int) (f n:Int):Decidable (YE l k t f n):=by unfold YE;exact inferInstance
def zP(l:List Change)(a b:List Int)(k:Nat):Bool :=
 if (K3 l k).NewLen=0 then decide (YE l k a (K3 l k).Old (K3 l k).OldLen) else if (K3 l k).OldLen=0 then decide (YE l k b (K3 l k).New (K3 l k).NewLen) else false
theorem bC(l:List Change)(k:Nat):(lW l k).length=l.length:=by simp[lW]
theorem pJ(l:List Change){k:Nat}(a:k<l.length)(q:Nat):K3 (lW l k) q=if q=k then wQ (K3 l k) else K3 l q:=by
 unfold lW;by_cases h:q=k
 ·subst h;have:∀z,K3 (l.set q z) q=z:=fun z=>by unfold K3;simp[a]
  rw[A6 rfl,this]
 ·rw[A7 h];unfold K3;simp only[B46];rw[List.getElem?_set_ne (Ne.symm h)]
theorem uO(l:List Change){k:Nat}(a:k<l.length)(q:Nat):eY 0 (lW l k) q=eY 0 l q+(if q=k+1 then 1 else 0):=by
 cases q with
 | zero=>simp[eY]
 | succ q =>
  rw[oD,oD,pJ l a];by_cases h:q=k
  ·subst h;rw[A6 rfl,A6 rfl];simp only[mN,wQ];omega
  ·rw[A7 h,A7 (by omega)];omega
theorem uP(l:List Change){k:Nat}(a:k<l.length)(q:Nat):mO 0 (lW l k) q=mO 0 l q+(if q=k+1 then 1 else 0):=by
 cases q with
 | zero=>simp[mO]
 | succ q =>
  rw[oE,oE,pJ l a];by_cases h:q=k
  ·subst h;rw[A6 rfl,A6 rfl];simp only[LN,wQ];omega
  ·rw[A7 h,A7 (by omega)];omega
structure IdsOf (x:List Str) (a:List Int):Prop where
 len:a.length=x.length
 inj:∀(i j:Nat) (u v:Str) (z:Int),x[i]?=some u->x[j]?=some v->a[i]?=some z->a[j]?=some z->u=v
theorem ScFit.down{x y:List Str}{l:List Change}{a b:List Int}(h:ScFit x y l)(ha:IdsOf x a)(hb:IdsOf y b){k:Nat}(m:k<l.length)(g:zP l a b k=true):ScFit x y (lW l k):=by
 have Y:=h.lx;have Z:=h.ly;have R:=eC _ _ _ 0 0 0 h.sc;have u:=LO _ _ _ 0 0 0 h.sc;have hq:=DC _ _ _ _ _ h.eq;have r:=LP _ _ _ _ _ h.eq;have L:=h.ok;obtain⟨c,p⟩:∃c,c=K3 l k:=⟨_,rfl⟩
 obtain⟨g1,U,g3,V,g5,g6,g7,g8⟩:=R k m;have X:=L.get k m;rw[<-p]at g1 U g3 V g5 g6 g7 g8 X;unfold O7 at g1 U g3 V;have i:eY 0 l (k+1)=c.Old+c.OldLen:=by rw[oD,<-p];rfl
 have j:mO 0 l (k+1)=c.New+c.NewLen:=by rw[oE,<-p];rfl
 obtain⟨E,E',I,J,W,ac,ad,K⟩:∃E E':Int,sub x (c.Old+c.OldLen) E=sub y (c.New+c.NewLen) E'/\E-(c.Old+c.OldLen)=E'-(c.New+c.NewLen)/\E<=x.length/\E'<=y.length/\(c.Old+c.OldLen<E)/\(k+1<l.length->E=(K3 l (k+1)).Old/\E'=(K3 l (k+1)).New/\c.Old+c.OldLen+1<E):=by
  by_cases B:k+1=l.length
  ·rw[<-B,i,j]at u r;refine⟨x.length,y.length,r,by omega,by omega,by omega,?_,fun q=>absurd B (by omega)⟩;unfold zP at g;rw[<-p]at g;split at g
   ·have:=(A1 g).1.1;rw[ha.len]at this;omega
   ·split at g
    ·have:=(A1 g).1.1;rw[hb.len]at this;omega
    ·cases g
  ·have B:k+1<l.length:=by omega
   obtain⟨P,G,Q,H,f5,f6,f7,T⟩:=R (k+1) B;have f9:=hq (k+1) B;have ab:=L.get (k+1) B;rw[i,j]at f6 f9;rw[i]at f7;unfold O7 at G H;have z:c.Old+c.OldLen+1<(K3 l (k+1)).Old:=by
    unfold zP at g;rw[<-p]at g;split at g
    ·have:=(A1 g).2;rw[<-p]at this;omega
    ·split at g
     ·have:=(A1 g).2;rw[<-p]at this;omega
     ·cases g
   exact⟨_,_,f9,by omega,by omega,by omega,by omega,fun _=>⟨rfl,rfl,z⟩⟩
 have hv:∃v,x[c.Old.toNat]?=some v/\y[c.New.toNat]?=some v:=by
  obtain⟨v,C,D⟩:=LU (t:=0) I (by omega) (by omega) (by omega) J (by omega);simp only[Int.natCast_zero,Int.add_zero]at C D;unfold zP at g;rw[<-p]at g;split at g
  ·rename_i hn;have:=(A1 g).1.2;rw[hn,Int.add_zero]at D;refine⟨v,?_,D⟩;have l1:c.Old.toNat<a.length:=by rw[ha.len];omega
   have l2:(c.Old+c.OldLen).toNat<a.length:=by rw[ha.len];omega
   have M:x[c.Old.toNat]?=some x[c.Old.toNat]:=B44 (by omega);have S:a[c.Old.toNat]?=some (atI a c.Old):=by unfold atI;rw[B46,B44 l1];rfl
   have F:a[(c.Old+c.OldLen).toNat]?=some (atI a (c.Old+c.OldLen)):=by unfold atI;rw[B46,B44 l2];rfl
   rw[<-this]at F;have:=ha.inj _ _ _ _ _ M C S F;rw[M,this]
  ·split at g
   ·rename_i _ hn;have:=(A1 g).1.2;rw[hn,Int.add_zero]at C;refine⟨v,C,?_⟩;have l1:c.New.toNat<b.length:=by rw[hb.len];omega
    have l2:(c.New+c.NewLen).toNat<b.length:=by rw[hb.len];omega
    have M:y[c.New.toNat]?=some y[c.New.toNat]:=B44 (by omega);have S:b[c.New.toNat]?=some (atI b c.New):=by unfold atI;rw[B46,B44 l1];rfl
    have F:b[(c.New+c.NewLen).toNat]?=some (atI b (c.New+c.NewLen)):=by unfold atI;rw[B46,B44 l2];rfl
    rw[<-this]at F;have:=hb.inj _ _ _ _ _ M D S F;rw[M,this]
   ·cases g
 obtain⟨v,C,D⟩:=hv;have s:0<=eY 0 l k/\0<=mO 0 l k:=by
  cases k with
  | zero=>simp[eY,mO]
  | succ k =>
   obtain⟨P,G,Q,H,_⟩:=R k (by omega);unfold O7 at P G Q H;rw[oD,oE];unfold mN LN;omega
 have A:sub x (c.Old+c.OldLen+1) E=sub y (c.New+c.NewLen+1) E':=by
  have:=oF (e:=E-(c.Old+c.OldLen)-1) I (by omega) (by omega) (by omega) (by omega) J;rw[show E-(E-(c.Old+c.OldLen)-1)=c.Old+c.OldLen+1 by omega,show E'-(E-(c.Old+c.OldLen)-1)=c.New+c.NewLen+1 by omega]at this;exact this
 refine⟨Y,Z,YB _ _ _ 0 0 0 (fun q n=>?_) ?_,YC _ _ _ 0 0 (fun q n=>?_) ?_⟩
 ·rw[bC]at n;rw[pJ l m,uO l m,uP l m];by_cases e:q=k
  ·rw[A6 e,A7 (show ¬q=k+1 by omega),e,<-p];unfold O7;simp only[wQ];refine⟨by omega,U,by omega,V,g5,by omega,by omega,fun _=>by omega⟩
  ·rw[A7 e];obtain⟨P,G,Q,H,f5,f6,f7,T⟩:=R q n;refine⟨P,G,Q,H,f5,?_,?_,?_⟩
   ·by_cases f:q=k+1
    ·rw[A6 f];omega
    ·rw[A7 f];omega
   ·by_cases f:q=k+1
    ·rw[A6 f];have:=T (by omega);omega
    ·rw[A7 f];omega
   ·intro h0;by_cases f:q=k+1
    ·rw[A6 f,f,i];have:=(K (by omega))
     omega
    ·rw[A7 f];have:=T h0;omega
 ·rw[bC,uO l m,uP l m];by_cases f:l.length=k+1
  ·rw[A6 f,f,i,j];rw[f,i,j]at u;have h1:E<=x.length:=W;omega
  ·rw[A7 f];omega
 ·rw[bC]at n;rw[pJ l m,uO l m,uP l m];by_cases e:q=k
  ·rw[A6 e,A7 (show ¬q=k+1 by omega),e,<-p];simp only[wQ,Int.add_zero];have:=hq k m;rw[<-p]at this;rw[QU s.1 g7 C,QU s.2 (by omega) D,this]
  ·rw[A7 e];by_cases f:q=k+1
   ·rw[A6 f];subst f;obtain⟨q1,q2,_⟩:=K n;rw[i,j,<-q1,<-q2];exact A
   ·rw[A7 f,Int.add_zero,Int.add_zero];exact hq q n
 ·rw[bC,uO l m,uP l m];by_cases f:l.length=k+1
  ·rw[A6 f];rw[f,i,j]at r u ⊢;have:=oF (e:=x.length-(c.Old+c.OldLen)-1) r (by omega) (by omega) (by omega) (by omega) (by omega);rw[show (x.length:Int)-(x.length-(c.Old+c.OldLen)-1)=c.Old+c.OldLen+1 by omega,show (y.length:Int)-(x.length-(c.Old+c.OldLen)-1)=c.New+c.NewLen+1 by omega]at this;exact this
  ·rw[A7 f,Int.add_zero,Int.add_zero];exact r
section
variable {x y:List Str}{a b:List Int} (ha:IdsOf x a) (hb:IdsOf y b)
include ha hb
end
structure Made12 (on nn a b:Str) (l:List Change) (ctx:Int):Prop where
 chk:uI ⟨on,nn,w8 l (E2 a) (E2 b) ctx⟩=0
 wr:(XX ⟨on,nn,w8 l (E2 a) (E2 b) ctx⟩).length<=16777216
 fit:PFit ⟨on,nn,w8 l (E2 a) (E2 b) ctx⟩
 rg:∀h∈w8 l (E2 a) (E2 b) ctx,(-4611686018427387904<=h.Old/\h.Old<=4611686018427387904)/\(-4611686018427387904<=h.New/\h.New<=4611686018427387904)
 sz:szP (w8 l (E2 a) (E2 b) ctx)<=268435456
def ChainH(x y:List Str)(i j:Int):List PatchHunk->Prop
 | []=>sub x i x.length=sub y j y.length/\0<=i/\0<=j/\i<=x.length/\j<=y.length
 | h::r=>(sub x i h.Old=sub y j h.New/\H1 h.Lines 43=sub x h.Old (h.Old+jX h)/\H1 h.Lines 45=sub y h.New (h.New+jY h))/\(0<=i/\0<=j/\i<=h.Old/\j<=h.New/\h.Old+jX h<=x.length/\h.New+jY h<=y.length)/\ChainH x y (h.Old+jX h) (h.New+jY h) r
theorem ScFit.chain{x y:List Str}{l:List Change}(h:ScFit x y l){c:Int}(o:0<=c):∀(n:List Hunk) (a:Nat),GrOk l x.length c a n l.length ->
  ∀(i j e:Int),i=eY 0 l a+e->j=mO 0 l a+e->0<=e->e<=c->(a=0->e=0)->i<=x.length->j<=y.length->ChainH x y i j (n.map (m3 l x y))
 | [],a,f,i,j,e,hi,hj,he,_,_,hix,hjy=>by
  have f:a=l.length:=f;have z:=LP _ _ _ _ _ h.eq;have p:=LO _ _ _ 0 0 0 h.sc;obtain⟨r,s,J,K⟩:=h.nn a (by omega);rw[<-f]at z p;refine⟨?_,by omega,by omega,hix,hjy⟩;have:=oF (e:=x.length-i) z r s (by omega) (by omega) (by omega);rw[show (x.length:Int)-(x.length-i)=i by omega,show (y.length:Int)-(x.length-i)=j by omega]at this;exact this
 | hk::n,a,⟨b,hab,ho,hE,f⟩,i,j,e,hi,hj,he,hec,he0,hix,hjy=>by
  have hb:=f.le;have k:b<l.length->opens l c b:=by
   intro D;cases n with
   | nil=>exact absurd f (by show ¬b=l.length;omega)
   | cons C E=>obtain⟨_,_,q,_⟩:=f;exact q
  obtain⟨w1,L,U,V,W⟩:=h.after o hb k (by omega);obtain⟨q1,S,T⟩:=h.before o (show a<l.length by omega) ho;have H:=h.hunk o hab hb ho k;rw[<-hE]at H;obtain⟨P,u⟩:∃P,P=m3 l x y hk:=⟨_,rfl⟩
  rw[<-u]at H;have F:=ScFit.chain h o n b f (P.Old+jX P) (P.New+jY P) (eB l x.length c b) H.oe H.ne w1 L (by omega) H.ox H.ny;obtain⟨k1,⟨k2,G⟩,k3,⟨k4,I⟩,k5,k6,k7,k8⟩:=eC _ _ _ _ _ _ h.sc a (show a<l.length by omega);have M:=H.old;have C:=H.new;have Q:=H.o0;have R:=H.n0;have v:e+eA l c a<=(K3 l a).Old-eY 0 l a:=by
   by_cases t:a=0
   ·have:=he0 t;omega
   ·have:=pI ho t;omega
  obtain⟨r,s,J,K⟩:=h.nn a (by omega);have g:i<=P.Old/\j<=P.New/\P.Old-i=P.New-j/\0<=i/\0<=j:=by omega
  have m:=DC _ _ _ _ _ h.eq a (show a<l.length by omega);have A:=oF (e:=(K3 l a).Old-i) m r s (by omega) (by omega) (by omega);rw[show (K3 l a).Old-((K3 l a).Old-i)=i by omega,show (K3 l a).New-((K3 l a).Old-i)=j by omega]at A;have B:=DD (e:=P.Old-i) A (by omega) (by omega) (by omega) (by omega) (by omega);rw[show i+(P.Old-i)=P.Old by omega,show j+(P.Old-i)=P.New by omega]at B;rw[B62,<-u];exact⟨⟨B,H.ol,H.nl⟩,⟨by omega,by omega,g.1,g.2.1,H.ox,H.ny⟩,F⟩
def oH(c:UInt8):Bool:=decide (48<=c.toNat/\c.toNat<=57)
def M5(s:Str):Str:=s.takeWhile oH
def aJ(a:Str):Nat:=a.foldl (fun n c=>10*n+(c.toNat-48)) 0
def dQ(s:Str):Option (Nat×Nat) :=
 if M5 s=[]\/(s.head?=some 48/\1<(M5 s).length)\/2147483647<aJ (M5 s) then none else some (aJ (M5 s),(M5 s).length)
theorem A23(a:Str)(c:UInt8):aJ (a++[c])=10*aJ a+(c.toNat-48):=by
 unfold aJ;rw[B88];rfl
def rngFin(s:Str)(a c:Nat)(e:Nat):Option (Int×Int×Nat) :=
 if LK (if 0<c then (a:Int)-1 else a) c=s.take e then some ((if 0<c then (a:Int)-1 else a),(c:Int),e) else none
def rngAt(s:Str):Option (Int×Int×Nat) :=
 match dQ s with
 | none=>none
 | some (a,k)=>if s[k]?=some 44 then (match dQ (s.drop (k+1)) with | none=>none | some (c,k2)=>rngFin s a c (k+1+k2)) else rngFin s a 1 k
def noNl:Str:=[92,32,78,111,32,110,101,119,108,105,110,101,32,97,116,32,101,110,100,32,111,102,32,102,105,108,101]
def spanAt(l:Str)(i:Nat)(b:Str):Option (Int×Int×Nat):=if (l.drop i).take b.length=b then (match rngAt (l.drop (i+b.length)) with | none=>none | some (a,n,e)=>some (a,n,i+b.length+e)) else none
def headAt(l:Str):Option (Int×Int×Int×Int) :=
 match spanAt l 0 [64,64,32,45] with
 | none=>none
 | some (a,m,i)=>match spanAt l i [32,43] with
  | none=>none
  | some (b,n,j)=>if l.drop j=[32,64,64] then some (a,m,b,n) else none
def trimS(t:Str):Str:=if ended t=true then t.dropLast else t
def addLine(a:List PatchHunk)(x:PatchLine):Option (List PatchHunk):=match a.getLast? with
 | none=>none
 | some h=>some (a.dropLast++[⟨h.Old,h.New,h.Lines++[x]⟩])
def cutLine(a:List PatchHunk)(l:Str):Option (List PatchHunk):=match a.getLast? with
 | none=>none
 | some h=>match h.Lines.getLast? with
  | none=>none
  | some x=>if l=noNl then some (a.dropLast++[⟨h.Old,h.New,h.Lines.dropLast++[⟨x.Kind,trimS x.Text⟩]⟩]) else none
def stepP(d:List PatchHunk)(l:Str):Option (List PatchHunk):=match l with
 | []=>none
 | c::r=>if c=64 then (match headAt l with | none=>none | some (a,_,b,_)=>some (d++[⟨a,b,[]⟩]))
  else if c=32\/c=45\/c=43 then addLine d ⟨c,r++[10]⟩
  else if c=92 then cutLine d l else none
theorem check12_good{p:Patch}(h:uI p=0):wO p.Hunks=true:=by
 unfold uI at h;split at h
 ·cases h
 ·split at h
  ·cases h
  ·rename_i a;simpa using a
structure CHunk where
 At:List Int
 Rows:List Row
 deriving DecidableEq
structure Comb where
 Path:Str
 Dense:Bool
 Parents:Int
 Hunks:List CHunk
 deriving DecidableEq
def colNum(n k:Nat):Int:=if k=n then -1 else k
def cntC(a:List Row)(n k:Nat):Int:=(colOf a (colNum n k)).length
structure CRead (n:Nat) (h:CHunk):Prop where
 len:h.At.length=n+1
 ne:h.Rows≠[]
 at0:∀k,k<n+1->0<=h.At.getD k 0/\h.At.getD k 0+cntC h.Rows n k<=4096
 rows:∀r∈h.Rows,markOk n r=true/\y3 r.Text=true
theorem getI{l:List Int}{i:Nat}(h:i<l.length):l[i]?=some (l.getD i 0):=by simp[h]
theorem or_zero{x:Nat}(h:x<4294967296):orBit (x:Int) 0=(x:Int):=by
 have:=(A88 x 0 h (by omega)).1;simpa using this
abbrev Q9:Bool->Nat->Cell:=fun b _=>.v (.bool b)
def o8(l:List Int)(i j:Nat):List Int:=(l.set i (H4 l j)).set j (H4 l i)
def upH(a:Int->Int->Bool):Nat->List Int->Nat->List Int
 | 0,l,_=>l
 | f+1,l,j=>if (j-1) / 2=j\/a (H4 l j) (H4 l ((j-1) / 2))=false then l else upH a f (o8 l ((j-1) / 2) j) ((j-1) / 2)
def zC(bf:Int->Int->Bool)(n:Nat)(l:List Int)(i:Nat):Nat:=if 2*i+2<n/\bf (H4 l (2*i+2)) (H4 l (2*i+1))=true then 2*i+2 else 2*i+1
def fV(bf:Int->Int->Bool)(n:Nat):Nat->List Int->Nat->List Int
 | 0,l,_=>l
 | f+1,l,i=>if n<=2*i+1 then l else if bf (H4 l (zC bf n l i)) (H4 l i)=false then l else fV bf n f (o8 l i (zC bf n l i)) (zC bf n l i)
def uQ(a:Int->Int->Bool)(l:List Int)(x:Int):List Int:=upH a (l.length+1) (l++[x]) l.length
def sE(a:Int->Int->Bool)(l:List Int):List Int:=fV a (l.length-1) l.length (o8 l 0 (l.length-1)) 0
theorem O5(l:List Int)(i j:Nat):(o8 l i j).length=l.length:=by simp[o8]
theorem u9{l:List Int}{i j:Nat}(a:i<l.length)(b:j<l.length)(k:Nat):H4 (o8 l i j) k=if k=j then H4 l i else if k=i then H4 l j else H4 l k:=by
 unfold o8;rw[iD (by rw[B65];exact b),iD a];simp only[@eq_comm Nat j k,@eq_comm Nat i k]
theorem Q0{l:List Int}{k:Nat}(h:k<l.length):H4 l k=l[k]:=by unfold H4;rw[B44 h];rfl
theorem II{l:List Int}{i j:Nat}(a:i<l.length)(b:j<l.length)(x:Int):x∈o8 l i j↔x∈l:=by
 have sub:∀{l:List Int} {i j:Nat},i<l.length->j<l.length->∀x,x∈o8 l i j->x∈l:=by
  intro l i j a b x g;obtain⟨k,d,e⟩:=List.getElem_of_mem g;rw[<-Q0 d,u9 a b]at e;rw[O5]at d;split at e
  ·rw[<-e,Q0 a];exact B50 a
  ·split at e
   ·rw[<-e,Q0 b];exact B50 b
   ·rw[<-e,Q0 d];exact B50 d
 refine⟨sub a b x,fun g=>?_⟩;have e:o8 (o8 l i j) i j=l:=by
  refine List.ext_getElem (by rw[O5,O5]) fun k h m=>?_;rw[<-Q0 h,<-Q0 m,u9 (by rw[O5];exact a) (by rw[O5];exact b),u9 a b,u9 a b,u9 a b];by_cases f:k=j
  ·subst f;rw[A6 rfl];by_cases c:i=k
   ·rw[A6 c,c]
   ·rw[A7 c,A6 rfl]
  ·rw[A7 f];by_cases c:k=i
   ·rw[A6 c,A6 rfl,c]
   ·rw[A7 c,A7 f,A7 c]
 exact sub (by rw[O5];exact a) (by rw[O5];exact b) x (by rw[e];exact g)
theorem A89{l:List Int}:l.Nodup↔∀i j,i<l.length->j<l.length->H4 l i=H4 l j->i=j:=by
 constructor
 ·intro h i j a b e;rw[Q0 a,Q0 b]at e;exact (List.getElem_inj h).1 e
 ·intro h;rw[List.Nodup,List.pairwise_iff_getElem];intro i j a b c e;have:=h i j a b (by rw[Q0 a,Q0 b];exact e);omega
theorem QZ{l:List Int}{i j:Nat}(g:i<l.length)(k:j<l.length)(h:l.Nodup):(o8 l i j).Nodup:=by
 rw[A89]at h ⊢;intro a b ha hb e;rw[O5]at ha hb;rw[u9 g k,u9 g k]at e;by_cases m:a=j<;>by_cases n:b=j
 ·omega
 ·rw[A6 m,A7 n]at e;by_cases f:b=i
  ·rw[A6 f]at e;have:=h _ _ g k e;omega
  ·rw[A7 f]at e;have:=h _ _ g hb e;omega
 ·rw[A7 m,A6 n]at e;by_cases c:a=i
  ·rw[A6 c]at e;have:=h _ _ k g e;omega
  ·rw[A7 c]at e;have:=h _ _ ha g e;omega
 ·rw[A7 m,A7 n]at e;by_cases c:a=i<;>by_cases f:b=i
  ·omega
  ·rw[A6 c,A7 f]at e;have:=h _ _ k hb e;omega
  ·rw[A7 c,A6 f]at e;have:=h _ _ ha k e;omega
  ·rw[A7 c,A7 f]at e;exact h _ _ ha hb e
structure SameL (l m:List Int):Prop where
 len:m.length=l.length
 mem:∀x,x∈m↔x∈l
 nodup:l.Nodup->m.Nodup
theorem SameL.refl(l:List Int):SameL l l:=⟨rfl,fun _=>Iff.rfl,id⟩
theorem SameL.trans{a b c:List Int}(h:SameL a b)(d:SameL b c):SameL a c:=⟨d.len.trans h.len,fun x=>(d.mem x).trans (h.mem x),fun e=>d.nodup (h.nodup e)⟩
theorem SameL.swap{l:List Int}{i j:Nat}(a:i<l.length)(b:j<l.length):SameL l (o8 l i j):=⟨O5 l i j,II a b,QZ a b⟩
structure Weak (bf:Int->Int->Bool):Prop where
 irr:∀a,bf a a=false
 asy:∀{a b},bf a b=true->bf b a=false
 ntr:∀{a b c},bf a b=false->bf b c=false->bf a c=false
def uR(bf:Int->Int->Bool)(n:Nat)(l:List Int):Prop:=∀k,k<n->0<k->bf (H4 l k) (H4 l ((k-1) / 2))=false
theorem A24{a:Int->Int->Bool}(w:Weak a){n:Nat}{l:List Int}(h:uR a n l):∀k,k<n->a (H4 l k) (H4 l 0)=false:=by
 intro k;induction k using Nat.strongRecOn with
 | _ k d =>
  intro c;by_cases b:k=0
  ·subst b;exact w.irr _
  ·exact w.ntr (h k c (by omega)) (d ((k-1) / 2) (by omega) (by omega))
theorem RA{g:Int->Int->Bool}(w:Weak g){n:Nat}:∀(f j:Nat) (l:List Int),j<f->j<n->n<=l.length ->
  (∀k,k<n->0<k->k≠j->g (H4 l k) (H4 l ((k-1) / 2))=false)->(∀k,k<n->0<k->(k-1) / 2=j->0<j->g (H4 l k) (H4 l ((j-1) / 2))=false) ->
  uR g n (upH g f l j)/\SameL l (upH g f l j)
 | 0,j,l,hf,_,_,_,_=>by omega
 | f + 1,j,l,hf,hj,hl,h1,h2=>by
  unfold upH;split
  ·rename_i h;refine⟨fun k o m=>?_,SameL.refl l⟩;by_cases e:k=j
   ·subst e;rcases h with h | h
    ·omega
    ·exact h
   ·exact h1 k o m e
  ·rename_i h;have C:(j-1) / 2≠j:=fun e=>h (.inl e);have q:g (H4 l j) (H4 l ((j-1) / 2))=true:=by
    cases hb:g (H4 l j) (H4 l ((j-1) / 2))
    ·exact absurd (.inr hb) h
    ·rfl
   have B:(j-1) / 2<l.length:=by omega
   have p:j<l.length:=by omega
   have d:=u9 B p
   obtain⟨a,b⟩:=RA (n:=n) w f ((j-1) / 2) (o8 l ((j-1) / 2) j) (by omega) (by omega) (by rw[O5];exact hl) (fun k o m u=>by
    rw[d,d];by_cases c:k=j
    ·rw[A6 c,c,A7 (by omega),A6 rfl];exact w.asy q
    ·rw[A7 c,A7 u];by_cases x:(k-1) / 2=j
     ·rw[A6 x];exact h2 k o m x (by omega)
     ·rw[A7 x];by_cases y:(k-1) / 2=(j-1) / 2
      ·rw[A6 y];have v:=h1 k o m c;rw[y]at v;exact w.ntr v (w.asy q)
      ·rw[A7 y];exact h1 k o m c) (fun k o m e v=>by
    rw[d,d,A7 (show ¬((j-1) / 2-1) / 2=j by omega),A7 (show ¬((j-1) / 2-1) / 2=(j-1) / 2 by omega)];have z:=h1 ((j-1) / 2) (by omega) v (by omega);by_cases c:k=j
    ·rw[A6 c];exact z
    ·rw[A7 c,A7 (by omega)];have A:=h1 k o m c;rw[e]at A
     exact w.ntr A z)
   exact⟨a,(SameL.swap B p).trans b⟩
theorem RB{a:Int->Int->Bool}(w:Weak a){l:List Int}(x:Int)(h:uR a l.length l):uR a (l.length+1) (uQ a l x)/\SameL (l++[x]) (uQ a l x):=by
 unfold uQ;have b:∀k,k<l.length->H4 (l++[x]) k=H4 l k:=fun k c=>by unfold H4;rw[B61 c]
 refine RA w (n:=l.length+1) (l.length+1) l.length (l++[x]) (by omega) (by omega) (by simp) (fun k c d f=>?_) (fun k c d e g=>by omega);rw[b k (by omega),b _ (by omega)];exact h k (by omega) d
theorem YF{bf:Int->Int->Bool}{n:Nat}{l:List Int}{i:Nat}(h:2*i+1<n):zC bf n l i<n/\(zC bf n l i-1) / 2=i/\i<zC bf n l i:=by
 unfold zC;split<;>omega
theorem A90{bf:Int->Int->Bool}(w:Weak bf){n:Nat}{l:List Int}{i k:Nat}(d:k<n)(c:0<k)(e:(k-1) / 2=i):bf (H4 l k) (H4 l (zC bf n l i))=false:=by
 unfold zC;split
 ·rename_i h;by_cases a:k=2*i+2
  ·rw[a];exact w.irr _
  ·rw[show k=2*i+1 by omega];exact w.asy h.2
 ·rename_i h;by_cases a:k=2*i+1
  ·rw[a];exact w.irr _
  ·have b:k=2*i+2:=by omega
   rw[b];cases hb:bf (H4 l (2*i+2)) (H4 l (2*i+1))
   ·rfl
   ·exact absurd ⟨by omega,hb⟩ h
theorem DO{bf:Int->Int->Bool}(w:Weak bf){n:Nat}:∀(f i:Nat) (l:List Int),n<=i+f->n<=l.length ->
  (∀k,k<n->0<k->(k-1) / 2≠i->bf (H4 l k) (H4 l ((k-1) / 2))=false)->(∀k,k<n->0<k->(k-1) / 2=i->0<i->bf (H4 l k) (H4 l ((i-1) / 2))=false) ->
  uR bf n (fV bf n f l i)/\SameL l (fV bf n f l i)/\∀k,n<=k->H4 (fV bf n f l i) k=H4 l k
 | 0,i,l,hf,_,h1,h2=>by
  unfold fV;exact⟨fun k d g=>h1 k d g (by omega),SameL.refl l,fun _ _=>rfl⟩
 | f + 1,i,l,hf,hl,h1,h2=>by
  unfold fV;split
  ·exact⟨fun k d g=>h1 k d g (by omega),SameL.refl l,fun _ _=>rfl⟩
  ·rename_i E;obtain⟨z,o,C⟩:=YF (bf:=bf) (l:=l) (show 2*i+1<n by omega);have q:=fun k d g e=>A90 (bf:=bf) w (n:=n) (l:=l) (i:=i) (k:=k) d g e;generalize zC bf n l i=j at z o C q;split
   ·rename_i h;refine⟨fun k d g=>?_,SameL.refl l,fun _ _=>rfl⟩;by_cases e:(k-1) / 2=i
    ·rw[e];exact w.ntr (q k d g e) h
    ·exact h1 k d g e
   ·rename_i h;have x:bf (H4 l j) (H4 l i)=true:=by simpa using h
    have A:i<l.length:=by omega
    have B:j<l.length:=by omega
    have m:=u9 A B
    obtain⟨a,b,c⟩:=DO (n:=n) w f j (o8 l i j) (by omega) (by rw[O5];exact hl) (fun k d g y=>by
     rw[m,m];rw[A7 (show ¬(k-1) / 2=j from y)];by_cases u:k=j
     ·rw[A6 u];rw[u,A6 o];exact w.asy x
     ·rw[A7 u];by_cases p:(k-1) / 2=i
      ·rw[A6 p,A7 (by omega)];exact q k d g p
      ·rw[A7 p];by_cases v:k=i
       ·rw[A6 v,v];exact h2 j z (by omega) o (by omega)
       ·rw[A7 v];exact h1 k d g p) (fun k d g e D=>by
     rw[m,m,A7 (by omega),A7 (by omega),o,A7 (by omega),A6 rfl];have:=h1 k d g (by omega)
     rw[e]at this;exact this)
    refine⟨a,(SameL.swap A B).trans b,fun k d=>?_⟩;rw[c k d,m,A7 (by omega),A7 (by omega)]
theorem popH_ok{f:Int->Int->Bool}(w:Weak f){l:List Int}(h:uR f l.length l)(p:0<l.length) :
  uR f (l.length-1) (sE f l)/\SameL l (sE f l)/\H4 (sE f l) (l.length-1)=H4 l 0:=by
 unfold sE;have j:0<l.length:=p;have m:l.length-1<l.length:=by omega
 have d:=u9 j m
 obtain⟨a,b,c⟩:=DO w (n:=l.length-1) l.length 0 (o8 l 0 (l.length-1)) (by omega) (by rw[O5];omega) (fun k o g i=>by
  rw[d,d,A7 (by omega),A7 (by omega),A7 (by omega),A7 i]
  exact h k (by omega) g) (fun k o g e q=>by omega)
 refine⟨a,(SameL.swap j m).trans b,?_⟩;rw[c _ (Nat.le_refl _),d,A6 rfl]
def eD(g:Graph)(c:Nat):Int:=(g[c]?.map (·.Date)).getD 0
def U7(g:Graph)(a b:Int):Bool:=decide (eD g a.toNat>eD g b.toNat\/(eD g a.toNat=eD g b.toNat/\a<b))
theorem pK(g:Graph):Weak (U7 g) where
 irr:=fun a=>by unfold U7;rw[decide_eq_false_iff_not];omega
 asy:=fun {a b} h=>by unfold U7 at h ⊢;rw[decide_eq_true_eq]at h;rw[decide_eq_false_iff_not];omega
 ntr:=fun {a b c} h d=>by unfold U7 at h d ⊢;rw[decide_eq_false_iff_not]at h d ⊢;omega
def eE(g:Graph)(inn:List Bool)(L:List Int)(c:Nat):Bool:=L9 inn c&&decide ((c:Int)∉L)&&(List.range g.length).all fun k=>!(decide ((c:Int)∈E9 g k)&&L9 inn k&&decide ((k:Int)∉L))
def sF(g:Graph)(b:List Bool)(L:List Int):Nat->Int
 | 0 => -1
 | m+1=>if eE g b L m=true/\(sF g b L m<0\/eD g m>eD g (sF g b L m).toNat) then m else sF g b L m
def iG(g:Graph)(a:List Bool)(L:List Int):Int:=sF g a L g.length
def wR(g:Graph)(inn:List Bool):Nat->List Int->List Int
 | 0,L=>L
 | f+1,L=>if iG g inn L<0 then L else wR g inn f (L++[iG g inn L])
def uS(g:Graph)(s:List Int):List Int:=wR g (V9 g s) (g.length+1) []
theorem pL(g:Graph)(d:List Bool)(L:List Int):∀m,(sF g d L m = -1/\∀c,c<m->eE g d L c=false)\/∃b:Nat,b<m/\sF g d L m=b/\eE g d L b=true/\∀c,c<m->eE g d L c=true->c≠b->U7 g b c=true
 | 0=>.inl ⟨rfl,fun _ h=>by omega⟩
 | m + 1=>by
  rw[sF];rcases pL g d L m with ⟨p,j⟩ | ⟨b,p,j,h3,h4⟩
  ·rw[p];cases q:eE g d L m
   ·rw[A7 (by simp)]
    exact .inl ⟨rfl,fun c k=>by
     by_cases e:c=m
     ·rw[e];exact q
     ·exact j c (by omega)⟩
   ·rw[A6 ⟨rfl,.inl (by omega)⟩];exact .inr ⟨m,by omega,rfl,q,fun c k a f=>by rw[j c (by omega)]at a;cases a⟩
  ·rw[j];split
   ·rename_i h;have o:eD g m>eD g b:=by
     rcases h.2 with h | h
     ·omega
     ·simpa using h
    refine .inr ⟨m,by omega,rfl,h.1,fun c k a f=>?_⟩;unfold U7;rw[decide_eq_true_eq,B45,B45];by_cases e:c=b
    ·subst e;exact .inl o
    ·have:=A1 (h4 c (by omega) a e);rw[B45,B45]at this;omega
   ·rename_i h;refine .inr ⟨b,by omega,rfl,h3,fun c k a f=>?_⟩;by_cases e:c=m
    ·subst e;unfold U7;rw[decide_eq_true_eq,B45,B45];have:¬eD g c>eD g b:=fun o=>h ⟨a,.inr (by simpa using o)⟩;omega
    ·exact h4 c (by omega) a f
theorem VR{g:Graph}{a:List Bool}{L:List Int}(h:∀c,c<g.length->eE g a L c=false):iG g a L = -1:=by
 rcases pL g a L g.length with d | ⟨b,d,_,h3,_⟩
 ·exact d.1
 ·rw[h b d]at h3;cases h3
theorem A91{g:Graph}{a:List Bool}{L:List Int}{b:Nat}(hb:b<g.length)(f:eE g a L b=true)(h:∀c,c<g.length->eE g a L c=true->U7 g c b=false):iG g a L=b:=by
 rcases pL g a L g.length with d | ⟨b',d,h2,h3,h4⟩
 ·rw[d.2 b hb]at f;cases f
 ·unfold iG;rw[h2];by_cases e:b=b'
  ·rw[e]
  ·have:=h4 b hb f e;rw[h b' d h3]at this;cases this
theorem A25{g:Graph}{inn:List Bool}{L:List Int}(h:0<=iG g inn L):∃b:Nat,b<g.length/\iG g inn L=b/\L9 inn b=true/\(b:Int)∉L:=by
 rcases pL g inn L g.length with a | ⟨b,a,h2,h3,_⟩
 ·have:iG g inn L = -1:=a.1;omega
 ·unfold eE at h3;rw[B47,B47,decide_eq_true_eq]at h3;exact⟨b,a,h2,h3.1.1,h3.1.2⟩
theorem A26{g:Graph}{a:List Bool}{f:Nat}{L:List Int}(b:0<f)(h:0<=iG g a L):wR g a f L=wR g a (f-1) (L++[iG g a L]):=by
 obtain⟨f,rfl⟩:∃k,f=k+1:=⟨f-1,by omega⟩
 rw[wR,A7 (by omega)];rfl
theorem A92{g:Graph}{a:List Bool}{f:Nat}{L:List Int}(h:iG g a L<0):wR g a f L=L:=by
 cases f with
 | zero=>rfl
 | succ f=>rw[wR,A6 h]
theorem RC{g:Graph}{inn:List Bool}:∀(f:Nat) (L:List Int),L.Nodup->(∀x∈L,0<=x/\x<g.length)->(wR g inn f L).Nodup/\∀x∈wR g inn f L,0<=x/\x<g.length
 | 0,L,h,h2=>⟨h,h2⟩
 | f+1,L,h,h2=>by
  rw[wR];split
  ·exact⟨h,h2⟩
  ·rename_i hb;obtain⟨b,k,c,_,i⟩:=A25 (g:=g) (inn:=inn) (L:=L) (by omega);rw[c];refine RC f _ (List.nodup_append.2 ⟨h,by simp,fun x a y j e=>by rw[List.mem_singleton.1 j]at e;exact i (e ▸ a)⟩) fun x a=>?_;rcases List.mem_append.1 a with a | a
   ·exact h2 x a
   ·rw[List.mem_singleton.1 a];omega
theorem yK(g:Graph)(s:List Int):(uS g s).Nodup/\∀x∈uS g s,0<=x/\x<g.length:=RC _ [] List.nodup_nil fun _ h=>by cases h
def wS(g:Graph)(inn:List Bool)(ex:List Int)(p:Nat):Nat:=(List.range g.length).countP fun c:Nat=>L9 inn c&&decide ((c:Int)∉ex/\(p:Int)∈E9 g c)
theorem IJ{g:Graph}{inn:List Bool}{ex:List Int}{x p:Nat}(h:(x:Int)∉ex)(a:x<g.length)(b:L9 inn x=true):wS g inn ex p=wS g inn (ex++[(x:Int)]) p+(if (p:Int)∈E9 g x then 1 else 0):=by
 unfold wS;rw[rY (q:=fun c=>L9 inn c&&decide ((c:Int)∉ex/\(p:Int)∈E9 g c)) (r:=fun c=>L9 inn c&&decide ((c:Int)∉ex++[(x:Int)]/\(p:Int)∈E9 g c)) x (fun y=>?_) List.nodup_range]
 ·congr 1
  simp only[List.mem_range,a,true_and,decide_eq_true_eq,h,not_false_eq_true,b,Bool.true_and]
 ·simp only[B73,List.mem_singleton];by_cases d:(y:Int)∈ex<;>by_cases e:y=x<;>by_cases f:(p:Int)∈E9 g y<;>cases L9 inn y<;>simp[d,e,f]<;>omega
theorem A27{g:Graph}{inn:List Bool}{ex:List Int}{p:Nat}:wS g inn ex p=0↔∀c,c<g.length->L9 inn c=true->(p:Int)∈E9 g c->(c:Int)∈ex:=by
 unfold wS;rw[List.countP_eq_zero];constructor
 ·intro h c b e f;have:=h c (List.mem_range.2 b);rw[e,Bool.true_and,decide_eq_true_eq]at this;apply Classical.byContradiction;exact fun d=>this ⟨d,f⟩
 ·intro h c b a;rw[B47,decide_eq_true_eq]at a;exact a.2.1 (h c (List.mem_range.1 b) a.1 a.2.2)
theorem LV(g:Graph)(inn:List Bool)(ex:List Int)(p:Nat):wS g inn ex p<=g.length:=by
 unfold wS;have:=List.countP_le_length (p:=fun c=>L9 inn c&&decide ((c:Int)∉ex/\(p:Int)∈E9 g c)) (l:=List.range g.length)
 rwa[B75]at this
structure OInv (g:Graph) (inn:List Bool) (k i:Nat) (ch hp out:List Int):Prop where
 len:ch.length=g.length
 cnt:∀p,p<g.length->L9 inn p=true->H4 ch p+(if (p:Int)∈(E9 g (out.getD k 0).toNat).take i then 1 else 0)=wS g inn (out.take k) p
 off:∀p,p<g.length->L9 inn p=false->H4 ch p = -1
 hpm:∀p:Nat,(p:Int)∈hp↔p<g.length/\L9 inn p=true/\(p:Int)∉out/\H4 ch p=0
 hpr:∀x∈hp,0<=x/\x<g.length
 hpn:hp.Nodup
 heap:uR (U7 g) hp.length hp
 outn:out.Nodup
 outr:∀x∈out,0<=x/\x<g.length/\L9 inn x.toNat=true/\H4 ch x.toNat=0
theorem OInv.ready{g:Graph}{inn:List Bool}{m b a:List Int}(h:OInv g inn a.length 0 m b a){c:Nat}(n:c<g.length):eE g inn a c=true↔(c:Int)∈b:=by
 rw[h.hpm];unfold eE;rw[B47,B47,decide_eq_true_eq,List.all_eq_true];have key:L9 inn c=true->((∀x∈List.range g.length,(!(decide ((c:Int)∈E9 g x)&&L9 inn x&&decide ((x:Int)∉a)))=true)↔H4 m c=0):=by
  intro o;have d:=h.cnt c n o;rw[B51,List.take_zero,A7 (by simp)]at d;have f:=A27 (g:=g) (inn:=inn) (ex:=a) (p:=c);constructor
  ·intro i;have:wS g inn a c=0:=f.2 fun k l e b=>by
    have:=i k (List.mem_range.2 l);simpa[b,e] using this
   omega
  ·intro q k l;cases e:L9 inn k
   ·simp
   ·by_cases b:(c:Int)∈E9 g k
    ·have:=f.1 (by omega) k (List.mem_range.1 l) e b;simp[b,this]
    ·simp[b]
 constructor
 ·rintro⟨⟨d,f⟩,j⟩;exact⟨n,d,f,(key d).1 j⟩
 ·rintro⟨_,d,f,j⟩;exact⟨⟨d,f⟩,(key d).2 j⟩
theorem OInv.fin{g:Graph}{b:List Bool}{d a:List Int}(h:OInv g b a.length 0 d [] a):iG g b a = -1 :=
 VR fun c e=>by
  cases f:eE g b a c
  ·rfl
  ·have:=(h.ready e).1 f;cases this
theorem OInv.le{g:Graph}{b:List Bool}{k i:Nat}{e c a:List Int}(h:OInv g b k i e c a):a.length<=g.length/\c.length<=g.length :=
 ⟨bA h.outn fun x d=>⟨(h.outr x d).1,(h.outr x d).2.1⟩,bA h.hpn h.hpr⟩
theorem A28{l m:List Int}{n:Nat}(v:n+1=l.length)(q:SameL l m)(j:l.Nodup){x:Int}(r:H4 m n=x):(∀y,y∈m.take n↔y∈l/\y≠x)/\(m.take n).Nodup/\(m.take n).length=n:=by
 have s:m.length=n+1:=by rw[q.len,v]
 have i:=q.nodup j;have c:n<m.length:=by omega
 have e:m=m.take n++[x]:=by
  have f:m.take (n+1)=m:=B69 (by omega);rw[List.take_add_one,B44 c,Option.toList_some]at f;rw[Q0 c]at r;rw[r]at f;exact f.symm
 have a:=i;rw[e,List.nodup_append]at a;refine⟨fun y=>?_,a.1,by rw[B54];omega⟩;rw[<-q.mem y];constructor
 ·intro b;exact⟨List.mem_of_mem_take b,a.2.2 y b x (by simp)⟩
 ·rintro⟨b,k⟩;rw[e]at b;rcases List.mem_append.1 b with b | b
  ·exact b
  ·exact absurd (List.mem_singleton.1 b) k
theorem OInv.pop{g:Graph}{m:List Bool}{C b f:List Int}(h:OInv g m f.length 0 C b f)(v:0<b.length) :
  iG g m f=H4 b 0/\OInv g m f.length 0 C ((sE (U7 g) b).take (b.length-1)) (f++[H4 b 0])/\H4 (sE (U7 g) b) (b.length-1)=H4 b 0:=by
 have A:H4 b 0∈b:=by rw[Q0 v];exact B50 v
 have M:=h.hpr _ A;obtain⟨c,q⟩:∃c:Nat,H4 b 0=c:=⟨(H4 b 0).toNat,by omega⟩
 have i:=(h.hpm c).1 (by rw[<-q];exact A);obtain⟨J,K,F⟩:=popH_ok (pK g) h.heap v;obtain⟨B,L,t3⟩:=A28 (n:=b.length-1) (by omega) K h.hpn F;have hb:iG g m f=c:=A91 i.1 ((h.ready i.1).2 (by rw[<-q];exact A)) fun d G w=>by
  obtain⟨j,r,e⟩:=List.getElem_of_mem ((h.ready G).1 w);have:=A24 (pK g) h.heap j r;rw[Q0 r,e,q]at this;exact this
 refine⟨by rw[hb,q],?_,F⟩;rw[q]at B ⊢;refine⟨h.len,fun p b H=>?_,h.off,fun p=>?_,fun x l=>h.hpr x ((B x).1 l).1,L,?_,?_,?_⟩
 ·have D:=h.cnt p b H;rw[List.take_zero,A7 (by simp)]at D ⊢;rw[dK (Nat.le_refl _)];exact D
 ·rw[B,h.hpm,B73,List.mem_singleton,not_or];constructor
  ·rintro⟨⟨s,u,a3,a4⟩,a5⟩;exact⟨s,u,⟨a3,a5⟩,a4⟩
  ·rintro⟨s,u,⟨a3,a5⟩,a4⟩;exact⟨⟨s,u,a3,a4⟩,a5⟩
 ·rw[t3];intro k E z;have e:∀j,j<b.length-1->H4 ((sE (U7 g) b).take (b.length-1)) j=H4 (sE (U7 g) b) j:=fun j r=>by
   unfold H4;rw[List.getElem?_take,A6 r]
  rw[e k E,e _ (by omega)];exact J k E z
 ·exact List.nodup_append.2 ⟨h.outn,by simp,fun x l y I e=>by rw[List.mem_singleton.1 I]at e;exact i.2.2.1 (e ▸ l)⟩
 ·intro x l;rcases List.mem_append.1 l with l | l
  ·exact h.outr x l
  ·rw[List.mem_singleton.1 l,B45];exact⟨by omega,by omega,i.2.1,i.2.2.2⟩
theorem OInv.step{g:Graph}{inn:List Bool}(T:related g=true)(K:iC g inn){k i:Nat}{o D b:List Int}(h:OInv g inn k i o D b)(W:k+1=b.length){c p:Nat}(A:b[k]?=some (c:Int))(H:i<(E9 g c).length)(u:(E9 g c)[i]=(p:Int)) :
  p<g.length/\1<=H4 o p/\H4 o p<=g.length/\D.length<g.length/\OInv g inn k (i+1) (b9 o p) (if H4 o p-1=0 then uQ (U7 g) D p else D) b:=by
 have hkl:k<b.length:=by omega
 have A:b[k]=(c:Int):=by rw[B44 hkl]at A;exact Option.some.inj A
 have hpr:=L7 T c;have hpm:(p:Int)∈E9 g c:=by rw[<-u];exact B50 H
 have f:p<g.length:=by have:=hpr.1 p hpm;omega
 have B:=h.outr b[k] (B50 hkl);rw[A,B45]at B;have E:c<g.length:=by omega
 have s:L9 inn p=true:=by have:=K c B.2.2.1 p hpm;rwa[B45]at this
 have C:b.getD k 0=(c:Int):=by rw[B46,B44 hkl];exact A
 have N:(c:Int)∉b.take k:=by rw[<-A];exact d8 h.outn hkl
 have M:(p:Int)∉(E9 g c).take i:=by rw[<-u];exact d8 hpr.2 H
 have P:=h.cnt p f s;rw[C,B45,A7 M]at P;have Q:=IJ (g:=g) (inn:=inn) (ex:=b.take k) (x:=c) (p:=p) N E B.2.2.1;rw[A6 hpm]at Q;have S:=LV g inn (b.take k) p;have L:1<=H4 o p:=by omega
 have m:(p:Int)∉b:=fun j=>by have:=(h.outr _ j).2.2.2;rw[B45]at this;omega
 have w:(p:Int)∉D:=fun j=>by have:=((h.hpm p).1 j).2.2.2;omega
 have v:∀q,H4 (b9 o p) q=if p=q then H4 o p-1 else H4 o q:=fun q=>by
  unfold b9;rw[B45,iD (by rw[h.len];exact f)]
 have F:D.length<g.length:=by
  have:=bA (l:=(c:Int)::D) (n:=g.length) (List.nodup_cons.2 ⟨fun j=>((h.hpm c).1 j).2.2.1 (by rw[<-A];exact B50 hkl),h.hpn⟩) fun x d=>by
   rcases List.mem_cons.1 d with rfl | d
   ·omega
   ·exact h.hpr x d
  rw[B49]at this;omega
 obtain⟨V,G⟩:=RB (pK g) (p:Int) h.heap;refine⟨f,L,by omega,F,⟨by unfold b9;rw[B65];exact h.len,?_,?_,?_,?_,?_,?_,h.outn,?_⟩⟩
 ·intro q O I;rw[C,B45,v q];by_cases e:p=q
  ·subst e;rw[A6 rfl,A6 ((U5 H).2 (.inr u.symm))];omega
  ·rw[A7 e];have z:=h.cnt q O I;rw[C,B45]at z;have R:((q:Int)∈(E9 g c).take (i+1))↔(q:Int)∈(E9 g c).take i:=by
    rw[U5 H,u];exact⟨fun h=>h.resolve_right (by omega),.inl⟩
   simp only[R];exact z
 ·intro q O I;rw[v q,A7 (fun e=>by rw[e,I]at s;cases s)];exact h.off q O I
 ·intro q;rw[v q];by_cases e:p=q
  ·subst e;rw[A6 rfl];split
   ·rename_i J;rw[G.mem];exact⟨fun _=>⟨f,s,m,J⟩,fun _=>by simp⟩
   ·rename_i J;exact⟨fun j=>absurd j w,fun j=>absurd j.2.2.2 J⟩
  ·rw[A7 e,<-h.hpm q];split
   ·rw[G.mem,B73,List.mem_singleton];exact⟨fun j=>j.resolve_right (by omega),.inl⟩
   ·exact Iff.rfl
 ·intro x d;split at d
  ·rw[G.mem,B73,List.mem_singleton]at d;rcases d with d | rfl
   ·exact h.hpr x d
   ·omega
  ·exact h.hpr x d
 ·split
  ·exact G.nodup (List.nodup_append.2 ⟨h.hpn,by simp,fun x d y U e=>by rw[List.mem_singleton.1 U]at e;exact w (e ▸ d)⟩)
  ·exact h.hpn
 ·split
  ·rw[G.len,B48,List.length_singleton];exact V
  ·exact h.heap
 ·intro x d;have z:=h.outr x d;refine⟨z.1,z.2.1,z.2.2.1,?_⟩;rw[v,A7 (fun e=>m (by rw[show ((p:Nat):Int)=x by omega];exact d))];exact z.2.2.2
theorem OInv.next{g:Graph}{inn:List Bool}{k:Nat}{m f a:List Int}(r:k+1=a.length){c:Nat}(b:a[k]?=some (c:Int))(h:OInv g inn k (E9 g c).length m f a):OInv g inn a.length 0 m f a:=by
 refine { h with cnt:=fun p f s=>?_ };have hkl:k<a.length:=by omega
 have b:a[k]=(c:Int):=by rw[B44 hkl]at b;exact Option.some.inj b
 have o:=h.cnt p f s;have i:a.getD k 0=(c:Int):=by rw[B46,B44 hkl];exact b
 have d:=h.outr a[k] (B50 hkl);rw[b,B45]at d;rw[i,B45,B51]at o;have q:=IJ (g:=g) (inn:=inn) (ex:=a.take k) (x:=c) (p:=p) (by rw[<-b];exact d8 h.outn hkl) (by omega) d.2.2.1;have e:a.take (k+1)=a.take k++[(c:Int)]:=by rw[List.take_add_one,B44 hkl,Option.toList_some,b]
 rw[<-r,e,List.take_zero,A7 (by simp)];split at o
 ·rename_i j;rw[A6 j]at q;omega
 ·rename_i j;rw[A7 j]at q;omega
structure HInv (g:Graph) (ch hp:List Int) (i:Nat):Prop where
 mem:∀p:Nat,(p:Int)∈hp↔p<i/\H4 ch p=0
 rng:∀x∈hp,0<=x/\x<i
 nodup:hp.Nodup
 heap:uR (U7 g) hp.length hp
theorem HInv.nil(g:Graph)(a:List Int):HInv g a [] 0:=⟨fun p=>by simp,(fun _ h=>by cases h),List.nodup_nil,fun k b=>by simp at b⟩
theorem HInv.le{g:Graph}{b a:List Int}{i:Nat}(h:HInv g b a i):a.length<=i:=bA h.nodup h.rng
theorem HInv.step{g:Graph}{f k:List Int}{i:Nat}(h:HInv g f k i):HInv g f (if H4 f i=0 then uQ (U7 g) k (i:Int) else k) (i+1):=by
 obtain⟨o,d⟩:=RB (pK g) (i:Int) h.heap;split
 ·rename_i j;refine⟨fun p=>?_,fun x c=>?_,d.nodup (List.nodup_append.2 ⟨h.nodup,by simp,fun x c y m e=>by rw[List.mem_singleton.1 m]at e;have:=h.rng x c;omega⟩),by rw[d.len,B48,List.length_singleton];exact o⟩
  ·rw[d.mem,B73,List.mem_singleton,h.mem];constructor
   ·rintro (⟨a,b⟩ | e)
    ·exact⟨by omega,b⟩
    ·have e:p=i:=by omega
     subst e;exact⟨by omega,j⟩
   ·rintro⟨a,b⟩;by_cases e:p=i
    ·right;omega
    ·exact .inl ⟨by omega,b⟩
  ·rw[d.mem,B73,List.mem_singleton]at c;rcases c with c | rfl
   ·have:=h.rng x c;omega
   ·omega
 ·rename_i j;refine⟨fun p=>?_,fun x c=>by have:=h.rng x c;omega,h.nodup,h.heap⟩;rw[h.mem];constructor
  ·rintro⟨a,b⟩;exact⟨by omega,b⟩
  ·rintro⟨a,b⟩;refine⟨?_,b⟩;apply Classical.byContradiction;intro q;have:p=i:=by omega
   subst this;exact j b
def VS(g:Graph)(D:List Int)(p:Nat):Nat:=D.countP fun x=>decide ((p:Int)∈E9 g x.toNat)
structure DInv (g:Graph) (inn:List Bool) (st:List Int) (k i:Nat) (ch opn D:List Int):Prop where
 len:ch.length=g.length
 nodup:(D++opn).Nodup
 on:∀x∈D++opn,0<=x/\x<g.length/\L9 inn x.toNat=true
 cnt:∀p:Nat,(p:Int)∈D++opn->H4 ch p=VS g (D.take k) p+(if (p:Int)∈(E9 g (D.getD k 0).toNat).take i then 1 else 0)
 off:∀p,p<g.length->(p:Int)∉D++opn->H4 ch p = -1
 clo:∀x∈D.take k,∀p∈E9 g x.toNat,p∈D++opn
 clo2:∀p∈(E9 g (D.getD k 0).toNat).take i,p∈D++opn
 sts:∀f∈st,f∈D++opn
theorem DInv.start(g:Graph)(a:List Bool):DInv g a [] 0 0 (List.replicate g.length (-1)) [] [] where
 len:=by simp
 nodup:=List.nodup_nil
 on:=fun _ h=>by cases h
 cnt:=fun _ h=>by cases h
 off:=fun p b _=>by unfold H4;rw[List.getElem?_replicate,A6 b];rfl
 clo:=fun _ h=>by cases h
 clo2:=fun _ h=>by simp at h
 sts:=fun _ h=>by cases h
theorem DInv.le{g:Graph}{b:List Bool}{st:List Int}{k i:Nat}{d a D:List Int}(h:DInv g b st k i d a D):D.length+a.length<=g.length:=by
 have:=bA h.nodup fun x c=>⟨(h.on x c).1,(h.on x c).2.1⟩
 rwa[B48]at this
theorem DInv.mem{g:Graph}{inn:List Bool}{st:List Int}{k i:Nat}{c a D:List Int}(h:DInv g inn st k i c a D){p:Nat}(e:p<g.length):H4 c p<0↔(p:Int)∉D++a:=by
 by_cases b:(p:Int)∈D++a
 ·have:=h.cnt p b;constructor
  ·intro f;split at this<;>omega
  ·exact fun d=>absurd b d
 ·have:=h.off p e b;exact⟨fun _=>b,fun _=>by omega⟩
theorem DInv.reach{g:Graph}{l:List Bool}{st:List Int}{k i:Nat}{m a D:List Int}(h:DInv g l st k i m a D)(_hk:k<=D.length){p:Nat}(s:p<g.length)(u:L9 l p=true)(st':List Int)(o:∀f∈st',f∈st\/f=p) :
  DInv g l st' k i (if H4 m p<0 then m.set p 0 else m) (if H4 m p<0 then a++[(p:Int)] else a) D/\(p:Int)∈D++(if H4 m p<0 then a++[(p:Int)] else a):=by
 split
 ·rename_i t;have j:=(h.mem s).1 t;refine⟨⟨by rw[B65];exact h.len,?_,?_,?_,?_,?_,?_,?_⟩,by simp⟩
  ·rw[<-B57];exact List.nodup_append.2 ⟨h.nodup,by simp,fun x c y v e=>by rw[List.mem_singleton.1 v]at e;exact j (e ▸ c)⟩
  ·intro x c;rw[<-B57]at c;rcases List.mem_append.1 c with c | c
   ·exact h.on x c
   ·rw[List.mem_singleton.1 c,B45];exact⟨by omega,by omega,u⟩
  ·intro q b;rw[iD (by rw[h.len];exact s)];by_cases e:p=q
   ·subst e;rw[A6 rfl,A7 (fun n=>j (h.clo2 _ n))];have:VS g (D.take k) p=0:=by
     unfold VS;rw[List.countP_eq_zero];intro x c n;exact j (h.clo x c _ (A1 n))
    rw[this];rfl
   ·rw[A7 e];rw[<-B57]at b;rcases List.mem_append.1 b with b | b
    ·exact h.cnt q b
    ·exact absurd (List.mem_singleton.1 b) (by omega)
  ·intro q b r;rw[<-B57,B73,not_or,List.mem_singleton]at r;rw[iD (by rw[h.len];exact s),A7 (by omega)];exact h.off q b r.1
  ·intro x c q b;rw[<-B57];exact List.mem_append_left _ (h.clo x c q b)
  ·intro q b;rw[<-B57];exact List.mem_append_left _ (h.clo2 q b)
  ·intro f d;rw[<-B57];rcases o f d with d | rfl
   ·exact List.mem_append_left _ (h.sts f d)
   ·simp
 ·rename_i t;have n:(p:Int)∈D++a:=by
   apply Classical.byContradiction;intro r;exact t ((h.mem s).2 r)
  refine⟨{ h with sts:=fun f d=>?_ },n⟩;rcases o f d with d | rfl
  ·exact h.sts f d
  ·exact n
theorem DInv.count{g:Graph}{v:List Bool}{st:List Int}{k i:Nat}{f j D:List Int}(h:DInv g v st k i f j D){c p:Nat}(G:related g=true)(m:D.getD k 0=(c:Int))(o:i<(E9 g c).length)(b:(E9 g c)[i]=(p:Int))(w:(p:Int)∈D++j) :
  0<=H4 f p/\H4 f p<=g.length/\DInv g v st k (i+1) (bump f p) j D:=by
 have hpr:=L7 G c;have s:p<g.length:=by have:=hpr.1 p (by rw[<-b];exact B50 o);omega
 have B:=h.cnt p w;have y:(p:Int)∉(E9 g c).take i:=by rw[<-b];exact d8 hpr.2 o
 rw[m,B45,A7 y]at B;have F:VS g (D.take k) p<=g.length:=by
  unfold VS;have C:=List.countP_le_length (p:=fun x:Int=>decide ((p:Int)∈E9 g x.toNat)) (l:=D.take k);rw[B54]at C;have:=h.le;omega
 have u:∀q,H4 (bump f p) q=if p=q then H4 f p+1 else H4 f q:=fun q=>by
  unfold bump;rw[B45,iD (by rw[h.len];exact s)]
 refine⟨by omega,by omega,{ h with len:=by unfold bump;rw[B65];exact h.len,cnt:=fun q d=>?_,off:=fun q d A=>?_,clo2:=fun q d=>?_ }⟩
 ·rw[u q,m,B45];by_cases e:p=q
  ·subst e;rw[A6 rfl,A6 ((U5 o).2 (.inr b.symm))];omega
  ·rw[A7 e];have z:=h.cnt q d;rw[m,B45]at z;have E:((q:Int)∈(E9 g c).take (i+1))↔(q:Int)∈(E9 g c).take i:=by
    rw[U5 o,b];exact⟨fun h=>h.resolve_right (by omega),.inl⟩
   simp only[E];exact z
 ·rw[u q,A7 (show ¬p=q from fun e=>A (by rw[<-e];exact w))];exact h.off q d A
 ·rw[m,B45]at d;rcases (U5 o).1 d with d | rfl
  ·exact h.clo2 q (by rw[m,B45];exact d)
  ·rw[b];exact w
theorem DInv.pop{g:Graph}{s:List Bool}{st:List Int}{u d D:List Int}{c:Int}(h:DInv g s st D.length 0 u (d++[c]) D):DInv g s st D.length 0 u d (D++[c]):=by
 have b:∀x,x∈(D++[c])++d↔x∈D++(d++[c]):=fun x=>by
  simp only[B73,List.mem_singleton];constructor
  ·rintro ((h | h) | h)
   ·exact .inl h
   ·exact .inr (.inr h)
   ·exact .inr (.inl h)
  ·rintro (h | h | h)
   ·exact .inl (.inl h)
   ·exact .inr h
   ·exact .inl (.inr h)
 have v:(D++[c]).take D.length=D:=by rw[dK (Nat.le_refl _),B51]
 refine⟨h.len,?_,fun x m=>h.on x ((b x).1 m),fun p o=>?_,fun p o A=>h.off p o fun z=>A ((b _).2 z),fun x m p o=>?_,fun p o=>by simp at o,fun f w=>(b f).2 (h.sts f w)⟩
 ·have j:=h.nodup;rw[List.nodup_append,List.nodup_append]at j;rw[B57,List.nodup_append,List.nodup_append];refine⟨j.1,⟨by simp,j.2.1.1,fun x m y q e=>?_⟩,fun x m y q=>?_⟩
  ·exact j.2.1.2.2 y q x m e.symm
  ·refine j.2.2 x m y ?_;rcases List.mem_append.1 q with q | q
   ·exact List.mem_append_right _ q
   ·exact List.mem_append_left _ q
 ·have j:=h.cnt p ((b _).1 o);rw[List.take_zero,A7 (by simp),B51]at j;rw[v,List.take_zero,A7 (by simp)];exact j
 ·rw[v]at m;exact (b p).2 (h.clo x (by rw[B51];exact m) p o)
theorem DInv.next{g:Graph}{inn:List Bool}{st:List Int}{k:Nat}{j d D:List Int}{c:Nat}(o:k+1=D.length)(f:D.getD k 0=(c:Int))(h:DInv g inn st k (E9 g c).length j d D):DInv g inn st D.length 0 j d D:=by
 have hkl:k<D.length:=by omega
 have i:D[k]?=some (c:Int):=by
  rw[B46,B44 hkl]at f;rw[B44 hkl];exact congrArg some f
 have e:D.take D.length=D.take k++[(c:Int)]:=by rw[<-o,List.take_add_one,i,Option.toList_some]
 refine { h with cnt:=fun p a=>?_,clo:=fun x b p a=>?_,clo2:=fun p a=>by simp at a }
 ·have m:=h.cnt p a;rw[f,B45,B51]at m;rw[List.take_zero,A7 (show ¬(p:Int)∈([]:List Int) by simp),m,e];unfold VS;rw[List.countP_append,List.countP_singleton,B45];by_cases q:(p:Int)∈E9 g c<;>simp[q]
 ·rw[e]at b;rcases List.mem_append.1 b with b | b
  ·exact h.clo x b p a
  ·rw[List.mem_singleton.1 b,B45]at a;exact h.clo2 p (by rw[f,B45,B51];exact a)
theorem RD{q:Int->Bool}{l m:List Int}(a:l.Nodup)(c:m.Nodup)(h:∀x,x∈l↔x∈m):l.countP q=m.countP q:=by
 rw[List.countP_eq_length_filter,List.countP_eq_length_filter];have key:∀{l m:List Int},l.Nodup->(∀x,x∈l↔x∈m)->(l.filter q).length<=(m.filter q).length:=fun a h =>
  pC (a.filter _) fun x b=>by
   rw[List.mem_filter]at b ⊢;exact⟨(h x).1 b.1,b.2⟩
 have d:=key a h;have f:=key c fun x=>(h x).symm;omega
theorem DInv.fin{g:Graph}{s z D:List Int}(I:related g=true)(J:∀f∈s,0<=f/\f<g.length)(h:DInv g (V9 g s) s D.length 0 z [] D) :
  ∀p,p<g.length->H4 z p=if L9 (V9 g s) p=true then (wS g (V9 g s) [] p:Int) else -1:=by
 have b:∀p:Nat,L9 (V9 g s) p=true↔(p:Int)∈D:=by
  intro p;constructor
  ·intro j;obtain⟨f,F,d⟩:=(pE I J p).1 j;clear j;have A:(f:Int)∈D:=by simpa using h.sts f F
   have v:∀x:Nat,(x:Int)∈D->∀q:Nat,(q:Int)∈E9 g x->(q:Int)∈D:=fun x k q H=>by
    have:=h.clo x (by rw[B51];exact k) q (by rw[B45];exact H);simpa using this
   rcases d with rfl | d
   ·exact A
   ·induction d with
    | one h=>exact v _ A _ h
    | more _ d K=>exact v _ K _ d
  ·intro w;have:=(h.on p (by simpa using w)).2.2
   rwa[B45]at this
 intro p G;split
 ·rename_i j;have B:=h.cnt p (by simpa using (b p).1 j);rw[B51,List.take_zero,A7 (by simp)]at B;rw[B,Int.add_zero]
  congr 1
  have C:D.Nodup:=by have:=h.nodup;rwa[B67]at this
  have d:∀x∈D,0<=x/\x<g.length:=fun x k=>by
   have:=h.on x (by simpa using k);exact⟨this.1,this.2.1⟩
  unfold VS wS;have e:(List.range g.length).countP (fun c=>L9 (V9 g s) c&&decide ((c:Int)∉([]:List Int)/\(p:Int)∈E9 g c))=(((List.range g.length).filter fun c=>L9 (V9 g s) c).map fun c:Nat=>(c:Int)).countP fun x=>decide ((p:Int)∈E9 g x.toNat):=by
   rw[List.countP_map,List.countP_filter];refine List.countP_congr fun c _=>?_;simp only[B84,not_false_eq_true,true_and,Function.comp_def,B45,B47,decide_eq_true_eq];exact And.comm
  rw[e];refine RD C ((List.nodup_range.filter _).map (fun i:Nat=>(i:Int)) fun _ _ y e=>y (Int.ofNat.inj e)) fun x=>?_;rw[List.mem_map];constructor
  ·intro k;have:=d x k;refine⟨x.toNat,List.mem_filter.2 ⟨List.mem_range.2 (by omega),(b _).2 (by rw[Int.toNat_of_nonneg this.1];exact k)⟩,by omega⟩
  ·rintro⟨c,E,rfl⟩;exact (b c).1 (List.mem_filter.1 E).2
 ·rename_i j;exact h.off p G fun w=>j ((b p).2 (by simpa using w))
theorem OInv.start{g:Graph}{c:List Bool}{f d:List Int}(j:f.length=g.length)(_hin:c.length=g.length)(i:∀p,p<g.length->H4 f p=if L9 c p=true then (wS g c [] p:Int) else -1)(h:HInv g f d g.length):OInv g c 0 0 f d [] where
 len:=j
 cnt:=fun p d e=>by rw[i p d,A6 e,List.take_zero,List.take_zero];simp
 off:=fun p d e=>by rw[i p d,e];rfl
 hpm:=fun p=>by
  rw[h.mem];constructor
  ·rintro⟨a,b⟩;refine⟨a,?_,by simp,b⟩;cases e:L9 c p
   ·rw[i p a,e]at b;simp at b
   ·rfl
  ·rintro⟨a,_,_,b⟩;exact⟨a,b⟩
 hpr:=h.rng
 hpn:=h.nodup
 heap:=h.heap
 outn:=List.nodup_nil
 outr:=fun _ h=>by cases h
def d9(b s:Str)(p:Nat):Option Nat:=if b=[]\/p>s.length\/Lib.index (s.drop p) b<0 then none else some (p+(Lib.index (s.drop p) b).toNat)
def fW(a s:Str):Nat->Nat->List Int->List Int
 | 0,_,out=>out
 | f+1,p,out=>match d9 a s p with
  | none=>out
  | some i=>fW a s f (i+a.length) (out++[(i:Int)])
def o9(a s:Str):List Int:=fW a s (s.length+2) 0 []
def m6(nd s:Str):Int:=(o9 nd s).length
theorem iH{a s:Str}{p i:Nat}(h:d9 a s p=some i):a≠[]/\p<=s.length/\p<=i/\i+a.length<=s.length:=by
 unfold d9 at h;split at h
 ·cases h
 ·rename_i b;simp only[not_or]at b;have c:=Lib.index_room (s.drop p) a (by omega);rw[B53]at c;have e:=Option.some.inj h;exact⟨b.1,by omega,by omega,by omega⟩
theorem sG{b s:Str}{f p i:Nat}{a:List Int}(c:s.length<f+p)(h:d9 b s p=some i):fW b s f p a=fW b s (f-1) (i+b.length) (a++[(i:Int)]):=by
 have:=iH h;obtain⟨f,rfl⟩:∃k,f=k+1:=⟨f-1,by omega⟩
 rw[fW,h];rfl
theorem jZ{b s:Str}{f p:Nat}{a:List Int}(h:d9 b s p=none):fW b s f p a=a:=by
 cases f with
 | zero=>rfl
 | succ f=>rw[fW,h]
theorem DP{c s:Str}:∀(f d p:Nat) (a:List Int),s.length<f+p->s.length<d+p->fW c s f p a=fW c s d p a
 | 0,d,p,a,h,_=>by
  have:d9 c s p=none:=by
   cases b:d9 c s p with
   | none=>rfl
   | some i=>have:=iH b;omega
  rw[jZ this,jZ this]
 | f+1,d,p,a,h,h'=>by
  cases b:d9 c s p with
  | none=>rw[jZ b,jZ b]
  | some i =>
   have e:=iH b;have g:0<c.length:=List.length_pos_iff.2 e.1;rw[sG h b,sG h' b];exact DP f (d-1) _ _ (by omega) (by omega)
theorem jB(b s:Str):(o9 b s).length<=s.length+2:=by
 have key:∀(f p:Nat) (a:List Int),(fW b s f p a).length<=a.length+f:=by
  intro f;induction f with
  | zero=>intro p a;exact Nat.le_refl _
  | succ f c =>
   intro p a;rw[fW];split
   ·omega
   ·rename_i i _;have:=c (i+b.length) (a++[(i:Int)]);rw[B48,List.length_singleton]at this;omega
 have:=key (s.length+2) 0 [];unfold o9;simpa using this
def R2(g:Graph)(c:Nat):List File:=(g[c]?.map (·.Files)).getD []
def R3(g:Graph)(c:Nat):List (List File):=if E9 g c=[] then [[]] else (E9 g c).map fun p=>R2 g p.toNat
def iI(l:List File)(p:Str):Str:=(L1 l p).getD []
def VT(t u:List File)(d:Delta):Str×Str:=(iI t d.Path,iI u d.Path)
def lX(t u:List File):List (Str×Str):=(i6 t u).map (VT t u)
def Q4(g:Graph)(c:Nat):List (List (Str×Str)):=(R3 g c).map fun t=>lX t (R2 g c)
def differs(a:Str)(x:Str×Str):Bool:=decide (m6 a x.1≠m6 a x.2)
def w9(f:Str×Str->Bool)(g:Graph)(c:Nat):Bool:=(Q4 g c).any fun l=>l.any f
def bD(g:Graph)(c:Int):Prop:=0<=c/\c<g.length
instance (g:Graph) (c:Int):Decidable (bD g c):=inferInstanceAs (Decidable (_/\_))
def p5(g:Graph)(s:Int):List Int×Int:=if P2 g≠0 then ([],P2 g) else if bD g s then (uS g [s],0) else ([],5)
def Y2(f:Str×Str->Bool)(g:Graph)(s:Int):List Int×Int:=if (p5 g s).2≠0 then ([],(p5 g s).2) else ((p5 g s).1.filter fun c=>w9 f g c.toNat,0)
def bX(g:Graph)(s:Int)(a:Str):List Int×Int:=if a=[] then ([],2) else if a.length>256 then ([],1) else Y2 (differs a) g s
def p6(nd:Str)(l:List (Str×Str)):Int:=(l.map fun x=>m6 nd x.2-m6 nd x.1).sum
def y6(g:Graph)(c:Int):Int:=if P2 g≠0 then P2 g else if bD g c then 0 else 5
def bY(g:Graph)(c:Int)(nd:Str):List Int×Int:=if y6 g c≠0 then ([],y6 g c) else ((Q4 g c.toNat).map (p6 nd),0)
def fX:Str×Str->Nat->Cell:=fun x j=>match j with
 | 0=>.v (.string ⟨x.1.toArray⟩)
 | _=>.v (.string ⟨x.2.toArray⟩)
abbrev jC:List (Str×Str)->Nat->Cell:=fun l _=>.list (Str×Str) 2 fX l
abbrev pPairs(l:List (Str×Str)):PV:=.one (.list (Str×Str) 2 fX l)
abbrev LW(l:List (List (Str×Str))):PV:=.one (.list (List (Str×Str)) 1 jC l)
section
structure Set4 where
 a:Int
 b:Int
 c:Int
 d:Int
 deriving DecidableEq
def IK(x y:Int):Int:=((x.toNat ||| y.toNat:Nat):Int)
def set0:Set4:=⟨0,0,0,0⟩
def Set4.with_(s:Set4)(c:Nat):Set4:=match c / 64 with
 | 0=>{ s with a:=IK s.a (2 ^ (c % 64)) }
 | 1=>{ s with b:=IK s.b (2 ^ (c % 64)) }
 | 2=>{ s with c:=IK s.c (2 ^ (c % 64)) }
 | _=>{ s with d:=IK s.d (2 ^ (c % 64)) }
def M7:Nat->Nat->Set4->Set4
 | 0,_,s=>s
 | n+1,c,s=>M7 n (c+1) (s.with_ c)
def Set4.through(s:Set4)(a b:Nat):Set4:=M7 (b+1-a) a s
def Set4.compl(s:Set4):Set4:=⟨18446744073709551615-s.a,18446744073709551615-s.b,18446744073709551615-s.c,18446744073709551615-s.d⟩
def Z5(s:Set4)(name:Str):Option Set4 :=
 if name=[97,108,112,104,97] then some ((s.through 97 122).through 65 90)
 else if name=[100,105,103,105,116] then some (s.through 48 57)
 else if name=[97,108,110,117,109] then some (((s.through 97 122).through 65 90).through 48 57)
 else if name=[117,112,112,101,114] then some (s.through 65 90)
 else if name=[108,111,119,101,114] then some (s.through 97 122)
 else if name=[115,112,97,99,101] then some ((s.through 9 13).with_ 32)
 else if name=[112,117,110,99,116] then some ((((s.through 33 47).through 58 64).through 91 96).through 123 126)
 else none
def M8(s:Set4):Prop:=(0<=s.a/\s.a<18446744073709551616)/\(0<=s.b/\s.b<18446744073709551616)/\(0<=s.c/\s.c<18446744073709551616)/\(0<=s.d/\s.d<18446744073709551616)
theorem uT{x:Int}(e:0<=x/\x<18446744073709551616)(k:Nat)(d:k<64):0<=IK x (2 ^ k)/\IK x (2 ^ k)<18446744073709551616:=by
 unfold IK;have b:x.toNat<2 ^ 64:=by omega
 have c:((2:Int) ^ k).toNat<2 ^ 64:=by
  have:((2:Int) ^ k).toNat=2 ^ k:=by
   rw[show ((2:Int) ^ k)=((2 ^ k:Nat):Int) by simp];exact B45 _
  rw[this];exact Nat.pow_lt_pow_right (by decide) d
 have:=Nat.or_lt_two_pow b c;omega
theorem pM{s:Set4}(h:M8 s)(c:Nat):M8 (s.with_ c):=by
 obtain⟨a,b,d,e⟩:=h;have f:c % 64<64:=Nat.mod_lt _ (by decide);unfold Set4.with_;split
 ·exact⟨uT a _ f,b,d,e⟩
 ·exact⟨a,uT b _ f,d,e⟩
 ·exact⟨a,b,uT d _ f,e⟩
 ·exact⟨a,b,d,uT e _ f⟩
theorem bE:∀(n c:Nat) {s:Set4},M8 s->M8 (M7 n c s)
 | 0,_,_,h=>h
 | n+1,c,_,h=>bE n (c+1) (pM h c)
theorem L8{s:Set4}(h:M8 s)(a b:Nat):M8 (s.through a b):=bE _ _ h
theorem fY:∀(n c:Nat) (s:Set4),M7 (n+1) c s=(M7 n c s).with_ (c+n)
 | 0,_,_=>rfl
 | n+1,c,s=>by
  rw[M7,fY n (c+1),M7,show c+1+n=c+(n+1) by omega]
theorem DQ{s t:Set4}(h:M8 s){n:Str}(a:Z5 s n=some t):M8 t:=by
 unfold Z5 at a
 repeat' split at a
 all_goals first
  | (rw[<-Option.some.inj a];(repeat (with_reducible first | apply L8 | apply pM));exact h)
  | exact absurd a (by simp)
structure Node where
 Kind:Int
 Set:Set4
 Min:Int
 Max:Int
 Kids:List Int
 deriving DecidableEq
def N7:Node->Nat->Cell:=fun n j=>match j with
 | 0=>.v (.int .i64 n.Kind)
 | 1=>.v (.int .u64 n.Set.a)
 | 2=>.v (.int .u64 n.Set.b)
 | 3=>.v (.int .u64 n.Set.c)
 | 4=>.v (.int .u64 n.Set.d)
 | 5=>.v (.int .i64 n.Min)
 | 6=>.v (.int .i64 n.Max)
 | _=>.list Int 1 D2 n.Kids
abbrev Q5(s:Set4):PV:=.agg [.v (.int .u64 s.a),.v (.int .u64 s.b),.v (.int .u64 s.c),.v (.int .u64 s.d)]
abbrev aG(n:Node):PV:=.agg [.v (.int .i64 n.Kind),.v (.int .u64 n.Set.a),.v (.int .u64 n.Set.b),.v (.int .u64 n.Set.c),.v (.int .u64 n.Set.d),.v (.int .i64 n.Min),.v (.int .i64 n.Max),.list Int 1 D2 n.Kids]
abbrev N9(l:List Node):PV:=.one (.list Node 8 N7 l)
def J6:Node:=⟨0,set0,0,0,[]⟩
structure PSt where
 at_:Nat
 depth:Nat
 nodes:List Node
abbrev Ps(α:Type):=Except Int (PSt×α)
section
variable (s:Str)
def M9(c:UInt8)(st:PSt):Bool:=decide (s[st.at_]?=some c)
def PSt.skip(st:PSt)(n:Nat):PSt:={ st with at_:=st.at_+n }
def eM(c:UInt8)(st:PSt):PSt:=if M9 s c st=true then st.skip 1 else st
def dR(st:PSt):Ps UInt8:=match s[st.at_]? with
 | none=>.error 40
 | some c=>.ok (st.skip 1,c)
def U8(n:Node)(st:PSt):PSt×Int:=({ st with nodes:=st.nodes++[n] },st.nodes.length)
def p7(a:Int)(kids:List Int)(st:PSt):PSt×Int:=match kids with
 | []=>U8 J6 st
 | [k]=>(st,k)
 | _=>U8 { J6 with Kind:=a,Kids:=kids } st
def fZ(t:Set4)(st:PSt):PSt×Int:=U8 { J6 with Kind:=1,Set:=t } st
def x5(a b:UInt8)(l:Str):Bool:=decide (l[0]?=some a/\l[1]?=some b)
def c9(t:Set4)(st:PSt):Ps Set4 :=
 let rest:=s.drop st.at_
 if x5 91 58 rest=true then
  let r:=rest.drop 2
  if Lib.index r [58,93]<0 then .error 40
  else match Z5 t (r.take (Lib.index r [58,93]).toNat) with
   | none=>.error 40
   | some b=>.ok (st.skip (4+(Lib.index r [58,93]).toNat),b)
 else match s[st.at_]? with
  | none=>.error 40
  | some c =>
   let r:=s.drop (st.at_+1)
   if r.length<2\/r[0]?≠some 45\/r[1]?=some 93 then .ok (st.skip 1,t.with_ c.toNat)
   else if (r.getD 1 0).toNat<c.toNat then .error 40
   else .ok (st.skip 3,t.through c.toNat (r.getD 1 0).toNat)
def j9:Nat->Set4->PSt->Ps Set4
 | 0,_,_=>.error 0
 | f+1,t,st=>if M9 s 93 st=true then .ok (st.skip 1,t) else match c9 s t st with
  | .error e=>.error e
  | .ok (st',t')=>j9 f t' st'
def l5(f:Nat)(st:PSt):Ps Int :=
 let st1:=st.skip 1;let a:=eM s 94 st1
 match c9 s set0 a with
 | .error e=>.error e
 | .ok (st3,t)=>match j9 s f t st3 with
  | .error e=>.error e
  | .ok (st4,t')=>.ok (fZ (if M9 s 94 st1=true then t'.compl else t') st4)
def U2(a:Int)(st:PSt):Ps Int :=
 let r:=U8 { J6 with Kind:=a } (st.skip 1)
 match s[r.1.at_]? with
 | some c=>if c∈([42,43,63,123]:Str) then .error 40 else .ok r
 | none=>.ok r
def jD(a:Str->Nat->Option (Int×Nat))(st:PSt):Ps Int:=match a s st.at_ with
 | none=>.error 40
 | some (n,e)=>if n>100 then .error 40 else .ok ({ st with at_:=e },n)
def W4(d:Str->Nat->Option (Int×Nat))(st:PSt):Ps (Int×Int):=match jD s d st with
 | .error e=>.error e
 | .ok (st1,least) =>
  let fin:=fun (st:PSt) (a:Int)=>(if M9 s 125 st=false\/(0<=a/\a<least) then .error 40 else .ok (st.skip 1,(least,a)):Ps (Int×Int))
  if M9 s 44 st1=true then
   let b:=st1.skip 1
   match s[b.at_]? with
   | none=>fin b (-1)
   | some c=>if c=125 then fin b (-1) else match jD s d b with
    | .error e=>.error e
    | .ok (st3,a)=>fin st3 a
  else fin st1 least
def V5(a:Str->Nat->Option (Int×Nat))(st:PSt):Ps (Option (Int×Int)) :=
 if M9 s 42 st=true then .ok (st.skip 1,some (0,-1))
 else if M9 s 43 st=true then .ok (st.skip 1,some (1,-1))
 else if M9 s 63 st=true then .ok (st.skip 1,some (0,1))
 else if M9 s 123 st=true then match W4 s a (st.skip 1) with
  | .error e=>.error e
  | .ok (st',b)=>.ok (st',some b)
 else .ok (st,none)
def R4(st:PSt):Ps Int:=match dR s st with
 | .error e=>.error e
 | .ok (st',c)=>.ok (fZ (set0.with_ c.toNat) st')
def cN(st:PSt):Ps Int:=R4 s (st.skip 1)
def zD(st:PSt):PSt×Int:=fZ set0.compl (st.skip 1)
def R5(a:Str->Nat->Option (Int×Nat))(r:Ps Int):Ps Int:=match r with
 | .error e=>.error e
 | .ok (st,atom)=>match V5 s a st with
  | .error e=>.error e
  | .ok (st',none)=>.ok (st',atom)
  | .ok (st',some (least,most))=>.ok (U8 { J6 with Kind:=6,Min:=least,Max:=most,Kids:=[atom] } st')
mutual
def bF(a:Str->Nat->Option (Int×Nat)):Nat->PSt->Ps Int
 | 0,_=>.error 0
 | f+1,st=>match s8 a f st [] with
  | .error e=>.error e
  | .ok (st',k)=>Y3 a f st' [k]
def Y3(a:Str->Nat->Option (Int×Nat)):Nat->PSt->List Int->Ps Int
 | 0,_,_=>.error 0
 | f+1,st,kids=>if M9 s 124 st=true then match s8 a f (st.skip 1) [] with
   | .error e=>.error e
   | .ok (st',k)=>Y3 a f st' (kids++[k])
  else .ok (p7 5 kids st)
def s8(a:Str->Nat->Option (Int×Nat)):Nat->PSt->List Int->Ps Int
 | 0,_,_=>.error 0
 | f+1,st,kids=>match s[st.at_]? with
  | none=>.ok (p7 4 kids st)
  | some c=>if c=124\/c=41 then .ok (p7 4 kids st) else match Z6 a f st c with
   | .error e=>.error e
   | .ok (st',k)=>s8 a f st' (kids++[k])
def Z6(a:Str->Nat->Option (Int×Nat)):Nat->PSt->UInt8->Ps Int
 | 0,_,_=>.error 0
 | f+1,st,c =>
  if c=94 then U2 s 2 st
  else if c=36 then U2 s 3 st
  else if c=40 then R5 s a (S5 a f st)
  else if c=91 then R5 s a (l5 s (s.length+2) st)
  else if c=46 then R5 s a (.ok (zD st))
  else if c=92 then R5 s a (cN s st)
  else if c∈([42,43,63,123]:Str) then .error 40
  else R5 s a (R4 s st)
def S5(a:Str->Nat->Option (Int×Nat)):Nat->PSt->Ps Int
 | 0,_=>.error 0
 | f+1,st=>if st.depth=50 then .error 1 else match bF a f { st with at_:=st.at_+1,depth:=st.depth+1 } with
  | .error e=>.error e
  | .ok (st',n)=>if M9 s 41 st'=true then .ok ({ st' with at_:=st'.at_+1,depth:=st'.depth-1 },n) else .error 40
end
def p8(a:Str->Nat->Option (Int×Nat))(f:Nat):List Node×Int :=
 if s.length>256 then ([],1) else match bF s a f ⟨0,0,[]⟩ with
  | .error e=>([],e)
  | .ok (st,_)=>if st.at_<s.length then ([],40) else (st.nodes,0)
end
def m7(n:Node)(i:Int):Bool:=n.Kids.all (fun k=>decide (0<=k/\k<i)) &&
 (if n.Kind=0\/n.Kind=1\/n.Kind=2\/n.Kind=3 then decide (n.Kids.length=0)
 else if n.Kind=4\/n.Kind=5 then decide (2<=n.Kids.length)
 else if n.Kind=6 then decide (n.Kids.length=1/\0<=n.Min/\n.Min<=100/\(n.Max = -1\/n.Min<=n.Max/\n.Max<=100)) else false)
def eF(l:List Node):Int:=if l.length=0\/l.length>4000 then 2 else if (List.range l.length).all (fun i=>m7 (l.getD i J6) i)=true then 0 else 2
def S9(a b:Int):Int:=if b<a then b else a
def n6(w:List Int):Int->List Int->Int
 | acc,[]=>acc
 | acc,k::r=>n6 w (S9 (acc+H4 w k.toNat) 4001) r
def T0(n:Node)(w:List Int):Int :=
 let a:=n6 w 0 n.Kids
 if n.Kind=4 then a
 else if n.Kind=5 then S9 (a+n.Kids.length-1) 4001
 else if n.Kind=6 then (if n.Max<0 then S9 (n.Min*a+a+1) 4001 else S9 (n.Min*a+(n.Max-n.Min)*(a+1)) 4001)
 else 1
def Z7:List Node->Nat->List Int->List Int
 | [],_,w=>w
 | n::r,i,w=>Z7 r (i+1) (w.set i (T0 n w))
def D9(l:List Node):List Int:=Z7 l 0 (List.replicate l.length 0)
structure State where
 Kind:Int
 Set:Set4
 Next:Int
 Other:Int
 deriving DecidableEq
def gB:State->Nat->Cell:=fun n j=>match j with
 | 0=>.v (.int .i64 n.Kind)
 | 1=>.v (.int .u64 n.Set.a)
 | 2=>.v (.int .u64 n.Set.b)
 | 3=>.v (.int .u64 n.Set.c)
 | 4=>.v (.int .u64 n.Set.d)
 | 5=>.v (.int .i64 n.Next)
 | _=>.v (.int .i64 n.Other)
structure Auto where
 States:List State
 Start:Int
 deriving DecidableEq
abbrev VU(n:State):PV:=.agg [.v (.int .i64 n.Kind),.v (.int .u64 n.Set.a),.v (.int .u64 n.Set.b),.v (.int .u64 n.Set.c),.v (.int .u64 n.Set.d),.v (.int .i64 n.Next),.v (.int .i64 n.Other)]
abbrev YG(l:List State):PV:=.one (.list State 7 gB l)
abbrev iJ(a:Auto):PV:=.agg [.list State 7 gB a.States,.v (.int .i64 a.Start)]
def T7:State:=⟨0,set0,0,0⟩
abbrev Bld:=List State×Int
def addS(q:State)(st:List State):Bld:=(st++[q],st.length)
section
variable (ns:List Node) (w:List Int)
mutual
def I9:Nat->Int->Int->List State->Option Bld
 | 0,_,_,_=>none
 | f + 1,i,next,st =>
  if H4 w i.toNat=0 then some (st,next)
  else
   let n:=ns.getD i.toNat J6
   if n.Kind=1 then some (addS { T7 with Kind:=0,Set:=n.Set,Next:=next } st)
   else if n.Kind=2 then some (addS { T7 with Kind:=2,Next:=next } st)
   else if n.Kind=3 then some (addS { T7 with Kind:=3,Next:=next } st)
   else if n.Kind=4 then aK f n.Kids.reverse next st
   else if n.Kind=5 then match n.Kids.reverse with
    | []=>none
    | k::r=>match I9 f k next st with
     | none=>none
     | some (st',start)=>y7 f r next start st'
   else if n.Kind=6 then
    let c:=n.Kids.getD 0 0
    if n.Max<0 then
     let b:Int:=st.length
     match I9 f c b (st++[{ T7 with Kind:=1,Other:=next }]) with
     | none=>none
     | some (st',start)=>t6 f c n.Min.toNat b (st'.set b.toNat { (st'.getD b.toNat T7) with Next:=start })
    else match s9 f c (n.Max-n.Min).toNat next next st with
     | none=>none
     | some (st',next')=>t6 f c n.Min.toNat next' st'
   else some (st,next)
def aK:Nat->List Int->Int->List State->Option Bld
 | 0,_,_,_=>none
 | _+1,[],next,st=>some (st,next)
 | f+1,k::r,next,st=>match I9 f k next st with
  | none=>none
  | some (st',next')=>aK f r next' st'
def y7:Nat->List Int->Int->Int->List State->Option Bld
 | 0,_,_,_,_=>none
 | _+1,[],_,start,st=>some (st,start)
 | f+1,k::r,next,start,st=>match I9 f k next st with
  | none=>none
  | some (st',b)=>y7 f r next st'.length (st'++[{ T7 with Kind:=1,Next:=b,Other:=start }])
def s9:Nat->Int->Nat->Int->Int->List State->Option Bld
 | 0,_,_,_,_,_=>none
 | _+1,_,0,_,next,st=>some (st,next)
 | f+1,kid,m+1,last,next,st=>match I9 f kid next st with
  | none=>none
  | some (st',b)=>s9 f kid m last st'.length (st'++[{ T7 with Kind:=1,Next:=b,Other:=last }])
def t6:Nat->Int->Nat->Int->List State->Option Bld
 | 0,_,_,_,_=>none
 | _+1,_,0,next,st=>some (st,next)
 | f+1,kid,m+1,next,st=>match I9 f kid next st with
  | none=>none
  | some (st',next')=>t6 f kid m next' st'
end
end
end
def P5(q:State)(start fin:Bool):List Int :=
 if q.Kind=1 then [q.Next,q.Other] else if q.Kind=2 then (if start=true then [q.Next] else []) else if q.Kind=3 then (if fin=true then [q.Next] else []) else []
def U9(n:Int)(q:State):Bool :=
 if q.Kind=0\/q.Kind=2\/q.Kind=3 then decide (0<=q.Next/\q.Next<n)
 else if q.Kind=1 then decide (0<=q.Next/\q.Next<n/\0<=q.Other/\q.Other<n)
 else decide (q.Kind=4)
def LX(a:Auto):Int:=if a.States.length<1\/a.States.length>8000\/a.Start<0\/a.Start>=a.States.length then 2 else if a.States.all (U9 a.States.length)=true then 0 else 2
structure Thread where
 state:Int
 from_:Int
 deriving DecidableEq
def r7:Thread->Nat->Cell:=fun t j=>match j with
 | 0=>.v (.int .i64 t.state)
 | _=>.v (.int .i64 t.from_)
abbrev Mach:=List Thread×List Bool
section
variable (a:Auto) (s:Str)
def O8(i:Int):State:=a.States.getD i.toNat T7
def eN(at_:Nat)(fr:Int):Nat->List Int->Mach->Mach
 | 0,_,m=>m
 | f+1,opn,m=>match opn.getLast? with
  | none=>m
  | some i=>if L9 m.2 i.toNat=true then eN at_ fr f opn.dropLast m
   else eN at_ fr f (opn.dropLast++P5 (O8 a i) (decide (at_=0)) (decide (at_=s.length))) (m.1++[⟨i,fr⟩],m.2.set i.toNat true)
def uU(at_:Nat)(t:Thread)(m:Mach):Mach:=eN a s at_ t.from_ (3*a.States.length+2) [t.state] m
def T3:List Thread->Int
 | [] => -1
 | t::r=>if (O8 a t.state).Kind=4 then t.from_ else T3 r
def t7(q:Set4)(c:Nat):Int:=match c / 64 with
 | 0=>q.a.fdiv (2 ^ (c % 64)) % 2
 | 1=>q.b.fdiv (2 ^ (c % 64)) % 2
 | 2=>q.c.fdiv (2 ^ (c % 64)) % 2
 | _=>q.d.fdiv (2 ^ (c % 64)) % 2
def jE(at_:Nat)(c:Nat):List Thread->Mach->Mach
 | [],m=>m
 | t::r,m=>jE at_ c r (if (O8 a t.state).Kind=0/\t7 (O8 a t.state).Set c=1 then uU a s at_ ⟨(O8 a t.state).Next,t.from_⟩ m else m)
def uV(at_:Nat)(m:Mach):Mach:=jE a s (at_+1) (s.getD at_ 0).toNat m.1 ([],List.replicate a.States.length false)
def gC(fr:Int):List Thread->List Thread
 | []=>[]
 | t::r=>if t.from_>fr then [] else t::gC fr r
def jF:Nat->Nat->Mach->(Int×Int)->Bool->(Int×Int)×Bool
 | 0,_,_,b,fd=>(b,fd)
 | f+1,at_,m,b,fd =>
  let m1:=if fd=true then m else uU a s at_ ⟨a.Start,at_⟩ m
  let i:=T3 a m1.1;let d:=if 0<=i then (i,(at_:Int)) else b
  let c:=if 0<=i then true else fd
  let e:Mach:=if 0<=i then (gC i m1.1,m1.2) else m1
  if at_=s.length\/(c=true/\e.1=[]) then (d,c) else jF f (at_+1) (uV a s at_ e) d c
def gF(b:Nat):(Int×Int)×Bool:=jF a s (s.length+1-b) b ([],List.replicate a.States.length false) (0,0) false
end
structure AG (A:Auto):Prop where
 len:1<=A.States.length/\A.States.length<=8000
 start:0<=A.Start/\A.Start<A.States.length
 good:∀q∈A.States,U9 A.States.length q=true
theorem AG.check{A:Auto}(h:AG A):LX A=0:=by
 obtain⟨a,b⟩:=h.len;obtain⟨c,d⟩:=h.start;unfold LX;rw[A7 (by omega),A6 (List.all_eq_true.2 h.good)]
theorem uW{A:Auto}{i:Int}(h:0<=i/\i<A.States.length):A.States[i.toNat]?=some (O8 A i):=by
 rw[O8,B46,B44 (show i.toNat<A.States.length by omega)];rfl
theorem kA{A:Auto}(a:AG A){i:Int}(h:0<=i/\i<A.States.length):U9 A.States.length (O8 A i)=true:=a.good _ (B52 (uW h))
theorem bZ{n:Int}{q:State}(h:U9 n q=true) :
  ((q.Kind=0\/q.Kind=2\/q.Kind=3)/\0<=q.Next/\q.Next<n)\/(q.Kind=1/\(0<=q.Next/\q.Next<n)/\0<=q.Other/\q.Other<n)\/q.Kind=4:=by
 unfold U9 at h;split at h
 ·rename_i a;exact .inl ⟨a,A1 h⟩
 ·split at h
  ·rename_i a;have:=A1 h;exact .inr (.inl ⟨a,⟨this.1,this.2.1⟩,this.2.2⟩)
  ·exact .inr (.inr (A1 h))
theorem uX{A:Auto}(c:AG A){i:Int}(h:0<=i/\i<A.States.length)(b e:Bool):(P5 (O8 A i) b e).length<=2/\∀k∈P5 (O8 A i) b e,0<=k/\k<A.States.length:=by
 have d:=bZ (kA c h);unfold P5
 repeat' split
 all_goals refine⟨by simp,fun k a=>?_⟩
 all_goals simp only[B66,B84,or_false]at a
 ·rcases a with rfl | rfl
  ·omega
  ·omega
 ·subst a;omega
 ·subst a;omega
structure MG (A:Auto) (m:Mach):Prop where
 sl:m.2.length=A.States.length
 cnt:m.1.length+m.2.count false<=A.States.length
 st:∀t∈m.1,0<=t.state/\t.state<A.States.length
theorem IL{sn:List Bool}:∀{i:Nat},sn[i]?=some false->(sn.set i true).count false+1=sn.count false:=by
 induction sn with
 | nil=>intro i h;cases h
 | cons b r a =>
  intro i h;cases i with
  | zero =>
   rw[List.getElem?_cons_zero]at h;cases h;simp
  | succ i =>
   rw[List.getElem?_cons_succ]at h;have:=a h;rw[List.set_cons_succ,List.count_cons,List.count_cons];omega
theorem MG.first(A:Auto):MG A ([],List.replicate A.States.length false):=⟨by simp,by simp,fun _ h=>by cases h⟩
theorem VV{sn:List Bool}{i:Nat}(h:i<sn.length):sn[i]?=some (L9 sn i):=by
 unfold L9;rw[B44 h];rfl
theorem MG.push{A:Auto}{m:Mach}(h:MG A m){i:Int}(c:0<=i/\i<A.States.length)(fr:Int)(d:L9 m.2 i.toNat=false):MG A (m.1++[⟨i,fr⟩],m.2.set i.toNat true):=by
 have b:=h.sl;have e:=IL (sn:=m.2) (i:=i.toNat) (by rw[<-d];exact VV (by omega));have f:=h.cnt;refine⟨by dsimp only;rw[B65];exact b,by dsimp only;rw[B48,List.length_singleton];omega,fun t a=>?_⟩;rcases List.mem_append.1 a with a | a
 ·exact h.st t a
 ·rw[List.mem_singleton.1 a];exact c
section
variable (A:Auto) (s:Str)
def RE(a:List Int)(m:Mach):Nat:=3*m.2.count false+a.length
theorem IM(a:Nat)(fr:Int)(f:Nat)(m:Mach):eN A s a fr f [] m=m:=by
 cases f<;>rfl
theorem DR{a:Nat}{fr:Int}{f:Nat}{b:List Int}{i:Int}{m:Mach}(h:b.getLast?=some i)(c:L9 m.2 i.toNat=true):eN A s a fr (f+1) b m=eN A s a fr f b.dropLast m:=by
 rw[eN,h];simp only[c,if_true]
theorem IN{a:Nat}{fr:Int}{f:Nat}{b:List Int}{i:Int}{m:Mach}(h:b.getLast?=some i)(c:L9 m.2 i.toNat=false) :
  eN A s a fr (f+1) b m=eN A s a fr f (b.dropLast++P5 (O8 A i) (decide (a=0)) (decide (a=s.length))) (m.1++[⟨i,fr⟩],m.2.set i.toNat true):=by
 rw[eN,h];simp only[c,Bool.false_eq_true,if_false]
theorem uY{a:List Int}{i:Int}(h:a.getLast?=some i):a≠[]/\a[a.length-1]?=some i/\i∈a:=by
 have b:a≠[]:=fun e=>by rw[e]at h;cases h
 rw[List.getLast?_eq_getElem?]at h;exact⟨b,h,B52 h⟩
variable {A}
theorem sH(e:AG A){a:Nat}{fr:Int}:∀(f:Nat) (b:List Int) (m:Mach),(∀k∈b,0<=k/\k<A.States.length)->MG A m->MG A (eN A s a fr f b m)
 | 0,_,_,_,h=>h
 | f+1,b,m,ho,h=>by
  cases d:b.getLast? with
  | none=>rw[eN,d];exact h
  | some i =>
   have l:=ho i (uY d).2.2;have j:∀k∈b.dropLast,0<=k/\k<A.States.length:=fun k c=>ho k (List.dropLast_subset _ c);cases g:L9 m.2 i.toNat
   ·rw[IN A s d g];refine sH e f _ _ (fun k c=>?_) (h.push l fr g);rcases List.mem_append.1 c with c | c
    ·exact j k c
    ·exact (uX e l _ _).2 k c
   ·rw[DR A s d g];exact sH e f _ _ j h
theorem wT(b:AG A){a:Nat}{t:Thread}(d:0<=t.state/\t.state<A.States.length){m:Mach}(h:MG A m):MG A (uU A s a t m) :=
 sH s b _ _ _ (fun k c=>by rw[List.mem_singleton.1 c];exact d) h
theorem yL(y:AG A){a:Nat}{fr:Int}{f:Nat}{b:List Int}{m R:Mach}(q:MG A m)(v:∀k∈b,0<=k/\k<A.States.length)(z:RE b m<f)(l:eN A s a fr f b m=R){i:Int}(p:b.getLast?=some i) :
  ∃e c j,f=e+1/\eN A s a fr e c j=R/\RE c j<e/\RE c j<RE b m/\MG A j/\(∀k∈c,0<=k/\k<A.States.length) /\
   (L9 m.2 i.toNat=true->c=b.dropLast/\j=m)/\(L9 m.2 i.toNat=false->c=b.dropLast++P5 (O8 A i) (decide (a=0)) (decide (a=s.length))/\j=(m.1++[⟨i,fr⟩],m.2.set i.toNat true)):=by
 obtain⟨r,C,o⟩:=uY p;have u:=v i o;have w:0<b.length:=List.length_pos_iff.2 r;have d:b.dropLast.length=b.length-1:=List.length_dropLast;have t:∀k∈b.dropLast,0<=k/\k<A.States.length:=fun k g=>v k (List.dropLast_subset _ g);obtain⟨e,rfl⟩:∃e,f=e+1:=⟨f-1,by omega⟩
 unfold RE at z;cases n:L9 m.2 i.toNat
 ·have B:=IL (sn:=m.2) (i:=i.toNat) (by rw[<-n];exact VV (by rw[q.sl];omega));have x:=uX y u (decide (a=0)) (decide (a=s.length));rw[IN A s p n]at l;refine⟨e,_,_,rfl,l,?_,?_,q.push u fr n,(fun k g=>?_),⟨(fun h=>by cases h),fun _=>⟨rfl,rfl⟩⟩⟩
  ·unfold RE;rw[B48,d];dsimp only;omega
  ·unfold RE;rw[B48,d];dsimp only;omega
  ·rcases List.mem_append.1 g with g | g
   ·exact t k g
   ·exact x.2 k g
 ·rw[DR A s p n]at l;refine⟨e,_,_,rfl,l,?_,?_,q,t,⟨(fun _=>⟨rfl,rfl⟩),fun h=>by cases h⟩⟩
  ·unfold RE;rw[d];omega
  ·unfold RE;rw[d];omega
theorem yM(b:AG A){a c:Nat}:∀(d:List Thread) (m:Mach),(∀t∈d,0<=t.state/\t.state<A.States.length)->MG A m->MG A (jE A s a c d m)
 | [],_,_,h=>h
 | t::r,m,ht,h=>by
  rw[jE];refine yM b r _ (fun x e=>ht x (List.mem_cons_of_mem _ e)) ?_;split
  ·rename_i f;refine wT s b ?_ h;have:=bZ (kA b (ht t (List.mem_cons_self ..)));dsimp only;omega
  ·exact h
theorem DT(b:AG A){a:Nat}{m:Mach}(h:MG A m):MG A (uV A s a m):=yM s b _ _ h.st (MG.first A)
theorem sJ{fr:Int}:∀{th:List Thread} {i:Nat},(∀t∈th.take i,t.from_<=fr)->(∀t,th[i]?=some t->t.from_>fr)->gC fr th=th.take i
 | [],i,_,_=>by simp[gC]
 | t::r,0,_,h2=>by
  have:=h2 t rfl;unfold gC;rw[A6 this];rfl
 | t::r,i+1,h1,h2=>by
  have c:=h1 t (by simp);have b:=sJ (fr:=fr) (th:=r) (i:=i) (fun x a=>h1 x (by rw[List.take_succ_cons];exact List.mem_cons_of_mem _ a)) (fun x a=>h2 x a);rw[gC,A7 (by omega),List.take_succ_cons,b]
theorem RF(fr:Int):∀a:List Thread,(gC fr a).length<=a.length/\∀t∈gC fr a,t∈a
 | []=>⟨Nat.le_refl _,fun _ h=>h⟩
 | t::r=>by
  have c:=RF fr r;unfold gC;split
  ·exact⟨Nat.zero_le _,fun _ h=>by cases h⟩
  ·refine⟨by rw[B49,B49];omega,fun x b=>?_⟩;rcases List.mem_cons.1 b with rfl | b
   ·simp
   ·exact List.mem_cons_of_mem _ (c.2 x b)
theorem MG.keep{m:Mach}(h:MG A m)(fr:Int):MG A (gC fr m.1,m.2):=by
 have a:=RF fr m.1;have c:=h.cnt;exact⟨h.sl,by dsimp only;omega,fun t b=>h.st t (a.2 t b)⟩
end
end Go.AL
attribute [local semireducible] Go.AL.Neu Go.AL.Eff Go.AL.EffV Go.AL.WpL Go.AL.WpC Go.AL.FnOk Go.AL.LexD Go.AL.Sees Go.AL.RetOk Go.AL.FnIo Go.AL.Met Go.AL.RetS
namespace Go.AL
open Go Go.RowKit
set_option linter.unusedVariables false
variable {P:Program}{dst:Option Tmp}{ty:TypeId}{pos:String}{af:Array Edge}{gd:Option (Nat×Bool)}{fr:Fr}{ob:Obs}{nt:Nat}
theorem T4{x y:Operand}{t e:TypeId}{n a k off m:Nat}{h:IntKind}{i:Int}[ht:TyArr P t e n a](c:opv fr x=some (.s (.one (.ref k off))))(g:opv fr y=some (I1 (.int h i)))(b:i=(m:Int))(l:m<n) :
  Neu P ⟨dst,.indexAddr t x y,ty,pos,af,gd⟩ fr ob (fun j=>j=.s (.one (.ref k (off+m*a)))):=by
 subst b;exact bR c g (by omega) (by omega)
theorem pN{ops:Array Oper}{rest:List Oper}{Q:Post}{d:Nat}{z:Op}{ty:TypeId}{pos:String}{af:Array Edge}{j t:Nat}{b:Bool}(q:(ops[j]?).bind (·.dst)=some t)(m:Nat.blt t nt=true)(r:D4 fr t=some .un)(o:Nat.blt d nt=true)
  (k:WpL P nt ops rest ((d,.un)::fr) ob Q):WpL P nt ops (⟨some d,z,ty,pos,af,some (j,b)⟩::rest) fr ob Q:=by
 intro S G a w h f;have g:d<S.nt:=by rw[h];simpa using o
 have p:=k S G _ w h (f.put (s:=.un) (v:=undef) g rfl);have c:t<a.tmps.size:=by rw[f.nt,h];simpa using m
 have x:=(Wants.un (b:=b)).yields (f.fact (by rw[<-f.nt];exact c) r) q c rfl;unfold wpList;rw[A7 (by unfold Region.wanted;simp only;rw[x];simp)];exact p
theorem YH{c m:Nat}(a:c<256)(h:c / 64=m):IntKind.u8.wrap ((c:Int).tdiv 64)=(m:Int):=by
 rw[Int.tdiv_eq_ediv_of_nonneg (by omega)];simp[IntKind.wrap,IntKind.signed,IntKind.bits];omega
theorem YI(c:Nat):min ((c:Int).tmod 64).toNat IntKind.u64.bits=c % 64:=by
 rw[Int.tmod_eq_emod_of_nonneg (by omega)];simp only[IntKind.bits];omega
theorem DU(x:Int):IntKind.u64.wrap ((BitVec.ofInt IntKind.u64.bits x &&& BitVec.ofInt IntKind.u64.bits 1).toNat:Int)=x % 2:=by
 have b:(BitVec.ofInt IntKind.u64.bits 1).toNat=1:=by decide
 rw[BitVec.toNat_and,b,Nat.and_one_is_mod,BitVec.toNat_ofInt,show ((2 ^ IntKind.u64.bits:Nat):Int)=18446744073709551616 by rfl];simp[IntKind.wrap,IntKind.signed,IntKind.bits];omega
def F8(s:Str)(i:Nat):Option (Int×Nat):=(dQ (s.drop i)).map fun p=>((p.1:Int),i+p.2)
theorem digs_le(s:Str):(M5 s).length<=s.length:=(List.takeWhile_sublist _).length_le
theorem numF_le{s:Str}{i e:Nat}{n:Int}(f:i<=s.length)(h:F8 s i=some (n,e)):i<e/\e<=s.length/\0<=n:=by
 unfold F8 at h;cases a:dQ (s.drop i) with
 | none=>rw[a]at h;cases h
 | some p =>
  obtain⟨m,k⟩:=p;rw[a]at h;cases h;unfold dQ at a;split at a
  ·cases a
  ·rename_i b;cases a;have c:=digs_le (s.drop i);rw[B53]at c;have d:0<(M5 (s.drop i)).length:=List.length_pos_iff.2 fun e=>b (.inl e);omega
def DV(l:List Node):Prop:=∀(i:Nat) (n:Node),l[i]?=some n->m7 n i=true
theorem A93{l:List Node}{n:Node}(h:DV l)(f:m7 n l.length=true):DV (l++[n]):=fun i x a=>by
 rw[List.getElem?_append]at a;split at a
 ·exact h i x a
 ·rename_i d;obtain⟨c,b⟩:=List.getElem?_eq_some_iff.1 a;simp only[List.length_singleton]at c;have e:i=l.length:=by omega
  subst e;simp at b;rw[<-b];exact f
section
variable (s:Str)
abbrev sK(st:PSt)(k:Int):Prop:=0<=k/\k<st.nodes.length
structure Gr (a b:Nat) (st st':PSt):Prop where
 at_:st.at_<=st'.at_
 len:st'.at_<=s.length
 dep:st'.depth=st.depth
 cnt:st'.nodes.length+st.at_+a<=st.nodes.length+st'.at_+b
 more:st.nodes.length<=st'.nodes.length
 ok:DV st.nodes->DV st'.nodes
variable {s}
theorem Gr.trans{a b c d:Nat}{x y z:PSt}(h:Gr s a b x y)(g:Gr s c d y z):Gr s (a+c) (b+d) x z where
 at_:=Nat.le_trans h.at_ g.at_
 len:=g.len
 dep:=g.dep.trans h.dep
 cnt:=by have:=h.cnt;have:=g.cnt;omega
 more:=Nat.le_trans h.more g.more
 ok:=fun k=>g.ok (h.ok k)
theorem Gr.le{a b c d:Nat}{x y:PSt}(h:Gr s a b x y)(e:c+b<=a+d):Gr s c d x y where
 at_:=h.at_
 len:=h.len
 dep:=h.dep
 cnt:=by have:=h.cnt;omega
 more:=h.more
 ok:=h.ok
theorem Gr.refl{x:PSt}(h:x.at_<=s.length):Gr s 0 0 x x:=⟨Nat.le_refl _,h,rfl,by omega,Nat.le_refl _,fun h=>h⟩
theorem K6{x:PSt}(k:Nat)(h:x.at_+k<=s.length):Gr s k 0 x (x.skip k):=⟨Nat.le_add_right _ _,h,rfl,by show x.nodes.length+x.at_+k<=x.nodes.length+(x.at_+k)+0;omega,Nat.le_refl _,fun h=>h⟩
theorem gr_at{x:PSt}(e:Nat)(h:x.at_<=e)(a:e<=s.length):Gr s (e-x.at_) 0 x { x with at_:=e }:=⟨h,a,rfl,by show x.nodes.length+x.at_+(e-x.at_)<=x.nodes.length+e+0;omega,Nat.le_refl _,fun h=>h⟩
theorem sL{x:PSt}{n:Node}(h:x.at_<=s.length)(a:m7 n x.nodes.length=true):Gr s 0 1 x (U8 n x).1/\sK (U8 n x).1 (U8 n x).2:=by
 refine⟨⟨Nat.le_refl _,h,rfl,?_,?_,fun k=>A93 k a⟩,?_⟩
 ·show (x.nodes++[n]).length+x.at_+0<=x.nodes.length+x.at_+1;rw[B48,List.length_singleton];omega
 ·show x.nodes.length<=(x.nodes++[n]).length;rw[B48];omega
 ·show 0<=(x.nodes.length:Int)/\(x.nodes.length:Int)<((x.nodes++[n]).length:Int);rw[B48,List.length_singleton];omega
theorem kB{k:Int}{t:Set4}{i:Int}(h:k=0\/k=1\/k=2\/k=3):m7 ⟨k,t,0,0,[]⟩ i=true:=by
 unfold m7;rw[A6 h];rfl
theorem VW{x:PSt}(t:Set4)(h:x.at_<=s.length):Gr s 0 1 x (fZ t x).1/\sK (fZ t x).1 (fZ t x).2:=sL h (kB (.inr (.inl rfl)))
theorem YJ{kids:List Int}{n:Nat}(h:∀k∈kids,0<=k/\k<(n:Int)):(kids.all fun k=>decide (0<=k/\k<(n:Int)))=true:=List.all_eq_true.2 fun k a=>A4 (h k a)
theorem DW{x:PSt}{kind:Int}(b:kind=4\/kind=5){kids:List Int}(a:∀k∈kids,sK x k)(h:x.at_<=s.length):Gr s 0 1 x (p7 kind kids x).1/\sK (p7 kind kids x).1 (p7 kind kids x).2:=by
 match kids,a with
 | [],_=>exact sL h (kB (.inl rfl))
 | [k],a=>exact⟨(Gr.refl h).le (by omega),a k (List.mem_cons_self ..)⟩
 | k::l::r,a =>
  refine sL h ?_;unfold m7;dsimp only[J6];rw[YJ a,A7 (by omega),A6 b,Bool.true_and];exact A4 (by simp only[B49];omega)
theorem Z8{x:PSt}{c:UInt8}(h:M9 s c x=true):x.at_+1<=s.length:=by
 have a:=A1 h;have:=(List.getElem?_eq_some_iff.1 a).1;omega
theorem oI{x:PSt}(c:UInt8)(h:x.at_<=s.length):Gr s 0 0 x (eM s c x):=by
 unfold eM;split
 ·rename_i a;exact (K6 1 (Z8 a)).le (by omega)
 ·exact Gr.refl h
theorem pP{x y:PSt}{c:UInt8}(h:dR s x=.ok (y,c)):Gr s 1 0 x y:=by
 unfold dR at h;split at h
 ·cases h
 ·rename_i a;cases h;exact K6 1 (by have:=(List.getElem?_eq_some_iff.1 a).1;omega)
theorem kC{x y:PSt}{n:Int}(h:R4 s x=.ok (y,n)):Gr s 0 0 x y/\sK y n:=by
 unfold R4 at h;cases a:dR s x with
 | error e=>rw[a]at h;cases h
 | ok p =>
  obtain⟨z,c⟩:=p;rw[a]at h;have g:=pP a;obtain⟨g1,b⟩:=VW (s:=s) (x:=z) (set0.with_ c.toNat) g.len;cases h;exact⟨(g.trans g1).le (by omega),b⟩
theorem VX{x:PSt}(h:x.at_+1<=s.length):Gr s 0 0 x (zD x).1/\sK (zD x).1 (zD x).2:=by
 have g:=K6 (s:=s) (x:=x) 1 h;obtain⟨g1,a⟩:=VW (s:=s) (x:=x.skip 1) set0.compl h;exact⟨(g.trans g1).le (by omega),a⟩
theorem pQ{x y:PSt}{n:Int}(b:x.at_+1<=s.length)(h:cN s x=.ok (y,n)):Gr s 0 0 x y/\sK y n:=by
 have g:=K6 (s:=s) (x:=x) 1 b;obtain⟨g1,a⟩:=kC h;exact⟨(g.trans g1).le (by omega),a⟩
theorem IP{x y:PSt}{kind n:Int}(f:kind=2\/kind=3)(b:x.at_+1<=s.length)(h:U2 s kind x=.ok (y,n)):Gr s 0 0 x y/\sK y n:=by
 have g:=K6 (s:=s) (x:=x) 1 b;obtain⟨g1,a⟩:=sL (s:=s) (x:=x.skip 1) (n:={ J6 with Kind:=kind }) b (kB (by omega));have key:U2 s kind x=.ok (U8 { J6 with Kind:=kind } (x.skip 1))->Gr s 0 0 x y/\sK y n:=fun e=>by
  rw[e]at h;cases h;exact⟨(g.trans g1).le (by omega),a⟩
 unfold U2 at h key;dsimp only at h key;split at h
 ·split at h
  ·cases h
  ·rename_i c d;cases h;exact⟨(g.trans g1).le (by omega),a⟩
 ·cases h;exact⟨(g.trans g1).le (by omega),a⟩
theorem LY{x y:PSt}{n:Int}(a:x.at_<=s.length)(h:jD s F8 x=.ok (y,n)):Gr s 1 0 x y/\0<=n/\n<=100:=by
 unfold jD at h;split at h
 ·cases h
 ·rename_i m e d;obtain⟨f,b,c⟩:=numF_le a d;split at h
  ·cases h
  ·cases h;exact⟨(gr_at e (by omega) b).le (by omega),c,by omega⟩
abbrev bndOk(b:Int×Int):Prop:=0<=b.1/\b.1<=100/\(b.2 = -1\/b.1<=b.2/\b.2<=100)
theorem LZ{x y:PSt}{c a:Int}{b:Int×Int}(h:(if M9 s 125 x=false\/(0<=a/\a<c) then .error 40 else .ok (x.skip 1,(c,a)):Ps (Int×Int))=.ok (y,b)):Gr s 1 0 x y/\b=(c,a)/\¬(0<=a/\a<c):=by
 split at h
 ·cases h
 ·rename_i d;have f:M9 s 125 x=true:=by
   cases g:M9 s 125 x
   ·exact absurd (.inl g) d
   ·rfl
  cases h;exact⟨K6 1 (Z8 f),rfl,fun e=>d (.inr e)⟩
theorem A29{x y:PSt}{b:Int×Int}(B:x.at_<=s.length)(h:W4 s F8 x=.ok (y,b)):Gr s 1 0 x y/\bndOk b:=by
 unfold W4 at h;cases u:jD s F8 x with
 | error e=>rw[u]at h;cases h
 | ok p =>
  obtain⟨z,v⟩:=p;rw[u]at h;dsimp only at h;obtain⟨g1,g,d⟩:=LY B u;split at h
  ·rename_i j;have f:=K6 (s:=s) (x:=z) 1 (Z8 j);split at h
   ·obtain⟨c,rfl,_⟩:=LZ h;exact⟨((g1.trans f).trans c).le (by omega),g,d,.inl rfl⟩
   ·split at h
    ·obtain⟨c,rfl,_⟩:=LZ h;exact⟨((g1.trans f).trans c).le (by omega),g,d,.inl rfl⟩
    ·cases m:jD s F8 (z.skip 1) with
     | error e=>rw[m]at h;cases h
     | ok q =>
      obtain⟨D,w⟩:=q;rw[m]at h;dsimp only at h;obtain⟨c,m1,C⟩:=LY f.len m;obtain⟨A,rfl,j⟩:=LZ h;refine⟨(((g1.trans f).trans c).trans A).le (by omega),g,d,.inr ?_⟩;dsimp only;omega
  ·obtain⟨c,rfl,j⟩:=LZ h;exact⟨(g1.trans c).le (by omega),g,d,.inr ⟨Int.le_refl _,d⟩⟩
theorem oJ{x y:PSt}{b:Option (Int×Int)}(_h0:x.at_<=s.length)(h:V5 s F8 x=.ok (y,b)):(b=none/\y=x)\/∃q,b=some q/\Gr s 1 0 x y/\bndOk q:=by
 unfold V5 at h;split at h
 ·rename_i a;cases h;exact .inr ⟨_,rfl,K6 1 (Z8 a),by decide⟩
 split at h
 ·rename_i a;cases h;exact .inr ⟨_,rfl,K6 1 (Z8 a),by decide⟩
 split at h
 ·rename_i a;cases h;exact .inr ⟨_,rfl,K6 1 (Z8 a),by decide⟩
 split at h
 ·rename_i a;have g:=K6 (s:=s) (x:=x) 1 (Z8 a);split at h
  ·cases h
  ·rename_i z q hb;obtain⟨c,d⟩:=A29 g.len hb;cases h;exact .inr ⟨_,rfl,(g.trans c).le (by omega),d⟩
 ·cases h;exact .inl ⟨rfl,rfl⟩
theorem kD{x y:PSt}{r:Ps Int}{n:Int}(A:∀z k,r=.ok (z,k)->Gr s 0 0 x z/\sK z k)(h:R5 s F8 r=.ok (y,n)):Gr s 0 0 x y/\sK y n:=by
 unfold R5 at h;split at h
 ·cases h
 ·rename_i z k;obtain⟨g1,g⟩:=A z k rfl;split at h
  ·cases h
  ·rename_i f;cases h;rcases oJ g1.len f with ⟨_,rfl⟩ | ⟨q,c,_⟩
   ·exact⟨g1,g⟩
   ·cases c
  ·rename_i i b d f;rcases oJ g1.len f with ⟨c,_⟩ | ⟨q,c,g2,hb⟩
   ·cases c
   ·cases c;have B:sK i k:=⟨g.1,by have:=g2.more;have:=g.2;omega⟩
    obtain⟨v,i3⟩:=sL (s:=s) (x:=i) (n:={ J6 with Kind:=6,Min:=b,Max:=d,Kids:=[k] }) g2.len (by
     unfold m7;dsimp only[J6];rw[YJ (fun j w=>by rw[List.mem_singleton.1 w];exact B),A7 (by omega),A7 (by omega),A6 rfl,Bool.true_and];obtain⟨m,p,u⟩:=hb
     exact A4 ⟨rfl,m,p,u⟩)
    cases h;exact⟨((g1.trans g2).trans v).le (by omega),i3⟩
theorem lY{x y:PSt}{t v:Set4}(_h0:x.at_<=s.length)(h:c9 s t x=.ok (y,v)):Gr s 1 0 x y:=by
 unfold c9 at h;dsimp only at h;split at h
 ·rename_i b;split at h
  ·cases h
  ·rename_i w;split at h
   ·cases h
   ·cases h;have f:=Lib.index_room ((s.drop x.at_).drop 2) [58,93] (by omega);rw[B53,B53,show (([58,93]:Str).length)=2 from rfl]at f;have i:=A1 b;have j:=(List.getElem?_eq_some_iff.1 i.2).1;rw[B53]at j;refine (K6 (4+(Lib.index ((s.drop x.at_).drop 2) [58,93]).toNat) ?_).le (by omega);omega
 ·split at h
  ·cases h
  ·rename_i c m;have q:=(List.getElem?_eq_some_iff.1 m).1;split at h
   ·cases h;exact K6 1 (by omega)
   ·rename_i u;split at h
    ·cases h
    ·cases h;refine (K6 3 ?_).le (by omega);rw[B53]at u;omega
theorem DX:∀(f:Nat) {x y:PSt} {t a:Set4},x.at_<=s.length->j9 s f t x=.ok (y,a)->Gr s 1 0 x y
 | 0,_,_,_,_,_,h=>by cases h
 | f+1,x,y,t,a,h0,h=>by
  unfold j9 at h;split at h
  ·rename_i b;cases h;exact K6 1 (Z8 b)
  ·split at h
   ·cases h
   ·rename_i z d c;have g:=lY h0 c;exact (g.trans (DX f g.len h)).le (by omega)
theorem uZ{f:Nat}{x y:PSt}{n:Int}(p:x.at_+1<=s.length)(h:l5 s f x=.ok (y,n)):Gr s 0 0 x y/\sK y n:=by
 unfold l5 at h;dsimp only at h;have g1:=K6 (s:=s) (x:=x) 1 p;have g:=oI (s:=s) (x:=x.skip 1) 94 g1.len;split at h
 ·cases h
 ·rename_i w t q;have i:=lY g.len q;split at h
  ·cases h
  ·rename_i v m u;have j:=DX f i.len u;have b:=VW (s:=s) (x:=v) (if M9 s 94 (x.skip 1)=true then m.compl else m) j.len;have e:=Except.ok.inj h;have c:=congrArg Prod.fst e;have d:=congrArg Prod.snd e;dsimp only at c d;rw[c,d]at b;exact⟨((((g1.trans g).trans i).trans j).trans b.1).le (by omega),b.2⟩
theorem IQ{x y:PSt}{t b:Set4}(a:M8 t)(h:c9 s t x=.ok (y,b)):M8 b:=by
 unfold c9 at h;dsimp only at h;split at h
 ·split at h
  ·cases h
  ·split at h
   ·cases h
   ·rename_i c;cases h;exact DQ a c
 ·split at h
  ·cases h
  ·split at h
   ·cases h;exact pM a _
   ·split at h
    ·cases h
    ·cases h;exact L8 a _ _
theorem gG{x y:PSt}{k:Int}(h:x.nodes.length<=y.nodes.length)(a:sK x k):sK y k:=⟨a.1,by have:=a.2;omega⟩
structure GrAll (f:Nat):Prop where
 pat:∀{x y:PSt} {n:Int},x.at_<=s.length->bF s F8 f x=.ok (y,n)->Gr s 0 2 x y/\sK y n
 loop:∀{x y:PSt} {kids:List Int} {n:Int},x.at_<=s.length->(∀k∈kids,sK x k)->Y3 s F8 f x kids=.ok (y,n)->Gr s 0 1 x y/\sK y n
 alt:∀{x y:PSt} {kids:List Int} {n:Int},x.at_<=s.length->(∀k∈kids,sK x k)->s8 s F8 f x kids=.ok (y,n)->Gr s 0 1 x y/\sK y n
 piece:∀{x y:PSt} {c:UInt8} {n:Int},s[x.at_]?=some c->Z6 s F8 f x c=.ok (y,n)->Gr s 0 0 x y/\sK y n
 paren:∀{x y:PSt} {n:Int},x.at_+1<=s.length->S5 s F8 f x=.ok (y,n)->Gr s 0 0 x y/\sK y n
theorem V6:∀f:Nat,GrAll (s:=s) f
 | 0=>⟨(fun _ h=>by cases h),(fun _ _ h=>by cases h),(fun _ _ h=>by cases h),(fun _ h=>by cases h),(fun _ h=>by cases h)⟩
 | f + 1=>by
  have m:=V6 f;refine⟨?_,?_,?_,?_,?_⟩
  ·intro x y n o h;rw[bF]at h;split at h
   ·cases h
   ·rename_i z k ha;obtain⟨g1,i1⟩:=m.alt o (fun k g=>by cases g) ha;obtain⟨q,i2⟩:=m.loop g1.len (fun j a=>by rw[List.mem_singleton.1 a];exact i1) h;exact⟨(g1.trans q).le (by omega),i2⟩
  ·intro x y kids n o g h;rw[Y3]at h;split at h
   ·rename_i p;have g0:=K6 (s:=s) (x:=x) 1 (Z8 p);split at h
    ·cases h
    ·rename_i z k ha;obtain⟨g1,i1⟩:=m.alt g0.len (fun k g=>by cases g) ha;have u:=g0.trans g1
     obtain⟨q,i2⟩:=m.loop g1.len (fun j a=>by
      rcases List.mem_append.1 a with a | a
      ·exact gG u.more (g j a)
      ·rw[List.mem_singleton.1 a];exact i1) h
     exact⟨(u.trans q).le (by omega),i2⟩
   ·have d:=DW (s:=s) (x:=x) (kind:=5) (.inr rfl) g o;have e:=Except.ok.inj h;rw[e]at d;exact d
  ·intro x y kids n o g h;have d:=DW (s:=s) (x:=x) (kind:=4) (.inl rfl) g o;rw[s8]at h;split at h
   ·rw[Except.ok.inj h]at d;exact d
   ·rename_i c p;split at h
    ·rw[Except.ok.inj h]at d;exact d
    ·split at h
     ·cases h
     ·rename_i z k t;obtain⟨g1,i1⟩:=m.piece p t
      obtain⟨q,i2⟩:=m.alt g1.len (fun j a=>by
       rcases List.mem_append.1 a with a | a
       ·exact gG g1.more (g j a)
       ·rw[List.mem_singleton.1 a];exact i1) h
      exact⟨(g1.trans q).le (by omega),i2⟩
  ·intro x y c n p h;have b:x.at_+1<=s.length:=by have:=(List.getElem?_eq_some_iff.1 p).1;omega
   rw[Z6]at h;split at h
   ·exact IP (.inl rfl) b h
   split at h
   ·exact IP (.inr rfl) b h
   split at h
   ·exact kD (fun z k e=>m.paren b e) h
   split at h
   ·exact kD (fun z k e=>uZ b e) h
   split at h
   ·exact kD (fun z k e=>by
     have d:=VX (s:=s) (x:=x) b
     rw[Except.ok.inj e]at d;exact d) h
   split at h
   ·exact kD (fun z k e=>pQ b e) h
   split at h
   ·cases h
   ·exact kD (fun z k e=>kC e) h
  ·intro x y n o h;rw[S5]at h;split at h
   ·cases h
   ·split at h
    ·cases h
    ·rename_i z k t;split at h
     ·rename_i p;obtain⟨g1,i1⟩:=m.pat (x:={ x with at_:=x.at_+1,depth:=x.depth+1 }) o t;cases h;have B:=Z8 p;have v:=g1.at_;have w:=g1.dep;have A:=g1.cnt;dsimp only at v w A;exact⟨⟨by dsimp only;omega,by dsimp only;omega,by dsimp only;omega,by dsimp only;omega,g1.more,g1.ok⟩,i1⟩
     ·cases h
end
variable {s:Str}
theorem num_nz{x:PSt}:jD s F8 x≠.error 0:=fun h=>by
 unfold jD at h;split at h
 ·cases h
 ·split at h<;>cases h
theorem A30{x:PSt}:W4 s F8 x≠.error 0:=fun h=>by
 unfold W4 at h;dsimp only at h;split at h
 ·rename_i e a;cases h;exact num_nz a
 ·split at h
  ·split at h
   ·split at h<;>cases h
   ·split at h
    ·split at h<;>cases h
    ·split at h
     ·rename_i e a;cases h;exact num_nz a
     ·split at h<;>cases h
  ·split at h<;>cases h
theorem A94{x:PSt}:V5 s F8 x≠.error 0:=fun h=>by
 unfold V5 at h;split at h
 ·cases h
 split at h
 ·cases h
 split at h
 ·cases h
 split at h
 ·split at h
  ·rename_i e a;cases h;exact A30 a
  ·cases h
 ·cases h
theorem IR{x:PSt}:R4 s x≠.error 0:=fun h=>by
 unfold R4 at h;split at h
 ·rename_i e a;cases h;unfold dR at a;split at a<;>cases a
 ·cases h
theorem YK{x:PSt}{t:Set4}:c9 s t x≠.error 0:=fun h=>by
 unfold c9 at h;dsimp only at h;split at h
 ·split at h
  ·cases h
  ·split at h<;>cases h
 ·split at h
  ·cases h
  ·split at h
   ·cases h
   ·split at h<;>cases h
theorem Gr.prog{a:Nat}{x y:PSt}(h:Gr s (a+1) 0 x y):x.at_<y.at_:=by have:=h.cnt;have:=h.more;omega
theorem RG:∀(f:Nat) {x:PSt} {t:Set4},x.at_<=s.length->s.length-x.at_<f->j9 s f t x≠.error 0
 | 0,_,_,_,h=>by omega
 | f+1,x,t,h0,h=>fun e=>by
  unfold j9 at e;split at e
  ·cases e
  ·split at e
   ·rename_i c a;cases e;exact YK a
   ·rename_i y i b;have g:=lY h0 b;have d:=g.prog;exact RG f g.len (by have:=g.len;omega) e
theorem A95{x:PSt}(d:x.at_+1<=s.length):l5 s (s.length+2) x≠.error 0:=fun h=>by
 unfold l5 at h;dsimp only at h;have g1:=K6 (s:=s) (x:=x) 1 d;have b:=oI (s:=s) (x:=x.skip 1) 94 g1.len;split at h
 ·rename_i e a;cases h;exact YK a
 ·rename_i g t f;have c:=lY b.len f;split at h
  ·rename_i e a;cases h;exact RG _ c.len (by omega) a
  ·cases h
theorem IS{x:PSt}{a:Int}:U2 s a x≠.error 0:=fun h=>by
 unfold U2 at h;dsimp only at h;split at h
 ·split at h<;>cases h
 ·cases h
theorem kE{r:Ps Int}(b:r≠.error 0):R5 s F8 r≠.error 0:=fun h=>by
 unfold R5 at h;split at h
 ·cases h;exact b rfl
 ·split at h
  ·rename_i e a;cases h;exact A94 a
  ·cases h
  ·cases h
theorem yN{x y:PSt}{a n:Int}(h:U2 s a x=.ok (y,n)):x.at_<y.at_:=by
 have key:U2 s a x=.ok (U8 { J6 with Kind:=a } (x.skip 1))->x.at_<y.at_:=fun e=>by
  rw[e]at h;cases h;exact Nat.lt_succ_self _
 unfold U2 at h key;dsimp only at h key;split at h
 ·split at h
  ·cases h
  ·cases h;exact Nat.lt_succ_self _
 ·cases h;exact Nat.lt_succ_self _
theorem dS{x y:PSt}{r:Ps Int}{n:Int}(g:∀z k,r=.ok (z,k)->x.at_<z.at_/\z.at_<=s.length)(h:R5 s F8 r=.ok (y,n)):x.at_<y.at_:=by
 unfold R5 at h;split at h
 ·cases h
 ·rename_i z k;obtain⟨f,d⟩:=g z k rfl;split at h
  ·cases h
  ·rename_i b;cases h;rcases oJ d b with ⟨_,rfl⟩ | ⟨q,a,_⟩
   ·exact f
   ·cases a
  ·rename_i i c e b;rcases oJ d b with ⟨a,_⟩ | ⟨q,a,g2,_⟩
   ·cases a
   ·cases h;show x.at_<i.at_;have:=g2.at_;omega
theorem yO{x y:PSt}{n:Int}(h:R4 s x=.ok (y,n)):x.at_<y.at_:=by
 unfold R4 at h;cases a:dR s x with
 | error e=>rw[a]at h;cases h
 | ok p =>
  obtain⟨z,c⟩:=p;rw[a]at h;have g:=(pP a).prog;cases h;exact g
theorem VY{f:Nat}{x y:PSt}{n:Int}(e:x.at_+1<=s.length)(h:l5 s f x=.ok (y,n)):x.at_<y.at_:=by
 unfold l5 at h;dsimp only at h;have g1:=K6 (s:=s) (x:=x) 1 e;have b:=oI (s:=s) (x:=x.skip 1) 94 g1.len;split at h
 ·cases h
 ·rename_i u t g;have c:=lY b.len g;split at h
  ·cases h
  ·rename_i j r i;have d:=DX f c.len i;have q:=(b.trans (c.trans d)).at_;have l:j.at_=y.at_:=congrArg (fun p=>p.1.at_) (Except.ok.inj h);have m:(x.skip 1).at_=x.at_+1:=rfl;omega
theorem VZ{f:Nat}{x y:PSt}{n:Int}(b:x.at_+1<=s.length)(h:S5 s F8 f x=.ok (y,n)):x.at_<y.at_:=by
 cases f with
 | zero=>cases h
 | succ f =>
  rw[S5]at h;split at h
  ·cases h
  ·split at h
   ·cases h
   ·rename_i z k d;split at h
    ·obtain⟨g1,_⟩:=(V6 f).pat (x:={ x with at_:=x.at_+1,depth:=x.depth+1 }) b d;have c:=g1.at_;have e:z.at_+1=y.at_:=congrArg (fun p=>p.1.at_) (Except.ok.inj h);dsimp only at c;omega
    ·cases h
theorem DY{f:Nat}{x y:PSt}{c:UInt8}{n:Int}(g:s[x.at_]?=some c)(h:Z6 s F8 f x c=.ok (y,n)):x.at_<y.at_:=by
 have b:x.at_+1<=s.length:=by have:=(List.getElem?_eq_some_iff.1 g).1;omega
 cases f with
 | zero=>cases h
 | succ f =>
  rw[Z6]at h;split at h
  ·exact yN h
  split at h
  ·exact yN h
  split at h
  ·exact dS (fun z k e=>⟨VZ b e,((V6 f).paren b e).1.len⟩) h
  split at h
  ·exact dS (fun z k e=>⟨VY b e,(uZ b e).1.len⟩) h
  split at h
  ·exact dS (fun z k e=>by
    have i:(zD x).1.at_=z.at_:=congrArg (fun p=>p.1.at_) (Except.ok.inj e);have d:(zD x).1.at_=x.at_+1:=rfl
    omega) h
  split at h
  ·exact dS (fun z k e=>⟨by
    have j:=yO (x:=x.skip 1) e;have d:(x.skip 1).at_=x.at_+1:=rfl
    omega,(pQ b e).1.len⟩) h
  split at h
  ·cases h
  ·exact dS (fun z k e=>⟨yO e,(kC e).1.len⟩) h
structure NzAll (s:Str) (f:Nat):Prop where
 pat:∀x,x.at_<=s.length->4*(s.length-x.at_)+4<=f->bF s F8 f x≠.error 0
 loop:∀x kids,x.at_<=s.length->4*(s.length-x.at_)+3<=f->Y3 s F8 f x kids≠.error 0
 alt:∀x kids,x.at_<=s.length->4*(s.length-x.at_)+3<=f->s8 s F8 f x kids≠.error 0
 piece:∀x c,s[x.at_]?=some c->4*(s.length-x.at_)+2<=f->Z6 s F8 f x c≠.error 0
 paren:∀x,x.at_+1<=s.length->4*(s.length-x.at_)+1<=f->S5 s F8 f x≠.error 0
theorem sM:∀f:Nat,NzAll s f
 | 0=>⟨(fun _ _ h=>by omega),(fun _ _ _ h=>by omega),(fun _ _ _ h=>by omega),(fun _ _ _ h=>by omega),(fun _ _ h=>by omega)⟩
 | f + 1=>by
  have d:=sM f;refine⟨?_,?_,?_,?_,?_⟩
  ·intro x j o h;rw[bF]at h;split at h
   ·rename_i e g;cases h;exact d.alt x [] j (by omega) g
   ·rename_i z k ha;obtain⟨g1,_⟩:=(V6 f).alt j (fun k q=>by cases q) ha;have:=g1.at_;exact d.loop z [k] g1.len (by omega) h
  ·intro x kids j o h;rw[Y3]at h;split at h
   ·rename_i b;have g0:=K6 (s:=s) (x:=x) 1 (Z8 b);have v:(x.skip 1).at_=x.at_+1:=rfl;have w:=Z8 b;split at h
    ·rename_i e g;cases h;exact d.alt (x.skip 1) [] g0.len (by omega) g
    ·rename_i z k ha;obtain⟨g1,_⟩:=(V6 f).alt g0.len (fun k q=>by cases q) ha;have:=g1.at_;exact d.loop z _ g1.len (by omega) h
   ·cases h
  ·intro x kids j o h;rw[s8]at h;split at h
   ·cases h
   ·rename_i c b;split at h
    ·cases h
    ·split at h
     ·rename_i e g;cases h;exact d.piece x c b (by omega) g
     ·rename_i z k r;have g1:=DY b r;have u:=((V6 f).piece b r).1.len;exact d.alt z _ u (by omega) h
  ·intro x c b o h;have m:x.at_+1<=s.length:=by have:=(List.getElem?_eq_some_iff.1 b).1;omega
   rw[Z6]at h;split at h
   ·exact IS h
   split at h
   ·exact IS h
   split at h
   ·exact kE (d.paren x m (by omega)) h
   split at h
   ·exact kE (A95 m) h
   split at h
   ·exact kE (fun h=>by cases h) h
   split at h
   ·exact kE IR h
   split at h
   ·cases h
   ·exact kE IR h
  ·intro x j o h;rw[S5]at h;split at h
   ·cases h
   ·split at h
    ·rename_i e g;cases h;exact d.pat _ j (by dsimp only;omega) g
    ·split at h<;>cases h
section
section
variable (s:Str)
mutual
def lZ:Nat->PSt->Ps Int
 | 0,_=>.error 0
 | f+1,st=>match gH f st [] with
  | .error e=>.error e
  | .ok (st',k)=>p9 f st' [k]
def p9:Nat->PSt->List Int->Ps Int
 | 0,_,_=>.error 0
 | f+1,st,kids=>if M9 s 124 st=true then match gH f (st.skip 1) [] with
   | .error e=>.error e
   | .ok (st',k)=>p9 f st' (kids++[k])
  else .ok (p7 5 kids st)
def gH:Nat->PSt->List Int->Ps Int
 | 0,_,_=>.error 0
 | f+1,st,kids=>match s[st.at_]? with
  | none=>.ok (p7 4 kids st)
  | some c=>if c=124\/(c=41/\0<st.depth) then .ok (p7 4 kids st) else match cA f st c with
   | .error e=>.error e
   | .ok (st',k)=>gH f st' (kids++[k])
def cA:Nat->PSt->UInt8->Ps Int
 | 0,_,_=>.error 0
 | f+1,st,c =>
  if c=94 then U2 s 2 st
  else if c=36 then U2 s 3 st
  else if c=40 then R5 s F8 (jG f st)
  else if c=91 then R5 s F8 (l5 s (s.length+2) st)
  else if c=46 then R5 s F8 (.ok (zD st))
  else if c=92 then R5 s F8 (cN s st)
  else if c∈([42,43,63,123]:Str) then .error 40
  else if c=41 then .error 40
  else R5 s F8 (R4 s st)
def jG:Nat->PSt->Ps Int
 | 0,_=>.error 0
 | f+1,st=>if st.depth=50 then .error 1 else match lZ f { st with at_:=st.at_+1,depth:=st.depth+1 } with
  | .error e=>.error e
  | .ok (st',n)=>if M9 s 41 st'=true then .ok ({ st' with at_:=st'.at_+1,depth:=st'.depth-1 },n) else .error 40
end
def MA(f:Nat):List Node×Int :=
 if s.length>256 then ([],1) else match lZ s f ⟨0,0,[]⟩ with
  | .error e=>([],e)
  | .ok (st,_)=>if st.at_<s.length then ([],40) else (st.nodes,0)
variable {s}
structure InAll (f:Nat):Prop where
 pat:∀x,0<x.depth->x.at_<=s.length->lZ s f x=bF s F8 f x
 loop:∀x kids,0<x.depth->x.at_<=s.length->(∀k∈kids,sK x k)->p9 s f x kids=Y3 s F8 f x kids
 alt:∀x kids,0<x.depth->x.at_<=s.length->(∀k∈kids,sK x k)->gH s f x kids=s8 s F8 f x kids
 piece:∀x c,s[x.at_]?=some c->c≠41->cA s f x c=Z6 s F8 f x c
 paren:∀x,x.at_+1<=s.length->jG s f x=S5 s F8 f x
theorem DZ:∀f:Nat,InAll (s:=s) f
 | 0=>⟨(fun _ _ _=>rfl),(fun _ _ _ _ _=>rfl),(fun _ _ _ _ _=>rfl),(fun _ _ _ _=>rfl),(fun _ _=>rfl)⟩
 | f + 1=>by
  have u:=DZ f;refine⟨?_,?_,?_,?_,?_⟩
  ·intro x o v;rw[lZ,bF,u.alt x [] o v (fun k d=>by cases d)];cases ha:s8 s F8 f x [] with
   | error e=>rfl
   | ok p =>
    obtain⟨y,k⟩:=p;obtain⟨g,i⟩:=(V6 f).alt v (fun k d=>by cases d) ha;exact u.loop y [k] (by rw[g.dep];exact o) g.len (fun j b=>by rw[List.mem_singleton.1 b];exact i)
  ·intro x kids o v d;rw[p9,Y3];by_cases m:M9 s 124 x=true
   ·rw[A6 m,A6 m];have A:=Z8 m;rw[u.alt (x.skip 1) [] o A (fun k d=>by cases d)];cases ha:s8 s F8 f (x.skip 1) [] with
    | error e=>rfl
    | ok p =>
     obtain⟨y,k⟩:=p;obtain⟨g,i⟩:=(V6 f).alt (x:=x.skip 1) A (fun k d=>by cases d) ha;have B:=(K6 (s:=s) (x:=x) 1 A).trans g
     exact u.loop y _ (by rw[B.dep];exact o) g.len (fun j b=>by
      rcases List.mem_append.1 b with b | b
      ·exact gG B.more (d j b)
      ·rw[List.mem_singleton.1 b];exact i)
   ·rw[A7 m,A7 m]
  ·intro x kids o v d;rw[gH,s8];cases m:s[x.at_]? with
   | none=>rfl
   | some c =>
    dsimp only;by_cases h:c=124\/c=41
    ·rw[A6 h,A6 (h.elim .inl fun e=>.inr ⟨e,o⟩)]
    ·rw[A7 h,A7 (fun q=>h (q.elim .inl fun e=>.inr e.1)),u.piece x c m (fun e=>h (.inr e))];cases C:Z6 s F8 f x c with
     | error e=>rfl
     | ok p =>
      obtain⟨y,k⟩:=p;obtain⟨g,i⟩:=(V6 f).piece m C
      exact u.alt y _ (by rw[g.dep];exact o) g.len (fun j b=>by
       rcases List.mem_append.1 b with b | b
       ·exact gG g.more (d j b)
       ·rw[List.mem_singleton.1 b];exact i)
  ·intro x c m w;have z:x.at_+1<=s.length:=by have:=(List.getElem?_eq_some_iff.1 m).1;omega
   rw[cA,Z6,u.paren x z,A7 w]
  ·intro x v;rw[jG,S5,u.pat _ (Nat.succ_pos _) v]
   try rfl
def RelR(r a:Ps Int):Prop:=a=r\/(a=.error 40/\∃y k,r=.ok (y,k)/\s[y.at_]?=some 41)
theorem MB:∀(f:Nat) (x:PSt) (kids:List Int),x.depth=0->x.at_<=s.length->(∀k∈kids,sK x k)->4*(s.length-x.at_)+3<=f->RelR (s:=s) (s8 s F8 f x kids) (gH s f x kids)
 | 0,_,_,_,_,_,h=>by omega
 | f + 1,x,kids,hd,h0,hk,hf=>by
  rw[s8,gH];cases d:s[x.at_]? with
  | none=>exact .inl rfl
  | some c =>
   have w:x.at_+1<=s.length:=by have:=(List.getElem?_eq_some_iff.1 d).1;omega
   dsimp only;by_cases h:c=124
   ·rw[A6 (.inl h),A6 (.inl h)];exact .inl rfl
   by_cases b:c=41
   ·rw[A6 (.inr b),A7 (fun q=>q.elim h fun e=>by have:=e.2;omega)];have v:(p7 4 kids x).1.at_=x.at_:=by
     match kids with
     | []=>rfl
     | [k]=>rfl
     | k::l::r=>rfl
    refine .inr ⟨?_,(p7 4 kids x).1,(p7 4 kids x).2,rfl,by rw[v,d,b]⟩;obtain⟨f,rfl⟩:∃g,f=g+1:=⟨f-1,by omega⟩
    subst b;rfl
   ·have o:¬(c=124\/c=41):=fun q=>q.elim h b;rw[A7 o,A7 (fun q=>o (q.elim .inl fun e=>.inr e.1)),(DZ f).piece x c d b];cases u:Z6 s F8 f x c with
    | error e=>exact .inl rfl
    | ok p =>
     obtain⟨y,k⟩:=p;obtain⟨g,i⟩:=(V6 f).piece d u;have hpr:=DY d u
     exact MB f y _ (by rw[g.dep];exact hd) g.len (fun j m=>by
      rcases List.mem_append.1 m with m | m
      ·exact gG g.more (hk j m)
      ·rw[List.mem_singleton.1 m];exact i) (by have:=g.len;omega)
theorem RH:∀(f:Nat) (x:PSt) (kids:List Int),x.depth=0->x.at_<=s.length->(∀k∈kids,sK x k)->4*(s.length-x.at_)+3<=f->RelR (s:=s) (Y3 s F8 f x kids) (p9 s f x kids)
 | 0,_,_,_,_,_,h=>by omega
 | f + 1,x,kids,hd,h0,d,hf=>by
  rw[Y3,p9];by_cases b:M9 s 124 x=true
  ·rw[A6 b,A6 b];have m:=Z8 b;have q:(x.skip 1).at_=x.at_+1:=rfl;rcases MB f (x.skip 1) [] hd m (fun k d=>by cases d) (by omega) with h | ⟨h,y,k,h2,h3⟩
   ·rw[h];cases ha:s8 s F8 f (x.skip 1) [] with
    | error e=>exact .inl rfl
    | ok p =>
     obtain⟨y,k⟩:=p;obtain⟨g,i⟩:=(V6 f).alt (x:=x.skip 1) m (fun k d=>by cases d) ha;have o:=(K6 (s:=s) (x:=x) 1 m).trans g;have u:=g.at_
     exact RH f y _ (by rw[o.dep];exact hd) g.len (fun j c=>by
      rcases List.mem_append.1 c with c | c
      ·exact gG o.more (d j c)
      ·rw[List.mem_singleton.1 c];exact i) (by have:=g.len;omega)
   ·rw[h,h2];obtain⟨f,rfl⟩:∃g,f=g+1:=⟨f-1,by omega⟩
    dsimp only;rw[Y3,A7 (fun e=>by have:=A1 e;rw[h3]at this;cases this)];refine .inr ⟨rfl,_,_,rfl,?_⟩;rw[<-h3]
    congr 1
    match kids++[k] with
    | []=>rfl
    | [_]=>rfl
    | _::_::_=>rfl
  ·rw[A7 b,A7 b];exact .inl rfl
theorem YL(f:Nat)(x:PSt)(d:x.depth=0)(c:x.at_<=s.length)(q:4*(s.length-x.at_)+4<=f):RelR (s:=s) (bF s F8 f x) (lZ s f x):=by
 obtain⟨f,rfl⟩:∃g,f=g+1:=⟨f-1,by omega⟩
 rw[bF,lZ];rcases MB f x [] d c (fun k b=>by cases b) (by omega) with h | ⟨h,y,k,h2,h3⟩
 ·rw[h];cases ha:s8 s F8 f x [] with
  | error e=>exact .inl rfl
  | ok p =>
   obtain⟨y,k⟩:=p;obtain⟨g,i⟩:=(V6 f).alt c (fun k b=>by cases b) ha;have o:=g.at_;exact RH f y _ (by rw[g.dep];exact d) g.len (fun j m=>by rw[List.mem_singleton.1 m];exact i) (by have:=g.len;omega)
 ·rw[h,h2];obtain⟨f,rfl⟩:∃g,f=g+1:=⟨f-1,by omega⟩
  dsimp only;rw[Y3,A7 (fun e=>by have:=A1 e;rw[h3]at this;cases this)];exact .inr ⟨rfl,_,_,rfl,h3⟩
theorem WA(f:Nat)(b:1028<=f):MA s f=p8 s F8 f:=by
 unfold MA p8;by_cases a:s.length>256
 ·rw[A6 a,A6 a]
 rw[A7 a,A7 a];rcases YL (s:=s) f ⟨0,0,[]⟩ rfl (Nat.zero_le _) (by dsimp only;omega) with h | ⟨h,y,k,h2,h3⟩
 ·rw[h];try rfl
 ·rw[h,h2];dsimp only;rw[A6 (List.getElem?_eq_some_iff.1 h3).1]
end
end
def wU(s:Str)(i:Nat):Int×Nat×Bool×Int:=match F8 s i with
 | none=>(0,0,false,0)
 | some (low,n)=>if s[n]?=some 44 then (if n+1<s.length/\¬s.getD (n+1) 0=125 then (match F8 s (n+1) with
    | none=>(low,0,false,0)
    | some (h,n2)=>(low,n2,true,h)) else (low,n+1,true,-1)) else (low,n,true,low)
def oK(s:Str)(m:Int×Nat×Bool×Int):Prop:=m.2.2.1=true/\s[m.2.1]?=some 125/\m.1<=100/\m.2.2.2<=100/\¬(0<=m.2.2.2/\m.2.2.2<m.1)
instance (s:Str) (m:Int×Nat×Bool×Int):Decidable (oK s m):=by unfold oK;exact inferInstance
theorem fin_mid{s:Str}{st:PSt}{n:Nat}{low a:Int}(f:low<=100)(d:a<=100):(if M9 s 125 { st with at_:=n }=false\/(0<=a/\a<low) then .error 40 else .ok ((({ st with at_:=n }:PSt).skip 1),(low,a)):Ps (Int×Int))=if oK s (low,n,true,a) then .ok ({ st with at_:=n+1 },(low,a)) else .error 40:=by
 have h:M9 s 125 { st with at_:=n }=decide (s[n]?=some 125):=rfl;rw[h];by_cases b:s[n]?=some 125
 ·rw[A4 b];by_cases c:0<=a/\a<low
  ·rw[A6 (.inr c),A7 (fun g=>g.2.2.2.2 c)]
  ·rw[A7 (fun g=>g.elim (fun e=>by cases e) c),A6 ⟨rfl,b,f,d,c⟩];rfl
 ·rw[A5 b,A6 (.inl rfl),A7 (fun g=>b g.2.1)]
def optP{α:Type}(o:Option UInt8)(a:α)(b:UInt8->α):α:=match o with
 | none=>a
 | some c=>b c
def finM(s:Str)(a:Int)(st:PSt)(b:Int):Ps (Int×Int):=if M9 s 125 st=false\/(0<=b/\b<a) then .error 40 else .ok (st.skip 1,(a,b))
theorem WB(s:Str)(st:PSt):W4 s F8 st=match jD s F8 st with
  | .error e=>.error e
  | .ok (st1,least)=>if M9 s 44 st1=true then optP s[(st1.skip 1).at_]? (finM s least (st1.skip 1) (-1)) (fun c=>if c=125 then finM s least (st1.skip 1) (-1) else match jD s F8 (st1.skip 1) with
    | .error e=>.error e
    | .ok (st3,most)=>finM s least st3 most) else finM s least st1 least:=rfl
theorem MC{s:Str}{st:PSt}{n:Nat}{low a:Int}(c:low<=100)(b:a<=100):finM s low { st with at_:=n } a=if oK s (low,n,true,a) then .ok ({ st with at_:=n+1 },(low,a)) else .error 40:=fin_mid c b
theorem num_is(s:Str)(st:PSt)(i:Nat):jD s F8 { st with at_:=i }=match F8 s i with
  | none=>.error 40
  | some (n,e)=>if n>100 then .error 40 else .ok ({ st with at_:=e },n):=rfl
theorem WC(s:Str)(st:PSt)(i:Nat):W4 s F8 { st with at_:=i }=if oK s (wU s i) then .ok ({ st with at_:=(wU s i).2.1+1 },((wU s i).1,(wU s i).2.2.2)) else .error 40:=by
 obtain⟨m,b⟩:∃m,m=wU s i:=⟨_,rfl⟩
 rw[<-b,WB,num_is];unfold wU at b;cases w:F8 s i with
 | none =>
  rw[w]at b;subst b;dsimp only;rw[A7 (fun g=>by cases g.1)]
 | some p =>
  obtain⟨low,n⟩:=p;rw[w]at b;dsimp only at b ⊢;by_cases v:low>100
  ·rw[A6 v];dsimp only;refine (A7 fun g=>?_).symm;have h:=g.2.2.1;have B:m.1=low:=by
    rw[b];split
    ·split
     ·split<;>rfl
     ·rfl
    ·rfl
   omega
  rw[A7 v];dsimp only;have z:M9 s 44 { st with at_:=n }=decide (s[n]?=some 44):=rfl;have x:(({ st with at_:=n }:PSt).skip 1)={ st with at_:=n+1 }:=rfl;rw[z,x];by_cases d:s[n]?=some 44
  ·rw[A6 d]at b;rw[A4 d,A6 rfl];by_cases f:n+1<s.length
   ·have l:s[({ st with at_:=n+1 }:PSt).at_]?=some (s.getD (n+1) 0):=by
     show s[n+1]?=_;rw[B46,B44 f];rfl
    rw[l];dsimp only[optP];by_cases c:s.getD (n+1) 0=125
    ·rw[A7 (fun g=>g.2 c)]at b;rw[A6 c,b];exact MC (st:=st) (n:=n+1) (by omega) (by omega)
    ·rw[A6 ⟨f,c⟩]at b;rw[A7 c,num_is];cases j:F8 s (n+1) with
     | none =>
      rw[j]at b;subst b;dsimp only;rw[A7 (fun g=>by cases g.1)]
     | some q =>
      obtain⟨h,A⟩:=q;rw[j]at b;subst b;dsimp only;by_cases u:h>100
      ·rw[A6 u];dsimp only;exact (A7 fun g=>by have:=g.2.2.2.1;dsimp only at this;omega).symm
      ·rw[A7 u];dsimp only;exact MC (st:=st) (n:=A) (by omega) (by omega)
   ·rw[A7 (fun g=>f g.1)]at b;have l:s[({ st with at_:=n+1 }:PSt).at_]?=none:=B56 (by show s.length<=n+1;omega);rw[l,b];exact MC (st:=st) (n:=n+1) (by omega) (by omega)
  ·rw[A7 d]at b;rw[A5 d,A7 (by decide),b];exact MC (st:=st) (n:=n) (by omega) (by omega)
def Set4.or(s u:Set4):Set4:=⟨IK s.a u.a,IK s.b u.b,IK s.c u.c,IK s.d u.d⟩
theorem A31(x y z:Int):IK (IK x y) z=IK x (IK y z):=by
 unfold IK;rw[B45,B45,Nat.or_assoc]
theorem vA{x:Int}(h:0<=x):IK x 0=x:=by
 unfold IK;rw[show (0:Int).toNat=0 from rfl,Nat.or_zero,Int.toNat_of_nonneg h]
theorem or_set0{s:Set4}(h:M8 s):s.or set0=s:=by
 obtain⟨a,b,c,d⟩:=h;unfold Set4.or set0;dsimp only;rw[vA a.1,vA b.1,vA c.1,vA d.1]
theorem MD(s u:Set4)(c:Nat):(s.or u).with_ c=s.or (u.with_ c):=by
 unfold Set4.with_;split<;>(unfold Set4.or;dsimp only;rw[A31])
theorem or_go(s:Set4):∀(n c:Nat) (u:Set4),M7 n c (s.or u)=s.or (M7 n c u)
 | 0,_,_=>rfl
 | n+1,c,u=>by rw[M7,M7,MD,or_go s n]
theorem Q8(s u:Set4)(a b:Nat):(s.or u).through a b=s.or (u.through a b):=or_go s _ _ u
theorem A96(s u:Set4)(name:Str):Z5 (s.or u) name=(Z5 u name).map s.or:=by
 unfold Z5;split
 ·rw[Q8,Q8];rfl
 split
 ·rw[Q8];rfl
 split
 ·rw[Q8,Q8,Q8];rfl
 split
 ·rw[Q8];rfl
 split
 ·rw[Q8];rfl
 split
 ·rw[Q8,MD];rfl
 split
 ·rw[Q8,Q8,Q8,Q8];rfl
 ·rfl
def U3(f:Nat->Bool):Nat->Set4->Set4
 | 0,s=>s
 | n+1,s=>if f n=true then (U3 f n s).with_ n else U3 f n s
theorem YM(f:Nat->Bool)(s:Set4):∀(n:Nat) (u:Set4),U3 f n (s.or u)=s.or (U3 f n u)
 | 0,_=>rfl
 | n+1,u=>by
  rw[U3,U3,YM f s n u];split
  ·rw[MD]
  ·rfl
def Y9(c:Nat):Bool:=decide (97<=c/\c<=122)||decide (65<=c/\c<=90)
def mI(c:Nat):Bool:=decide (48<=c/\c<=57)
def gI(name:Str)(c:Nat):Option Bool :=
 if name=[97,108,112,104,97] then some (Y9 c)
 else if name=[100,105,103,105,116] then some (mI c)
 else if name=[97,108,110,117,109] then some (Y9 c||mI c)
 else if name=[117,112,112,101,114] then some (Y9 c&&decide (c<=90))
 else if name=[108,111,119,101,114] then some (Y9 c&&decide (97<=c))
 else if name=[115,112,97,99,101] then some (decide (9<=c/\c<=13)||decide (c=32))
 else if name=[112,117,110,99,116] then some (decide (33<=c/\c<=126)&&(!Y9 c&&!mI c))
 else none
def dT(name:Str)(c:Nat):Bool:=(gI name c).getD false
theorem EA(s:Set4)(name:Str):Z5 s name=none↔gI name 0=none:=by
 unfold Z5 gI
 repeat' split
 all_goals simp
theorem A32(name:Str):∀t,Z5 set0 name=some t->U3 (dT name) 256 set0=t:=by
 intro t h;unfold Z5 at h;split at h
 ·rename_i e;rw[e];cases h;kernel_rfl
 split at h
 ·rename_i e;rw[e];cases h;kernel_rfl
 split at h
 ·rename_i e;rw[e];cases h;kernel_rfl
 split at h
 ·rename_i e;rw[e];cases h;kernel_rfl
 split at h
 ·rename_i e;rw[e];cases h;kernel_rfl
 split at h
 ·rename_i e;rw[e];cases h;kernel_rfl
 split at h
 ·rename_i e;rw[e];cases h;kernel_rfl
 ·cases h
theorem WD{s:Set4}(b:M8 s){name:Str}{t:Set4}(h:Z5 s name=some t):U3 (dT name) 256 s=t:=by
 rw[<-or_set0 b]at h ⊢;rw[A96]at h;rw[YM];cases a:Z5 set0 name with
 | none=>rw[a]at h;cases h
 | some u =>
  rw[a]at h;rw[A32 name u a];exact Option.some.inj h
theorem occ2(r:Str)(j:Nat):Lib.occAt r [58,93] j=decide (r[j]?=some 58/\r[j+1]?=some 93):=by
 unfold Lib.occAt;have c:(r.drop j)[0]?=r[j]?:=by rw[B58];rfl
 have d:(r.drop j)[1]?=r[j+1]?:=by rw[B58]
 rw[<-c,<-d]
 match r.drop j with
 | []=>simp
 | [a]=>simp[List.isPrefixOf]
 | a::b::t=>rw[Bool.eq_iff_iff];simp[List.isPrefixOf,eq_comm (a:=a),eq_comm (a:=b)]
def NoEnd(s:Str)(a i:Nat):Prop:=∀j,a<=j->j<i->¬(s[j]?=some 58/\s[j+1]?=some 93)
theorem NoEnd.start(s:Str)(a:Nat):NoEnd s a a:=fun j b c=>by omega
theorem NoEnd.next{s:Str}{a i:Nat}(h:NoEnd s a i)(c:¬(s[i]?=some 58/\s[i+1]?=some 93)):NoEnd s a (i+1):=fun j b d=>by
 by_cases e:j=i
 ·rw[e];exact c
 ·exact h j b (by omega)
theorem end_at{s:Str}{a i:Nat}(h:NoEnd s a i)(f:a<=i)(d:s[i]?=some 58/\s[i+1]?=some 93):Lib.index (s.drop a) [58,93]=((i-a:Nat):Int):=by
 have g:=(List.getElem?_eq_some_iff.1 d.1).1;rcases Lib.index_spec (s.drop a) [58,93] with ⟨_,e⟩ | ⟨k,hk,_,c,hno⟩
 ·have:=e (i-a) (by rw[B53];omega);rw[occ2,B58,B58,show a+(i-a)=i by omega,show a+(i-a+1)=i+1 by omega]at this;exact absurd d (A3 this)
 ·rw[hk];rw[occ2,B58,B58]at c;have c:=A1 c;rcases Nat.lt_trichotomy k (i-a) with b | b | b
  ·exact absurd c (h (a+k) (by omega) (by omega))
  ·rw[b]
  ·have:=hno (i-a) b;rw[occ2,B58,B58,show a+(i-a)=i by omega,show a+(i-a+1)=i+1 by omega]at this;exact absurd d (A3 this)
theorem end_no{s:Str}{a i:Nat}(h:NoEnd s a i)(e:s.length<=i+1):Lib.index (s.drop a) [58,93]<0:=by
 rcases Lib.index_spec (s.drop a) [58,93] with ⟨c,_⟩ | ⟨k,_,_,b,_⟩
 ·rw[c];decide
 ·rw[occ2,B58,B58]at b;have b:=A1 b;have d:=(List.getElem?_eq_some_iff.1 b.2).1;exact absurd b (h (a+k) (by omega) (by omega))
def FR(s:Str)(f:Nat)(first:Bool)(t:Set4)(x:PSt):Ps Set4:=if first=true then (match c9 s t x with
  | .error e=>.error e
  | .ok (x',t')=>j9 s f t' x') else j9 s (f+1) t x
theorem A33(s:Str)(f:Nat)(x:PSt):l5 s f x=match FR s f true set0 (eM s 94 (x.skip 1)) with
  | .error e=>.error e
  | .ok (y,t)=>.ok (fZ (if M9 s 94 (x.skip 1)=true then t.compl else t) y):=by
 unfold l5 FR;rw[A6 rfl];dsimp only;cases c9 s set0 (eM s 94 (x.skip 1)) with
 | error e=>rfl
 | ok p=>rfl
theorem cls_end{s:Str}{f:Nat}{t:Set4}{x:PSt}(h:M9 s 93 x=true):FR s f false t x=.ok (x.skip 1,t):=by
 unfold FR;rw[A7 (by decide),j9,A6 h]
theorem A97{s:Str}{f:Nat}{first:Bool}{t:Set4}{x:PSt}(h:first=true\/¬M9 s 93 x=true):FR s f first t x=match c9 s t x with
  | .error e=>.error e
  | .ok (x',t')=>j9 s f t' x':=by
 unfold FR;by_cases a:first=true
 ·rw[A6 a]
 ·rw[A7 a,j9,A7 (h.resolve_left a)]
  try rfl
theorem RJ{s:Str}{f:Nat}{t:Set4}{x:PSt}:j9 s (f+1) t x=FR s f false t x:=by
 unfold FR;rw[A7 (by decide)]
theorem WE{s:Str}{t:Set4}{x:PSt}(b:s[x.at_]?=some 91)(c:s[x.at_+1]?=some 58):c9 s t x=if Lib.index (s.drop (x.at_+2)) [58,93]<0 then .error 40 else match Z5 t ((s.drop (x.at_+2)).take (Lib.index (s.drop (x.at_+2)) [58,93]).toNat) with
  | none=>.error 40
  | some f=>.ok (x.skip (4+(Lib.index (s.drop (x.at_+2)) [58,93]).toNat),f):=by
 unfold c9;have d:x5 91 58 (s.drop x.at_)=true:=by
  unfold x5;rw[B58,B58];exact A4 ⟨b,c⟩
 dsimp only;rw[A6 d,List.drop_drop]
 try rfl
theorem WF{s:Str}{t:Set4}{x:PSt}(h:¬(s[x.at_]?=some 91/\s[x.at_+1]?=some 58)){c:UInt8}(f:s[x.at_]?=some c):c9 s t x=if (s.length<x.at_+3\/s[x.at_+1]?≠some 45\/s[x.at_+2]?=some 93) then .ok (x.skip 1,t.with_ c.toNat)
  else if (s.getD (x.at_+2) 0).toNat<c.toNat then .error 40 else .ok (x.skip 3,t.through c.toNat (s.getD (x.at_+2) 0).toNat):=by
 unfold c9
 have q:¬x5 91 58 (s.drop x.at_)=true:=fun g=>h (by
  unfold x5 at g;rw[B58,B58]at g
  exact A1 g)
 dsimp only;rw[A7 q,f];dsimp only;rw[B58,B58,B53,show (s.drop (x.at_+1)).getD 1 0=s.getD (x.at_+2) 0 by rw[B46,B58,<-B46]];have p:=(List.getElem?_eq_some_iff.1 f).1;by_cases j:s.length<x.at_+3
 ·have b:s.length-(x.at_+1)<2:=by omega
  rw[A6 (.inl b),A6 (.inl j)]
 ·have b:¬s.length-(x.at_+1)<2:=by omega
  by_cases d:s[x.at_+1]?≠some 45\/s[x.at_+2]?=some 93
  ·rw[A6 (.inr d),A6 (.inr d)]
  ·rw[A7 (fun g=>g.elim b d)];exact (A7 (fun g=>g.elim j d)).symm
theorem YN{f:Nat}{x y:PSt}{c:UInt8}{n:Int}(b:s[x.at_]?=some c)(h:cA s f x c=.ok (y,n)):Z6 s F8 f x c=.ok (y,n):=by
 by_cases a:c=41
 ·subst a;cases f with
  | zero=>cases h
  | succ f=>rw[cA]at h;cases h
 ·rw[<-(DZ f).piece x c b a];exact h
theorem ME:∀(f:Nat) {x y:PSt} {kids:List Int} {n:Int},x.at_<=s.length->(∀k∈kids,sK x k)->gH s f x kids=.ok (y,n)->Gr s 0 1 x y/\sK y n
 | 0,_,_,_,_,_,_,h=>by cases h
 | f + 1,x,y,kids,n,h0,hk,h=>by
  have b:=DW (s:=s) (x:=x) (kind:=4) (.inl rfl) hk h0;rw[gH]at h;split at h
  ·rw[Except.ok.inj h]at b;exact b
  ·rename_i c d;split at h
   ·rw[Except.ok.inj h]at b;exact b
   ·split at h
    ·cases h
    ·rename_i z k m;obtain⟨g1,q⟩:=(V6 f).piece d (YN d m)
     obtain⟨g,r⟩:=ME f g1.len (fun j a=>by
      rcases List.mem_append.1 a with a | a
      ·exact gG g1.more (hk j a)
      ·rw[List.mem_singleton.1 a];exact q) h
     exact⟨(g1.trans g).le (by omega),r⟩
def kF(s:Str)(f:Nat)(st:PSt)(c:UInt8):Ps Int :=
 if c=40 then jG s f st
 else if c=91 then l5 s (s.length+2) st
 else if c=46 then .ok (zD st)
 else if c=94 then .ok (U8 ⟨2,set0,0,0,[]⟩ (st.skip 1))
 else if c=36 then .ok (U8 ⟨3,set0,0,0,[]⟩ (st.skip 1))
 else if c∈([41,124,42,43,63,123]:Str) then .error 40
 else if c=92 then cN s st
 else R4 s st
theorem A98{f:Nat}{st:PSt}{c:UInt8}(b:st.at_+1<=s.length){z:PSt}{k:Int}(h:kF s f st c=.ok (z,k)):Gr s 0 0 st z/\sK z k:=by
 have g1:=K6 (s:=s) (x:=st) 1 b;unfold kF at h;split at h
 ·rw[(DZ f).paren st b]at h;exact (V6 f).paren b h
 split at h
 ·exact uZ b h
 split at h
 ·have j:=VX (s:=s) (x:=st) b;rw[Except.ok.inj h]at j;exact j
 split at h
 ·obtain⟨d,g⟩:=sL (s:=s) (x:=st.skip 1) (n:=⟨2,set0,0,0,[]⟩) b (kB (.inr (.inr (.inl rfl))));rw[Except.ok.inj h]at d g;exact⟨(g1.trans d).le (by omega),g⟩
 split at h
 ·obtain⟨d,g⟩:=sL (s:=s) (x:=st.skip 1) (n:=⟨3,set0,0,0,[]⟩) b (kB (.inr (.inr (.inr rfl))));rw[Except.ok.inj h]at d g;exact⟨(g1.trans d).le (by omega),g⟩
 split at h
 ·cases h
 split at h
 ·exact pQ b h
 ·exact kC h
def mA(s:Str)(a:Bool)(r:Ps Int):Ps Int:=match r with
 | .error e=>.error e
 | .ok (st,k)=>if a=true then (match s[st.at_]? with
   | some q=>if q∈([42,43,63,123]:Str) then .error 40 else .ok (st,k)
   | none=>.ok (st,k)) else match V5 s F8 st with
   | .error e=>.error e
   | .ok (st',none)=>.ok (st',k)
   | .ok (st',some (least,most))=>.ok (U8 ⟨6,set0,least,most,[k]⟩ st')
theorem kG(r:Ps Int):R5 s F8 r=mA s false r:=by
 cases r with
 | error e=>rfl
 | ok p =>
  obtain⟨st,k⟩:=p;unfold R5 mA;dsimp only;rw[A7 (by decide)];cases V5 s F8 st with
  | error e=>rfl
  | ok q =>
   obtain⟨st',b⟩:=q;cases b with
   | none=>rfl
   | some b=>rfl
theorem vB(a:Int)(st:PSt):U2 s a st=mA s true (.ok (U8 ⟨a,set0,0,0,[]⟩ (st.skip 1))):=by
 unfold U2 mA;dsimp only;rw[A6 rfl];rfl
theorem WG{f:Nat}{st:PSt}{c:UInt8}(m:c≠124):cA s (f+1) st c=mA s (decide (c=94)||decide (c=36)) (kF s f st c):=by
 rw[cA];unfold kF;by_cases j:c=94
 ·subst j;rw[A6 rfl,vB];rfl
 rw[A7 j];by_cases b:c=36
 ·subst b;rw[A6 rfl,vB];rfl
 rw[A7 b,A5 j,A5 b,Bool.or_false,A7 j,A7 b];by_cases d:c=40
 ·rw[A6 d,A6 d,kG]
 rw[A7 d,A7 d];by_cases i:c=91
 ·rw[A6 i,A6 i,kG]
 rw[A7 i,A7 i];by_cases g:c=46
 ·rw[A6 g,A6 g,kG]
 rw[A7 g,A7 g];by_cases k:c∈([42,43,63,123]:Str)
 ·have a:¬c=92:=fun e=>by rw[e]at k;revert k;decide
  rw[A7 a,A6 k,A6]
  ·rfl
  ·simp only[B66,B84,or_false]at k ⊢;rcases k with h | h | h | h<;>simp[h]
 by_cases l:c=41
 ·subst l;rfl
 have n:¬c∈([41,124,42,43,63,123]:Str):=fun e=>by
  simp only[B66,B84,or_false]at e k;rcases e with h | h | h
  ·exact l h
  ·exact m h
  ·exact k h
 rw[A7 n];by_cases a:c=92
 ·rw[A6 a,A6 a,kG]
 ·rw[A7 a,A7 a,A7 k,A7 l,kG]
section
variable (A:Auto) (s:Str)
abbrev eO(p:Nat)(k:Int):List Int:=P5 (O8 A k) (decide (p=0)) (decide (p=s.length))
def reads(p:Nat)(k:Int):Prop:=(O8 A k).Kind=0/\t7 (O8 A k).Set (s.getD p 0).toNat=1
inductive Run:Int->Nat->Prop
 | start {i:Nat} (hi:i<=s.length):Run A.Start i
 | eps {k j:Int} {p:Nat} (h:Run k p) (hj:j∈eO A s p k):Run j p
 | read {k:Int} {p:Nat} (h:Run k p) (hp:p<s.length) (hr:reads A s p k):Run (O8 A k).Next (p+1)
abbrev inA(k:Int):Prop:=0<=k/\k<A.States.length
variable {A s}
theorem Run.in_(b:AG A){k:Int}{p:Nat}(h:Run A s k p):inA A k/\p<=s.length:=by
 induction h with
 | start c=>exact⟨b.start,c⟩
 | eps _ d a=>exact⟨(uX b a.1 _ _).2 _ d,a.2⟩
 | read _ e f a =>
  refine⟨?_,e⟩;have:=bZ (kA b a.1);have g:=f.1;omega
variable (A s)
def sN(m:Mach)(k:Int):Prop:=inA A k/\L9 m.2 k.toNat=true
structure Sy (p:Nat) (m:Mach):Prop where
 mg:MG A m
 fr:∀t∈m.1,0<=t.from_
 sync:∀k,sN A m k↔∃t∈m.1,t.state=k
variable {A s}
theorem A34{a:List Bool}{i c:Nat}(b:i<a.length):L9 (a.set i true) c=(L9 a c||decide (i=c)):=by
 unfold L9;rw[List.getElem?_set];by_cases e:i=c
 ·subst e;rw[A6 rfl,A6 b];simp
 ·rw[A7 e];simp[e]
theorem RK{m:Mach}(d:MG A m){i:Int}(c:inA A i){fr:Int}(k:Int):sN A (m.1++[⟨i,fr⟩],m.2.set i.toNat true) k↔sN A m k\/k=i:=by
 unfold sN;rw[A34 (by rw[d.sl];have:=c.2;have:=c.1;omega),B63,decide_eq_true_eq];constructor
 ·rintro⟨a,b | b⟩
  ·exact .inl ⟨a,b⟩
  ·right;have:=c.1;have:=a.1;omega
 ·rintro (⟨a,b⟩ | rfl)
  ·exact⟨a,.inl b⟩
  ·exact⟨c,.inr rfl⟩
theorem Sy.push{p:Nat}{m:Mach}(h:Sy A p m){i:Int}(c:inA A i){fr:Int}(b:0<=fr)(d:L9 m.2 i.toNat=false):Sy A p (m.1++[⟨i,fr⟩],m.2.set i.toNat true) where
 mg:=h.mg.push c fr d
 fr:=fun t a=>by
  rcases List.mem_append.1 a with a | a
  ·exact h.fr t a
  ·rw[List.mem_singleton.1 a];exact b
 sync:=fun k=>by
  rw[RK h.mg c,h.sync k];constructor
  ·rintro (⟨t,a,e⟩ | rfl)
   ·exact⟨t,List.mem_append_left _ a,e⟩
   ·exact⟨⟨k,fr⟩,by simp,rfl⟩
  ·rintro⟨t,a,e⟩;rcases List.mem_append.1 a with a | a
   ·exact .inl ⟨t,a,e⟩
   ·right;rw[<-e,List.mem_singleton.1 a]
theorem wV(S:AG A){p:Nat}{fr:Int}(y:0<=fr):∀(f:Nat) (c:List Int) (m:Mach),RE c m<f->Sy A p m->(∀k∈c,inA A k)->(∀k,sN A m k->∀j∈eO A s p k,sN A m j\/j∈c) ->
  let R:=eN A s p fr f c m
  Sy A p R/\(∀k,sN A R k->∀j∈eO A s p k,sN A R j)/\(∀k,sN A m k->sN A R k)/\(∀k∈c,sN A R k) /\
   ∀P:Int->Prop,(∀k,P k->∀j∈eO A s p k,P j)->(∀k,sN A m k->P k)->(∀k∈c,P k)->∀k,sN A R k->P k
 | 0,_,_,h,_,_,_=>absurd h (Nat.not_lt_zero _)
 | f + 1,c,m,hf,hm,ho,hc=>by
  dsimp only;cases U:c.getLast? with
  | none =>
   have h0:c=[]:=List.getLast?_eq_none_iff.1 U;subst h0;rw[IM];exact⟨hm,fun k b j C=>(hc k b j C).resolve_right (by simp),fun _ h=>h,(fun k b=>by cases b),fun P _ w _ k b=>w k b⟩
  | some i =>
   obtain⟨f',Z,m',ab,E,F,X,ac,x,z,H⟩:=yL s S (a:=p) (fr:=fr) hm.mg ho hf rfl U;obtain rfl:f=f':=by omega
   obtain⟨V,hg,G⟩:=uY U;have T:=ho i G;have u:c=c.dropLast++[i]:=by
    rw[List.dropLast_eq_take];have Y:0<c.length:=List.length_pos_iff.2 V;have w:=List.take_add_one (l:=c) (i:=c.length-1);rw[hg,show c.length-1+1=c.length by omega,B51]at w;exact w
   have d:∀k,k∈c↔k∈c.dropLast\/k=i:=fun k=>by
    conv=>lhs;rw[u]
    rw[B73,List.mem_singleton]
   cases L:L9 m.2 i.toNat
   ·obtain⟨O,Q⟩:=H L;subst O Q;have W:=hm.push T y L;have q:=RK (fr:=fr) hm.mg T
    have B:=wV S y f _ _ F W x (fun k b j C=>by
     rw[q,B73];rcases (q k).1 b with b | rfl
     ·rcases hc k b j C with h | h
      ·exact .inl (.inl h)
      ·rcases (d j).1 h with h | h
       ·exact .inr (.inl h)
       ·exact .inl (.inr h)
     ·exact .inr (.inr C))
    dsimp only at B;rw[E]at B;obtain⟨M,N,a3,a4,a5⟩:=B;refine⟨M,N,fun k b=>a3 k ((q k).2 (.inl b)),fun k b=>?_,fun P K w J k b=>?_⟩
    ·rcases (d k).1 b with b | rfl
     ·exact a4 k (List.mem_append_left _ b)
     ·exact a3 _ ((q _).2 (.inr rfl))
    ·have D:=J i G;refine a5 P K (fun k b=>?_) (fun k b=>?_) k b
     ·rcases (q k).1 b with b | rfl
      ·exact w k b
      ·exact D
     ·rcases List.mem_append.1 b with b | b
      ·exact J k ((d k).2 (.inl b))
      ·exact K i D k b
   ·obtain⟨O,Q⟩:=z L;subst O Q;have I:sN A m' i:=⟨T,L⟩
    have B:=wV S y f _ _ F hm x (fun k b j C=>by
     rcases hc k b j C with h | h
     ·exact .inl h
     ·rcases (d j).1 h with h | rfl
      ·exact .inr h
      ·exact .inl I)
    dsimp only at B;rw[E]at B;obtain⟨M,N,a3,a4,a5⟩:=B;refine⟨M,N,a3,fun k b=>?_,fun P K w J k b=>a5 P K w (fun k b=>J k ((d k).2 (.inl b))) k b⟩;rcases (d k).1 b with b | rfl
    ·exact a4 k b
    ·exact a3 _ I
def Shut(A:Auto)(s:Str)(p:Nat)(m:Mach):Prop:=∀k,sN A m k->∀j∈eO A s p k,sN A m j
theorem RL(h:AG A){p:Nat}{q fr:Int}(b:0<=fr)(v:inA A q){m:Mach}(c:Sy A p m)(r:Shut A s p m) :
  Sy A p (uU A s p ⟨q,fr⟩ m)/\Shut A s p (uU A s p ⟨q,fr⟩ m)/\(∀k,sN A m k->sN A (uU A s p ⟨q,fr⟩ m) k)/\sN A (uU A s p ⟨q,fr⟩ m) q /\
   ∀P:Int->Prop,(∀k,P k->∀j∈eO A s p k,P j)->(∀k,sN A m k->P k)->P q->∀k,sN A (uU A s p ⟨q,fr⟩ m) k->P k:=by
 have t:=c.mg.cnt;obtain⟨d,e,a3,a4,a5⟩:=wV (s:=s) h b (3*A.States.length+2) [q] m (by unfold RE;simp only[List.length_singleton];omega) c (fun k a=>by rw[List.mem_singleton.1 a];exact v) (fun k a j u=>.inl (r k a j u));exact⟨d,e,a3,a4 q (by simp),fun P o f g=>a5 P o f fun k a=>by rw[List.mem_singleton.1 a];exact g⟩
theorem sO(u:AG A){p c:Nat}:∀(y:List Thread) (m:Mach),(∀t∈y,inA A t.state/\0<=t.from_)->Sy A p m->Shut A s p m ->
  let R:=jE A s p c y m
  Sy A p R/\Shut A s p R/\(∀k,sN A m k->sN A R k)/\(∀t∈y,(O8 A t.state).Kind=0->t7 (O8 A t.state).Set c=1->sN A R (O8 A t.state).Next) /\
   ∀P:Int->Prop,(∀k,P k->∀j∈eO A s p k,P j)->(∀k,sN A m k->P k)->(∀t∈y,(O8 A t.state).Kind=0->t7 (O8 A t.state).Set c=1->P (O8 A t.state).Next)->∀k,sN A R k->P k
 | [],m,_,hm,hc=>⟨hm,hc,fun _ h=>h,(fun t w=>by cases w),fun P _ b _ k g=>b k g⟩
 | t::r,m,w,hm,hc=>by
  dsimp only;rw[jE];have l:∀x∈r,inA A x.state/\0<=x.from_:=fun x a=>w x (List.mem_cons_of_mem _ a);obtain⟨F,G⟩:=w t (List.mem_cons_self ..);by_cases g:(O8 A t.state).Kind=0/\t7 (O8 A t.state).Set c=1
  ·rw[A6 g];have J:inA A (O8 A t.state).Next:=by have:=bZ (kA u F);have:=g.1;unfold inA;omega
   obtain⟨H,I,a3,a4,a5⟩:=RL u (q:=(O8 A t.state).Next) G J hm hc;obtain⟨z,B,o,C,D⟩:=sO u r _ l H I;refine⟨z,B,fun k h=>o k (a3 k h),fun x a b f=>?_,fun P v b f k E=>?_⟩
   ·rcases List.mem_cons.1 a with rfl | a
    ·exact o _ a4
    ·exact C x a b f
   ·exact D P v (a5 P v b (f t (List.mem_cons_self ..) g.1 g.2)) (fun x a=>f x (List.mem_cons_of_mem _ a)) k E
  ·rw[A7 g];obtain⟨z,B,o,C,D⟩:=sO u r _ l hm hc;refine⟨z,B,o,fun x a b f=>?_,fun P v b f k E=>D P v b (fun x a=>f x (List.mem_cons_of_mem _ a)) k E⟩;rcases List.mem_cons.1 a with rfl | a
   ·exact absurd ⟨b,f⟩ g
   ·exact C x a b f
theorem Sy.first(A:Auto)(p:Nat):Sy A p ([],List.replicate A.States.length false) where
 mg:=MG.first A
 fr:=fun _ h=>by cases h
 sync:=fun k=>by
  constructor
  ·rintro⟨b,a⟩;unfold L9 at a;rw[List.getElem?_replicate]at a;split at a<;>cases a
  ·rintro⟨_,h,_⟩;cases h
theorem mB(A:Auto)(k:Int):¬sN A ([],List.replicate A.States.length false) k:=fun h=>by
 obtain⟨_,h,_⟩:=((Sy.first A 0).sync k).1 h;cases h
theorem MF{m:Mach}(h:∀t∈m.1,0<=t.from_):0<=T3 A m.1↔∃t∈m.1,(O8 A t.state).Kind=4:=by
 obtain⟨f,g⟩:=m;dsimp only at h ⊢;induction f with
 | nil=>simp[T3]
 | cons t r c =>
  unfold T3;split
  ·rename_i b;exact⟨fun _=>⟨t,List.mem_cons_self ..,b⟩,fun _=>h t (List.mem_cons_self ..)⟩
  ·rename_i b;rw[c fun x a=>h x (List.mem_cons_of_mem _ a)];constructor
   ·rintro⟨x,a,e⟩;exact⟨x,List.mem_cons_of_mem _ a,e⟩
   ·rintro⟨x,a,e⟩;rcases List.mem_cons.1 a with rfl | a
    ·exact absurd e b
    ·exact⟨x,a,e⟩
theorem ite_snd{α:Type}{c:Prop}[Decidable c]{x y:α×Bool}(a:x.2=true)(b:y.2=true):(if c then x else y).2=true:=by split<;>assumption
theorem yP:∀(f a:Nat) (m:Mach) (b:Int×Int),(jF A s f a m b true).2=true
 | 0,_,_,_=>rfl
 | f+1,a,m,b=>by
  rw[jF]
  (try dsimp only)
  have e:(if 0<=T3 A (if true=true then m else uU A s a ⟨A.Start,a⟩ m).1 then true else true)=true:=ite_self _;rw[e];exact ite_snd rfl (yP f _ _ _)
structure NI (A:Auto) (s:Str) (a:Nat) (m:Mach):Prop where
 sy:Sy A a m
 shut:Shut A s a m
 sound:∀k,sN A m k->Run A s k a
 all:∀p k,p+1=a->Run A s k p->reads A s p k->sN A m (O8 A k).Next
 no:∀p k,p<a->Run A s k p->(O8 A k).Kind≠4
theorem EB(C:AG A):∀(f a:Nat) (m:Mach) (b:Int×Int),f=s.length+1-a->a<=s.length->NI A s a m->((jF A s f a m b false).2=true↔∃k p,Run A s k p/\(O8 A k).Kind=4)
 | 0,a,m,b,hf,ha,_=>by omega
 | f + 1,a,m,b,hf,ha,h=>by
  obtain⟨y,J,a3,a4,a5⟩:=RL (s:=s) C (q:=A.Start) (fr:=(a:Int)) (by omega) C.start h.sy h.shut;obtain⟨m1,F⟩:∃m1,m1=uU A s a ⟨A.Start,a⟩ m:=⟨_,rfl⟩
  rw[<-F]at y J a3 a4 a5;have w:∀k,sN A m1 k↔Run A s k a:=fun k=>by
   constructor
   ·exact a5 (fun k=>Run A s k a) (fun k B j E=>.eps B E) h.sound (.start ha) k
   ·have key:∀k p,Run A s k p->p=a->sN A m1 k:=fun k p u=>by
     induction u with
     | start _=>exact fun _=>a4
     | eps _ E S=>intro e;subst e;exact J _ (S rfl) _ E
     | read I _ x _=>intro e;exact a3 _ (h.all _ _ e I x)
    exact fun u=>key k a u rfl
  have z:0<=T3 A m1.1↔∃k,Run A s k a/\(O8 A k).Kind=4:=by
   rw[MF y.fr];constructor
   ·rintro⟨t,v,e⟩;exact⟨t.state,(w _).1 ((y.sync _).2 ⟨t,v,rfl⟩),e⟩
   ·rintro⟨k,u,e⟩;obtain⟨t,v,rfl⟩:=(y.sync k).1 ((w k).2 u);exact⟨t,v,e⟩
  rw[jF]
  (try dsimp only)
  rw[A7 (show ¬false=true by decide),<-F];by_cases g:0<=T3 A m1.1
  ·rw[A6 g,A6 g,A6 g];obtain⟨k,u,e⟩:=z.1 g;refine⟨fun _=>⟨k,a,u,e⟩,fun _=>?_⟩;split
   ·rfl
   ·exact yP _ _ _ _
  ·rw[A7 g,A7 g,A7 g];have G:∀p k,p<=a->Run A s k p->(O8 A k).Kind≠4:=fun p k L u e=>by
    rcases Nat.lt_or_ge p a with H | H
    ·exact h.no p k H u e
    ·obtain rfl:p=a:=by omega
     exact g (z.2 ⟨k,u,e⟩)
   by_cases D:a=s.length
   ·rw[A6 (.inl D)];refine⟨(fun h=>by cases h),fun ⟨k,p,u,e⟩=>?_⟩;have:=(u.in_ C).2;exact absurd e (G p k (by omega) u)
   ·rw[A7 (fun h=>h.elim D fun h=>by cases h.1)];obtain⟨M,O,T,P,Q⟩:=sO (s:=s) C (p:=a+1) (c:=(s.getD a 0).toNat) m1.1 ([],List.replicate A.States.length false) (fun t v=>⟨y.mg.st t v,y.fr t v⟩) (Sy.first A _) (fun k B=>absurd B (mB A k));refine EB C f (a+1) _ b (by omega) (by omega) ⟨M,O,?_,?_,fun p k L u=>G p k (by omega) u⟩
    ·refine Q (fun k=>Run A s k (a+1)) (fun k B j E=>.eps B E) (fun k B=>absurd B (mB A k)) fun t v H R=>?_;exact .read ((w _).1 ((y.sync _).2 ⟨t,v,rfl⟩)) (by omega) ⟨H,R⟩
    ·intro p k L u x;obtain rfl:p=a:=by omega
     obtain⟨t,v,rfl⟩:=(y.sync k).1 ((w k).2 u);exact P t v x.1 x.2
theorem A99(b:AG A):(gF A s 0).2=true↔∃k p,Run A s k p/\(O8 A k).Kind=4:=by
 unfold gF;exact EB b _ 0 _ _ rfl (Nat.zero_le _) ⟨Sy.first A 0,fun k a=>absurd a (mB A k),fun k a=>absurd a (mB A k),fun p k h=>by omega,fun p k h=>by omega⟩
end
abbrev Lng:=Nat->Nat->Prop
def q8(R:Lng):Nat->Lng
 | 0,i,j=>i=j
 | m+1,i,j=>∃p,R i p/\q8 R m p j
theorem pow_add{R:Lng}:∀{a b i j:Nat},q8 R (a+b) i j↔∃p,q8 R a i p/\q8 R b p j
 | 0,b,i,j=>by
  rw[Nat.zero_add];exact⟨fun h=>⟨i,rfl,h⟩,fun ⟨p,c,d⟩=>by rw[show i=p from c];exact d⟩
 | a+1,b,i,j=>by
  rw[show a+1+b=(a+b)+1 by omega];constructor
  ·rintro⟨q,c,d⟩;obtain⟨p,e,f⟩:=pow_add.1 d;exact⟨p,⟨q,c,e⟩,f⟩
  ·rintro⟨p,⟨q,c,e⟩,f⟩;exact⟨q,c,pow_add.2 ⟨p,e,f⟩⟩
theorem pow_one{R:Lng}{i j:Nat}:q8 R 1 i j↔R i j:=⟨fun ⟨p,a,b⟩=>by rw[<-show p=j from b];exact a,fun h=>⟨j,h,rfl⟩⟩
theorem pow_snoc{R:Lng}{m i j:Nat}:q8 R (m+1) i j↔∃p,q8 R m i p/\R p j :=
 pow_add.trans ⟨fun ⟨p,a,b⟩=>⟨p,a,pow_one.1 b⟩,fun ⟨p,a,b⟩=>⟨p,a,pow_one.2 b⟩⟩
def vC(D:Int->Lng):List Int->Lng
 | [],i,j=>i=j
 | k::r,i,j=>∃p,vC D r i p/\D k p j
section
variable (L:List Node) (s:Str)
def eG(n:Node)(D:Int->Lng):Lng:=fun i j =>
 if n.Kind=0 then i=j
 else if n.Kind=1 then i<s.length/\j=i+1/\t7 n.Set (s.getD i 0).toNat=1
 else if n.Kind=2 then i=0/\j=0
 else if n.Kind=3 then i=s.length/\j=s.length
 else if n.Kind=4 then vC D n.Kids.reverse i j
 else if n.Kind=5 then ∃k∈n.Kids,D k i j
 else ∃m:Nat,n.Min<=m/\(n.Max<0\/(m:Int)<=n.Max)/\q8 (D (n.Kids.getD 0 0)) m i j
def DenF:Nat->Int->Lng
 | 0,_,_,_=>False
 | f+1,k,i,j=>eG s (L.getD k.toNat J6) (DenF f) i j
theorem sP{R S:Lng}(h:∀i j,R i j↔S i j):∀(m i j:Nat),q8 R m i j↔q8 S m i j
 | 0,_,_=>Iff.rfl
 | m+1,i,j=>⟨fun ⟨p,a,b⟩=>⟨p,(h i p).1 a,(sP h m p j).1 b⟩,fun ⟨p,a,b⟩=>⟨p,(h i p).2 a,(sP h m p j).2 b⟩⟩
theorem EC{D E:Int->Lng}:∀{l:List Int},(∀k∈l,∀i j,D k i j↔E k i j)->∀i j,vC D l i j↔vC E l i j
 | [],_,_,_=>Iff.rfl
 | k::r,h,i,j=>by
  have c:=EC (l:=r) fun k e=>h k (List.mem_cons_of_mem _ e);have d:=h k (List.mem_cons_self ..);exact⟨fun ⟨p,a,b⟩=>⟨p,(c i p).1 a,(d p j).1 b⟩,fun ⟨p,a,b⟩=>⟨p,(c i p).2 a,(d p j).2 b⟩⟩
theorem j5{n:Node}{i:Int}(h:m7 n i=true):∀k∈n.Kids,0<=k/\k<i:=fun k a=>by
 unfold m7 at h;rw[B47]at h;exact A1 (List.all_eq_true.1 h.1 k a)
theorem dU{n:Node}{i:Int}(h:m7 n i=true)(b:n.Kind=6):n.Kids.length=1/\0<=n.Min/\n.Min<=100/\(n.Max = -1\/n.Min<=n.Max/\n.Max<=100):=by
 unfold m7 at h;rw[B47]at h;have a:=h.2;rw[A7 (by omega),A7 (by omega),A6 b]at a;exact A1 a
theorem aH{n:Node}{i:Int}(h:m7 n i=true):0<=n.Kind/\n.Kind<=6:=by
 unfold m7 at h;rw[B47]at h;have a:=h.2;split at a
 ·omega
 ·split at a
  ·omega
  ·split at a
   ·omega
   ·cases a
variable {L s}
theorem nd_get{k:Int}(h:0<=k/\k<L.length):L[k.toNat]?=some (L.getD k.toNat J6):=by
 rw[B46,B44 (by omega)];rfl
theorem iK(a:DV L){k:Int}(h:0<=k/\k<L.length):m7 (L.getD k.toNat J6) k=true:=by
 have:=a k.toNat _ (nd_get h)
 rwa[Int.toNat_of_nonneg h.1]at this
theorem ED{n:Node}{b:Int}(g:m7 n b=true){D E:Int->Lng}(h:∀k,0<=k->k<b->∀i j,D k i j↔E k i j)(i j:Nat):eG s n D i j↔eG s n E i j:=by
 have e:=j5 g;unfold eG;split
 ·exact Iff.rfl
 split
 ·exact Iff.rfl
 split
 ·exact Iff.rfl
 split
 ·exact Iff.rfl
 split
 ·exact EC (fun k d=>h k (e k (List.mem_reverse.1 d)).1 (e k (List.mem_reverse.1 d)).2) i j
 split
 ·exact⟨fun ⟨k,d,f⟩=>⟨k,d,(h k (e k d).1 (e k d).2 i j).1 f⟩,fun ⟨k,d,f⟩=>⟨k,d,(h k (e k d).1 (e k d).2 i j).2 f⟩⟩
 ·rename_i p q r t u v;have w:=aH g;obtain⟨o,_⟩:=dU g (by omega);have d:n.Kids.getD 0 0∈n.Kids:=by
   match n.Kids,o with
   | [x],_=>exact List.mem_cons_self ..
  have l:=sP (h _ (e _ d).1 (e _ d).2);exact⟨fun ⟨m,a,b,c⟩=>⟨m,a,b,(l m i j).1 c⟩,fun ⟨m,a,b,c⟩=>⟨m,a,b,(l m i j).2 c⟩⟩
theorem RM(a:DV L):∀(f g:Nat) (k:Int),0<=k->k<L.length->k<f->k<g->∀i j,DenF L s f k i j↔DenF L s g k i j
 | 0,_,_,_,_,_,_,_,_=>by omega
 | _+1,0,_,_,_,_,_,_,_=>by omega
 | f+1,g+1,k,h0,h1,h2,h3,i,j=>ED (iK a ⟨h0,h1⟩) (fun c b d=>RM a f g c b (by omega) (by omega) (by omega)) i j
variable (L s)
abbrev Den(k:Int):Lng:=DenF L s L.length k
variable {L s}
theorem EE(a:DV L){k:Int}(h:0<=k/\k<L.length)(i j:Nat):Den L s k i j↔eG s (L.getD k.toNat J6) (Den L s) i j:=by
 obtain⟨n,f⟩:∃n,L.length=n+1:=⟨L.length-1,by omega⟩
 have d:Den L s k i j↔eG s (L.getD k.toNat J6) (DenF L s n) i j:=by unfold Den;rw[f];exact Iff.rfl
 exact d.trans (ED (iK a h) (fun c b e=>RM a n L.length c b (by omega) (by omega) (by omega)) i j)
end
section
variable (A:Auto) (s:Str)
def AcN:Nat->Int->Nat->Prop
 | 0,k,p=>(O8 A k).Kind=4/\p<=s.length
 | n+1,k,p=>(∃j∈eO A s p k,AcN n j p)\/(p<s.length/\reads A s p k/\AcN n (O8 A k).Next (p+1))
def Ac(k:Int)(p:Nat):Prop:=∃n,AcN A s n k p
def Leads(q next:Int)(R:Lng):Prop:=(∀n i,AcN A s n q i->∃m j,m<=n/\R i j/\AcN A s m next j)/\(∀i j,R i j->Ac A s next j->Ac A s q i)
variable {A s}
theorem Leads.congr{q next:Int}{R S:Lng}(h:Leads A s q next R)(a:∀i j,R i j↔S i j):Leads A s q next S :=
 ⟨fun n i ha=>let ⟨m,j,b,c,d⟩:=h.1 n i ha;⟨m,j,b,(a i j).1 c,d⟩,fun i j e ha=>h.2 i j ((a i j).2 e) ha⟩
theorem kH(q:Int):Leads A s q q (fun i j=>i=j):=⟨fun n i h=>⟨n,i,Nat.le_refl _,rfl,h⟩,fun i j h ha=>by rw[show i=j from h];exact ha⟩
theorem Leads.trans{q r t:Int}{R S:Lng}(h:Leads A s q r R)(g:Leads A s r t S):Leads A s q t (fun i j=>∃p,R i p/\S p j) :=
 ⟨fun n i ha=>let ⟨m,p,d,b,e⟩:=h.1 n i ha;let ⟨f,j,g1,a,c⟩:=g.1 m p e;⟨f,j,Nat.le_trans g1 d,⟨p,b,a⟩,c⟩,
  fun i j ⟨p,b,a⟩ ha=>h.2 i p b (g.2 p j a ha)⟩
theorem A35{q:Int}{z:Set4}{next o:Int}(h:O8 A q=⟨0,z,next,o⟩):Leads A s q next (fun i j=>i<s.length/\j=i+1/\t7 z (s.getD i 0).toNat=1):=by
 refine⟨fun n i ha=>?_,fun i j ⟨c,d,e⟩ ⟨n,ha⟩=>⟨n+1,.inr ⟨c,?_,?_⟩⟩⟩
 ·cases n with
  | zero=>have:=ha.1;rw[h]at this;cases this
  | succ n =>
   rcases ha with ⟨j,b,_⟩ | ⟨hp,hr,ha⟩
   ·unfold eO P5 at b;rw[h]at b;simp at b
   ·rw[h]at ha;have hb:=hr.2;rw[h]at hb;exact⟨n,i+1,Nat.le_succ _,⟨hp,rfl,hb⟩,ha⟩
 ·unfold reads;rw[h];exact⟨rfl,e⟩
 ·rw[h,<-d];exact ha
theorem RN{q:Int}{z:Set4}{next o:Int}(h:O8 A q=⟨2,z,next,o⟩):Leads A s q next (fun i j=>i=0/\j=0):=by
 refine⟨fun n i ha=>?_,fun i j ⟨c,d⟩ ⟨n,ha⟩=>⟨n+1,.inl ⟨next,?_,?_⟩⟩⟩
 ·cases n with
  | zero=>have:=ha.1;rw[h]at this;cases this
  | succ n =>
   rcases ha with ⟨j,a,ha⟩ | ⟨hp,hr,ha⟩
   ·unfold eO P5 at a;rw[h]at a;by_cases b:i=0
    ·simp[b]at a;rw[a,b]at ha;exact⟨n,0,Nat.le_succ _,⟨b,rfl⟩,ha⟩
    ·simp[b]at a
   ·have:=hr.1;rw[h]at this;cases this
 ·unfold eO P5;rw[h];simp[c]
 ·rw[c,<-d];exact ha
theorem A36{q:Int}{z:Set4}{next o:Int}(h:O8 A q=⟨3,z,next,o⟩):Leads A s q next (fun i j=>i=s.length/\j=s.length):=by
 refine⟨fun n i ha=>?_,fun i j ⟨c,d⟩ ⟨n,ha⟩=>⟨n+1,.inl ⟨next,?_,?_⟩⟩⟩
 ·cases n with
  | zero=>have:=ha.1;rw[h]at this;cases this
  | succ n =>
   rcases ha with ⟨j,a,ha⟩ | ⟨hp,hr,ha⟩
   ·unfold eO P5 at a;rw[h]at a;by_cases b:i=s.length
    ·simp[b]at a;rw[a,b]at ha;exact⟨n,s.length,Nat.le_succ _,⟨b,rfl⟩,ha⟩
    ·simp[b]at a
   ·have:=hr.1;rw[h]at this;cases this
 ·unfold eO P5;rw[h];simp[c]
 ·rw[c,<-d];exact ha
theorem fD{q:Int}{z:Set4}{b o:Int}(h:O8 A q=⟨1,z,b,o⟩){n i:Nat}:AcN A s (n+1) q i↔AcN A s n b i\/AcN A s n o i:=by
 constructor
 ·rintro (⟨j,a,ha⟩ | ⟨_,c,_⟩)
  ·unfold eO P5 at a;rw[h]at a;simp at a;rcases a with rfl | rfl
   ·exact .inl ha
   ·exact .inr ha
  ·have:=c.1;rw[h]at this;cases this
 ·rintro (ha | ha)
  ·exact .inl ⟨b,by unfold eO P5;rw[h];simp,ha⟩
  ·exact .inl ⟨o,by unfold eO P5;rw[h];simp,ha⟩
theorem RO{q:Int}{z:Set4}{b o:Int}(h:O8 A q=⟨1,z,b,o⟩){i:Nat}:¬AcN A s 0 q i:=fun ha=>by have:=ha.1;rw[h]at this;cases this
theorem yQ{q:Int}{z:Set4}{b o next:Int}{R S:Lng}(h:O8 A q=⟨1,z,b,o⟩)(e:Leads A s b next R)(f:Leads A s o next S):Leads A s q next (fun i j=>R i j\/S i j):=by
 refine⟨fun n i ha=>?_,fun i j d ha=>?_⟩
 ·cases n with
  | zero=>exact absurd ha (RO h)
  | succ n =>
   rcases (fD h).1 ha with ha | ha
   ·obtain⟨m,j,a,b,c⟩:=e.1 n i ha;exact⟨m,j,Nat.le_succ_of_le a,.inl b,c⟩
   ·obtain⟨m,j,a,b,c⟩:=f.1 n i ha;exact⟨m,j,Nat.le_succ_of_le a,.inr b,c⟩
 ·rcases d with d | d
  ·obtain⟨n,ha⟩:=e.2 i j d ha;exact⟨n+1,(fD h).2 (.inl ha)⟩
  ·obtain⟨n,ha⟩:=f.2 i j d ha;exact⟨n+1,(fD h).2 (.inr ha)⟩
theorem WH{q:Int}{z:Set4}{b next:Int}{R:Lng}(h:O8 A q=⟨1,z,b,next⟩)(e:Leads A s b q R):Leads A s q next (fun i j=>∃m,q8 R m i j):=by
 have key:∀B n,n<B->∀i,AcN A s n q i->∃m j,m<=n/\(∃t,q8 R t i j)/\AcN A s m next j:=by
  intro B;induction B with
  | zero=>intro n o;omega
  | succ B d =>
   intro n o i ha;cases n with
   | zero=>exact absurd ha (RO h)
   | succ n =>
    rcases (fD h).1 ha with ha | ha
    ·obtain⟨m,p,a,b,c⟩:=e.1 n i ha;obtain⟨w,j,x,⟨t,g⟩,k⟩:=d m (by omega) p c;exact⟨w,j,by omega,⟨t+1,p,b,g⟩,k⟩
    ·exact⟨n,i,Nat.le_succ _,⟨0,rfl⟩,ha⟩
 refine⟨fun n i ha=>key (n+1) n (Nat.lt_succ_self _) i ha,?_⟩;rintro i j ⟨m,f⟩ ha;induction m generalizing i with
 | zero =>
  obtain⟨n,ha⟩:=ha;rw[show i=j from f];exact⟨n+1,(fD h).2 (.inr ha)⟩
 | succ m d =>
  obtain⟨p,v,u⟩:=f;obtain⟨n,hb⟩:=e.2 i p v (d p u);exact⟨n+1,(fD h).2 (.inl hb)⟩
end
def Pre(st st':List State):Prop:=st.length<=st'.length/\∀x,x<st.length->st'[x]?=st[x]?
theorem Pre.refl(st:List State):Pre st st:=⟨Nat.le_refl _,fun _ _=>rfl⟩
theorem Pre.trans{a b c:List State}(h:Pre a b)(g:Pre b c):Pre a c:=⟨Nat.le_trans h.1 g.1,fun x d=>(g.2 x (Nat.lt_of_lt_of_le d h.1)).trans (h.2 x d)⟩
theorem Pre.snoc(st:List State)(q:State):Pre st (st++[q]):=⟨by simp,fun x a=>B61 a⟩
theorem Pre.set{st st':List State}(h:Pre st st'){l:Nat}(b:st.length<=l)(v:State):Pre st (st'.set l v):=⟨by rw[B65];exact h.1,fun x a=>by rw[List.getElem?_set_ne (by omega)];exact h.2 x a⟩
section
variable (L:List Node) (w:List Int)
structure BPre (f:Nat):Prop where
 build:∀{k next:Int} {st st':List State} {q:Int},I9 L w f k next st=some (st',q)->Pre st st'
 cat:∀{l:List Int} {next:Int} {st st':List State} {q:Int},aK L w f l next st=some (st',q)->Pre st st'
 alt:∀{l:List Int} {next start:Int} {st st':List State} {q:Int},y7 L w f l next start st=some (st',q)->Pre st st'
 max:∀{kid:Int} {m:Nat} {last next:Int} {st st':List State} {q:Int},s9 L w f kid m last next st=some (st',q)->Pre st st'
 min:∀{kid:Int} {m:Nat} {next:Int} {st st':List State} {q:Int},t6 L w f kid m next st=some (st',q)->Pre st st'
variable {L w}
theorem K2{st st':List State}{q a:Int}(h:(some (st,q):Option Bld)=some (st',a)):st=st'/\q=a:=by cases h;exact⟨rfl,rfl⟩
theorem bpre:∀f:Nat,BPre L w f
 | 0=>⟨(fun h=>by rw[I9]at h;cases h),(fun h=>by rw[aK]at h;cases h),(fun h=>by rw[y7]at h;cases h),(fun h=>by rw[s9]at h;cases h),(fun h=>by rw[t6]at h;cases h)⟩
 | f + 1=>by
  have b:=bpre f;refine⟨?_,?_,?_,?_,?_⟩
  ·intro k next st st' q h;rw[I9]at h;dsimp only at h;split at h
   ·obtain⟨rfl,_⟩:=K2 h;exact .refl _
   split at h
   ·obtain⟨rfl,_⟩:=K2 h;exact .snoc _ _
   split at h
   ·obtain⟨rfl,_⟩:=K2 h;exact .snoc _ _
   split at h
   ·obtain⟨rfl,_⟩:=K2 h;exact .snoc _ _
   split at h
   ·exact b.cat h
   split at h
   ·split at h
    ·cases h
    ·split at h
     ·cases h
     ·rename_i hb;exact (b.build hb).trans (b.alt h)
   split at h
   ·split at h
    ·split at h
     ·cases h
     ·rename_i hb;exact ((Pre.snoc st _).trans (b.build hb)).set (Nat.le_refl _) _ |>.trans (b.min h)
    ·split at h
     ·cases h
     ·rename_i hb;exact (b.max hb).trans (b.min h)
   ·obtain⟨rfl,_⟩:=K2 h;exact .refl _
  ·intro l next st st' q h;cases l with
   | nil=>rw[aK]at h;obtain⟨rfl,_⟩:=K2 h;exact .refl _
   | cons k r =>
    rw[aK]at h;split at h
    ·cases h
    ·rename_i hb;exact (b.build hb).trans (b.cat h)
  ·intro l next start st st' q h;cases l with
   | nil=>rw[y7]at h;obtain⟨rfl,_⟩:=K2 h;exact .refl _
   | cons k r =>
    rw[y7]at h;split at h
    ·cases h
    ·rename_i hb;exact ((b.build hb).trans (.snoc _ _)).trans (b.alt h)
  ·intro d m last next st st' q h;cases m with
   | zero=>rw[s9]at h;obtain⟨rfl,_⟩:=K2 h;exact .refl _
   | succ m =>
    rw[s9]at h;split at h
    ·cases h
    ·rename_i hb;exact ((b.build hb).trans (.snoc _ _)).trans (b.max h)
  ·intro d m next st st' q h;cases m with
   | zero=>rw[t6]at h;obtain⟨rfl,_⟩:=K2 h;exact .refl _
   | succ m =>
    rw[t6]at h;split at h
    ·cases h
    ·rename_i hb;exact (b.build hb).trans (b.min h)
end
section
variable (A:Auto)
def Agree(a:Nat)(st:List State):Prop:=∀x,a<=x->x<st.length->A.States[x]?=st[x]?
variable {A}
theorem Agree.sub{a:Nat}{st st':List State}(h:Agree A a st')(c:Pre st st'):Agree A a st:=fun x d b=>(h x d (Nat.lt_of_lt_of_le b c.1)).trans (c.2 x b)
theorem Agree.from{a b:Nat}{st:List State}(h:Agree A a st)(hb:a<=b):Agree A b st:=fun x c d=>h x (Nat.le_trans hb c) d
theorem Agree.at{a:Nat}{st st':List State}{q:State}(h:Agree A a st')(ha:a<=st.length)(d:Pre (st++[q]) st'):O8 A (st.length:Int)=q:=by
 have b:st.length<(st++[q]).length:=by simp
 have c:=h st.length ha (Nat.lt_of_lt_of_le b d.1);rw[d.2 _ b,List.getElem?_concat_length]at c;unfold O8;rw[B45,B46,c];rfl
variable (A) (L:List Node) (w:List Int) (s:Str)
structure BLead (f:Nat):Prop where
 build:∀{k next:Int} {st st':List State} {q:Int},0<=k/\k<L.length->I9 L w f k next st=some (st',q)->Agree A st.length st'->Leads A s q next (Den L s k)
 cat:∀{l:List Int} {next:Int} {st st':List State} {q:Int},(∀k∈l,0<=k/\k<L.length)->aK L w f l next st=some (st',q)->Agree A st.length st'->Leads A s q next (vC (Den L s) l)
 alt:∀{l:List Int} {next start:Int} {st st':List State} {q:Int} {S:Lng},(∀k∈l,0<=k/\k<L.length)->y7 L w f l next start st=some (st',q)->Agree A st.length st'->Leads A s start next S->Leads A s q next (fun i j=>S i j\/∃k∈l,Den L s k i j)
 max:∀{kid:Int} {m:Nat} {last next:Int} {st st':List State} {q:Int} {c:Nat},0<=kid/\kid<L.length->s9 L w f kid m last next st=some (st',q)->Agree A st.length st'->Leads A s next last (fun i j=>∃t,t<=c/\q8 (Den L s kid) t i j)->Leads A s q last (fun i j=>∃t,t<=c+m/\q8 (Den L s kid) t i j)
 min:∀{kid:Int} {m:Nat} {next:Int} {st st':List State} {q:Int},0<=kid/\kid<L.length->t6 L w f kid m next st=some (st',q)->Agree A st.length st'->Leads A s q next (q8 (Den L s kid) m)
variable {A L w s}
theorem blead(Q:DV L)(hz:∀k:Int,0<=k/\k<L.length->H4 w k.toNat=0->∀i j,Den L s k i j↔i=j):∀f:Nat,BLead A L w s f
 | 0=>⟨(fun _ h=>by rw[I9]at h;cases h),(fun _ h=>by rw[aK]at h;cases h),(fun _ h=>by rw[y7]at h;cases h),(fun _ h=>by rw[s9]at h;cases h),(fun _ h=>by rw[t6]at h;cases h)⟩
 | f + 1=>by
  have C:=blead Q hz f;have D:=bpre (L:=L) (w:=w) f;refine⟨?_,?_,?_,?_,?_⟩
  ·intro k next st st' q M h ha;have z:=EE (s:=s) Q M;have hf:=iK Q M;rw[I9]at h;obtain⟨n,hn⟩:∃n,n=L.getD k.toNat J6:=⟨_,rfl⟩
   rw[<-hn]at h z hf;dsimp only at h;have Z:=j5 hf;have ae:=aH hf;have hkl:∀c∈n.Kids,0<=c/\c<(L.length:Int):=fun c hc=>by have:=Z c hc;omega
   unfold eG at z;split at h
   ·rename_i h0;obtain⟨_,rfl⟩:=K2 h;exact (kH _).congr fun i j=>(hz k M h0 i j).symm
   split at h
   ·rename_i G;obtain⟨rfl,rfl⟩:=K2 h;simp only[G,A6,A7,show ¬(1:Int)=0 by decide,if_false,if_true]at z;exact (A35 (ha.at (Nat.le_refl _) (.refl _))).congr fun i j=>(z i j).symm
   split at h
   ·rename_i G F;obtain⟨rfl,rfl⟩:=K2 h;simp only[F,show ¬(2:Int)=0 by decide,show ¬(2:Int)=1 by decide,if_false,if_true]at z;exact (RN (ha.at (Nat.le_refl _) (.refl _))).congr fun i j=>(z i j).symm
   split at h
   ·rename_i G F K;obtain⟨rfl,rfl⟩:=K2 h;simp only[K,show ¬(3:Int)=0 by decide,show ¬(3:Int)=1 by decide,show ¬(3:Int)=2 by decide,if_false,if_true]at z;exact (A36 (ha.at (Nat.le_refl _) (.refl _))).congr fun i j=>(z i j).symm
   split at h
   ·rename_i G F K W;simp only[W,show ¬(4:Int)=0 by decide,show ¬(4:Int)=1 by decide,show ¬(4:Int)=2 by decide,show ¬(4:Int)=3 by decide,if_false,if_true]at z;exact (C.cat (fun c hc=>hkl c (List.mem_reverse.1 hc)) h ha).congr fun i j=>(z i j).symm
   split at h
   ·rename_i G F K W h5;simp only[h5,show ¬(5:Int)=0 by decide,show ¬(5:Int)=1 by decide,show ¬(5:Int)=2 by decide,show ¬(5:Int)=3 by decide,show ¬(5:Int)=4 by decide,if_false,if_true]at z;split at h
    ·cases h
    ·rename_i c r hr;have hm:∀x,x∈n.Kids↔x=c\/x∈r:=fun x=>by rw[<-List.mem_reverse,hr,B66]
     split at h
     ·cases h
     ·rename_i st1 start hb;have a:=D.alt h;have d:=D.build hb;have E:=C.build (hkl c ((hm c).2 (.inl rfl))) hb (ha.sub a);refine (C.alt (fun x v=>hkl x ((hm x).2 (.inr v))) h (ha.from d.1) E).congr fun i j=>Iff.trans ?_ (z i j).symm;constructor
      ·rintro (h | ⟨x,v,h⟩)
       ·exact⟨c,(hm c).2 (.inl rfl),h⟩
       ·exact⟨x,(hm x).2 (.inr v),h⟩
      ·rintro⟨x,v,h⟩;rcases (hm x).1 v with rfl | v
       ·exact .inl h
       ·exact .inr ⟨x,v,h⟩
   split at h
   ·rename_i G F K W h5 h6;obtain⟨ag,aj,_,al⟩:=dU hf h6;simp only[h6,show ¬(6:Int)=0 by decide,show ¬(6:Int)=1 by decide,show ¬(6:Int)=2 by decide,show ¬(6:Int)=3 by decide,show ¬(6:Int)=4 by decide,show ¬(6:Int)=5 by decide,if_false]at z;obtain⟨B,Y⟩:∃B,B=n.Kids.getD 0 0:=⟨_,rfl⟩
    rw[<-Y]at h z;have af:B∈n.Kids:=by
     rw[Y]
     match n.Kids,ag with
     | [x],_=>exact List.mem_cons_self ..
    have N:=hkl B af;split at h
    ·rename_i O;split at h
     ·cases h
     ·rename_i st1 start hb;have d:=D.build hb;have a:=D.min h;rw[B45]at h a;obtain⟨sp,ac⟩:∃sp:State,sp={ T7 with Kind:=1,Other:=next }:=⟨_,rfl⟩
      rw[<-ac]at hb d;have ab:st.length<st1.length:=Nat.lt_of_lt_of_le (by simp) d.1;have hg:st1[st.length]?=some sp:=by rw[d.2 _ (by simp),List.getElem?_concat_length]
      have ad:Agree A (st++[sp]).length st1:=fun x U V=>by
       rw[B48,List.length_singleton]at U;have H:x<(st1.set st.length { st1.getD st.length T7 with Next:=start }).length:=by rw[B65];exact V
       rw[ha x (by omega) (Nat.lt_of_lt_of_le H a.1),a.2 x H,List.getElem?_set_ne (by omega)]
      have ai:O8 A (st.length:Int)=⟨1,set0,start,next⟩:=by
       have H:st.length<(st1.set st.length { st1.getD st.length T7 with Next:=start }).length:=by rw[B65];exact ab
       have h7:=ha st.length (Nat.le_refl _) (Nat.lt_of_lt_of_le H a.1);rw[a.2 _ H,B89 ab]at h7;unfold O8;rw[B45,B46,h7,B46,hg,ac];rfl
      have E:=C.build N hb ad;have I:=WH ai E;have l3:=C.min N h (fun x U V=>ha x (by rw[B65]at U;omega) V);refine (l3.trans I).congr fun i j=>Iff.trans ?_ (z i j).symm;constructor
      ·rintro⟨p,R,t,T⟩;exact⟨n.Min.toNat+t,by omega,.inl O,pow_add.2 ⟨p,R,T⟩⟩
      ·rintro⟨m,ah,_,P⟩;obtain⟨t,rfl⟩:∃t,m=n.Min.toNat+t:=⟨m-n.Min.toNat,by omega⟩
       obtain⟨p,R,T⟩:=pow_add.1 P;exact⟨p,R,t,T⟩
    ·rename_i O;split at h
     ·cases h
     ·rename_i st1 J hb;have d:=D.max hb;have a:=D.min h
      have l0:Leads A s next next (fun i j=>∃t,t<=0/\q8 (Den L s B) t i j):=(kH next).congr fun i j=>⟨fun e=>⟨0,Nat.le_refl _,e⟩,fun ⟨t,G,F⟩=>by
       have e:t=0:=by omega
       subst e;exact F⟩
      have E:=C.max N hb (ha.sub a) l0;have I:=C.min N h (ha.from d.1);refine (I.trans E).congr fun i j=>Iff.trans ?_ (z i j).symm;constructor
      ·rintro⟨p,R,t,am,T⟩;exact⟨n.Min.toNat+t,by omega,.inr (by omega),pow_add.2 ⟨p,R,T⟩⟩
      ·rintro⟨m,ah,ak,P⟩;obtain⟨t,rfl⟩:∃t,m=n.Min.toNat+t:=⟨m-n.Min.toNat,by omega⟩
       obtain⟨p,R,T⟩:=pow_add.1 P;exact⟨p,R,t,by omega,T⟩
   ·rename_i G F K W h5 h6;obtain⟨_,rfl⟩:=K2 h;have h0:n.Kind=0:=by omega
    simp only[h0,if_true]at z;exact (kH _).congr fun i j=>(z i j).symm
  ·intro l next st st' q hl h ha;cases l with
   | nil=>rw[aK]at h;obtain⟨_,rfl⟩:=K2 h;exact kH _
   | cons k r =>
    rw[aK]at h;split at h
    ·cases h
    ·rename_i st1 J hb;have a:=D.cat h;have d:=D.build hb;have E:=C.build (hl k (List.mem_cons_self ..)) hb (ha.sub a);have I:=C.cat (fun x v=>hl x (List.mem_cons_of_mem _ v)) h (ha.from d.1);exact I.trans E
  ·intro l next start st st' q S hl h ha X;cases l with
   | nil =>
    rw[y7]at h;obtain⟨_,rfl⟩:=K2 h;exact X.congr fun i j=>⟨.inl,fun h=>h.elim id fun ⟨_,v,_⟩=>by cases v⟩
   | cons k r =>
    rw[y7]at h;split at h
    ·cases h
    ·rename_i st1 b hb;have a:=D.alt h;have d:=D.build hb;have E:=C.build (hl k (List.mem_cons_self ..)) hb ((ha.sub a).sub (.snoc _ _));have I:=yQ (ha.at d.1 a) E X;refine (C.alt (fun x v=>hl x (List.mem_cons_of_mem _ v)) h (ha.from (Nat.le_trans d.1 (Pre.snoc _ _).1)) I).congr fun i j=>?_;constructor
     ·rintro ((h | h) | ⟨x,v,h⟩)
      ·exact .inr ⟨k,List.mem_cons_self ..,h⟩
      ·exact .inl h
      ·exact .inr ⟨x,List.mem_cons_of_mem _ v,h⟩
     ·rintro (h | ⟨x,v,h⟩)
      ·exact .inl (.inr h)
      ·rcases List.mem_cons.1 v with rfl | v
       ·exact .inl (.inl h)
       ·exact .inr ⟨x,v,h⟩
  ·intro B m last next st st' q c M h ha X;cases m with
   | zero=>rw[s9]at h;obtain⟨_,rfl⟩:=K2 h;exact X
   | succ m =>
    rw[s9]at h;split at h
    ·cases h
    ·rename_i st1 b hb;have a:=D.max h;have d:=D.build hb;have E:=C.build M hb ((ha.sub a).sub (.snoc _ _));have I:=yQ (ha.at d.1 a) (E.trans X) (kH last);have l3:Leads A s (st1.length:Int) last (fun i j=>∃t,t<=c+1/\q8 (Den L s B) t i j):=I.congr fun i j=>by
      constructor
      ·rintro (⟨p,G,t,F,K⟩ | h)
       ·exact⟨t+1,by omega,p,G,K⟩
       ·exact⟨0,Nat.zero_le _,h⟩
      ·rintro⟨t,G,F⟩;cases t with
       | zero=>exact .inr F
       | succ t =>
        obtain⟨p,K,W⟩:=F;exact .inl ⟨p,K,t,by omega,W⟩
     exact (C.max M h (ha.from (Nat.le_trans d.1 (Pre.snoc _ _).1)) l3).congr fun i j=>by rw[show c+1+m=c+(m+1) by omega]
  ·intro B m next st st' q M h ha;cases m with
   | zero=>rw[t6]at h;obtain⟨_,rfl⟩:=K2 h;exact kH _
   | succ m =>
    rw[t6]at h;split at h
    ·cases h
    ·rename_i st1 J hb;have a:=D.min h;have d:=D.build hb;have E:=C.build M hb (ha.sub a);have I:=C.min M h (ha.from d.1);exact (I.trans E).congr fun i j=>pow_snoc.symm
end
def Z9(x y:List Str)(c:Change):List Str:=((x.drop c.Old.toNat).take ((c.Old+c.OldLen).toNat-c.Old.toNat))++((y.drop c.New.toNat).take ((c.New+c.NewLen).toNat-c.New.toNat))
def mJ(x y:List Str):List Change:=sB (J8 (D5 [x,y]) x) (J8 (D5 [x,y]) y)
def l6(h:Str->Bool)(l:List Str):List Str:=(l.map V4).filter h
def R6(h:Str->Bool)(x y:List Str)(l:List Change):List Str:=l.flatMap fun c=>l6 h (Z9 x y c)
def cO(h:Str->Bool)(a b:Str):List Str:=R6 h (E2 a) (E2 b) (mJ (E2 a) (E2 b))
theorem gJ(b:List Str)(a:List Str):(J8 b a).length=a.length:=by unfold J8;rw[B68]
theorem wW(x y:List Str):(mJ x y).length<=x.length+1/\∀c∈mJ x y,0<=c.Old/\0<=c.New/\0<=c.OldLen/\0<=c.NewLen/\c.Old+c.OldLen<=x.length/\c.New+c.NewLen<=y.length:=by
 constructor
 ·have a:=FN (J1 0 0 (J8 (D5 [x,y]) x) (J8 (D5 [x,y]) y)) 0 0 (J8 (D5 [x,y]) x).length (J8 (D5 [x,y]) y).length;have b:=qX 0 0 (J8 (D5 [x,y]) x) (J8 (D5 [x,y]) y);rw[gJ]at b;exact Nat.le_trans a (by omega)
 ·intro c d;have:=LJ _ _ c d;rw[gJ,gJ]at this;exact this
theorem oL(x y:List Str)(c:Change):(Z9 x y c).length<=x.length+y.length:=by
 unfold Z9;rw[B48,B54,B54,B53,B53];omega
theorem yR{x y:List Str}{c:Change}{s:Str}(h:s∈Z9 x y c):s∈x\/s∈y:=by
 rcases List.mem_append.1 h with h | h
 ·exact .inl (List.mem_of_mem_drop (List.mem_of_mem_take h))
 ·exact .inr (List.mem_of_mem_drop (List.mem_of_mem_take h))
theorem RP(h:Str->Bool)(l:List Str):(l6 h l).length<=l.length:=by
 unfold l6;exact Nat.le_trans (List.length_filter_le ..) (by rw[B68];exact Nat.le_refl _)
theorem iL(h:Str->Bool)(x y:List Str):∀l:List Change,(R6 h x y l).length<=l.length*(x.length+y.length)
 | []=>by simp[R6]
 | c::r=>by
  have a:=iL h x y r;have b:=RP h (Z9 x y c);have d:=oL x y c;unfold R6 at a ⊢;rw[List.flatMap_cons,B48,B49,B70];omega
structure ChainA (A:Auto) (w:Str):Prop where
 ag:AG A
 start:A.Start=(w.length:Int)+2
 s0:(O8 A ((w.length:Int)+2)).Kind=2/\(O8 A ((w.length:Int)+2)).Next=(w.length:Int)+1
 lt:∀(j:Nat) (c:UInt8),w[j]?=some c->(O8 A ((w.length:Int)+1-j)).Kind=0/\(O8 A ((w.length:Int)+1-j)).Next=(w.length:Int)-j/\∀x:UInt8,t7 (O8 A ((w.length:Int)+1-j)).Set x.toNat=1↔x=c
 en:(O8 A 1).Kind=3/\(O8 A 1).Next=0
 ac:(O8 A 0).Kind=4
theorem ag_of{A:Auto}(h:LX A=0):AG A:=by
 unfold LX at h;split at h
 ·cases h
 ·split at h
  ·rename_i b a;exact⟨by omega,by omega,List.all_eq_true.1 a⟩
  ·cases h
theorem A37{n m:Int}{q:State}(h:U9 n q=true)(b:n<=m):U9 m q=true:=by
 unfold U9 at h ⊢;split at h
 ·rename_i a;rw[A6 a];have:=A1 h;exact A4 (by omega)
 ·rename_i a;rw[A7 a];split at h
  ·rename_i a;rw[A6 a];have:=A1 h;exact A4 (by omega)
  ·rename_i a;rw[A7 a];exact h
theorem A38{n:Int}{q:State}(h:U9 n q=true){b:Int}(hb:0<=b/\b<n):U9 n { q with Next:=b }=true:=by
 unfold U9 at h ⊢;dsimp only;split at h
 ·rename_i a;rw[A6 a];exact A4 hb
 ·rename_i a;rw[A7 a];split at h
  ·rename_i a;rw[A6 a];have:=A1 h;exact A4 (by omega)
  ·rename_i a;rw[A7 a];exact h
def GSt(st:List State):Prop:=∀q∈st,U9 st.length q=true
abbrev WI(st:List State)(q:Int):Prop:=0<=q/\q<st.length
theorem GSt.snoc{st:List State}(h:GSt st){q:State}(c:U9 (st.length+1) q=true):GSt (st++[q])/\WI (st++[q]) st.length:=by
 have b:((st++[q]).length:Int)=st.length+1:=by rw[B48,List.length_singleton];rfl
 refine⟨fun x a=>?_,by omega,by omega⟩;rw[b];rcases List.mem_append.1 a with a | a
 ·exact A37 (h x a) (by omega)
 ·rw[List.mem_singleton.1 a];exact c
theorem kI{st st':List State}{q:Int}(h:WI st q)(a:Pre st st'):WI st' q:=⟨h.1,by have:=h.2;have:=a.1;omega⟩
section
variable (L:List Node) (w:List Int)
structure BGood (f:Nat):Prop where
 build:∀{k next:Int} {st st':List State} {q:Int},GSt st->WI st next->I9 L w f k next st=some (st',q)->GSt st'/\WI st' q
 cat:∀{l:List Int} {next:Int} {st st':List State} {q:Int},GSt st->WI st next->aK L w f l next st=some (st',q)->GSt st'/\WI st' q
 alt:∀{l:List Int} {next start:Int} {st st':List State} {q:Int},GSt st->WI st next->WI st start->y7 L w f l next start st=some (st',q)->GSt st'/\WI st' q
 max:∀{kid:Int} {m:Nat} {last next:Int} {st st':List State} {q:Int},GSt st->WI st last->WI st next->s9 L w f kid m last next st=some (st',q)->GSt st'/\WI st' q
 min:∀{kid:Int} {m:Nat} {next:Int} {st st':List State} {q:Int},GSt st->WI st next->t6 L w f kid m next st=some (st',q)->GSt st'/\WI st' q
variable {L w}
theorem bgood:∀f:Nat,BGood L w f
 | 0=>⟨(fun _ _ h=>by rw[I9]at h;cases h),(fun _ _ h=>by rw[aK]at h;cases h),(fun _ _ _ h=>by rw[y7]at h;cases h),(fun _ _ _ h=>by rw[s9]at h;cases h),(fun _ _ h=>by rw[t6]at h;cases h)⟩
 | f + 1=>by
  have b:=bgood f;have p:=bpre (L:=L) (w:=w) f;refine⟨?_,?_,?_,?_,?_⟩
  ·intro k next st st' q a d h;obtain⟨g,i⟩:=d;rw[I9]at h;dsimp only at h;split at h
   ·obtain⟨rfl,rfl⟩:=K2 h;exact⟨a,g,i⟩
   split at h
   ·obtain⟨rfl,rfl⟩:=K2 h;exact a.snoc (A4 (by dsimp only;omega))
   split at h
   ·obtain⟨rfl,rfl⟩:=K2 h;exact a.snoc (A4 (by dsimp only;omega))
   split at h
   ·obtain⟨rfl,rfl⟩:=K2 h;exact a.snoc (A4 (by dsimp only;omega))
   split at h
   ·exact b.cat a ⟨g,i⟩ h
   split at h
   ·split at h
    ·cases h
    ·split at h
     ·cases h
     ·rename_i hb;obtain⟨g1,e⟩:=b.build a ⟨g,i⟩ hb;exact b.alt g1 (kI ⟨g,i⟩ (p.build hb)) e h
   split at h
   ·split at h
    ·split at h
     ·cases h
     ·rename_i st1 start hb;obtain⟨g0,J⟩:=a.snoc (q:={ T7 with Kind:=1,Other:=next }) (A4 (by dsimp only[T7];omega));have I:=p.build hb;obtain⟨g1,e⟩:=b.build g0 J hb;have j:st.length<st1.length:=Nat.lt_of_lt_of_le (by simp) I.1;rw[B45]at h;refine b.min (fun x B=>?_) ?_ h
      ·rw[B65];rcases List.mem_or_eq_of_mem_set B with B | rfl
       ·exact g1 x B
       ·exact A38 (g1 _ (by rw[B46,B44 j];exact B50 j)) e
      ·exact⟨by omega,by rw[B65];omega⟩
    ·split at h
     ·cases h
     ·rename_i hb;obtain⟨g1,e⟩:=b.max a ⟨g,i⟩ ⟨g,i⟩ hb;exact b.min g1 e h
   ·obtain⟨rfl,rfl⟩:=K2 h;exact⟨a,g,i⟩
  ·intro l next st st' q a d h;cases l with
   | nil=>rw[aK]at h;obtain⟨rfl,rfl⟩:=K2 h;exact⟨a,d⟩
   | cons k r =>
    rw[aK]at h;split at h
    ·cases h
    ·rename_i hb;obtain⟨g1,e⟩:=b.build a d hb;exact b.cat g1 e h
  ·intro l next start st st' q a d F h;cases l with
   | nil=>rw[y7]at h;obtain⟨rfl,rfl⟩:=K2 h;exact⟨a,F⟩
   | cons k r =>
    rw[y7]at h;split at h
    ·cases h
    ·rename_i hb;obtain⟨g1,e⟩:=b.build a d hb;have A:=kI F (p.build hb);have z:=kI d (p.build hb);obtain⟨t,E⟩:=A;obtain⟨u,G⟩:=e;obtain⟨v,C⟩:=g1.snoc (q:={ T7 with Kind:=1,Next:=_,Other:=start }) (A4 (by dsimp only;exact⟨u,by omega,t,by omega⟩));exact b.alt v (kI z (.snoc _ _)) C h
  ·intro D m last next st st' q a H d h;cases m with
   | zero=>rw[s9]at h;obtain⟨rfl,rfl⟩:=K2 h;exact⟨a,d⟩
   | succ m =>
    rw[s9]at h;split at h
    ·cases h
    ·rename_i hb;obtain⟨g1,u,G⟩:=b.build a d hb;have y:=kI H (p.build hb);obtain⟨t,E⟩:=y;obtain⟨v,C⟩:=g1.snoc (q:={ T7 with Kind:=1,Next:=_,Other:=last }) (A4 (by dsimp only;exact⟨u,by omega,t,by omega⟩));exact b.max v (kI ⟨t,E⟩ (.snoc _ _)) C h
  ·intro D m next st st' q a d h;cases m with
   | zero=>rw[t6]at h;obtain⟨rfl,rfl⟩:=K2 h;exact⟨a,d⟩
   | succ m =>
    rw[t6]at h;split at h
    ·cases h
    ·rename_i hb;obtain⟨g1,e⟩:=b.build a d hb;exact b.min g1 e h
end
variable {A:Auto}
theorem acN_le:∀{n:Nat} {k:Int} {p:Nat},AcN A s n k p->p<=s.length
 | 0,_,_,h=>h.2
 | n+1,k,p,h=>by
  rcases h with ⟨j,_,h⟩ | ⟨h,_⟩
  ·exact acN_le h
  ·exact Nat.le_of_lt h
theorem B00{k:Int}{p:Nat}(h:Run A s k p):Ac A s k p->∃i,i<=s.length/\Ac A s A.Start i:=by
 induction h with
 | start b=>exact fun h=>⟨_,b,h⟩
 | eps _ c a=>exact fun ⟨n,h⟩=>a ⟨n+1,.inl ⟨_,c,h⟩⟩
 | read _ d e a=>exact fun ⟨n,h⟩=>a ⟨n+1,.inr ⟨d,e,h⟩⟩
theorem WJ:∀{n:Nat} {k:Int} {p:Nat},Run A s k p->AcN A s n k p->∃k p,Run A s k p/\(O8 A k).Kind=4
 | 0,_,_,hr,h=>⟨_,_,hr,h.1⟩
 | n+1,k,p,hr,h=>by
  rcases h with ⟨j,b,h⟩ | ⟨hp,hrd,h⟩
  ·exact WJ (.eps hr b) h
  ·exact WJ (.read hr hp hrd) h
theorem find_ac(b:AG A):(gF A s 0).2=true↔∃i,i<=s.length/\Ac A s A.Start i:=by
 rw[A99 b];constructor
 ·rintro⟨k,p,c,d⟩;exact B00 c ⟨0,d,(c.in_ b).2⟩
 ·rintro⟨i,e,n,h⟩;exact WJ (.start e) h
theorem B01{L:List Node}{w:List Int}{s:Str}(f:DV L)(J:1<=L.length)(I:∀k:Int,0<=k/\k<L.length->H4 w k.toNat=0->∀i j,Den L s k i j↔i=j){F:Nat}{st:List State}{r:Int}
  (hb:I9 L w F ((L.length:Int)-1) 0 [⟨4,⟨0,0,0,0⟩,0,0⟩]=some (st,r)) (E:st.length<=8000):AG ⟨st,r⟩/\((gF ⟨st,r⟩ s 0).2=true↔∃i j,i<=s.length/\j<=s.length/\Den L s ((L.length:Int)-1) i j):=by
 have v:=(bpre F).build hb;obtain⟨B,a⟩:=(bgood F).build (st:=[⟨4,⟨0,0,0,0⟩,0,0⟩]) (fun q H=>by rw[List.mem_singleton.1 H];rfl) ⟨Int.le_refl _,by decide⟩ hb;have o:AG ⟨st,r⟩:=⟨⟨v.1,E⟩,a,B⟩
 have y:O8 ⟨st,r⟩ 0=⟨4,⟨0,0,0,0⟩,0,0⟩:=by
  have z:=v.2 0 (by decide);unfold O8;rw[B46];show (st[0]?).getD T7=_;rw[z];rfl
 have p:=(blead (A:=⟨st,r⟩) (s:=s) f I F).build ⟨by omega,by omega⟩ hb (fun x _ _=>rfl);refine⟨o,?_⟩;rw[find_ac o];constructor
 ·rintro⟨i,a,n,h⟩;obtain⟨m,j,_,c,G⟩:=p.1 n i h;exact⟨i,j,a,acN_le G,c⟩
 ·rintro⟨i,j,a,C,c⟩;exact⟨i,a,p.2 i j c ⟨0,by rw[y],C⟩⟩
variable {L:List Node}
def Fwd(s:Str)(R:Lng):Prop:=∀i j,i<=s.length->R i j->i<=j/\j<=s.length
theorem Fwd.pow{R:Lng}(h:Fwd s R):∀m,Fwd s (q8 R m)
 | 0,i,j,hi,e=>by rw[<-show i=j from e];exact⟨Nat.le_refl _,hi⟩
 | m+1,i,j,hi,⟨p,h1,h2⟩=>by
  obtain⟨a,b⟩:=h i p hi h1;obtain⟨c,d⟩:=h.pow m p j b h2;exact⟨Nat.le_trans a c,d⟩
theorem MH{D:Int->Lng}:∀{l:List Int},(∀k∈l,Fwd s (D k))->Fwd s (vC D l)
 | [],_,i,j,hi,e=>by rw[<-show i=j from e];exact⟨Nat.le_refl _,hi⟩
 | k::r,h,i,j,hi,⟨p,h1,h2⟩=>by
  obtain⟨a,b⟩:=MH (l:=r) (fun x f=>h x (List.mem_cons_of_mem _ f)) i p hi h1;obtain⟨c,d⟩:=h k (List.mem_cons_self ..) p j b h2;exact⟨Nat.le_trans a c,d⟩
theorem zQ(b:DV L):∀(B:Nat) (k:Int),k<B->0<=k/\k<L.length->Fwd s (Den L s k)
 | 0,_,h,hk=>by omega
 | B+1,k,hB,hk=>by
  intro i j n a;rw[EE b hk]at a;have q:=iK b hk;have l:=j5 q;have r:=aH q;have u:∀c∈(L.getD k.toNat J6).Kids,Fwd s (Den L s c):=fun c f=>by
   have:=l c f;exact zQ b B c (by omega) (by omega)
  unfold eG at a;split at a
  ·rw[<-a];exact⟨Nat.le_refl _,n⟩
  split at a
  ·omega
  split at a
  ·omega
  split at a
  ·omega
  split at a
  ·exact MH (fun c f=>u c (List.mem_reverse.1 f)) i j n a
  split at a
  ·obtain⟨c,f,a⟩:=a;exact u c f i j n a
  ·obtain⟨m,_,_,a⟩:=a;obtain⟨v,_⟩:=dU q (by omega);have y:(L.getD k.toNat J6).Kids.getD 0 0∈(L.getD k.toNat J6).Kids:=by
    match (L.getD k.toNat J6).Kids,v with
    | [x],_=>exact List.mem_cons_self ..
   exact (u _ y).pow m i j n a
theorem RQ{R:Lng}(h:Fwd s R):∀(m i j:Nat),i<=s.length->q8 R (m+1) i j->j-i<m+1->q8 R m i j
 | 0,i,j,hi,⟨p,h1,h2⟩,hm=>by
  obtain⟨a,_⟩:=h i p hi h1;have e:p=j:=h2;show i=j;omega
 | m+1,i,j,hi,⟨p,h1,h2⟩,hm=>by
  obtain⟨a,b⟩:=h i p hi h1;by_cases e:p=i
  ·rw[e]at h2;exact h2
  ·exact⟨p,h1,RQ h m p j b h2 (by omega)⟩
theorem YO{R:Lng}(h:Fwd s R){i j:Nat}(a:i<=s.length)(c:Nat):∀d,q8 R (c+s.length+1+d) i j->q8 R (c+s.length+1) i j
 | 0,hp=>hp
 | d+1,hp=>by
  have b:=(h.pow _ i j a hp).2;exact YO h a c d (RQ h (c+s.length+1+d) i j a hp (by omega))
theorem B02{R:Lng}(h:Fwd s R){i j:Nat}(e:i<=s.length)(c:Nat):(∃m,c<=m/\q8 R m i j)↔∃m,c<=m/\m<=c+(s.length+1)/\q8 R m i j:=by
 constructor
 ·rintro⟨m,b,a⟩;by_cases f:m<=c+(s.length+1)
  ·exact⟨m,b,f,a⟩
  ·obtain⟨d,rfl⟩:∃d,m=c+s.length+1+d:=⟨m-(c+s.length+1),by omega⟩
   exact⟨c+s.length+1,by omega,by omega,YO h e c d a⟩
 ·rintro⟨m,b,_,a⟩;exact⟨m,b,a⟩
theorem RR{R:Lng}{c r i j:Nat}:(∃m,c<=m/\m<=c+(r+1)/\q8 R m i j)↔(∃m,c<=m/\m<=c+r/\q8 R m i j)\/∃p,(∃m,c<=m/\m<=c+r/\q8 R m i p)/\R p j:=by
 constructor
 ·rintro⟨m,b,e,a⟩;by_cases g:m<=c+r
  ·exact .inl ⟨m,b,g,a⟩
  ·obtain⟨n,rfl⟩:∃n,m=n+1:=⟨m-1,by omega⟩
   obtain⟨p,d,f⟩:=pow_snoc.1 a;exact .inr ⟨p,⟨n,by omega,by omega,d⟩,f⟩
 ·rintro (⟨m,b,e,a⟩ | ⟨p,⟨m,b,e,a⟩,d⟩)
  ·exact⟨m,b,by omega,a⟩
  ·exact⟨m+1,by omega,by omega,pow_snoc.2 ⟨p,a,d⟩⟩
def m8(T:List (List Bool))(i j:Nat):Bool:=((T[i]?).getD [])[j]?.getD false
structure Tab (s:Str) (T:List (List Bool)) (R:Lng):Prop where
 len:T.length=s.length+1
 row:∀r∈T,r.length=s.length+1
 is:∀i j,i<=s.length->j<=s.length->(m8 T i j=true↔R i j)
theorem Tab.congr{T:List (List Bool)}{R S:Lng}(h:Tab s T R)(d:∀i j,i<=s.length->j<=s.length->(R i j↔S i j)):Tab s T S:=⟨h.len,h.row,fun i j b c=>(h.is i j b c).trans (d i j b c)⟩
def r8(n:Nat)(f:Nat->Nat->Bool):List (List Bool):=(List.range n).map fun i=>(List.range n).map fun j=>f i j
theorem B03{n:Nat}{f:Nat->Nat->Bool}{i j:Nat}(b:i<n)(c:j<n):m8 (r8 n f) i j=f i j:=by
 unfold m8 r8;rw[B78,B85 b];show (((List.range n).map fun j=>f i j)[j]?).getD false=f i j;rw[B78,B85 c];rfl
theorem MI{s:Str}{f:Nat->Nat->Bool}{R:Lng}(h:∀i j,i<=s.length->j<=s.length->(f i j=true↔R i j)):Tab s (r8 (s.length+1) f) R where
 len:=by unfold r8;rw[B68,B75]
 row:=fun r c=>by
  obtain⟨i,_,rfl⟩:=List.mem_map.1 c;rw[B68,B75]
 is:=fun i j a b=>by rw[B03 (by omega) (by omega)];exact h i j a b
def mK(n:Nat)(b:Bool):List (List Bool):=r8 n fun i j=>decide (i=j)&&b
def EF(n:Nat)(A B:List (List Bool)):List (List Bool):=r8 n fun i j=>m8 A i j||m8 B i j
def m9(A B:List (List Bool))(i k j:Nat):Bool:=(List.range k).any fun q=>decide (i<=q)&&(m8 A i q&&(decide (q<=j)&&m8 B q j))
def EG(n:Nat)(A B:List (List Bool)):List (List Bool):=r8 n fun i j=>m9 A B i n j
theorem pR{A B:List (List Bool)}{i k j:Nat}:m9 A B i (k+1) j=(m9 A B i k j||(decide (i<=k)&&(m8 A i k&&(decide (k<=j)&&m8 B k j)))):=by
 unfold m9;rw[B96,List.any_append,List.any_cons,List.any_nil,Bool.or_false]
theorem EH{A B:List (List Bool)}{i j:Nat}:∀k,k<=i->m9 A B i k j=false
 | 0,_=>rfl
 | k+1,h=>by rw[pR,EH k (by omega),A5 (by omega)];rfl
variable {A B:List (List Bool)}{R S:Lng}
theorem tab_diag:Tab s (mK (s.length+1) true) (fun i j=>i=j):=MI fun i j _ _=>by rw[Bool.and_true,decide_eq_true_eq]
theorem tab_none:Tab s (mK (s.length+1) false) (fun _ _=>False):=MI fun i j _ _=>by rw[Bool.and_false];exact⟨(fun h=>by cases h),False.elim⟩
theorem IT(ha:Tab s A R)(hb:Tab s B S):Tab s (EF (s.length+1) A B) (fun i j=>R i j\/S i j):=MI fun i j a b=>by
 rw[B63,ha.is i j a b,hb.is i j a b]
theorem EI(ha:Tab s A R)(hb:Tab s B S)(k:Fwd s R)(l:Fwd s S):Tab s (EG (s.length+1) A B) (fun i j=>∃p,R i p/\S p j):=MI fun i j d g=>by
 unfold m9;rw[List.any_eq_true];constructor
 ·rintro⟨q,m,h⟩;have n:=List.mem_range.1 m;simp only[B47,decide_eq_true_eq]at h;exact⟨q,(ha.is i q d (by omega)).1 h.2.1,(hb.is q j (by omega) g).1 h.2.2.2⟩
 ·rintro⟨p,e,f⟩;obtain⟨a,b⟩:=k i p d e;obtain⟨c,_⟩:=l p j b f;refine⟨p,List.mem_range.2 (by omega),?_⟩;simp only[B47,decide_eq_true_eq];exact⟨a,(ha.is i p d b).2 e,c,(hb.is p j b g).2 f⟩
theorem B04{D:Int->Lng}(l:List Int)(k:Int)(i j:Nat):vC D (l++[k]).reverse i j↔∃p,vC D l.reverse i p/\D k p j:=by
 rw[List.reverse_append];exact Iff.rfl
theorem B05{D:Int->Lng}(l:List Int)(k:Int)(i j:Nat):(∃c∈l++[k],D c i j)↔(∃c∈l,D c i j)\/D k i j:=by
 constructor
 ·rintro⟨c,a,h⟩;rcases List.mem_append.1 a with a | a
  ·exact .inl ⟨c,a,h⟩
  ·rw[List.mem_singleton.1 a]at h;exact .inr h
 ·rintro (⟨c,a,h⟩ | h)
  ·exact⟨c,List.mem_append_left _ a,h⟩
  ·exact⟨k,List.mem_append_right _ (List.mem_singleton_self k),h⟩
def Rounds(R:Lng)(c r:Nat):Lng:=fun i j=>∃m,c<=m/\m<=c+r/\q8 R m i j
theorem rounds_zero{R:Lng}{c i j:Nat}:Rounds R c 0 i j↔q8 R c i j:=⟨fun ⟨m,b,d,a⟩=>by
 have e:m=c:=by omega
 rw[<-e];exact a,fun h=>⟨c,Nat.le_refl _,Nat.le_refl _,h⟩⟩
theorem rounds_succ{R:Lng}{c r i j:Nat}:Rounds R c (r+1) i j↔Rounds R c r i j\/∃p,Rounds R c r i p/\R p j:=RR
theorem WK{L:List Node}{s:Str}(h:DV L){k:Int}(w:0<=k/\k<L.length)(v:(L.getD k.toNat J6).Kind=6){i j:Nat}(y:i<=s.length) :
  Den L s k i j↔Rounds (Den L s ((L.getD k.toNat J6).Kids.getD 0 0)) (L.getD k.toNat J6).Min.toNat (if (L.getD k.toNat J6).Max<0 then s.length+1 else ((L.getD k.toNat J6).Max-(L.getD k.toNat J6).Min).toNat) i j:=by
 have q:=iK h w;rw[EE h w];obtain⟨n,E⟩:∃n,n=L.getD k.toNat J6:=⟨_,rfl⟩
 rw[<-E]at q v ⊢;obtain⟨A,B,_,C⟩:=dU q v;have p:n.Kids.getD 0 0∈n.Kids:=by
  match n.Kids,A with
  | [x],_=>exact List.mem_cons_self ..
 have z:=j5 q _ p;have u:Fwd s (Den L s (n.Kids.getD 0 0)):=zQ h L.length _ (by omega) (by omega);unfold eG;rw[A7 (by omega),A7 (by omega),A7 (by omega),A7 (by omega),A7 (by omega),A7 (by omega)];split
 ·rename_i f;refine Iff.trans ?_ (B02 u y n.Min.toNat);exact⟨fun ⟨m,a,_,c⟩=>⟨m,by omega,c⟩,fun ⟨m,a,c⟩=>⟨m,by omega,.inl f,c⟩⟩
 ·rename_i f;exact⟨fun ⟨m,a,b,c⟩=>⟨m,by omega,by omega,c⟩,fun ⟨m,a,b,c⟩=>⟨m,by omega,.inr (by omega),c⟩⟩
abbrev M1:List Bool->Nat->Cell:=fun l _=>.list Bool 1 Q9 l
abbrev pS:List (List Bool)->Nat->Cell:=fun l _=>.list (List Bool) 1 M1 l
abbrev cB(l:List (List Bool)):PV:=.one (.list (List Bool) 1 M1 l)
abbrev yS(l:List (List (List Bool))):PV:=.one (.list (List (List Bool)) 1 pS l)
def a6(n:Nat)(f g:Nat->Bool)(j:Nat):List Bool:=(List.range n).map fun q=>if q<j then g q else f q
theorem MJ(n:Nat)(f g:Nat->Bool)(j:Nat):(a6 n f g j).length=n:=by unfold a6;rw[B68,B75]
theorem mix_get{n:Nat}{f g:Nat->Bool}{j:Nat}(h:j<n):(a6 n f g j)[j]?=some (f j):=by
 unfold a6;rw[B78,B85 h];show some (if j<j then g j else f j)=_;rw[A7 (Nat.lt_irrefl j)]
theorem YP{n:Nat}{f g:Nat->Bool}{j:Nat}:(a6 n f g j).set j (g j)=a6 n f g (j+1):=by
 unfold a6;refine List.ext_getElem (by simp) fun q b c=>?_;rw[List.getElem_set];simp only[List.getElem_map,List.getElem_range];by_cases a:j=q
 ·subst a;rw[A6 rfl,A6 (Nat.lt_succ_self j)]
 ·rw[A7 a];by_cases h:q<j
  ·rw[A6 h,A6 (by omega)]
  ·rw[A7 h,A7 (by omega)]
theorem A39{n:Nat}{f g:Nat->Bool}{j:Nat}(h:∀q,q<j->f q=g q):(List.range n).map f=a6 n f g j:=by
 unfold a6;refine List.map_congr_left fun q _=>?_;by_cases b:q<j
 ·rw[A6 b,h q b]
 ·rw[A7 b]
theorem RS{n:Nat}{f g:Nat->Bool}:a6 n f g n=(List.range n).map g:=by
 unfold a6;exact List.map_congr_left fun q b=>A6 (List.mem_range.1 b)
theorem EJ{n:Nat}{g:Nat->Bool}:List.replicate n false=a6 n (fun _=>false) g 0:=by
 unfold a6;refine List.ext_getElem (by simp) fun q a b=>by simp
theorem RT{n:Nat}{f g:Nat->Bool}{j:Nat}(h:∀q,f q=g q):a6 n f g j=(List.range n).map g:=by
 unfold a6;exact List.map_congr_left fun q _=>by rw[h q];split<;>rfl
theorem vD{n:Nat}{T:List (List Bool)}(d:T.length=n)(a:∀r∈T,r.length=n){i:Nat}(b:i<n):∃row,T[i]?=some row/\row.length=n/\∀j,j<n->row[j]?=some (m8 T i j):=by
 have h:=a T[i] (B50 (by omega));refine⟨T[i],B44 (by omega),h,fun j c=>?_⟩;unfold m8;rw[B44 (show i<T.length by omega)];dsimp only[Option.getD_some];rw[B44 (by omega)];rfl
theorem zR(n:Nat)(f:Nat->Nat->Bool):(r8 n f).length=n:=by unfold r8;rw[B68,B75]
theorem tab_row(n:Nat)(f:Nat->Nat->Bool):∀r∈r8 n f,r.length=n:=fun r a=>by
 obtain⟨i,_,rfl⟩:=List.mem_map.1 a;rw[B68,B75]
theorem EK{n:Nat}{f:Nat->Nat->Bool}{i:Nat}(b:i<n):(r8 n f).take (i+1)=(r8 n f).take i++[(List.range n).map (f i)]:=by
 rw[List.take_add_one]
 congr 1
 unfold r8;rw[B78,B85 b];rfl
def jH(n:Nat)(f:Nat->Option (Nat×Bool))(r:Nat):List Bool:=match f r with
 | none=>List.replicate n false
 | some (j,b)=>(List.replicate n false).set j b
def qZ(n:Nat)(f:Nat->Option (Nat×Bool)):List (List Bool):=(List.range n).map (jH n f)
theorem YQ(n:Nat)(f:Nat->Option (Nat×Bool))(r:Nat):(jH n f r).length=n:=by
 unfold jH;split
 ·exact B74
 ·rw[B65,B74]
theorem A40{n:Nat}{f:Nat->Option (Nat×Bool)}{i j:Nat}(d:i<n)(a:j<n):m8 (qZ n f) i j=true↔f i=some (j,true):=by
 unfold m8 qZ;rw[B78,B85 d];show ((jH n f i)[j]?).getD false=true↔_;unfold jH;cases h:f i with
 | none=>simp[a]
 | some p =>
  obtain⟨q,b⟩:=p;dsimp only;rw[List.getElem?_set];by_cases c:q=j
  ·subst c;rw[A6 rfl,A6 (by rw[B74];exact a)];simp
  ·rw[A7 c];simp[a,c]
theorem EL{s:Str}{f:Nat->Option (Nat×Bool)}{R:Lng}(h:∀i j,i<=s.length->j<=s.length->(f i=some (j,true)↔R i j)):Tab s (qZ (s.length+1) f) R where
 len:=by unfold qZ;rw[B68,B75]
 row:=fun r d=>by
  obtain⟨i,_,rfl⟩:=List.mem_map.1 d;exact YQ _ _ _
 is:=fun i j b c=>(A40 (by omega) (by omega)).trans (h i j b c)
def wX(s:Str)(z:Set4)(m r:Nat):Option (Nat×Bool):=if r<m then some (r+1,decide (t7 z (s.getD r 0).toNat=1)) else none
def vE(k r:Nat):Option (Nat×Bool):=if r=k then some (k,true) else none
variable {n:Node}{D:Int->Lng}
theorem tab_k0(h:n.Kind=0):Tab s (mK (s.length+1) true) (eG s n D):=tab_diag.congr fun i j _ _=>by unfold eG;rw[A6 h]
theorem tab_k1(h:n.Kind=1):Tab s (qZ (s.length+1) (wX s n.Set s.length)) (eG s n D):=EL fun i j e f=>by
 unfold eG;rw[A7 (show ¬n.Kind=0 by omega),A6 h];unfold wX;constructor
 ·intro g;split at g
  ·rename_i a;injection g with g
   injection g with g1 g2
   exact⟨a,g1.symm,A1 g2⟩
  ·cases g
 ·rintro⟨b,c,d⟩;rw[A6 b,c,A4 d]
theorem tab_k2(h:n.Kind=2):Tab s (qZ (s.length+1) (vE 0)) (eG s n D):=EL fun i j c d=>by
 unfold eG;rw[A7 (show ¬n.Kind=0 by omega),A7 (show ¬n.Kind=1 by omega),A6 h];unfold vE;constructor
 ·intro g;split at g
  ·rename_i e;injection g with g
   injection g with g1 g2
   exact⟨e,g1.symm⟩
  ·cases g
 ·rintro⟨a,b⟩;rw[A6 a,b]
theorem tab_k3(h:n.Kind=3):Tab s (qZ (s.length+1) (vE s.length)) (eG s n D):=EL fun i j c d=>by
 unfold eG;rw[A7 (show ¬n.Kind=0 by omega),A7 (show ¬n.Kind=1 by omega),A7 (show ¬n.Kind=2 by omega),A6 h];unfold vE;constructor
 ·intro g;split at g
  ·rename_i e;injection g with g
   injection g with g1 g2
   exact⟨e,g1.symm⟩
  ·cases g
 ·rintro⟨a,b⟩;rw[A6 a,b]
theorem tab_k4(h:n.Kind=4){T:List (List Bool)}(a:Tab s T (vC D n.Kids.reverse)):Tab s T (eG s n D):=a.congr fun i j _ _=>by
 unfold eG;rw[A7 (by omega),A7 (by omega),A7 (by omega),A7 (by omega),A6 h]
theorem tab_k5(h:n.Kind=5){T:List (List Bool)}(a:Tab s T (fun i j=>∃k∈n.Kids,D k i j)):Tab s T (eG s n D):=a.congr fun i j _ _=>by
 unfold eG;rw[A7 (by omega),A7 (by omega),A7 (by omega),A7 (by omega),A7 (by omega),A6 h]
theorem kJ{α:Type}{l:List α}{k:Nat}{x:α}(h:l[k]?=some x):l.take (k+1)=l.take k++[x]:=by
 rw[List.take_add_one,h];rfl
theorem tab_cat{l:List Int}{k:Nat}{c:Int}(b:l[k]?=some c)(a:∀x∈l,Fwd s (D x)){T B:List (List Bool)}(f:Tab s T (vC D (l.take k).reverse))(d:Tab s B (D c)):Tab s (EG (s.length+1) T B) (vC D (l.take (k+1)).reverse):=by
 rw[kJ b];refine (EI f d (MH fun x h=>a x (List.mem_of_mem_take (List.mem_reverse.1 h))) (a c (B52 b))).congr fun i j _ _=>?_;exact (B04 (l.take k) c _ _).symm
theorem tab_alt{l:List Int}{k:Nat}{c:Int}(d:l[k]?=some c){T B:List (List Bool)}(b:Tab s T (fun i j=>∃x∈l.take k,D x i j))(a:Tab s B (D c)):Tab s (EF (s.length+1) T B) (fun i j=>∃x∈l.take (k+1),D x i j):=by
 rw[kJ d];exact (IT b a).congr fun _ _ _ _=>(B05 (l.take k) c _ _).symm
theorem B06{l:List Int}:Tab s (mK (s.length+1) false) (fun i j=>∃x∈l.take 0,D x i j):=tab_none.congr fun _ _ _ _=>⟨False.elim,fun ⟨x,a,_⟩=>by rw[List.take_zero]at a;cases a⟩
theorem B07{l:List Int}:Tab s (mK (s.length+1) true) (vC D (l.take 0).reverse):=tab_diag
theorem B08{R:Lng}:Tab s (mK (s.length+1) true) (q8 R 0):=tab_diag
theorem tab_pow{R:Lng}(a:Fwd s R){m:Nat}{T B:List (List Bool)}(d:Tab s T (q8 R m))(b:Tab s B R):Tab s (EG (s.length+1) T B) (q8 R (m+1)) :=
 (EI d b (a.pow m) a).congr fun _ _ _ _=>pow_snoc.symm
theorem WL{R:Lng}(a:Fwd s R)(c r:Nat):Fwd s (Rounds R c r):=fun _ _ b ⟨m,_,_,h⟩=>a.pow m _ _ b h
theorem RU{R:Lng}{c:Nat}{T:List (List Bool)}(a:Tab s T (q8 R c)):Tab s T (Rounds R c 0):=a.congr fun _ _ _ _=>rounds_zero.symm
theorem WM{R:Lng}(a:Fwd s R){c r:Nat}{T B:List (List Bool)}(b:Tab s T (Rounds R c r))(d:Tab s B R):Tab s (EF (s.length+1) T (EG (s.length+1) T B)) (Rounds R c (r+1)) :=
 (IT b (EI b d (WL a c r) a)).congr fun _ _ _ _=>rounds_succ.symm
theorem B09(a:DV L){k:Int}(b:0<=k/\k<L.length){T:List (List Bool)}(h:Tab s T (eG s (L.getD k.toNat J6) (Den L s))):Tab s T (Den L s k):=h.congr fun _ _ _ _=>(EE a b _ _).symm
theorem tab_rep(b:DV L){k:Int}(j:0<=k/\k<L.length)(c:(L.getD k.toNat J6).Kind=6){T:List (List Bool)}(h:Tab s T (Rounds (Den L s ((L.getD k.toNat J6).Kids.getD 0 0)) (L.getD k.toNat J6).Min.toNat (if (L.getD k.toNat J6).Max<0 then s.length+1 else ((L.getD k.toNat J6).Max-(L.getD k.toNat J6).Min).toNat))):Tab s T (Den L s k) :=
 h.congr fun _ _ f _=>(WK b j c f).symm
theorem Tab.cell{T:List (List Bool)}{R:Lng}(h:Tab s T R){i:Nat}(a:i<=s.length):∃row,T[i]?=some row/\row.length=s.length+1/\∀j,j<=s.length->row[j]?=some (m8 T i j):=by
 have c:=h.len;refine⟨T[i],B44 (by omega),h.row _ (B50 _),fun j b=>?_⟩;have d:=h.row T[i] (B50 _);unfold m8;rw[B44 (show i<T.length by omega)];dsimp only[Option.getD_some];rw[B44 (by omega)];rfl
abbrev names4:List Str:=[[97],[98,47,120],[98,47,121],[99,32,100]]
theorem names4_asc:names4.Pairwise (fun x y=>jK x y=true):=by decide
theorem RV:∀p∈names4,aD p=0/\p.length<=3:=by decide
theorem MK:∀p∈names4,∀q∈names4,above p q=false:=by decide
def NoDig(b:Str):Prop:=∀c∈b,c.toNat<48\/57<c.toNat
theorem NoDig.sub{a b:Str}(h:NoDig b)(e:∀c∈a,c∈b):NoDig a:=fun c d=>h c (e c d)
structure GN (L:Nat) (l:List File):Prop where
 sub:(l.map (·.Path)).Sublist names4
 cnt:∀f∈l,f.Blob.count 10<=L
 dig:∀f∈l,NoDig f.Blob
theorem GN.name{L:Nat}{l:List File}(h:GN L l):∀f∈l,f.Path∈names4:=fun _ a=>h.sub.subset (List.mem_map_of_mem a)
theorem GN.mono{L L':Nat}{l:List File}(h:GN L l)(a:L<=L'):GN L' l:=⟨h.sub,fun f b=>Nat.le_trans (h.cnt f b) a,h.dig⟩
theorem IU:∀{l:List File},CU (l.map (·.Path))->ascend l=true
 | [],_=>rfl
 | [_],_=>rfl
 | f::g::r,h=>by
  rw[B62]at h;have b:=List.pairwise_cons.1 h;unfold ascend;rw[b.1 g.Path (by simp),IU b.2];rfl
theorem GN.asc{L:Nat}{l:List File}(h:GN L l):ascend l=true:=IU (names4_asc.sublist h.sub)
theorem GN.tree{L:Nat}{l:List File}(h:GN L l)(o:L+1<=4096)(i:∀f∈l,f.Blob.length<=1048576):G4 l=0:=by
 have d:l.length<=4:=by have:=h.sub.length_le;simpa using this
 unfold G4
 rw[A7 (by omega),A7 (fun a=>by
  obtain⟨f,b,c⟩:=List.any_eq_true.1 a
  exact A1 c (RV _ (h.name f b)).1),A7 (fun a=>by
  rw[rX h.asc fun x j y k=>MK _ (h.name x j) _ (h.name y k)]at a;cases a),A7 (fun a=>by
  obtain⟨f,b,c⟩:=List.any_eq_true.1 a;refine A1 c ?_;unfold I0;have m:=h.cnt f b;have n:=i f b;have e:=qY f.Blob;rw[A7];rintro (g | g)
  ·omega
  ·split at e<;>omega)]
theorem RW{n:Int}:∀{ps a:List Int},(∀p∈ps,0<=p/\p<n/\p∉a)->ps.Nodup->nX n a ps=true
 | [],_,_,_=>rfl
 | p::r,a,h,hn=>by
  have e:=List.nodup_cons.1 hn;unfold nX;rw[A4 (h p (by simp)),Bool.true_and];refine RW (fun q d=>?_) e.2;have c:=h q (by simp[d]);refine⟨c.1,c.2.1,fun b=>?_⟩;rcases List.mem_append.1 b with b | b
  ·exact c.2.2 b
  ·rw[List.mem_singleton.1 b]at d;exact e.1 d
def OneWay(g:Graph):Prop:=(∀c p:Nat,(p:Int)∈E9 g c->p<c)\/(∀c p:Nat,(p:Int)∈E9 g c->c<p)
theorem OneWay.acyc{g:Graph}(h:OneWay g)(c:Nat):¬Reaches g c c:=by
 rcases h with h | h
 ·have key:∀{a b:Nat},Reaches g a b->b<a:=fun {a b} e=>by
   induction e with
   | one d=>exact h _ _ d
   | more _ d f=>have:=h _ _ d;omega
  exact fun e=>Nat.lt_irrefl _ (key e)
 ·have key:∀{a b:Nat},Reaches g a b->a<b:=fun {a b} e=>by
   induction e with
   | one d=>exact h _ _ d
   | more _ d f=>have:=h _ _ d;omega
  exact fun e=>Nat.lt_irrefl _ (key e)
theorem yT:∀{g:List Commit},(∀c∈g,G4 c.Files=0)->o6 g=0
 | [],_=>rfl
 | c::r,h=>by
  unfold o6;rw[A7 (fun a=>a (h c (by simp)))];exact yT fun d b=>h d (by simp[b])
structure GV (g:Graph):Prop where
 len:g.length<=16
 pars:∀c∈g,c.Parents.length<=3/\(∀p∈c.Parents,0<=p/\p<(g.length:Int))/\c.Parents.Nodup/\0<=c.Date/\c.Date<=5
 way:OneWay g
 files:∀c∈g,GN 2111 c.Files/\∀f∈c.Files,f.Blob.length<=1048576
theorem GV.check{g:Graph}(h:GV g):P2 g=0:=by
 have l:related g=true:=by
  unfold related;rw[List.all_eq_true];exact fun c a=>RW (fun p k=>⟨((h.pars c a).2.1 p k).1,((h.pars c a).2.1 p k).2,by simp⟩) (h.pars c a).2.2.1
 have j:¬cyclic g=true:=fun d=>by
  obtain⟨c,a⟩:=(lL l).1 d;exact h.way.acyc c a
 have m:=h.len;have b:bB g=true:=by
  unfold bB;rw[A4 (by omega),Bool.true_and];cases ha:g.any fun c=>decide (c.Parents.length>32)
  ·rfl
  obtain⟨c,a,f⟩:=List.any_eq_true.1 ha;have:=A1 f;have:=(h.pars c a).1;omega
 have i:¬uE g=true:=fun d=>by
  obtain⟨c,a,f⟩:=List.any_eq_true.1 d;have:=A1 f;have:=(h.pars c a).2.2.2;omega
 unfold P2;rw[b,l,A7 (by simp),A7 (by simp),A7 j,A7 i];exact yT fun c a=>(h.files c a).1.tree (by omega) (h.files c a).2
section
variable (L:List Node) (w:List Int)
structure BMono (f:Nat):Prop where
 build:∀{k next:Int} {st:List State} {x:Bld},I9 L w f k next st=some x->I9 L w (f+1) k next st=some x
 cat:∀{l:List Int} {next:Int} {st:List State} {x:Bld},aK L w f l next st=some x->aK L w (f+1) l next st=some x
 alt:∀{l:List Int} {next start:Int} {st:List State} {x:Bld},y7 L w f l next start st=some x->y7 L w (f+1) l next start st=some x
 max:∀{kid:Int} {m:Nat} {last next:Int} {st:List State} {x:Bld},s9 L w f kid m last next st=some x->s9 L w (f+1) kid m last next st=some x
 min:∀{kid:Int} {m:Nat} {next:Int} {st:List State} {x:Bld},t6 L w f kid m next st=some x->t6 L w (f+1) kid m next st=some x
variable {L w}
theorem bmono:∀f:Nat,BMono L w f
 | 0=>⟨(fun h=>by rw[I9]at h;cases h),(fun h=>by rw[aK]at h;cases h),(fun h=>by rw[y7]at h;cases h),(fun h=>by rw[s9]at h;cases h),(fun h=>by rw[t6]at h;cases h)⟩
 | f + 1=>by
  have b:=bmono f;refine⟨?_,?_,?_,?_,?_⟩
  ·intro k next st x h;rw[I9]at h ⊢;dsimp only at h ⊢;by_cases e:H4 w k.toNat=0
   ·rw[A6 e]at h ⊢;exact h
   rw[A7 e]at h ⊢;by_cases g:(L.getD k.toNat J6).Kind=1
   ·rw[A6 g]at h ⊢;exact h
   rw[A7 g]at h ⊢;by_cases j:(L.getD k.toNat J6).Kind=2
   ·rw[A6 j]at h ⊢;exact h
   rw[A7 j]at h ⊢;by_cases o:(L.getD k.toNat J6).Kind=3
   ·rw[A6 o]at h ⊢;exact h
   rw[A7 o]at h ⊢;by_cases p:(L.getD k.toNat J6).Kind=4
   ·rw[A6 p]at h ⊢;exact b.cat h
   rw[A7 p]at h ⊢;by_cases q:(L.getD k.toNat J6).Kind=5
   ·rw[A6 q]at h ⊢;split at h
    ·cases h
    ·split at h
     ·cases h
     ·rename_i hb;rw[b.build hb];exact b.alt h
   rw[A7 q]at h ⊢;by_cases s:(L.getD k.toNat J6).Kind=6
   ·rw[A6 s]at h ⊢;by_cases t:(L.getD k.toNat J6).Max<0
    ·rw[A6 t]at h ⊢;split at h
     ·cases h
     ·rename_i hb;rw[b.build hb];exact b.min h
    ·rw[A7 t]at h ⊢;split at h
     ·cases h
     ·rename_i hb;rw[b.max hb];exact b.min h
   ·rw[A7 s]at h ⊢;exact h
  ·intro l next st x h;cases l with
   | nil=>rw[aK]at h ⊢;exact h
   | cons k r =>
    rw[aK]at h ⊢;split at h
    ·cases h
    ·rename_i hb;rw[b.build hb];exact b.cat h
  ·intro l next start st x h;cases l with
   | nil=>rw[y7]at h ⊢;exact h
   | cons k r =>
    rw[y7]at h ⊢;split at h
    ·cases h
    ·rename_i hb;rw[b.build hb];exact b.alt h
  ·intro c m last next st x h;cases m with
   | zero=>rw[s9]at h ⊢;exact h
   | succ m =>
    rw[s9]at h ⊢;split at h
    ·cases h
    ·rename_i hb;rw[b.build hb];exact b.max h
  ·intro c m next st x h;cases m with
   | zero=>rw[t6]at h ⊢;exact h
   | succ m =>
    rw[t6]at h ⊢;split at h
    ·cases h
    ·rename_i hb;rw[b.build hb];exact b.min h
theorem gK{f k next st x}:∀d,I9 L w f k next st=some x->I9 L w (f+d) k next st=some x
 | 0,h=>h
 | d+1,h=>(bmono (f+d)).build (gK d h)
theorem cat_le{f l next st x}:∀d,aK L w f l next st=some x->aK L w (f+d) l next st=some x
 | 0,h=>h
 | d+1,h=>(bmono (f+d)).cat (cat_le d h)
theorem WN{f l next start st x}:∀d,y7 L w f l next start st=some x->y7 L w (f+d) l next start st=some x
 | 0,h=>h
 | d+1,h=>(bmono (f+d)).alt (WN d h)
theorem WO{f kid m last next st x}:∀d,s9 L w f kid m last next st=some x->s9 L w (f+d) kid m last next st=some x
 | 0,h=>h
 | d+1,h=>(bmono (f+d)).max (WO d h)
theorem ML{f kid m next st x}:∀d,t6 L w f kid m next st=some x->t6 L w (f+d) kid m next st=some x
 | 0,h=>h
 | d+1,h=>(bmono (f+d)).min (ML d h)
def Bable(k:Int)(n:Nat):Prop:=∀next st,∃F st' q,I9 L w F k next st=some (st',q)/\st'.length<=st.length+n
theorem cat_ex{g:Int->Nat}:∀{l:List Int},(∀k∈l,Bable (L:=L) (w:=w) k (g k))->∀next st,∃F st' q,aK L w F l next st=some (st',q)/\st'.length<=st.length+(l.map g).sum
 | [],_,next,st=>⟨1,st,next,by rw[aK],Nat.le_add_right _ _⟩
 | k::r,h,next,st=>by
  obtain⟨F,st1,q1,b,f⟩:=h k (List.mem_cons_self ..) next st;obtain⟨G,a,e,c,i⟩:=cat_ex (l:=r) (fun x d=>h x (List.mem_cons_of_mem _ d)) q1 st1;refine⟨F+G+1,a,e,?_,by simp only[B62,B93];omega⟩;rw[aK,gK G b];have:=cat_le F c
  rwa[show G+F=F+G by omega]at this
theorem alt_ex{g:Int->Nat}:∀{l:List Int},(∀k∈l,Bable (L:=L) (w:=w) k (g k))->∀next start st,∃F st' q,y7 L w F l next start st=some (st',q)/\st'.length<=st.length+(l.map g).sum+l.length
 | [],_,next,start,st=>⟨1,st,start,by rw[y7],by omega⟩
 | k::r,h,next,start,st=>by
  obtain⟨F,st1,q1,b,i⟩:=h k (List.mem_cons_self ..) next st;obtain⟨G,a,f,c,d⟩:=alt_ex (l:=r) (fun x e=>h x (List.mem_cons_of_mem _ e)) next st1.length (st1++[{ T7 with Kind:=1,Next:=q1,Other:=start }]);rw[B48,List.length_singleton]at d;refine⟨F+G+1,a,f,?_,by simp only[B62,B93,B49];omega⟩;rw[y7,gK G b];have:=WN F c
  rwa[show G+F=F+G by omega]at this
theorem max_ex{a:Int}{g:Nat}(h:Bable (L:=L) (w:=w) a g)(last:Int):∀m next st,∃F st' q,s9 L w F a m last next st=some (st',q)/\st'.length<=st.length+m*(g+1)
 | 0,next,st=>⟨1,st,next,by rw[s9],by omega⟩
 | m+1,next,st=>by
  obtain⟨F,st1,q1,c,i⟩:=h next st;obtain⟨G,b,f,d,e⟩:=max_ex h last m st1.length (st1++[{ T7 with Kind:=1,Next:=q1,Other:=last }]);rw[B48,List.length_singleton]at e;refine⟨F+G+1,b,f,?_,by rw[Nat.succ_mul];omega⟩;rw[s9,gK G c];have:=WO F d
  rwa[show G+F=F+G by omega]at this
theorem WP{a:Int}{g:Nat}(h:Bable (L:=L) (w:=w) a g):∀m next st,∃F st' q,t6 L w F a m next st=some (st',q)/\st'.length<=st.length+m*g
 | 0,next,st=>⟨1,st,next,by rw[t6],by omega⟩
 | m+1,next,st=>by
  obtain⟨F,st1,q1,c,f⟩:=h next st;obtain⟨G,b,e,d,i⟩:=WP h m q1 st1;refine⟨F+G+1,b,e,?_,by rw[Nat.succ_mul];omega⟩;rw[t6,gK G c];have:=ML F d
  rwa[show G+F=F+G by omega]at this
end
theorem jI{p:PSt×Int}{y:PSt}{n:Int}(h:(.ok p:Ps Int)=.ok (y,n)):p.1=y:=congrArg Prod.fst (Except.ok.inj h)
theorem IV{x y:PSt}{n:Int}(h:jD s F8 x=.ok (y,n)):y.nodes=x.nodes:=by
 unfold jD at h;split at h
 ·cases h
 ·split at h
  ·cases h
  ·cases h;rfl
theorem pT{x y:PSt}{a c:Int}{b:Int×Int}(h:(if M9 s 125 x=false\/(0<=c/\c<a) then .error 40 else .ok (x.skip 1,(a,c)):Ps (Int×Int))=.ok (y,b)):y.nodes=x.nodes:=by
 split at h
 ·cases h
 ·cases h;rfl
theorem MM{x y:PSt}{b:Int×Int}(h:W4 s F8 x=.ok (y,b)):y.nodes=x.nodes:=by
 unfold W4 at h;cases f:jD s F8 x with
 | error e=>rw[f]at h;cases h
 | ok p =>
  obtain⟨j,g⟩:=p;rw[f]at h;dsimp only at h;have c:=IV f;split at h
  ·split at h
   ·exact (pT h).trans c
   ·split at h
    ·exact (pT h).trans c
    ·cases d:jD s F8 (j.skip 1) with
     | error e=>rw[d]at h;cases h
     | ok q =>
      obtain⟨l,i⟩:=q;rw[d]at h;dsimp only at h;exact ((pT h).trans (IV d)).trans c
  ·exact (pT h).trans c
theorem yU{x y:PSt}{b:Option (Int×Int)}(h:V5 s F8 x=.ok (y,b)):y.nodes=x.nodes:=by
 unfold V5 at h;split at h
 ·cases h;rfl
 split at h
 ·cases h;rfl
 split at h
 ·cases h;rfl
 split at h
 ·split at h
  ·cases h
  ·rename_i z q hb;cases h;exact MM (x:=x.skip 1) hb
 ·cases h;rfl
theorem EM{x y:PSt}{t a:Set4}(h:c9 s t x=.ok (y,a)):y.nodes=x.nodes:=by
 unfold c9 at h;dsimp only at h;split at h
 ·split at h
  ·cases h
  ·split at h
   ·cases h
   ·cases h;rfl
 ·split at h
  ·cases h
  ·split at h
   ·cases h;rfl
   ·split at h
    ·cases h
    ·cases h;rfl
theorem yV:∀(f:Nat) {x y:PSt} {t b:Set4},j9 s f t x=.ok (y,b)->y.nodes=x.nodes
 | 0,_,_,_,_,h=>by cases h
 | f+1,x,y,t,b,h=>by
  unfold j9 at h;split at h
  ·cases h;rfl
  ·split at h
   ·cases h
   ·rename_i z d c;exact (yV f h).trans (EM c)
def KB(B:Nat)(l:List Node):Prop:=∀n∈l,n.Kids.length<=B
theorem KB.snoc{B:Nat}{l:List Node}{n:Node}(h:KB B l)(b:n.Kids.length<=B):KB B (l++[n]):=fun x a=>by
 rcases List.mem_append.1 a with a | a
 ·exact h x a
 ·rw[List.mem_singleton.1 a];exact b
theorem EN{B:Nat}{a:Int}{kids:List Int}{x:PSt}(h:KB B x.nodes)(b:kids.length<=B):KB B (p7 a kids x).1.nodes:=by
 match kids,b with
 | [],_=>exact h.snoc (Nat.zero_le _)
 | [_],_=>exact h
 | _::_::_,b=>exact h.snoc b
theorem IW{B:Nat}{x y:PSt}{n:Int}(h:KB B x.nodes)(b:R4 s x=.ok (y,n)):KB B y.nodes:=by
 unfold R4 at b;cases a:dR s x with
 | error e=>rw[a]at b;cases b
 | ok p =>
  obtain⟨z,c⟩:=p;rw[a]at b;have d:(fZ (set0.with_ c.toNat) z).1=y:=congrArg Prod.fst (Except.ok.inj b);have f:z.nodes=x.nodes:=by
   unfold dR at a;split at a
   ·cases a
   ·cases a;rfl
  rw[<-d];exact KB.snoc (by rw[f];exact h) (Nat.zero_le _)
theorem RY(c:UInt8)(x:PSt):(eM s c x).nodes=x.nodes:=by unfold eM;split<;>rfl
theorem B10{B f:Nat}{x y:PSt}{n:Int}(h:KB B x.nodes)(b:l5 s f x=.ok (y,n)):KB B y.nodes:=by
 unfold l5 at b;dsimp only at b;split at b
 ·cases b
 ·rename_i j t d;split at b
  ·cases b
  ·rename_i g i e;have c:g.nodes=x.nodes:=((yV f e).trans (EM d)).trans (RY 94 (x.skip 1));rw[<-jI b];exact KB.snoc (by rw[c];exact h) (Nat.zero_le _)
theorem IX{B:Nat}{x y:PSt}{a n:Int}(h:KB B x.nodes)(b:U2 s a x=.ok (y,n)):KB B y.nodes:=by
 have key:U2 s a x=.ok (U8 { J6 with Kind:=a } (x.skip 1))->KB B y.nodes:=fun e=>by
  rw[e]at b;rw[<-jI b];exact h.snoc (Nat.zero_le _)
 unfold U2 at b key;dsimp only at b key;split at b
 ·split at b
  ·cases b
  ·rw[<-jI b];exact h.snoc (Nat.zero_le _)
 ·rw[<-jI b];exact h.snoc (Nat.zero_le _)
theorem kK{B:Nat}(f:1<=B){y:PSt}{r:Ps Int}{n:Int}(h:∀z k,r=.ok (z,k)->KB B z.nodes)(a:R5 s F8 r=.ok (y,n)):KB B y.nodes:=by
 unfold R5 at a;split at a
 ·cases a
 ·rename_i z k;have d:=h z k rfl;split at a
  ·cases a
  ·rename_i b;cases a;rw[yU b];exact d
  ·rename_i g c e b;rw[<-jI a];exact KB.snoc (by rw[yU b];exact d) f
structure KAll (s:Str) (B f:Nat):Prop where
 pat:∀{x y:PSt} {n:Int},KB B x.nodes->f<=B->bF s F8 f x=.ok (y,n)->KB B y.nodes
 loop:∀{x y:PSt} {kids:List Int} {n:Int},KB B x.nodes->kids.length+f<=B+1->Y3 s F8 f x kids=.ok (y,n)->KB B y.nodes
 alt:∀{x y:PSt} {kids:List Int} {n:Int},KB B x.nodes->kids.length+f<=B+1->s8 s F8 f x kids=.ok (y,n)->KB B y.nodes
 piece:∀{x y:PSt} {c:UInt8} {n:Int},KB B x.nodes->f<=B->Z6 s F8 f x c=.ok (y,n)->KB B y.nodes
 paren:∀{x y:PSt} {n:Int},KB B x.nodes->f<=B->S5 s F8 f x=.ok (y,n)->KB B y.nodes
theorem k_all(B:Nat):∀f:Nat,KAll s B f
 | 0=>⟨(fun _ _ h=>by cases h),(fun _ _ h=>by cases h),(fun _ _ h=>by cases h),(fun _ _ h=>by cases h),(fun _ _ h=>by cases h)⟩
 | f + 1=>by
  have b:=k_all B f;refine⟨?_,?_,?_,?_,?_⟩
  ·intro x y n h d a;rw[bF]at a;split at a
   ·cases a
   ·rename_i z k ha;exact b.loop (b.alt h (by simp only[List.length_nil];omega) ha) (by simp only[B49,List.length_nil];omega) a
  ·intro x y kids n h d a;rw[Y3]at a;split at a
   ·split at a
    ·cases a
    ·rename_i z k ha;exact b.loop (b.alt (x:=x.skip 1) h (by simp only[List.length_nil];omega) ha) (by simp only[B48,B49,List.length_nil];omega) a
   ·rw[<-jI a];exact EN h (by omega)
  ·intro x y kids n h d a;rw[s8]at a;split at a
   ·rw[<-jI a];exact EN h (by omega)
   ·split at a
    ·rw[<-jI a];exact EN h (by omega)
    ·split at a
     ·cases a
     ·rename_i z k g;exact b.alt (b.piece h (by omega) g) (by simp only[B48,B49,List.length_nil];omega) a
  ·intro x y c n h d a;rw[Z6]at a;split at a
   ·exact IX h a
   split at a
   ·exact IX h a
   split at a
   ·exact kK (by omega) (fun z k e=>b.paren h (by omega) e) a
   split at a
   ·exact kK (by omega) (fun z k e=>B10 h e) a
   split at a
   ·exact kK (by omega) (fun z k e=>by
     rw[<-jI e]
     exact h.snoc (Nat.zero_le _)) a
   split at a
   ·exact kK (by omega) (fun z k e=>IW (x:=x.skip 1) h e) a
   split at a
   ·cases a
   ·exact kK (by omega) (fun z k e=>IW h e) a
  ·intro x y n h d a;rw[S5]at a;split at a
   ·cases a
   ·split at a
    ·cases a
    ·rename_i z k g;split at a
     ·rw[<-jI a];have i:KB B z.nodes:=b.pat (x:={ x with at_:=x.at_+1,depth:=x.depth+1 }) h (by omega) g;exact i
     ·cases a
theorem mC{s:Str}{f:Nat}(w:f<=4000){L:List Node}(h:p8 s F8 f=(L,0))(c:bF s F8 f ⟨0,0,[]⟩≠.error 0):eF L=0/\∀n∈L,n.Kids.length<=4000:=by
 unfold p8 at h;split at h
 ·have:=congrArg Prod.snd h;cases this
 ·rename_i z;cases d:bF s F8 f ⟨0,0,[]⟩ with
  | error e =>
   rw[d]at h;have u:e=0:=congrArg Prod.snd h;rw[d,u]at c;exact absurd rfl c
  | ok p =>
   obtain⟨st,v⟩:=p;rw[d]at h;dsimp only at h;split at h
   ·have:=congrArg Prod.snd h;cases this
   ·have j:st.nodes=L:=congrArg Prod.fst h;obtain⟨g,i⟩:=(V6 (s:=s) f).pat (Nat.zero_le _) d;have l:=g.cnt;have y:=g.len;have m:=g.ok (fun i n b=>by cases b);rw[j]at l m;have q:(1:Int)<=L.length:=by have:=i.1;have:=i.2;rw[j]at this;omega
    dsimp only[List.length_nil]at l;refine⟨?_,fun n b=>?_⟩
    ·unfold eF;rw[A7 (by omega),A6];refine List.all_eq_true.2 fun i q=>?_;have k:=List.mem_range.1 q;exact m i _ (by rw[B46,B44 k];rfl)
    ·exact (k_all (s:=s) 4000 f).pat (x:=⟨0,0,[]⟩) (fun n b=>by cases b) w d n (by rw[j];exact b)
end Go.AL
