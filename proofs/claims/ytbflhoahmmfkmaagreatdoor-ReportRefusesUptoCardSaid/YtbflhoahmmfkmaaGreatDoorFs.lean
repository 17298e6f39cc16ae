/- Plain facts about data; no project text. -/
import Derived.Test.YtbflhoahmmfkmaaGreatDoorD
import Derived.Lib.Strings
import Derived.Lib.Bytealg
import Derived.Lib.Join
import Derived.Lib.ItoaNum
import Derived.Test.YtbflhoahmmfkmaaGreatDoorAn
import Derived.Lib.IndexMore
set_option linter.all false
namespace Go.AL
open Go
theorem FB(c:UInt8):((c.toNat:Int)=10)↔c=10:=by
 constructor
 ·intro h;have:c.toNat=10:=by omega
  exact UInt8.toNat_inj.1 (by simpa using this)
 ·rintro rfl;rfl
def G9(a:Str):Str->List Str
 | []=>if a=[] then [] else [a]
 | c::r=>if c=10 then (a++[c])::G9 [] r else G9 (a++[c]) r
def H0(b:Str):List Str:=G9 [] b
theorem t7(a:Str)(s:Str):(G9 a s).length<=s.length+1:=by
 induction s generalizing a with
 | nil=>unfold G9;split<;>simp
 | cons c r b=>unfold G9;split<;>simp<;>(have:=b [];have:=b (a++[c]);omega)
theorem aY(s:Str):(G9 [] s).length<=s.length:=by
 have b:∀(s a:Str),a≠[]->(G9 a s).length<=s.length+1:=fun s a _=>t7 a s;induction s with
 | nil=>simp[G9]
 | cons c r d=>unfold G9;split<;>simp<;>(have:=t7 ([]++[c]) r;simp at this;omega)
theorem y6(b:Str):(H0 b).length<=b.length:=aY b
theorem j4(a r:Str)(c:UInt8):G9 a (c::r)=if c=10 then (a++[c])::G9 [] r else G9 (a++[c]) r:=rfl
theorem nP(a:Str)(h:a≠[]):G9 a []=[a]:=by simp[G9,h]
theorem or_pick{p q:Prop}[Decidable p][Decidable q]:(if decide p=true then true else decide q)=decide (p\/q):=by by_cases p<;>simp[*]
theorem and_pick{p q:Prop}[Decidable p][Decidable q]:(if decide p=true then decide q else false)=decide (p/\q):=by by_cases p<;>simp[*]
theorem sX(i:Nat):((i:Int)+1).toNat=i+1:=by omega
theorem lY{α:Type}(b:List α)(f i:Nat)(d:f<=i)(c:i<b.length):(b.drop f).take (i-f)++[b[i]]=(b.drop f).take (i+1-f):=by
 rw[show i+1-f=(i-f)+1 by omega,List.take_add_one,IE,show f+(i-f)=i by omega,HQ c];rfl
def ended(s:Str):Bool:=s.getLast? == some 10
def R6(s:Str):Bool:=s.dropLast.all (·≠10)&&s != []
def L1(b:Str):Int:=if b.length>1048576\/(H0 b).length>4096 then 1 else 0
def nQ(i j:Int):List Span->Int->Int->List Change
 | [],m,n=>if m>i\/n>j then [⟨i,m-i,j,n-j⟩] else []
 | x::r,m,n=>(if x.From>i\/x.To>j then [⟨i,x.From-i,j,x.To-j⟩] else [])++nQ (x.From+1) (x.To+1) r m n
def gP(i j:Int)(n:Nat):List Span:=(List.range n).map fun (t:Nat)=>⟨i+(t:Int),j+(t:Int)⟩
def l8(i j:Int):List Change->Int->List Span
 | [],m=>gP i j (m-i).toNat
 | c::r,m=>gP i j (c.Old-i).toNat++l8 (max i c.Old+c.OldLen) (j+(c.Old-i).toNat+c.NewLen) r m
def vZ(l:List Change)(m:Int):List Span:=l8 0 0 l m
def dist:List Int->List Int->Nat
 | [],b=>b.length
 | x::a,[]=>(x::a).length
 | x::a,y::b=>if x=y then dist a b else 1+min (dist a (y::b)) (dist (x::a) b)
universe u
def Asc(m n:Int):Int->Int->List Span->Prop
 | i,j,[]=>i<=m/\j<=n
 | i,j,x::r=>i<=x.From/\j<=x.To/\Asc m n (x.From+1) (x.To+1) r
theorem Asc.le{m n:Int}:∀{p:List Span} {i j:Int},Asc m n i j p->i<=m/\j<=n
 | [],i,j,h=>h
 | x::r,i,j,h=>by have:=Asc.le h.2.2;have:=h.1;have:=h.2.1;omega
theorem Asc.weaken{m n:Int}{p:List Span}{i j a b:Int}(h:Asc m n i j p)(c:a<=i)(d:b<=j):Asc m n a b p:=by
 cases p with
 | nil=>exact⟨by have:=h.1;omega,by have:=h.2;omega⟩
 | cons x r=>exact⟨by have:=h.1;omega,by have:=h.2.1;omega,h.2.2⟩
theorem Asc.made{m n:Int}:∀{p:List Span} {i j:Int},Asc m n i j p->∀c∈nQ i j p m n,i<=c.Old/\j<=c.New/\0<=c.OldLen/\0<=c.NewLen/\c.Old+c.OldLen<=m/\c.New+c.NewLen<=n
 | [],i,j,h,c,a=>by
  unfold nQ at a;split at a
  ·simp only[List.mem_singleton]at a;subst a;have:=h.1;have:=h.2;simp only;omega
  ·cases a
 | x::r,i,j,h,c,a=>by
  unfold nQ at a;obtain⟨d,e,b⟩:=h;have f:=b.le;rcases HV.1 a with a | a
  ·split at a
   ·simp only[List.mem_singleton]at a;subst a;simp only;omega
   ·cases a
  ·have:=Asc.made b c a;omega
def FC(m:Int)(c:Nat):Bool:=m / 2 ^ c % 2 == 1
def GI(r:Row)(c:Int):Bool:=if c = -1 then !r.Lost else if c < -1\/32<=c then false else FC r.Marks c.toNat == r.Lost
def FD(b:List Row)(c:Int):List Str:=(b.filter (GI · c)).map (·.Text)
def CT(n:Nat)(r:Row):Bool:=r.Marks / 2 ^ n == 0&&!(r.Lost&&r.Marks == 0)
theorem CU(m c:Int)(b:Nat)(a:0<=c/\c<=b):m.fdiv (2 ^ (min c.toNat b))=m / 2 ^ c.toNat:=by
 rw[show min c.toNat b=c.toNat by omega,Int.fdiv_eq_ediv_of_nonneg _ (Int.pow_nonneg (by decide))]
abbrev Loom:=List Int×(Nat->List (List Int))
structure LoomOk (Q:Int->Prop) (B lines n:Nat) (s:Loom):Prop where
 len:s.1.length=lines
 marks:∀m∈s.1,0<=m/\m<4294967296
 gaps:∀k,(s.2 k).length=n/\∀x∈s.2 k,x.length<=B/\∀v∈x,Q v
theorem nR(s:Str):Lib.hasSuffix s [10]=ended s:=by
 unfold Lib.hasSuffix ended;rw[Bool.eq_iff_iff,List.isSuffixOf_iff_suffix,beq_iff_eq];constructor
 ·rintro⟨t,rfl⟩;simp
 ·intro h;obtain⟨a,b⟩:=List.getLast?_eq_some_iff.1 h;exact⟨a,b.symm⟩
theorem Q0(c:UInt8):∀l:Str,(c∉l/\Lib.indexByte l c = -1)\/∃a b,l=a++c::b/\c∉a/\Lib.indexByte l c=a.length
 | []=>.inl ⟨by simp,rfl⟩
 | x::l=>by
  unfold Lib.indexByte;by_cases d:x=c
  ·exact .inr ⟨[],l,by rw[d];rfl,by simp,by simp[d]⟩
  ·rcases Q0 c l with ⟨e,f⟩ | ⟨a,b,e,f,h3⟩
   ·exact .inl ⟨by simp[e,Ne.symm d],by simp[d,f]⟩
   ·refine .inr ⟨x::a,b,by rw[e];rfl,by simp[f,Ne.symm d],?_⟩;have g:¬((a.length:Int) = -1):=by omega
    simp[d,h3,g]
theorem kQ(c:UInt8)(l:Str):0<=Lib.indexByte l c↔c∈l:=by
 rcases Q0 c l with ⟨d,e⟩ | ⟨a,b,d,e,h3⟩
 ·rw[e];simp[d]
 ·rw[h3,d];simp
structure EndsAt (res:Bool) (par:Int) (bad:Int->Bool):Prop where
 res:res=bad (-1)
 par:∃p:Nat,p<4294967296/\par=p/\∀c:Nat,c<32->p.testBit c=bad c
def L0(c:UInt8):Bool:=decide (33<=c.toNat/\c.toNat<=126/\c.toNat≠34/\c.toNat≠92)
def digs8:Str:=[48,49,50,51,52,53,54,55]
def digs10:Str:=[48,49,50,51,52,53,54,55,56,57]
def qF(c:UInt8):Str:=(digs8.drop (c.toNat / 64)).take 1++(digs8.drop (c.toNat / 8 % 8)).take 1++(digs8.drop (c.toNat % 8)).take 1
def l9(c:UInt8):Str:=if c.toNat=34\/c.toNat=92 then [92,c] else if c.toNat=10 then [92,110] else if c.toNat=9 then [92,116] else if c.toNat<32\/126<c.toNat then 92::qF c else [c]
def Q1(s:Str):Str:=if s≠[]/\s.all L0=true then s else 34::((s.map l9).flatten++[34])
theorem wA(c:UInt8):(qF c).length<=3:=by unfold qF;simp only[HW,IF];omega
theorem lZ(c:UInt8):(l9 c).length<=4:=by
 have:=wA c;unfold l9;split
 ·simp
 ·split
  ·simp
  ·split
   ·simp
   ·split
    ·simp only[HU];omega
    ·simp
theorem dS(s:Str):((s.map l9).flatten).length<=4*s.length:=by
 induction s with
 | nil=>simp
 | cons c r b=>have:=lZ c;simp only[IC,JM,HW,HU];omega
theorem qG(s:Str):(Q1 s).length<=4*s.length+2:=by
 unfold Q1;have:=dS s;split
 ·omega
 ·simp only[HU,HW,IM];omega
def U1(n:Int):Str:=if n<0\/2147483647<n then [] else Lib.itoa n
def uK(a n:Int):Str:=if a<0\/n<0\/2147483647<a\/2147483647-a<n then [] else if n=0 then U1 a++[44,48] else if n=1 then U1 (a+1) else U1 (a+1)++[44]++U1 n
theorem bO:∀(k u:Nat),u<10 ^ (k+1)->(Lib.decDigits u).length<=k+1
 | 0,u,h=>by rw[Lib.decDigits,dif_pos (by omega)];simp
 | k+1,u,h=>by
  rw[Lib.decDigits];split
  ·simp
  ·have:=bO k (u / 10) (by rw[Nat.div_lt_iff_lt_mul (by omega)];rw[Nat.pow_succ]at h;omega);simp only[HW,HU,IM];omega
theorem aN(n:Int):(U1 n).length<=10:=by
 unfold U1;split
 ·simp
 ·unfold Lib.itoa;rw[A5 (by omega)];exact bO 9 n.toNat (by omega)
theorem FE(k:Nat)(h:k<10):(digs10.drop k).take 1=[UInt8.ofNat (48+k)]:=by
 have:∀k:Fin 10,(digs10.drop k.1).take 1=[UInt8.ofNat (48+k.1)]:=by decide
 exact this ⟨k,h⟩
theorem wC(n:Int)(b:0<=n)(h:n<10):U1 n=(digs10.drop n.toNat).take 1:=by
 unfold U1 Lib.itoa;rw[A5 (by omega),A5 (by omega),FE _ (by omega),Lib.decDigits,dif_pos (by omega)]
theorem CV(k:Nat)(h:k<8):(digs8.drop k).take 1=[UInt8.ofNat (48+k)]:=by
 have:∀k:Fin 8,(digs8.drop k.1).take 1=[UInt8.ofNat (48+k.1)]:=by decide
 exact this ⟨k,h⟩
theorem qH(c:UInt8):qF c=[UInt8.ofNat (48+c.toNat / 64),UInt8.ofNat (48+c.toNat / 8 % 8),UInt8.ofNat (48+c.toNat % 8)]:=by
 have:=c.toNat_lt;unfold qF;rw[CV _ (by omega),CV _ (by omega),CV _ (by omega)];rfl
def escs(s:Str)(i:Nat):Str:=((s.take i).map l9).flatten
theorem wD(s:Str)(i:Nat)(h:i<s.length):escs s (i+1)=escs s i++l9 s[i]:=by
 unfold escs;rw[IY h,JI,JP];simp only[IC,JG,JM,List.flatten_nil,JC]
theorem yP(s:Str)(i:Nat)(h:i<=s.length):(escs s i).length<=4*i:=by
 have:=dS (s.take i);unfold escs;rw[IF]at this;omega
def plains(s:Str)(i:Nat):Bool:=decide (s≠[])&&(s.take i).all L0
theorem qI(s:Str):plains s 0=decide (s≠[]):=by simp[plains]
theorem qJ(s:Str)(i:Nat)(h:i<s.length):plains s (i+1)=(plains s i&&L0 s[i]):=by
 unfold plains;rw[IY h,JF];simp only[List.all_cons,List.all_nil,Bool.and_true,Bool.and_assoc]
theorem jC(s:Str):Q1 s=if plains s s.length=true then s else (34::escs s s.length)++[34]:=by
 unfold Q1 plains escs;rw[HX];simp only[HR,decide_eq_true_eq,IR]
structure File where
 Path:Str
 Blob:Str
 deriving DecidableEq
structure Delta where
 Path:Str
 Kind:Int
 deriving DecidableEq
structure Commit where
 Parents:List Int
 Date:Int
 Files:List File
 deriving DecidableEq
def V4:File->Nat->Cell:=fun f j=>match j with
 | 0=>.v (.string ⟨f.Path.toArray⟩)
 | _=>.v (.string ⟨f.Blob.toArray⟩)
def E6:Commit->Nat->Cell:=fun c j=>match j with
 | 0=>.list Int 1 K4 c.Parents
 | 1=>.v (.int .i64 c.Date)
 | _=>.list File 2 V4 c.Files
abbrev CW:List File->Nat->Cell:=fun l _=>.list File 2 V4 l
abbrev uL(f:File):PV:=.agg [.v (.string ⟨f.Path.toArray⟩),.v (.string ⟨f.Blob.toArray⟩)]
abbrev dT(c:Commit):PV:=.agg [.list Int 1 K4 c.Parents,.v (.int .i64 c.Date),.list File 2 V4 c.Files]
abbrev jD(l:List File):PV:=.one (.list File 2 V4 l)
abbrev E4(l:List Commit):PV:=.one (.list Commit 3 E6 l)
theorem bP(a b:Bool):(if a=true then b else false)=(a&&b):=by cases a<;>rfl
theorem yQ(a b:Bool):(if a=true then true else b)=(a||b):=by cases a<;>rfl
abbrev eP(a b:Str):Bool:=Op.bytesLess a b
theorem uM(a:Str):eP a []=false:=by cases a<;>rfl
theorem dU(a b:UInt8)(x y:Str):eP (a::x) (b::y)=(decide (a<b)||(a == b&&eP x y)):=rfl
theorem cJ:∀a:Str,eP a a=false
 | []=>rfl
 | c::r=>by
  rw[dU,cJ r];have:¬c<c:=by rw[UInt8.lt_iff_toNat_lt];omega
  simp[this]
theorem fC:∀{a b c:Str},eP a b=true->eP b c=true->eP a c=true
 | _,[],_,h,_=>by rw[uM]at h;cases h
 | _,_::_,[],_,h=>by rw[uM]at h;cases h
 | [],_::_,_::_,_,_=>rfl
 | a::x,b::y,c::z,e,d=>by
  rw[dU,IH,HR,decide_eq_true_eq,UInt8.lt_iff_toNat_lt,beq_iff_eq]at e d;rw[dU,IH,HR,decide_eq_true_eq,UInt8.lt_iff_toNat_lt,beq_iff_eq];rcases e with e | ⟨rfl,e⟩
  ·rcases d with d | ⟨rfl,d⟩
   ·left;omega
   ·left;omega
  ·rcases d with d | ⟨rfl,d⟩
   ·left;omega
   ·right;exact⟨rfl,fC e d⟩
theorem wE{a b:Str}(h:eP a b=true):eP b a=false:=by
 cases c:eP b a
 ·rfl
 ·have:=fC h c;rw[cJ]at this;cases this
theorem uN:∀(a:Str) (c:UInt8) (t:Str),eP a (a++c::t)=true
 | [],_,_=>rfl
 | x::r,c,t=>by rw[IR,dU,uN r c t];simp
def J1(s:Str):Bool:=decide (s≠[]/\s≠[46]/\s≠[46,46])
def G3(a:Str):Str->List Str
 | []=>[a]
 | c::r=>if c=47 then a::G3 [] r else G3 (a++[c]) r
def j5(a:Str):Str->Bool
 | []=>J1 a
 | c::r=>if c=0 then false else if c=47 then J1 a&&j5 [] r else j5 (a++[c]) r
def H8(p:Str):Int:=if p.length<1\/p.length>200\/j5 [] p=false then 210 else 0
theorem cK:∀(s b:Str),j5 b s=(!s.contains 0&&(G3 b s).all J1)
 | [],b=>by simp[j5,G3]
 | c::r,b=>by
  rw[j5,G3];by_cases d:c=0
  ·subst d;simp
  ·rw[A5 d];have f:(c::r).contains 0=r.contains 0:=by
    rw[List.contains_cons];have:((0:UInt8) == c)=false:=by simpa using fun e=>d e.symm
    rw[this,Bool.false_or]
   rw[f];split
   ·rw[cK r [],List.all_cons];cases J1 b<;>cases r.contains 0<;>rfl
   ·rw[cK r]
theorem nS(p:Str):H8 p=if p.length>200\/p.contains 0=true then 210 else if (G3 [] p).all J1=true then 0 else 210:=by
 unfold H8;rw[cK];by_cases b:p.length>200
 ·rw[A4 (.inr (.inl b)),A4 (.inl b)]
 ·cases d:p.contains 0
  ·rw[A5 (show ¬(p.length>200\/false=true) by simp[b])];cases c:(G3 [] p).all J1
   ·simp
   ·have:¬p.length<1:=by
     intro h;have:p=[]:=List.length_eq_zero_iff.1 (by omega);subst this;simp[G3,J1]at c
    rw[A5 (fun h=>by
     rcases h with h | h | h
     ·exact this h
     ·exact b h
     ·cases h)];rfl
  ·rw[A4 (show p.length>200\/true=true from .inr rfl),A4 (.inr (.inr (by simp)))]
def above(a b:Str):Bool:=decide (b.length>a.length/\b.take a.length=a/\b[a.length]?=some 47)
theorem yR{a b:Str}(h:above a b=true):eP a b=true:=by
 obtain⟨c,f,d⟩:=A0 h;have e:b=a++47::b.drop (a.length+1):=by
  conv=>lhs;rw[<-JH a.length b,f]
  rw[IB c];rw[HQ c]at d;rw[Option.some.inj d]
 rw[e];exact uN _ _ _
def H7:List File->Bool
 | []=>true
 | f::r=>r.all (fun x=>eP f.Path x.Path&&!above f.Path x.Path)&&H7 r
def E7(l:List File):Int:=if l.length>200 then 1 else if l.any (fun f=>decide (H8 f.Path≠0))=true then 210 else if H7 l=false then 211 else if l.any (fun f=>decide (L1 f.Blob≠0))=true then 1 else 0
def K5(p:Str)(ps:List Str):Bool:=(List.range p.length).any fun i=>decide (p.take i∈ps)&&decide (p[i]?=some 47)
def ascend:List File->Bool
 | []=>true
 | [_]=>true
 | f::g::r=>eP f.Path g.Path&&ascend (g::r)
def V5(l:List File):Bool:=ascend l&&l.all fun f=>!K5 f.Path (l.map (·.Path))
theorem jE(p:Str)(ps:List Str):K5 p ps=true↔∃a∈ps,above a p=true:=by
 unfold K5;rw[List.any_eq_true];constructor
 ·rintro⟨i,k,h⟩;rw[HR,decide_eq_true_eq,decide_eq_true_eq]at h;have c:i<p.length:=IA.1 k;have b:(p.take i).length=i:=by rw[IF];omega
  exact⟨_,h.1,A2 ⟨by rw[b];exact c,by rw[b],by rw[b];exact h.2⟩⟩
 ·rintro⟨a,ha,h⟩;obtain⟨d,f,j⟩:=A0 h;exact⟨a.length,IA.2 d,by rw[HR,decide_eq_true_eq,decide_eq_true_eq,f];exact⟨ha,j⟩⟩
theorem b8:∀{f:File} {r:List File},ascend (f::r)=true->∀x∈r,eP f.Path x.Path=true
 | _,[],_,_,hx=>by cases hx
 | f,g::r,h,x,hx=>by
  unfold ascend at h;rw[HR]at h;rcases HZ.1 hx with rfl | hx
  ·exact h.1
  ·exact fC h.1 (b8 h.2 x hx)
theorem fY{f:File}{r:List File}(h:ascend (f::r)=true):ascend r=true:=by
 cases r with
 | nil=>rfl
 | cons g r=>unfold ascend at h;rw[HR]at h;exact h.2
theorem T7:∀{l:List File},H7 l=true->ascend l=true
 | [],_=>rfl
 | [_],_=>rfl
 | f::g::r,h=>by
  unfold H7 at h;rw[HR,List.all_eq_true]at h;have a:=h.1 g (by simp);rw[HR]at a;unfold ascend;rw[a.1,T7 h.2];rfl
theorem bQ:∀{l:List File},H7 l=true->∀x∈l,∀y∈l,above x.Path y.Path=false
 | [],_,x,hx,_,_=>by cases hx
 | f::r,h,x,hx,y,hy=>by
  have ha:=T7 h;unfold H7 at h;rw[HR,List.all_eq_true]at h;cases a:above x.Path y.Path
  ·rfl
  have b:=yR a;rcases HZ.1 hx with rfl | hx0
  ·rcases HZ.1 hy with rfl | hy
   ·rw[cJ]at b;cases b
   ·have:=h.1 y hy;rw[a,Bool.not_true,Bool.and_false]at this;cases this
  ·have c:=hx0;rcases HZ.1 hy with d | hy2
   ·have:=b8 ha x c;rw[<-d,wE b]at this;cases this
   ·rw[bQ h.2 x c y hy2]at a;cases a
theorem jF:∀{l:List File},ascend l=true->(∀x∈l,∀y∈l,above x.Path y.Path=false)->H7 l=true
 | [],_,_=>rfl
 | f::r,h,ha=>by
  unfold H7;rw[HR,List.all_eq_true];refine⟨fun x a=>?_,jF (fY h) fun x a y b=>ha x (by simp[a]) y (by simp[b])⟩;rw[b8 h x a,ha f (by simp) x (by simp[a])];rfl
theorem sY(l:List File):V5 l=H7 l:=by
 cases h:H7 l
 ·cases c:V5 l
  ·rfl
  unfold V5 at c;rw[HR,List.all_eq_true]at c;have:H7 l=true:=jF c.1 fun x d y e=>by
   cases b:above x.Path y.Path
   ·rfl
   have f:=c.2 y e;rw[(jE _ _).2 ⟨x.Path,List.mem_map_of_mem d,b⟩]at f;cases f
  rw[this]at h;cases h
 ·unfold V5;rw[HR,List.all_eq_true];refine⟨T7 h,fun y e=>?_⟩;cases g:K5 y.Path (l.map (·.Path))
  ·rfl
  obtain⟨a,ha,b⟩:=(jE _ _).1 g;obtain⟨x,d,rfl⟩:=IQ.1 ha;rw[bQ h x d y e]at b;cases b
def R7:List File->Str->Option Str
 | [],_=>none
 | f::r,p=>if f.Path=p then some f.Blob else R7 r p
theorem qK:∀{l:List File} {p x:Str},R7 l p=some x->∃f∈l,f.Path=p/\f.Blob=x
 | [],_,_,h=>by cases h
 | f::r,p,x,h=>by
  unfold R7 at h;split at h
  ·rename_i e;exact⟨f,by simp,e,Option.some.inj h⟩
  ·obtain⟨g,b,a⟩:=qK h;exact⟨g,by simp[b],a⟩
theorem sZ{p:Str}:∀{l:List File},R7 l p=none↔p∉l.map (·.Path)
 | []=>by simp[R7]
 | f::r=>by
  unfold R7;split
  ·rename_i e;simp[e]
  ·rename_i e;rw[sZ (l:=r),IC,HZ,not_or];exact⟨fun h=>⟨fun b=>e b.symm,h⟩,fun h=>h.2⟩
theorem kR{l:List File}(h:E7 l=0):ascend l=true/\l.length<=200/\(∀f∈l,L1 f.Blob=0)/\∀f∈l,H8 f.Path=0:=by
 unfold E7 at h;split at h
 ·cases h
 ·rename_i g;split at h
  ·cases h
  ·rename_i b;split at h
   ·cases h
   ·rename_i c;split at h
    ·cases h
    ·rename_i d;refine⟨T7 (by simpa using c),by omega,fun f a=>?_,fun f a=>?_⟩
     ·have:=fun e=>d (List.any_eq_true.2 ⟨f,a,e⟩);simpa using this
     ·have:=fun e=>b (List.any_eq_true.2 ⟨f,a,e⟩);simpa using this
def I8(a:Str):Str->List Str
 | []=>[a]
 | c::r=>if c=10 then (a++[c])::I8 [] r else I8 (a++[c]) r
def K7(b:Str):List Str:=I8 [] b
theorem kS(a b:Str)(h:(10:UInt8)∉a):I8 b a=[b++a]:=by
 induction a generalizing b with
 | nil=>simp[I8]
 | cons c r d =>
  simp only[HZ,not_or]at h;rw[I8,A5 (fun e=>h.1 e.symm),d _ h.2];simp
theorem nT(a b d:Str)(h:(10:UInt8)∉a):I8 d (a++10::b)=(d++a++[10])::I8 [] b:=by
 induction a generalizing d with
 | nil=>simp[I8]
 | cons c r f =>
  simp only[HZ,not_or]at h;rw[IR,I8,A5 (fun e=>h.1 e.symm),f _ h.2];simp
theorem O8(s a:Str):(I8 a s).length=s.count 10+1:=by
 induction s generalizing a with
 | nil=>rfl
 | cons c r d =>
  by_cases b:c=10
  ·subst b;rw[I8,A4 rfl,HU,d,List.count_cons_self]
  ·rw[I8,A5 b,d,List.count_cons_of_ne b]
theorem qL(s b:Str):G9 b s=if (I8 b s).getLastD []=[] then (I8 b s).dropLast else I8 b s:=by
 induction s generalizing b with
 | nil=>by_cases h:b=[]<;>simp[G9,I8,h]
 | cons c r j =>
  rw[G9,I8];by_cases f:c=10
  ·rw[A4 f,A4 f,j];have l:I8 [] r≠[]:=fun e=>by have:=O8 r [];rw[e]at this;simp at this
   obtain⟨x,y,i⟩:=List.exists_cons_of_ne_nil l;rw[i];have k:((b++[c])::x::y).getLastD []=(x::y).getLastD []:=by cases y<;>simp[List.getLastD]
   rw[k];split
   ·rfl
   ·rfl
  ·rw[A5 f,A5 f,j]
theorem jG(s a:Str):(G9 a s).length=s.count 10+if s=[] then (if a=[] then 0 else 1) else if ended s=true then 0 else 1:=by
 induction s generalizing a with
 | nil=>by_cases h:a=[]<;>simp[G9,h]
 | cons c r i =>
  have j:ended (c::r)=if r=[] then c == 10 else ended r:=by
   cases r with
   | nil=>simp[ended]
   | cons d t=>simp[ended,List.getLast?_cons_cons]
  rw[G9,A5 (List.cons_ne_nil _ _),j];by_cases b:c=10
  ·subst b;rw[A4 rfl,HU,i,List.count_cons_self];by_cases f:r=[]<;>simp[f];omega
  ·rw[A5 b,i,List.count_cons_of_ne b];by_cases f:r=[]<;>simp[f,b]
theorem kT(s:Str):(H0 s).length=s.count 10+if s≠[]/\ended s=false then 1 else 0:=by
 unfold H0;rw[jG];by_cases a:s=[]<;>simp[a];cases ended s<;>simp
theorem tA{P:List Str}{i:Nat}{r a b:Str}(h:P.drop i=K7 r)(c:r=a++10::b)(ha:(10:UInt8)∉a):P[i]?=some (a++[10])/\P.drop (i+1)=K7 b:=by
 have e:K7 r=(a++[10])::K7 b:=by rw[c];unfold K7;rw[nT _ _ _ ha];rfl
 rw[e]at h;refine⟨by rw[<-List.head?_drop,h];rfl,?_⟩;rw[<-List.tail_drop,h];rfl
theorem mA{α:Type}(P:List α)(z x:α)(i:Nat)(h:P[i]?=some x):(P.take i++List.replicate (P.length-i) z).set i x=P.take (i+1)++List.replicate (P.length-(i+1)) z:=by
 obtain⟨a,c⟩:=List.getElem?_eq_some_iff.1 h;have b:(P.take i).length=i:=by rw[IF];omega
 rw[List.set_append_right _ _ (by omega),b,JN,show P.length-i=(P.length-(i+1))+1 by omega,List.replicate_succ,List.set_cons_zero,IY a,c,IL];rfl
def X9(b:Str):List Str×Int:=if b.length>1048576\/(H0 b).length>4096 then ([],1) else (H0 b,0)
def J4(n:Int):Prop:=0<=n/\n<=4096
instance (n:Int):Decidable (J4 n):=by unfold J4;exact inferInstance
def wF(k:Nat)(i j:Int)(c:Change):Prop:=((((((¬J4 c.Old\/¬J4 c.OldLen)\/¬J4 c.New)\/¬J4 c.NewLen)\/c.OldLen+c.NewLen=0)\/c.Old-i≠c.New-j)\/c.Old<i)\/(0<(k:Int)/\c.Old=i)
instance (k:Nat) (i j:Int) (c:Change):Decidable (wF k i j c):=by unfold wF;exact inferInstance
def K2(k:Nat)(i j:Int):List Change->Int->Int->Bool
 | [],m,n=>decide (¬(m-i≠n-j\/m<i))
 | c::r,m,n=>decide (¬wF k i j c)&&K2 (k+1) (c.Old+c.OldLen) (c.New+c.NewLen) r m n
def yS(l:List Change)(m n:Int):Int:=if ¬J4 m\/¬J4 n then 80 else if K2 0 0 0 l m n=true then 0 else 80
def ScOk(i j:Int):List Change->Int->Int->Prop
 | [],m,n=>i<=m/\j<=n
 | c::r,m,n=>J4 c.Old/\J4 c.OldLen/\J4 c.New/\J4 c.NewLen/\i<=c.Old/\j<=c.New/\ScOk (c.Old+c.OldLen) (c.New+c.NewLen) r m n
theorem y7:∀(l:List Change) (k:Nat) (i j m n:Int),K2 k i j l m n=true->ScOk i j l m n
 | [],k,i,j,m,n,h=>by simp only[K2,decide_eq_true_eq]at h;simp only[ScOk];omega
 | c::r,k,i,j,m,n,h=>by
  simp only[K2,HR,decide_eq_true_eq]at h;obtain⟨a,d⟩:=h;unfold wF at a;refine⟨?_,?_,?_,?_,?_,?_,y7 r _ _ _ m n d⟩
  all_goals (by_cases b:J4 c.Old<;>by_cases a2:J4 c.OldLen<;>by_cases a3:J4 c.New<;>by_cases a4:J4 c.NewLen<;>simp[b,a2,a3,a4]at a ⊢<;>omega)
def G5(l:List Change)(k:Nat):Change:=l.getD k ⟨0,0,0,0⟩
theorem ScOk.end_le:∀{l:List Change} {i j m n:Int},ScOk i j l m n->i<=m/\j<=n
 | [],_,_,_,_,h=>h
 | c::r,i,j,m,n,⟨h1,h2,h3,h4,h5,h6,h7⟩=>by have:=h7.end_le;unfold J4 at *;omega
theorem ScOk.get:∀{l:List Change} {i j m n:Int} (k:Nat),ScOk i j l m n->k<l.length->J4 (G5 l k).Old/\J4 (G5 l k).OldLen/\J4 (G5 l k).New/\J4 (G5 l k).NewLen/\(G5 l k).Old+(G5 l k).OldLen<=m/\(G5 l k).New+(G5 l k).NewLen<=n
 | c::r,i,j,m,n,0,⟨h1,h2,h3,h4,h5,h6,h7⟩,_=>by have:=h7.end_le;exact⟨h1,h2,h3,h4,this.1,this.2⟩
 | c::r,i,j,m,n,k+1,⟨h1,h2,h3,h4,h5,h6,h7⟩,hk=>by
  have:=h7.get k (by simpa using hk);simpa[G5] using this
theorem ScOk.next:∀{l:List Change} {i j m n:Int} (k:Nat),ScOk i j l m n->k+1<l.length->(G5 l k).Old+(G5 l k).OldLen<=(G5 l (k+1)).Old
 | [c],_,_,_,_,_,_,hk=>by simp at hk
 | c::c2::r,i,j,m,n,0,⟨_,_,_,_,_,_,h7⟩,_=>by simpa[G5] using h7.2.2.2.2.1
 | c::c2::r,i,j,m,n,k+1,⟨_,_,_,_,_,_,h7⟩,hk=>by
  have:=h7.next k (by simpa using hk);simpa[G5] using this
theorem ScOk.mono{l:List Change}{m n:Int}(h:ScOk 0 0 l m n):∀(a b:Nat),a<=b->b<l.length->(G5 l a).Old<=(G5 l b).Old/\(G5 l a).Old+(G5 l a).OldLen<=(G5 l b).Old+(G5 l b).OldLen
 | a,0,h1,h2=>by rw[show a=0 by omega];omega
 | a,b+1,h1,h2=>by
  by_cases c:a=b+1
  ·subst c;omega
  ·have f:=h.mono a b (by omega) (by omega);have g:=h.next b h2;have i:=h.get b (by omega);have j:=h.get (b+1) h2;unfold J4 at *;omega
def nU(a b:Int):Int:=if b<a then b else a
def opens(l:List Change)(a:Int)(k:Nat):Prop:=k=0\/2*a<(G5 l k).Old-(G5 l (k-1)).Old-(G5 l (k-1)).OldLen
instance (l:List Change) (ctx:Int) (k:Nat):Decidable (opens l ctx k):=by unfold opens;exact inferInstance
def uO:Hunk:=⟨0,0,⟨0,0⟩,⟨0,0⟩⟩
def m6(l:List Change)(a:Int)(k:Nat):Hunk:=⟨k,0,⟨(G5 l k).Old-nU a (G5 l k).Old,0⟩,⟨(G5 l k).New-nU a (G5 l k).Old,0⟩⟩
def dV(l:List Change)(m b:Int)(k:Nat)(h:Hunk):Hunk :=
 let c:=G5 l k;let a:=nU b (m-(c.Old+c.OldLen))
 ⟨h.First,k+1,⟨h.Old.From,c.Old+c.OldLen+a⟩,⟨h.New.From,c.New+c.NewLen+a⟩⟩
def fD(l:List Change)(a:Int)(k:Nat)(b:List Hunk):List Hunk:=if opens l a k then b++[m6 l a k] else b
def O1(l:List Change)(m b:Int):Nat->List Hunk
 | 0=>[]
 | k+1=>let a:=fD l b k (O1 l m b k);a.set (a.length-1) (dV l m b k (a.getD (a.length-1) uO))
theorem fZ(l:List Change)(m a:Int):∀k,(O1 l m a k).length<=k/\(0<k->0<(O1 l m a k).length)
 | 0=>by simp[O1]
 | k+1=>by
  have h:=fZ l m a k;simp only[O1,IT,fD];split
  ·simp only[HW,HU,IM];omega
  ·rename_i b;have:k≠0:=fun e=>b (.inl e);omega
def yT(s:Str):Bool:=decide (1<=s.length/\s.length<=200)
def D8(b:List PatchLine)(k:UInt8):List Str:=(b.filter (fun x=>decide (x.Kind≠k))).map (·.Text)
def yU(x:PatchLine):Prop:=((x.Kind≠32/\x.Kind≠45)/\x.Kind≠43)\/R6 x.Text=false
instance (x:PatchLine):Decidable (yU x):=by unfold yU;exact inferInstance
def cL(x:PatchLine):Bool:=decide (¬yU x)
def j6(a:List PatchLine):Bool:=a.any (fun x=>decide (x.Kind≠32))
def dW(some:Bool)(i j:Int)(h:PatchHunk):Prop:=((((some=false\/h.Old<i)\/h.New<j)\/4096<h.Old)\/4096<h.New)\/h.Old-i≠h.New-j
instance (s:Bool) (i j:Int) (h:PatchHunk):Decidable (dW s i j h):=by unfold dW;exact inferInstance
def m7(h:PatchHunk):Int:=(D8 h.Lines 43).length
def m8(h:PatchHunk):Int:=(D8 h.Lines 45).length
def fE(i j:Int):List PatchHunk->Bool
 | []=>true
 | h::r=>h.Lines.all cL&&(decide (¬dW (j6 h.Lines) i j h)&&(decide (¬(4096<h.Old+m7 h\/4096<h.New+m8 h))&&fE (h.Old+m7 h) (h.New+m8 h) r))
def I3(b:List PatchHunk)(k:UInt8):List Str:=(b.map (fun h=>D8 h.Lines k)).flatten
def V6:List Str->Bool
 | []=>true
 | x::r=>(r.isEmpty||ended x)&&V6 r
def tB(a:List PatchHunk)(k:UInt8):Bool:=V6 (I3 a k)
def tC(a:List PatchHunk):Bool:=fE 0 0 a&&(tB a 43&&tB a 45)
def FF:Str:=[10,92,32,78,111,32,110,101,119,108,105,110,101,32,97,116,32,101,110,100,32,111,102,32,102,105,108,101,10]
def CX(x:PatchLine):List Str:=if ended x.Text then [[x.Kind]++x.Text] else [[x.Kind]++x.Text,FF]
def FG(h:PatchHunk):Str:=[64,64,32,45]++uK h.Old (m7 h)++[32,43]++uK h.New (m8 h)++[32,64,64,10]
def CY(h:PatchHunk):List Str:=FG h::(h.Lines.map CX).flatten
def CZ(p:Patch):List Str:=[[45,45,45,32]++Q1 p.OldName++[10],[43,43,43,32]++Q1 p.NewName++[10]]
def AR(p:Patch):List Str:=CZ p++(p.Hunks.map CY).flatten
def uP(p:Patch):Str:=(AR p).flatten
def AS(p:Patch):Int:=if yT p.OldName=false\/yT p.NewName=false then 120 else if tC p.Hunks=false then 121 else if 16777216<(uP p).length then 1 else 0
def DA(x:PatchLine):Nat:=x.Text.length+64
def GJ(h:PatchHunk):Nat:=64+(h.Lines.map DA).sum
def BR(a:List PatchHunk):Nat:=(a.map GJ).sum
structure PFit (p:Patch):Prop where
 old:p.OldName.length<=4194304
 new:p.NewName.length<=4194304
 hunks:BR p.Hunks<=268435456
theorem AT(a:List PatchLine):64*a.length<=(a.map DA).sum:=by
 induction a with
 | nil=>simp
 | cons x r b=>simp only[IC,JQ,HU,DA];omega
def b9(k:UInt8)(a:List Str):List PatchLine:=a.map fun t=>⟨k,t⟩
def sub(x:List Str)(a b:Int):List Str:=(x.drop a.toNat).take (b.toNat-a.toNat)
def u0(c:Change):Int:=c.Old+c.OldLen
def c6(l:List Change)(i0:Int)(a t:Nat):Int:=if t=0 then i0 else u0 (G5 l (a+t-1))
theorem tD(l:List Change)(i0:Int)(a t:Nat):c6 l i0 a (t+1)=u0 (G5 l (a+t)):=by
 unfold c6;rw[A5 (by omega)];congr 2
def X0(l:List Change)(x y:List Str)(i0:Int)(a:Nat):Nat->List PatchLine
 | 0=>[]
 | t+1=>X0 l x y i0 a t++b9 32 (sub x (c6 l i0 a t) (G5 l (a+t)).Old)++b9 45 (sub x (G5 l (a+t)).Old (u0 (G5 l (a+t))))++b9 43 (sub y (G5 l (a+t)).New ((G5 l (a+t)).New+(G5 l (a+t)).NewLen))
def O2(l:List Change)(x y:List Str)(h:Hunk):PatchHunk :=
 ⟨h.Old.From,h.New.From,X0 l x y h.Old.From h.First.toNat (h.Last.toNat-h.First.toNat)++b9 32 (sub x (c6 l h.Old.From h.First.toNat (h.Last.toNat-h.First.toNat)) h.Old.To)⟩
def qM(i j:Int)(h:PatchHunk):Prop:=((((h.Old<0\/h.New<0)\/4096<h.Old)\/4096<h.New)\/h.Old<i)\/h.Old-i≠h.New-j
instance (i j:Int) (h:PatchHunk):Decidable (qM i j h):=by unfold qM;exact inferInstance
theorem gQ{x:List Str}{a b:Int}{s:Str}(h:s∈sub x a b):s∈x:=by
 unfold sub at h;exact List.mem_of_mem_drop (List.mem_of_mem_take h)
def nV(c:Change):Int:=c.New+c.NewLen
def Y0(i:Int)(l:List Change)(k:Nat):Int:=if k=0 then i else u0 (G5 l (k-1))
def u6(j:Int)(l:List Change)(k:Nat):Int:=if k=0 then j else nV (G5 l (k-1))
theorem V7(i:Int)(c:Change)(r:List Change)(k:Nat):Y0 i (c::r) (k+1)=Y0 (u0 c) r k:=by
 cases k<;>rfl
theorem V8(j:Int)(c:Change)(r:List Change)(k:Nat):u6 j (c::r) (k+1)=u6 (nV c) r k:=by
 cases k<;>rfl
theorem y8(i:Int)(l:List Change)(k:Nat):Y0 i l (k+1)=u0 (G5 l k):=rfl
theorem y9(j:Int)(l:List Change)(k:Nat):u6 j l (k+1)=nV (G5 l k):=rfl
theorem dX(c:Change)(r:List Change)(k:Nat):G5 (c::r) (k+1)=G5 r k:=rfl
def fF(x y:List Str)(i j:Int):List Change->Prop
 | []=>sub x i x.length=sub y j y.length
 | c::r=>sub x i c.Old=sub y j c.New/\fF x y (u0 c) (nV c) r
theorem X1(m n:Int):∀(l:List Change) (b:Nat) (i j:Int),K2 b i j l m n=true->∀k,k<l.length ->
  J4 (G5 l k).Old/\J4 (G5 l k).OldLen/\J4 (G5 l k).New/\J4 (G5 l k).NewLen/\(G5 l k).OldLen+(G5 l k).NewLen≠0/\(G5 l k).Old-Y0 i l k=(G5 l k).New-u6 j l k/\Y0 i l k<=(G5 l k).Old/\(0<b+k->Y0 i l k<(G5 l k).Old)
 | [],_,_,_,_,k,hk=>by simp at hk
 | c :: r,b,i,j,h,k,hk=>by
  simp only[K2,HR,decide_eq_true_eq]at h;obtain⟨a,C⟩:=h;cases k with
  | zero =>
   unfold wF at a;show J4 c.Old/\J4 c.OldLen/\J4 c.New/\J4 c.NewLen/\c.OldLen+c.NewLen≠0/\c.Old-i=c.New-j/\i<=c.Old/\(0<b+0->i<c.Old)
   have f:J4 c.Old:=by by_cases q:J4 c.Old;exact q;exact absurd (.inl (.inl (.inl (.inl (.inl (.inl (.inl q))))))) a
   have g:J4 c.OldLen:=by by_cases q:J4 c.OldLen;exact q;exact absurd (.inl (.inl (.inl (.inl (.inl (.inl (.inr q))))))) a
   have o:J4 c.New:=by by_cases q:J4 c.New;exact q;exact absurd (.inl (.inl (.inl (.inl (.inl (.inr q)))))) a
   have p:J4 c.NewLen:=by by_cases q:J4 c.NewLen;exact q;exact absurd (.inl (.inl (.inl (.inl (.inr q))))) a
   refine⟨f,g,o,p,fun q=>a (.inl (.inl (.inl (.inr q)))),?_,?_,fun B=>?_⟩
   ·by_cases q:c.Old-i=c.New-j
    ·exact q
    ·exact absurd (.inl (.inl (.inr q))) a
   ·by_cases q:c.Old<i
    ·exact absurd (.inl (.inr q)) a
    ·omega
   ·by_cases q:c.Old<i
    ·exact absurd (.inl (.inr q)) a
    ·by_cases D:c.Old=i
     ·exact absurd (.inr ⟨by omega,D⟩) a
     ·omega
  | succ k =>
   have:=X1 m n r (b+1) _ _ C k (by simpa using hk);rw[dX,V7,V8];obtain⟨s,t,u,v,x,y,z,A⟩:=this;exact⟨s,t,u,v,x,y,z,fun B=>A (by omega)⟩
theorem nW(m n:Int):∀(l:List Change) (a:Nat) (i j:Int),K2 a i j l m n=true->m-Y0 i l l.length=n-u6 j l l.length/\Y0 i l l.length<=m
 | [],_,i,j,h=>by
  simp only[K2,decide_eq_true_eq]at h;show m-i=n-j/\i<=m;omega
 | c::r,a,i,j,h=>by
  simp only[K2,HR,decide_eq_true_eq]at h;rw[HU,V7,V8];exact nW m n r _ _ _ h.2
theorem jH(x y:List Str):∀(l:List Change) (i j:Int),fF x y i j l->∀k,k<l.length->sub x (Y0 i l k) (G5 l k).Old=sub y (u6 j l k) (G5 l k).New
 | [],_,_,_,k,hk=>by simp at hk
 | c::r,i,j,h,k,hk=>by
  cases k with
  | zero=>exact h.1
  | succ k=>rw[V7,V8,dX];exact jH x y r _ _ h.2 k (by simpa using hk)
theorem nX(x y:List Str):∀(l:List Change) (i j:Int),fF x y i j l->sub x (Y0 i l l.length) x.length=sub y (u6 j l l.length) y.length
 | [],_,_,h=>h
 | c::r,i,j,h=>by rw[HU,V7,V8];exact nX x y r _ _ h.2
def mB(l:List Change)(m c:Int)(a b:Nat):Hunk:=dV l m c (b-1) (m6 l c a)
def GrOk(l:List Change)(m c:Int):Nat->List Hunk->Nat->Prop
 | a,[],k=>a=k
 | a,h::r,k=>∃b,a<b/\opens l c a/\h=mB l m c a b/\GrOk l m c b r k
theorem GrOk.le{l:List Change}{m c:Int}:∀{d:List Hunk} {a k:Nat},GrOk l m c a d k->a<=k
 | [],a,k,h=>Nat.le_of_eq h
 | _::_,a,k,⟨b,h1,_,_,h2⟩=>by have:=GrOk.le h2;omega
theorem GrOk.snoc{l:List Change}{m c:Int}{k:Nat}(d:opens l c k):∀{e:List Hunk} {a:Nat},GrOk l m c a e k->GrOk l m c a (e++[mB l m c k (k+1)]) (k+1)
 | [],a,h=>by
  obtain rfl:a=k:=h;exact⟨a+1,by omega,d,rfl,rfl⟩
 | _::_,a,⟨b,h1,h2,h3,h4⟩=>⟨b,h1,h2,h3,GrOk.snoc d h4⟩
theorem GrOk.last{l:List Change}{m c:Int}{k:Nat}:∀{d:List Hunk} {a:Nat},GrOk l m c a d k->d≠[]->GrOk l m c a (d.set (d.length-1) (dV l m c k (d.getD (d.length-1) uO))) (k+1)
 | [],_,_,h0=>absurd rfl h0
 | [h],a,⟨b,h1,h2,h3,h4⟩,_=>by
  obtain rfl:b=k:=h4;subst h3;exact⟨b+1,by omega,h2,rfl,rfl⟩
 | h::h'::r,a,⟨b,h1,h2,h3,h4⟩,_=>by
  have e:=GrOk.last h4 (by simp);refine⟨b,h1,h2,h3,?_⟩;simpa using e
theorem p5(l:List Change)(m a:Int):∀k,GrOk l m a 0 (O1 l m a k) k
 | 0=>rfl
 | k+1=>by
  have d:=p5 l m a k;have c:=(fZ l m a k).2;simp only[O1,fD];by_cases b:opens l a k
  ·rw[A4 b];have e:(O1 l m a k++[m6 l a k]).set ((O1 l m a k++[m6 l a k]).length-1) (dV l m a k ((O1 l m a k++[m6 l a k]).getD ((O1 l m a k++[m6 l a k]).length-1) uO))=O1 l m a k++[mB l m a k (k+1)]:=by
    simp[mB]
   rw[e];exact d.snoc b
  ·rw[A5 b];refine d.last ?_;have:k≠0:=fun e=>b (.inl e);have:=c (by omega);intro e;rw[e]at this;simp at this
theorem p6(x:List Str){a b c:Int}(f:0<=a)(g:a<=b)(h:b<=c):sub x a b++sub x b c=sub x a c:=by
 unfold sub;obtain⟨u,rfl⟩:∃u:Nat,(u:Int)=a:=⟨a.toNat,by omega⟩
 obtain⟨v,rfl⟩:∃v:Nat,(v:Int)=b:=⟨b.toNat,by omega⟩
 obtain⟨w,rfl⟩:∃w:Nat,(w:Int)=c:=⟨c.toNat,by omega⟩
 simp only[HS];have e:x.drop v=(x.drop u).drop (v-u):=by rw[List.drop_drop];congr 1;omega
 rw[e,show w-u=(v-u)+(w-v) by omega,List.take_add]
theorem uQ(x:List Str)(a:Int):sub x a a=[]:=by simp[sub]
theorem p7(x:List Str){a b:Int}(c:0<=a)(d:a<=b)(f:b<=x.length):((sub x a b).length:Int)=b-a:=by
 unfold sub;rw[IF,JB];omega
theorem z6{x y:List Str}{p q g f e:Int}(h:sub x p q=sub y g f)(j:0<=p)(i:0<=g)(m:0<=e)(k:e<=q-p)(l:q-p=f-g):sub x (q-e) q=sub y (f-e) f:=by
 have c:∀(z:List Str) (a b:Int),0<=a->e<=b-a->sub z (b-e) b=(sub z a b).drop (b-a-e).toNat:=by
  intro z a b ha hb;unfold sub;rw[List.drop_take,List.drop_drop]
  congr 1
  ·omega
  ·congr 1;omega
 rw[c x p q j k,c y g f i (by omega),h,l]
theorem jI{x y:List Str}{p q c g e:Int}(h:sub x p q=sub y c g)(i:0<=p)(f:0<=c)(m:0<=e)(j:e<=q-p)(l:q-p=g-c):sub x p (p+e)=sub y c (c+e):=by
 have d:∀(z:List Str) (a b:Int),0<=a->e<=b-a->sub z a (a+e)=(sub z a b).take e.toNat:=by
  intro z a b ha hb;unfold sub;rw[List.take_take]
  congr 1
  omega
 rw[d x p q i j,d y c g f (by omega),h]
theorem p8(p q:List PatchLine)(k:UInt8):D8 (p++q) k=D8 p k++D8 q k:=by simp[D8]
theorem p9(k a:UInt8)(b:List Str):D8 (b9 k b) a=if k=a then [] else b:=by
 unfold D8 b9;by_cases h:k=a
 ·rw[A4 h];subst h;simp[List.filter_eq_nil_iff]
 ·rw[A5 h];rw[List.filter_eq_self.2 (by simp[h])];simp[Function.comp_def]
structure ScFit (x y:List Str) (l:List Change):Prop where
 lx:(x.length:Int)<=4096
 ly:(y.length:Int)<=4096
 sc:K2 0 0 0 l x.length y.length=true
 eq:fF x y 0 0 l
variable {x y:List Str}{l:List Change}
theorem ScFit.ok(h:ScFit x y l):ScOk 0 0 l x.length y.length:=y7 _ _ _ _ _ _ h.sc
theorem ScFit.check(h:ScFit x y l):yS l x.length y.length=0:=by
 have a:=h.lx;have b:=h.ly;unfold yS;rw[A5 (by unfold J4;omega),A4 h.sc]
theorem ScFit.nn(h:ScFit x y l)(k:Nat)(m:k<=l.length):0<=Y0 0 l k/\0<=u6 0 l k/\Y0 0 l k<=x.length/\u6 0 l k<=y.length:=by
 cases k with
 | zero=>exact⟨Int.le_refl _,Int.le_refl _,Int.natCast_nonneg _,Int.natCast_nonneg _⟩
 | succ k =>
  obtain⟨⟨a,a2⟩,⟨b,c⟩,⟨d,e⟩,⟨f,g⟩,i,j⟩:=h.ok.get k (by omega);rw[y8,y9];unfold u0 nV;omega
def eA(l:List Change)(b:Int)(a:Nat):Int:=nU b (G5 l a).Old
def eB(l:List Change)(m a:Int)(b:Nat):Int:=nU a (m-Y0 0 l b)
theorem uR{a b:Int}(h:0<=a)(c:0<=b):0<=nU a b/\nU a b<=a/\nU a b<=b:=by unfold nU;split<;>omega
theorem aO{b:Int}{a:Nat}(c:opens l b a)(ha:a≠0):2*b<(G5 l a).Old-Y0 0 l a:=by
 rcases c with h | h
 ·exact absurd h ha
 ·unfold Y0;rw[A5 ha];unfold u0;omega
theorem ScFit.before(h:ScFit x y l){b:Int}(f:0<=b){a:Nat}(ha:a<l.length)(g:opens l b a) :
  0<=eA l b a/\eA l b a<=b/\eA l b a<=(G5 l a).Old-Y0 0 l a:=by
 obtain⟨⟨e,a2⟩,_⟩:=h.ok.get a ha;have i:=uR f e;unfold eA;by_cases c:a=0
 ·subst c;show _/\_/\_<=(G5 l 0).Old-0;omega
 ·have:=aO g c;omega
theorem ScFit.after(h:ScFit x y l){a:Int}(k:0<=a){b:Nat}(hb:b<=l.length)(m:b<l.length->opens l a b)(f:b≠0) :
  0<=eB l x.length a b/\eB l x.length a b<=a/\Y0 0 l b+eB l x.length a b<=x.length/\u6 0 l b+eB l x.length a b<=y.length /\
   sub x (Y0 0 l b) (Y0 0 l b+eB l x.length a b)=sub y (u6 0 l b) (u6 0 l b+eB l x.length a b):=by
 obtain⟨g,i,C,D⟩:=h.nn b hb;have d:=uR k (show 0<=(x.length:Int)-Y0 0 l b by omega);unfold eB;rcases Nat.lt_or_ge b l.length with c | hge
 ·obtain⟨g1,j,u,v,w,z,A,B⟩:=X1 _ _ _ _ _ _ h.sc b c;obtain⟨⟨n,a2⟩,⟨o,p⟩,⟨q,r⟩,⟨s,t⟩,k5,k6⟩:=h.ok.get b c;have E:=aO (m c) f;refine⟨d.1,d.2.1,by omega,by omega,jI (jH x y l 0 0 h.eq b c) g i d.1 (by omega) (by omega)⟩
 ·have e:b=l.length:=by omega
  subst e;obtain⟨g1,j⟩:=nW _ _ _ _ _ _ h.sc;refine⟨d.1,d.2.1,by omega,by omega,jI (nX x y l 0 0 h.eq) g i d.1 (by omega) (by omega)⟩
def nY(l:List Change)(b:Int)(a t:Nat):Int:=if t=0 then b else nV (G5 l (a+t-1))
theorem jJ(i0:Int)(a t:Nat)(b:t≠0):c6 l i0 a t=Y0 0 l (a+t):=by
 unfold c6 Y0;rw[A5 b,A5 (by omega)]
theorem uS(c:Int)(a t:Nat)(b:t≠0):nY l c a t=u6 0 l (a+t):=by
 unfold nY u6;rw[A5 b,A5 (by omega)]
theorem ScFit.made(h:ScFit x y l){b:Int}(H:0<=b){a:Nat}(I:opens l b a):∀t,a+t<=l.length->(t=0->a<l.length) ->
  D8 (X0 l x y ((G5 l a).Old-eA l b a) a t) 43=sub x ((G5 l a).Old-eA l b a) (c6 l ((G5 l a).Old-eA l b a) a t) /\
  D8 (X0 l x y ((G5 l a).Old-eA l b a) a t) 45=sub y ((G5 l a).New-eA l b a) (nY l ((G5 l a).New-eA l b a) a t)
 | 0,_,_=>by
  unfold c6 nY;rw[A4 rfl,A4 rfl,uQ,uQ];exact⟨rfl,rfl⟩
 | t + 1,hl,_=>by
  have j:a+t<l.length:=by omega
  have f:a<l.length:=by omega
  obtain⟨B,C⟩:=ScFit.made h H I t (by omega) (fun _=>f);obtain⟨U,q2,q3⟩:=h.before H f I;obtain⟨p1,p2,p3,p4⟩:=h.nn (a+t) (by omega);obtain⟨V,W,r3,r4⟩:=h.nn a (by omega);obtain⟨g1,g2,g3,g4,g5,g6,g7,g8⟩:=X1 _ _ _ _ _ _ h.sc (a+t) j;obtain⟨k1,⟨k2,R⟩,k3,⟨k4,S⟩,k5,k6,k7,k8⟩:=X1 _ _ _ _ _ _ h.sc a f;obtain⟨⟨X,a2⟩,⟨Y,Z⟩,⟨c1,c2⟩,⟨d1,d2⟩,w5,w6⟩:=h.ok.get (a+t) j
  have c:sub x (c6 l ((G5 l a).Old-eA l b a) a t) (G5 l (a+t)).Old=sub y (nY l ((G5 l a).New-eA l b a) a t) (G5 l (a+t)).New /\
    (G5 l a).Old-eA l b a<=c6 l ((G5 l a).Old-eA l b a) a t/\c6 l ((G5 l a).Old-eA l b a) a t<=(G5 l (a+t)).Old /\
    (G5 l a).New-eA l b a<=nY l ((G5 l a).New-eA l b a) a t/\nY l ((G5 l a).New-eA l b a) a t<=(G5 l (a+t)).New:=by
   have c:=jH x y l 0 0 h.eq (a+t) j;by_cases k:t=0
   ·subst k;unfold c6 nY;rw[A4 rfl,A4 rfl];rw[show a+0=a from rfl]at *;exact⟨z6 c V W U (by omega) (by omega),by omega,by omega,by omega,by omega⟩
   ·rw[jJ _ _ _ k,uS _ _ _ k];have m1:=h.ok.mono a (a+t-1) (by omega) (by omega);have m2:Y0 0 l (a+t)=(G5 l (a+t-1)).Old+(G5 l (a+t-1)).OldLen:=by unfold Y0;rw[A5 (by omega)];rfl
    have T:∀u,u<=t->(G5 l a).New<=u6 0 l (a+u)\/u=0:=by
     intro u;induction u with
     | zero=>exact fun _=>.inr rfl
     | succ u D =>
      intro hu;obtain⟨E,F,⟨e3,K⟩,⟨M,P⟩,e5,e6,e7,e8⟩:=X1 _ _ _ _ _ _ h.sc (a+u) (by omega);have Q:u6 0 l (a+(u+1))=(G5 l (a+u)).New+(G5 l (a+u)).NewLen:=rfl;rcases D (by omega) with G | G
      ·left;omega
      ·left;subst G;rw[Q];show (G5 l a).New<=(G5 l a).New+(G5 l a).NewLen;exact Int.le_add_of_nonneg_right M
    have m5:=(T t (Nat.le_refl _)).resolve_right k;refine⟨c,by omega,by omega,by omega,by omega⟩
  obtain⟨m,p,q,z,A⟩:=c;simp (decide:=true) only [X0,p8,p9,B,C,if_true,if_false,JC];have E:c6 l ((G5 l a).Old-eA l b a) a (t+1)=u0 (G5 l (a+t)):=tD _ _ _ _;have F:nY l ((G5 l a).New-eA l b a) a (t+1)=nV (G5 l (a+t)):=rfl;rw[E,F];have J:0<=(G5 l a).Old-eA l b a:=by omega
  have s1:0<=(G5 l a).New-eA l b a:=by omega
  refine⟨?_,?_⟩
  ·rw[p6 x J p q,p6 x J (by omega) (by unfold u0;omega)]
  ·rw[m,p6 y s1 z A];exact p6 y s1 (by omega) (by omega)
structure HunkIs (x y:List Str) (l:List Change) (ctx:Int) (a b:Nat) (h:PatchHunk):Prop where
 old:h.Old=(G5 l a).Old-eA l ctx a
 new:h.New=(G5 l a).New-eA l ctx a
 o0:0<=h.Old
 n0:0<=h.New
 oe:h.Old+m7 h=Y0 0 l b+eB l x.length ctx b
 ne:h.New+m8 h=u6 0 l b+eB l x.length ctx b
 ox:h.Old+m7 h<=x.length
 ny:h.New+m8 h<=y.length
 ol:D8 h.Lines 43=sub x h.Old (h.Old+m7 h)
 nl:D8 h.Lines 45=sub y h.New (h.New+m8 h)
 ch:j6 h.Lines=true
 gl:(∀s∈x,R6 s=true)->(∀s∈y,R6 s=true)->h.Lines.all cL=true
theorem jK(p q:List PatchLine):j6 (p++q)=(j6 p||j6 q):=by simp[j6]
theorem jL{k:UInt8}{a:List Str}(b:k≠32)(h:a≠[]):j6 (b9 k a)=true:=by
 cases a with
 | nil=>exact absurd rfl h
 | cons t a=>simp[j6,b9,b]
theorem r5{k:UInt8}{d:List Str}(i:k=32\/k=45\/k=43)(h:∀t∈d,R6 t=true):(b9 k d).all cL=true:=by
 rw[List.all_eq_true];intro q c;unfold b9 at c;obtain⟨t,j,rfl⟩:=IQ.1 c;unfold cL;refine A2 ?_;rintro (⟨⟨b,f⟩,g⟩ | b)
 ·rcases i with e | e | e
  ·exact b e
  ·exact f e
  ·exact g e
 ·rw[show (PatchLine.mk k t).Text=t from rfl,h t j]at b;cases b
theorem gA(c:∀s∈x,R6 s=true)(d:∀s∈y,R6 s=true)(i0:Int)(a:Nat):∀t,(X0 l x y i0 a t).all cL=true
 | 0=>rfl
 | t+1=>by
  simp only[X0,JF,gA c d i0 a t,Bool.true_and,HR];exact⟨⟨r5 (.inl rfl) (fun s b=>c s (gQ b)),r5 (.inr (.inl rfl)) (fun s b=>c s (gQ b))⟩,r5 (.inr (.inr rfl)) (fun s b=>d s (gQ b))⟩
theorem ScFit.hunk(h:ScFit x y l){c:Int}(I:0<=c){a b:Nat}(af:a<b)(hb:b<=l.length)(V:opens l c a)(K:b<l.length->opens l c b) :
  HunkIs x y l c a b (O2 l x y (mB l x.length c a b)):=by
 have z:a<l.length:=by omega
 obtain⟨q1,q2,q3⟩:=h.before I z V;obtain⟨w1,w2,w3,w4,w5⟩:=h.after I hb K (by omega);obtain⟨R,S⟩:=h.made I V (b-a) (by omega) (fun e=>by omega);rw[jJ _ _ _ (by omega)]at R;rw[uS _ _ _ (by omega)]at S;rw[show a+(b-a)=b by omega]at R S;obtain⟨r1,r2,r3,r4⟩:=h.nn a (by omega);obtain⟨s1,s2,s3,s4⟩:=h.nn b hb;obtain⟨k1,⟨k2,ai⟩,k3,⟨k4,aj⟩,k5,k6,k7,k8⟩:=X1 _ _ _ _ _ _ h.sc a z;have J:b-1<l.length:=by omega
 obtain⟨g1,⟨g2,ab⟩,g3,⟨g4,ad⟩,g5,g6,g7,g8⟩:=X1 _ _ _ _ _ _ h.sc (b-1) J;have eo:Y0 0 l b=(G5 l (b-1)).Old+(G5 l (b-1)).OldLen:=by unfold Y0;rw[A5 (by omega)];rfl
 have en:u6 0 l b=(G5 l (b-1)).New+(G5 l (b-1)).NewLen:=by unfold u6;rw[A5 (by omega)];rfl
 have mo:=h.ok.mono a (b-1) (by omega) (by omega);have mn:(G5 l a).New<=u6 0 l b:=by
  have m4:∀u,a+u<=l.length->(G5 l a).New<=u6 0 l (a+u)\/u=0:=by
   intro u;induction u with
   | zero=>exact fun _=>.inr rfl
   | succ u M =>
    intro hu;obtain⟨C,e2,⟨e3,X⟩,⟨Y,Z⟩,e5,e6,e7,e8⟩:=X1 _ _ _ _ _ _ h.sc (a+u) (by omega);have e9:u6 0 l (a+(u+1))=(G5 l (a+u)).New+(G5 l (a+u)).NewLen:=rfl;rcases M (by omega) with U | U
    ·left;omega
    ·left;subst U;rw[e9];show (G5 l a).New<=(G5 l a).New+(G5 l a).NewLen;exact Int.le_add_of_nonneg_right Y
  have:=(m4 (b-a) (by omega)).resolve_right (by omega)
  rwa[show a+(b-a)=b by omega]at this
 have hF:(mB l x.length c a b).First.toNat=a:=by show ((a:Int)).toNat=a;omega
 have hL:(mB l x.length c a b).Last.toNat-(mB l x.length c a b).First.toNat=b-a:=by
  show (((b-1:Nat):Int)+1).toNat-((a:Int)).toNat=b-a;omega
 have G:(mB l x.length c a b).Old.From=(G5 l a).Old-eA l c a:=rfl;have ae:(mB l x.length c a b).New.From=(G5 l a).New-eA l c a:=rfl;have H:(mB l x.length c a b).Old.To=Y0 0 l b+eB l x.length c b:=by
  unfold eB;rw[eo];rfl
 obtain⟨P,A⟩:∃P,P=O2 l x y (mB l x.length c a b):=⟨_,rfl⟩
 have f:P.Lines=X0 l x y ((G5 l a).Old-eA l c a) a (b-a)++b9 32 (sub x (Y0 0 l b) (Y0 0 l b+eB l x.length c b)):=by
  rw[A];unfold O2;show X0 l x y _ (mB l x.length c a b).First.toNat ((mB l x.length c a b).Last.toNat-(mB l x.length c a b).First.toNat)++b9 32 (sub x (c6 l _ (mB l x.length c a b).First.toNat ((mB l x.length c a b).Last.toNat-(mB l x.length c a b).First.toNat)) _)=_;rw[hL,hF,G,H,jJ _ _ _ (by omega),show a+(b-a)=b by omega]
 have q:P.Old=(G5 l a).Old-eA l c a:=by rw[A];rfl
 have p:P.New=(G5 l a).New-eA l c a:=by rw[A];rfl
 have j:D8 P.Lines 43=sub x ((G5 l a).Old-eA l c a) (Y0 0 l b+eB l x.length c b):=by
  rw[f,p8,p9,A5 (by decide),R];exact p6 x (by omega) (by omega) (by omega)
 have k:D8 P.Lines 45=sub y ((G5 l a).New-eA l c a) (u6 0 l b+eB l x.length c b):=by
  rw[f,p8,p9,A5 (by decide),S,w5];exact p6 y (by omega) (by omega) (by omega)
 have ah:m7 P=Y0 0 l b+eB l x.length c b-((G5 l a).Old-eA l c a):=by
  unfold m7;rw[j];exact p7 x (by omega) (by omega) (by omega)
 have ag:m8 P=u6 0 l b+eB l x.length c b-((G5 l a).New-eA l c a):=by
  unfold m8;rw[k];exact p7 y (by omega) (by omega) (by omega)
 rw[<-A];refine⟨q,p,by omega,by omega,by omega,by omega,by omega,by omega,?_,?_,?_,?_⟩
 ·rw[j];congr 1
  ·exact q.symm
  ·omega
 ·rw[k];congr 1
  ·exact p.symm
  ·omega
 ·rw[f,jK];have e:X0 l x y ((G5 l a).Old-eA l c a) a (b-a)=X0 l x y ((G5 l a).Old-eA l c a) a (b-1-a+1):=by congr 1;omega
  rw[e];simp only[X0,jK];rw[show a+(b-1-a)=b-1 by omega];have Q:j6 (b9 45 (sub x (G5 l (b-1)).Old (u0 (G5 l (b-1)))))=true\/j6 (b9 43 (sub y (G5 l (b-1)).New ((G5 l (b-1)).New+(G5 l (b-1)).NewLen)))=true:=by
   obtain⟨E,ac⟩:=g3;obtain⟨D,aa⟩:=g1;by_cases h0:(G5 l (b-1)).OldLen=0
   ·right;refine jL (by decide) fun B=>?_;have:=p7 y (a:=(G5 l (b-1)).New) (b:=(G5 l (b-1)).New+(G5 l (b-1)).NewLen) E (by omega) (by omega);rw[B]at this;simp at this;omega
   ·left;refine jL (by decide) fun B=>?_;have:=p7 x (a:=(G5 l (b-1)).Old) (b:=u0 (G5 l (b-1))) D (by unfold u0;omega) (by unfold u0;omega);rw[B]at this;unfold u0 at this;simp at this;omega
  rcases Q with C | C<;>rw[C]<;>simp
 ·intro W hy;rw[f,JF,gA W hy,Bool.true_and];exact r5 (.inl rfl) (fun s hs=>W s (gQ hs))
theorem ScFit.hunks(h:ScFit x y l){c:Int}(D:0<=c)(L:∀s∈x,R6 s=true)(M:∀s∈y,R6 s=true):∀(g:List Hunk) (a:Nat),GrOk l x.length c a g l.length ->
  ∀(i j e:Int),i=Y0 0 l a+e->j=u6 0 l a+e->0<=e->e<=c->(a=0->e=0) ->
  fE i j (g.map (O2 l x y))=true/\(I3 (g.map (O2 l x y)) 43).Sublist (x.drop i.toNat)/\(I3 (g.map (O2 l x y)) 45).Sublist (y.drop j.toNat) /\
   ∀p∈g.map (O2 l x y),(p.Old+m7 p<=x.length/\p.New+m8 p<=y.length/\0<=p.Old/\0<=p.New)/\D8 p.Lines 43=sub x p.Old (p.Old+m7 p)/\D8 p.Lines 45=sub y p.New (p.New+m8 p)
 | [],a,_,i,j,e,_,_,_,_,_=>⟨rfl,by simp[I3],by simp[I3],by simp⟩
 | K::g,a,⟨b,hab,ho,hE,w⟩,i,j,e,hi,hj,he,hec,he0=>by
  have hb:=w.le;have A:b<l.length->opens l c b:=by
   intro X;cases g with
   | nil=>exact absurd w (by show ¬b=l.length;omega)
   | cons I Y=>obtain⟨_,_,F,_⟩:=w;exact F
  obtain⟨w1,w2,w3,w4,w5⟩:=h.after D hb A (by omega);obtain⟨q1,q2,q3⟩:=h.before D (show a<l.length by omega) ho;have H:=h.hunk D hab hb ho A;rw[<-hE]at H;obtain⟨P,C⟩:∃P,P=O2 l x y K:=⟨_,rfl⟩
  rw[<-C]at H;obtain⟨Z,i2,i3,i4⟩:=ScFit.hunks h D L M g b w (P.Old+m7 P) (P.New+m8 P) (eB l x.length c b) H.oe H.ne w1 w2 (by omega);obtain⟨k1,⟨k2,aa⟩,k3,⟨k4,ab⟩,k5,k6,k7,k8⟩:=X1 _ _ _ _ _ _ h.sc a (show a<l.length by omega);have R:=H.old;have I:=H.new;have T:=H.o0;have U:=H.n0;have V:=H.ox;have W:=H.ny;have h7:=h.lx;have h8:=h.ly;have n1:0<=m7 P:=by unfold m7;omega
  have n2:0<=m8 P:=by unfold m8;omega
  have J:e+eA l c a<=(G5 l a).Old-Y0 0 l a:=by
   by_cases E:a=0
   ·have:=he0 E;omega
   ·have:=aO ho E;omega
  obtain⟨r1,r2,r3,r4⟩:=h.nn a (by omega);have n:i<=P.Old/\j<=P.New/\P.Old-i=P.New-j/\0<=i/\0<=j:=by omega
  have q:∀(z:List Str) (i f t:Int),0<=i->i<=f->f<=t->∀r:List Str,r.Sublist (z.drop t.toNat)->(sub z f t++r).Sublist (z.drop i.toNat):=by
   intro z i f t E R I r w;have N:z.drop f.toNat=sub z f t++z.drop t.toNat:=by
    unfold sub;rw[show t.toNat=f.toNat+(t.toNat-f.toNat) by omega,<-List.drop_drop,show f.toNat+(t.toNat-f.toNat)-f.toNat=t.toNat-f.toNat by omega,JH]
   have Q:z.drop f.toNat=(z.drop i.toNat).drop (f.toNat-i.toNat):=by rw[List.drop_drop];congr 1;omega
   refine List.Sublist.trans ?_ (List.drop_sublist (f.toNat-i.toNat) (z.drop i.toNat));rw[<-Q,N];exact List.Sublist.append_left w _
  have B:∀(k:UInt8),I3 ((K::g).map (O2 l x y)) k=D8 P.Lines k++I3 (g.map (O2 l x y)) k:=by
   intro k;rw[C];simp[I3]
  refine⟨?_,?_,?_,?_⟩
  ·rw[IC,<-C];simp only[fE,H.gl L M,Z,Bool.and_true,Bool.true_and,HR,decide_eq_true_eq];refine⟨?_,by omega⟩;unfold dW;rw[H.ch];rintro (((((v | v) | v) | v) | v) | v)
   ·cases v
   all_goals omega
  ·rw[B,H.ol];exact q x i P.Old (P.Old+m7 P) n.2.2.2.1 n.1 (by omega) _ i2
  ·rw[B,H.nl];exact q y j P.New (P.New+m8 P) n.2.2.2.2 n.2.1 (by omega) _ i3
  ·rw[IC,<-C];intro p G;rcases HZ.1 G with rfl | G
   ·exact⟨⟨V,W,T,U⟩,H.ol,H.nl⟩
   ·exact i4 p G
theorem dY:∀{s z:List Str},s.Sublist z->V6 z=true->V6 s=true:=by
 intro s z e;induction e with
 | slnil=>exact fun h=>h
 | cons a _ d =>
  intro h;simp only[V6,HR]at h;exact d h.2
 | cons_cons a b d =>
  intro h;simp only[V6,HR,IH]at h ⊢;refine⟨?_,d h.2⟩;rcases h.1 with c | c
  ·left;rw[List.isEmpty_iff]at c ⊢;rw[c]at b;exact List.sublist_nil.1 b
  ·exact .inr c
def Q4(l:List Change)(x y:List Str)(b:Int):List PatchHunk:=(O1 l x.length b l.length).map (O2 l x y)
theorem ScFit.good(h:ScFit x y l){a:Int}(b:0<=a)(i:∀s∈x,R6 s=true)(j:∀s∈y,R6 s=true)(c:V6 x=true)(d:V6 y=true):tC (Q4 l x y a)=true:=by
 obtain⟨e,f,g,_⟩:=h.hunks b i j _ 0 (p5 l x.length a l.length) 0 0 0 rfl rfl (Int.le_refl _) b (fun _=>rfl);unfold tC tB Q4;rw[e,dY f (by simpa using c),dY g (by simpa using d)];rfl
theorem ScFit.texts(h:ScFit x y l){a:Int}(b:0<=a)(c:∀s∈x,R6 s=true)(d:∀s∈y,R6 s=true):∀p∈Q4 l x y a,(p.Old+m7 p<=x.length/\p.New+m8 p<=y.length/\0<=p.Old/\0<=p.New)/\D8 p.Lines 43=sub x p.Old (p.Old+m7 p)/\D8 p.Lines 45=sub y p.New (p.New+m8 p) :=
 (h.hunks b c d _ 0 (p5 l x.length a l.length) 0 0 0 rfl rfl (Int.le_refl _) b (fun _=>rfl)).2.2.2
def FH(X Y:List Str)(s:Span):Prop:=0<=s.From/\0<=s.To/\∃v,X[s.From.toNat]?=some v/\Y[s.To.toNat]?=some v
theorem qN{X:List Str}{a b:Int}{v:Str}(c:0<=a)(d:a<=b)(g:X[b.toNat]?=some v):sub X a (b+1)=sub X a b++[v]:=by
 rw[<-p6 X c d (by omega:b<=b+1)]
 congr 1
 unfold sub;obtain⟨f,e⟩:=List.getElem?_eq_some_iff.1 g;rw[IB f,e,show (b+1).toNat-b.toNat=1 by omega];rfl
theorem mC:∀(b:List PatchLine),b.all cL=true->(b.map DA).sum<=64*((D8 b 43).length+(D8 b 45).length)+((D8 b 43).flatten.length+(D8 b 45).flatten.length)
 | [],_=>by simp
 | q::b,h=>by
  rw[List.all_cons,HR]at h;have x:=mC b h.2;have v:q.Kind=32\/q.Kind=45\/q.Kind=43:=by
   have c:=h.1;unfold cL at c;have c:=A0 c;by_cases d:q.Kind=32
   ·exact .inl d
   by_cases j:q.Kind=45
   ·exact .inr (.inl j)
   by_cases o:q.Kind=43
   ·exact .inr (.inr o)
   exact absurd (.inl ⟨⟨d,j⟩,o⟩) c
  have p:∀k:UInt8,D8 (q::b) k=if q.Kind≠k then q.Text::D8 b k else D8 b k:=by
   intro k;unfold D8;by_cases e:q.Kind=k
   ·rw[A5 (by simpa using e),List.filter_cons_of_neg (by simpa using e)]
   ·rw[A4 e,List.filter_cons_of_pos (by simpa using e)];rfl
  rw[p 43,p 45,IC,JQ];have w:DA q=q.Text.length+64:=rfl;rcases v with e | e | e<;>rw[e]<;>simp (decide:=true) only [if_true,if_false,ne_eq,not_true_eq_false,not_false_eq_true,HU,JM,HW]<;>omega
theorem dZ:∀(c:List PatchHunk) (i j:Int),fE i j c=true->BR c<=128*((I3 c 43).length+(I3 c 45).length)+((I3 c 43).flatten.length+(I3 c 45).flatten.length)
 | [],_,_,_=>by simp[BR]
 | h :: c,i,j,hg=>by
  simp only[fE,HR,decide_eq_true_eq]at hg;obtain⟨z,A,F,B⟩:=hg;have E:=dZ c _ _ B;have G:=mC h.Lines z;have C:1<=h.Lines.length:=by
   cases D:h.Lines with
   | nil=>exact absurd (.inl (.inl (.inl (.inl (.inl (by rw[D];rfl)))))) A
   | cons a b=>simp
  have w:h.Lines.length<=(D8 h.Lines 43).length+(D8 h.Lines 45).length:=by
   have:64*h.Lines.length<=(h.Lines.map DA).sum:=AT h.Lines;have v:∀d:List PatchLine,d.length<=(D8 d 43).length+(D8 d 45).length:=by
    intro d;induction d with
    | nil=>simp
    | cons q d E =>
     have x:∀k:UInt8,(D8 (q::d) k).length=if q.Kind≠k then (D8 d k).length+1 else (D8 d k).length:=by
      intro k;unfold D8;by_cases e:q.Kind=k
      ·rw[A5 (by simpa using e),List.filter_cons_of_neg (by simpa using e)]
      ·rw[A4 e,List.filter_cons_of_pos (by simpa using e)];simp
     rw[x 43,x 45,HU];by_cases e:q.Kind=43
     ·have y:q.Kind≠45:=by rw[e];decide
      rw[A4 y];split<;>omega
     ·rw[A4 e];split<;>omega
   exact v h.Lines
  have r:BR (h::c)=GJ h+BR c:=by simp[BR]
  have p:GJ h=64+(h.Lines.map DA).sum:=rfl;have o:∀k,I3 (h::c) k=D8 h.Lines k++I3 c k:=by intro k;simp[I3]
  rw[r,p,o 43,o 45];simp only[HW,JP];omega
theorem gB:∀{s z:List Str},s.Sublist z->s.flatten.length<=z.flatten.length:=by
 intro s z b;induction b with
 | slnil=>exact Nat.le_refl _
 | cons a _ c=>simp only[JM,HW];omega
 | cons_cons a _ c=>simp only[JM,HW];omega
theorem ScFit.size{x y:List Str}{l:List Change}(h:ScFit x y l){c:Int}(k:0<=c)(q:∀s∈x,R6 s=true)(r:∀s∈y,R6 s=true):BR (Q4 l x y c)<=128*(x.length+y.length)+(x.flatten.length+y.flatten.length):=by
 obtain⟨n,g,j,_⟩:=h.hunks k q r _ 0 (p5 l x.length c l.length) 0 0 0 rfl rfl (Int.le_refl _) k (fun _=>rfl);have o:=dZ _ _ _ n;have e:Q4 l x y c=(O1 l x.length c l.length).map (O2 l x y):=rfl;rw[<-e]at g j o;have d:(I3 (Q4 l x y c) 43).Sublist x:=by simpa using g
 have f:(I3 (Q4 l x y c) 45).Sublist y:=by simpa using j
 have:=d.length_le;have:=f.length_le;have:=gB d;have:=gB f;omega
theorem jM(s:Str):∀b:Str,(G9 b s).flatten=b++s:=by
 induction s with
 | nil=>intro b;unfold G9;split<;>simp[*]
 | cons c r d=>intro b;rw[j4];split<;>simp[d]
theorem tE(a:Str):(H0 a).flatten.length=a.length/\(H0 a).length<=a.length:=⟨by unfold H0;rw[jM];rfl,y6 a⟩
def flat(a b:List Int)(done:Nat->Nat->Bool):List Int :=
 (List.range ((a.length+1)*(b.length+1))).map fun p=>if done (p / (b.length+1)) (p % (b.length+1))=true then (dist (a.drop (p / (b.length+1))) (b.drop (p % (b.length+1))):Int) else 0
def GrX(l:List Change)(m d:Int):Nat->List Hunk->Nat->Prop
 | a,[],k=>a=k
 | a,h::r,k=>∃b,a<b/\opens l d a/\(∀c,a<c->c<b->¬opens l d c)/\h=mB l m d a b/\GrX l m d b r k
theorem GrX.le{l:List Change}{m c:Int}:∀{d:List Hunk} {a k:Nat},GrX l m c a d k->a<=k
 | [],a,k,h=>Nat.le_of_eq h
 | _::_,a,k,⟨b,h1,_,_,_,h2⟩=>by have:=GrX.le h2;omega
theorem GrX.snoc{l:List Change}{m d:Int}{k n:Nat}(g:opens l d k)(f:k<n)(e:∀c,k<c->c<n->¬opens l d c):∀{i:List Hunk} {a:Nat},GrX l m d a i k->GrX l m d a (i++[mB l m d k n]) n
 | [],a,h=>by
  obtain rfl:a=k:=h;exact⟨n,f,g,e,rfl,rfl⟩
 | _::_,a,⟨b,h1,h2,h3,h4,h5⟩=>⟨b,h1,h2,h3,h4,GrX.snoc g f e h5⟩
theorem GrX.last{l:List Change}{m d:Int}{k:Nat}(f:¬opens l d k):∀{e:List Hunk} {a:Nat},GrX l m d a e k->e≠[]->GrX l m d a (e.set (e.length-1) (dV l m d k (e.getD (e.length-1) uO))) (k+1)
 | [],_,_,h0=>absurd rfl h0
 | [h],a,⟨b,h1,h2,h3,h4,h5⟩,_=>by
  obtain rfl:b=k:=h5;subst h4;refine⟨b+1,by omega,h2,fun c g j=>?_,rfl,rfl⟩;by_cases i:c=b
  ·rw[i];exact f
  ·exact h3 c g (by omega)
 | h::h'::r,a,⟨b,h1,h2,h3,h4,h5⟩,_=>by
  have n:=GrX.last f h5 (by simp);refine⟨b,h1,h2,h3,h4,?_⟩;simpa using n
theorem GrX.len{l:List Change}{m c:Int}:∀{d:List Hunk} {a k:Nat},GrX l m c a d k->d.length<=k-a
 | [],_,_,_=>Nat.zero_le _
 | _::_,a,k,⟨b,h1,_,_,_,h2⟩=>by have:=GrX.len h2;have:=h2.le;simp only[HU];omega
theorem uT(m n:Int):∀(l:List Change) (a:Nat) (i j:Int),(∀k,k<l.length->J4 (G5 l k).Old/\J4 (G5 l k).OldLen/\J4 (G5 l k).New/\J4 (G5 l k).NewLen/\(G5 l k).OldLen+(G5 l k).NewLen≠0/\(G5 l k).Old-Y0 i l k=(G5 l k).New-u6 j l k/\Y0 i l k<=(G5 l k).Old/\(0<a+k->Y0 i l k<(G5 l k).Old)) ->
  (m-Y0 i l l.length=n-u6 j l l.length/\Y0 i l l.length<=m)->K2 a i j l m n=true
 | [],a,i,j,_,h=>by
  have b:m-i=n-j/\i<=m:=h;simp only[K2,decide_eq_true_eq];omega
 | c::r,a,i,j,h,he=>by
  simp only[K2,HR,decide_eq_true_eq];refine⟨?_,uT m n r (a+1) _ _ (fun k E=>?_) ?_⟩
  ·obtain⟨b,f,g,o,p,s,u,t⟩:=h 0 (by simp);have b:J4 c.Old:=b;have f:J4 c.OldLen:=f;have g:J4 c.New:=g;have o:J4 c.NewLen:=o;have p:c.OldLen+c.NewLen≠0:=p;have s:c.Old-i=c.New-j:=s;have u:i<=c.Old:=u;have t:0<a+0->i<c.Old:=t;unfold wF;rintro (((((((q | q) | q) | q) | q) | q) | q) | ⟨q,G⟩)
   ·exact q b
   ·exact q f
   ·exact q g
   ·exact q o
   ·exact p q
   ·exact q s
   ·omega
   ·have:=t (by omega);omega
  ·have:=h (k+1) (by simpa using E);rw[dX,V7,V8]at this;obtain⟨v,x,y,z,A,B,C,D⟩:=this;exact⟨v,x,y,z,A,B,C,fun F=>D (by omega)⟩
  ·rw[HU,V7,V8]at he;exact he
theorem uU(x y:List Str):∀(l:List Change) (i j:Int),(∀k,k<l.length->sub x (Y0 i l k) (G5 l k).Old=sub y (u6 j l k) (G5 l k).New)->sub x (Y0 i l l.length) x.length=sub y (u6 j l l.length) y.length->fF x y i j l
 | [],_,_,_,h=>h
 | c::r,i,j,h,he=>by
  refine⟨h 0 (by simp),uU x y r _ _ (fun k a=>?_) ?_⟩
  ·have:=h (k+1) (by simpa using a);rw[dX,V7,V8]at this;exact this
  ·rw[HU,V7,V8]at he;exact he
theorem uV{x:List Str}{p q:Int}{t:Nat}(b:0<=p)(h:p+t<q):(sub x p q)[t]?=x[(p+t).toNat]?:=by
 unfold sub;rw[List.getElem?_take,A4 (by omega),IE]
 congr 1;omega
theorem nZ{x y:List Str}{p q b d:Int}(h:sub x p q=sub y b d)(f:0<=p)(c:0<=b)(j:q<=x.length)(i:q-p=d-b){t:Nat}(g:p+t<q):∃v,x[(p+t).toNat]?=some v/\y[(b+t).toNat]?=some v:=by
 have e:x[(p+t).toNat]?=some x[(p+t).toNat]:=HQ (by omega);refine⟨_,e,?_⟩;rw[<-uV (q:=d) c (by omega),<-h,uV f g];exact e
theorem gC{i j:Int}{n:Nat}{p:Span}(h:p∈gP i j n):∃t:Nat,t<n/\p=⟨i+t,j+t⟩:=by
 unfold gP at h;obtain⟨t,a,b⟩:=IQ.1 h;exact⟨t,IA.1 a,b.symm⟩
theorem jN{x y:List Str}:∀(l:List Change) (e:Nat) (i j:Int),K2 e i j l x.length y.length=true->fF x y i j l->0<=i->0<=j->∀p∈l8 i j l x.length,FH x y p
 | [],e,i,j,hs,d,hi,hj,p,b=>by
  simp only[K2,decide_eq_true_eq]at hs;unfold l8 at b;obtain⟨t,s,rfl⟩:=gC b;have d:sub x i x.length=sub y j y.length:=d;exact⟨by dsimp only;omega,by dsimp only;omega,nZ d hi hj (by omega) (by omega) (by omega)⟩
 | c::r,e,i,j,hs,d,hi,hj,p,b=>by
  have m:=y7 _ _ _ _ _ _ hs;have g:=X1 x.length y.length (c::r) e i j hs 0 (by simp);obtain⟨g1,f,h,k,u,n,q,_⟩:=g;have g1:J4 c.Old:=g1;have f:J4 c.OldLen:=f;have h:J4 c.New:=h;have k:J4 c.NewLen:=k;have n:c.Old-i=c.New-j:=n;have q:i<=c.Old:=q;simp only[K2,HR,decide_eq_true_eq]at hs;unfold l8 at b;unfold J4 at g1 f h k;have v:=m.2.2.2.2.2.2.end_le;rcases HV.1 b with b | b
  ·obtain⟨t,s,rfl⟩:=gC b;exact⟨by dsimp only;omega,by dsimp only;omega,nZ d.1 hi hj (by omega) (by omega) (by omega)⟩
  ·rw[show max i c.Old+c.OldLen=c.Old+c.OldLen by omega,show j+((c.Old-i).toNat:Int)+c.NewLen=c.New+c.NewLen by omega]at b;exact jN r (e+1) _ _ hs.2 d.2 (by omega) (by omega) p b
theorem ScFit.pairs{x y:List Str}{l:List Change}(h:ScFit x y l):∀p∈vZ l x.length,FH x y p:=jN l 0 0 0 h.sc h.eq (Int.le_refl _) (Int.le_refl _)
def fG(c:Change):Change:=⟨c.Old+1,c.OldLen,c.New+1,c.NewLen⟩
def r7(l:List Change)(k:Nat):List Change:=l.set k (fG (G5 l k))
def zS(t:List Int)(i:Int):Int:=t.getD i.toNat 0
def uW(l:List Change)(k:Nat)(t:List Int)(f n:Int):Prop:=(f+n<t.length/\zS t f=zS t (f+n))/\(k+1=l.length\/(G5 l k).Old+(G5 l k).OldLen+1<(G5 l (k+1)).Old)
instance (l:List Change) (k:Nat) (t:List Int) (f n:Int):Decidable (uW l k t f n):=by unfold uW;exact inferInstance
def gR(l:List Change)(a b:List Int)(k:Nat):Bool :=
 if (G5 l k).NewLen=0 then decide (uW l k a (G5 l k).Old (G5 l k).OldLen) else if (G5 l k).OldLen=0 then decide (uW l k b (G5 l k).New (G5 l k).NewLen) else false
theorem T8(l:List Change)(k:Nat):(r7 l k).length=l.length:=by simp[r7]
theorem aP(l:List Change){k:Nat}(a:k<l.length)(q:Nat):G5 (r7 l k) q=if q=k then fG (G5 l k) else G5 l q:=by
 unfold r7;by_cases h:q=k
 ·subst h;have:∀z,G5 (l.set q z) q=z:=fun z=>by unfold G5;simp[a]
  rw[A4 rfl,this]
 ·rw[A5 h];unfold G5;simp only[HY];rw[List.getElem?_set_ne (Ne.symm h)]
theorem eC(l:List Change){k:Nat}(a:k<l.length)(q:Nat):Y0 0 (r7 l k) q=Y0 0 l q+(if q=k+1 then 1 else 0):=by
 cases q with
 | zero=>simp[Y0]
 | succ q =>
  rw[y8,y8,aP l a];by_cases h:q=k
  ·subst h;rw[A4 rfl,A4 rfl];simp only[u0,fG];omega
  ·rw[A5 h,A5 (by omega)];omega
theorem eD(l:List Change){k:Nat}(a:k<l.length)(q:Nat):u6 0 (r7 l k) q=u6 0 l q+(if q=k+1 then 1 else 0):=by
 cases q with
 | zero=>simp[u6]
 | succ q =>
  rw[y9,y9,aP l a];by_cases h:q=k
  ·subst h;rw[A4 rfl,A4 rfl];simp only[nV,fG];omega
  ·rw[A5 h,A5 (by omega)];omega
structure IdsOf (x:List Str) (a:List Int):Prop where
 len:a.length=x.length
 inj:∀(i j:Nat) (u v:Str) (z:Int),x[i]?=some u->x[j]?=some v->a[i]?=some z->a[j]?=some z->u=v
theorem ScFit.down{x y:List Str}{l:List Change}{a b:List Int}(h:ScFit x y l)(ha:IdsOf x a)(hb:IdsOf y b){k:Nat}(m:k<l.length)(g:gR l a b k=true):ScFit x y (r7 l k):=by
 have X:=h.lx;have Y:=h.ly;have Q:=X1 _ _ _ 0 0 0 h.sc;have u:=nW _ _ _ 0 0 0 h.sc;have hq:=jH _ _ _ _ _ h.eq;have r:=nX _ _ _ _ _ h.eq;have K:=h.ok;obtain⟨c,p⟩:∃c,c=G5 l k:=⟨_,rfl⟩
 obtain⟨g1,T,g3,U,g5,g6,g7,g8⟩:=Q k m;have W:=K.get k m;rw[<-p]at g1 T g3 U g5 g6 g7 g8 W;unfold J4 at g1 T g3 U;have i:Y0 0 l (k+1)=c.Old+c.OldLen:=by rw[y8,<-p];rfl
 have j:u6 0 l (k+1)=c.New+c.NewLen:=by rw[y9,<-p];rfl
 obtain⟨E,E',H,I,V,ab,ac,J⟩:∃E E':Int,sub x (c.Old+c.OldLen) E=sub y (c.New+c.NewLen) E'/\E-(c.Old+c.OldLen)=E'-(c.New+c.NewLen)/\E<=x.length/\E'<=y.length/\(c.Old+c.OldLen<E)/\(k+1<l.length->E=(G5 l (k+1)).Old/\E'=(G5 l (k+1)).New/\c.Old+c.OldLen+1<E):=by
  by_cases B:k+1=l.length
  ·rw[<-B,i,j]at u r;refine⟨x.length,y.length,r,by omega,by omega,by omega,?_,fun q=>absurd B (by omega)⟩;unfold gR at g;rw[<-p]at g;split at g
   ·have:=(A0 g).1.1;rw[ha.len]at this;omega
   ·split at g
    ·have:=(A0 g).1.1;rw[hb.len]at this;omega
    ·cases g
  ·have B:k+1<l.length:=by omega
   obtain⟨M,F,P,G,f5,f6,f7,S⟩:=Q (k+1) B;have f9:=hq (k+1) B;have aa:=K.get (k+1) B;rw[i,j]at f6 f9;rw[i]at f7;unfold J4 at F G;have z:c.Old+c.OldLen+1<(G5 l (k+1)).Old:=by
    unfold gR at g;rw[<-p]at g;split at g
    ·have:=(A0 g).2;rw[<-p]at this;omega
    ·split at g
     ·have:=(A0 g).2;rw[<-p]at this;omega
     ·cases g
   exact⟨_,_,f9,by omega,by omega,by omega,by omega,fun _=>⟨rfl,rfl,z⟩⟩
 have hv:∃v,x[c.Old.toNat]?=some v/\y[c.New.toNat]?=some v:=by
  obtain⟨v,C,v2⟩:=nZ (t:=0) H (by omega) (by omega) (by omega) I (by omega);simp only[Int.natCast_zero,Int.add_zero]at C v2;unfold gR at g;rw[<-p]at g;split at g
  ·rename_i Z;have:=(A0 g).1.2;rw[Z,Int.add_zero]at v2;refine⟨v,?_,v2⟩;have l1:c.Old.toNat<a.length:=by rw[ha.len];omega
   have l2:(c.Old+c.OldLen).toNat<a.length:=by rw[ha.len];omega
   have L:x[c.Old.toNat]?=some x[c.Old.toNat]:=HQ (by omega);have R:a[c.Old.toNat]?=some (zS a c.Old):=by unfold zS;rw[HY,HQ l1];rfl
   have D:a[(c.Old+c.OldLen).toNat]?=some (zS a (c.Old+c.OldLen)):=by unfold zS;rw[HY,HQ l2];rfl
   rw[<-this]at D;have:=ha.inj _ _ _ _ _ L C R D;rw[L,this]
  ·split at g
   ·rename_i _ Z;have:=(A0 g).1.2;rw[Z,Int.add_zero]at C;refine⟨v,C,?_⟩;have l1:c.New.toNat<b.length:=by rw[hb.len];omega
    have l2:(c.New+c.NewLen).toNat<b.length:=by rw[hb.len];omega
    have L:y[c.New.toNat]?=some y[c.New.toNat]:=HQ (by omega);have R:b[c.New.toNat]?=some (zS b c.New):=by unfold zS;rw[HY,HQ l1];rfl
    have D:b[(c.New+c.NewLen).toNat]?=some (zS b (c.New+c.NewLen)):=by unfold zS;rw[HY,HQ l2];rfl
    rw[<-this]at D;have:=hb.inj _ _ _ _ _ L v2 R D;rw[L,this]
   ·cases g
 obtain⟨v,C,v2⟩:=hv;have s:0<=Y0 0 l k/\0<=u6 0 l k:=by
  cases k with
  | zero=>simp[Y0,u6]
  | succ k =>
   obtain⟨M,F,P,G,_⟩:=Q k (by omega);unfold J4 at M F P G;rw[y8,y9];unfold u0 nV;omega
 have A:sub x (c.Old+c.OldLen+1) E=sub y (c.New+c.NewLen+1) E':=by
  have:=z6 (e:=E-(c.Old+c.OldLen)-1) H (by omega) (by omega) (by omega) (by omega) I;rw[show E-(E-(c.Old+c.OldLen)-1)=c.Old+c.OldLen+1 by omega,show E'-(E-(c.Old+c.OldLen)-1)=c.New+c.NewLen+1 by omega]at this;exact this
 refine⟨X,Y,uT _ _ _ 0 0 0 (fun q n=>?_) ?_,uU _ _ _ 0 0 (fun q n=>?_) ?_⟩
 ·rw[T8]at n;rw[aP l m,eC l m,eD l m];by_cases e:q=k
  ·rw[A4 e,A5 (show ¬q=k+1 by omega),e,<-p];unfold J4;simp only[fG];refine⟨by omega,T,by omega,U,g5,by omega,by omega,fun _=>by omega⟩
  ·rw[A5 e];obtain⟨M,F,P,G,f5,f6,f7,S⟩:=Q q n;refine⟨M,F,P,G,f5,?_,?_,?_⟩
   ·by_cases f:q=k+1
    ·rw[A4 f];omega
    ·rw[A5 f];omega
   ·by_cases f:q=k+1
    ·rw[A4 f];have:=S (by omega);omega
    ·rw[A5 f];omega
   ·intro h0;by_cases f:q=k+1
    ·rw[A4 f,f,i];have:=(J (by omega))
     omega
    ·rw[A5 f];have:=S h0;omega
 ·rw[T8,eC l m,eD l m];by_cases f:l.length=k+1
  ·rw[A4 f,f,i,j];rw[f,i,j]at u;have h1:E<=x.length:=V;omega
  ·rw[A5 f];omega
 ·rw[T8]at n;rw[aP l m,eC l m,eD l m];by_cases e:q=k
  ·rw[A4 e,A5 (show ¬q=k+1 by omega),e,<-p];simp only[fG,Int.add_zero];have:=hq k m;rw[<-p]at this;rw[qN s.1 g7 C,qN s.2 (by omega) v2,this]
  ·rw[A5 e];by_cases f:q=k+1
   ·rw[A4 f];subst f;obtain⟨q1,q2,_⟩:=J n;rw[i,j,<-q1,<-q2];exact A
   ·rw[A5 f,Int.add_zero,Int.add_zero];exact hq q n
 ·rw[T8,eC l m,eD l m];by_cases f:l.length=k+1
  ·rw[A4 f];rw[f,i,j]at r u ⊢;have:=z6 (e:=x.length-(c.Old+c.OldLen)-1) r (by omega) (by omega) (by omega) (by omega) (by omega);rw[show (x.length:Int)-(x.length-(c.Old+c.OldLen)-1)=c.Old+c.OldLen+1 by omega,show (y.length:Int)-(x.length-(c.Old+c.OldLen)-1)=c.New+c.NewLen+1 by omega]at this;exact this
  ·rw[A5 f,Int.add_zero,Int.add_zero];exact r
section
variable {x y:List Str}{a b:List Int} (ha:IdsOf x a) (hb:IdsOf y b)
include ha hb
end
structure Made12 (on nn a b:Str) (l:List Change) (ctx:Int):Prop where
 chk:AS ⟨on,nn,Q4 l (H0 a) (H0 b) ctx⟩=0
 wr:(uP ⟨on,nn,Q4 l (H0 a) (H0 b) ctx⟩).length<=16777216
 fit:PFit ⟨on,nn,Q4 l (H0 a) (H0 b) ctx⟩
 rg:∀h∈Q4 l (H0 a) (H0 b) ctx,(-4611686018427387904<=h.Old/\h.Old<=4611686018427387904)/\(-4611686018427387904<=h.New/\h.New<=4611686018427387904)
 sz:BR (Q4 l (H0 a) (H0 b) ctx)<=268435456
def Few(a:Str):Prop:=a.length<=1048576/\(H0 a).length<=4096
theorem few_of{a:Str}(h:a.length<=4096):Few a:=⟨by omega,Nat.le_trans (y6 a) h⟩
def yV(x y:List Str)(i j:Int):List PatchHunk->Prop
 | []=>sub x i x.length=sub y j y.length/\0<=i/\0<=j/\i<=x.length/\j<=y.length
 | h::r=>(sub x i h.Old=sub y j h.New/\D8 h.Lines 43=sub x h.Old (h.Old+m7 h)/\D8 h.Lines 45=sub y h.New (h.New+m8 h))/\(0<=i/\0<=j/\i<=h.Old/\j<=h.New/\h.Old+m7 h<=x.length/\h.New+m8 h<=y.length)/\yV x y (h.Old+m7 h) (h.New+m8 h) r
theorem ScFit.chain{x y:List Str}{l:List Change}(h:ScFit x y l){c:Int}(o:0<=c):∀(n:List Hunk) (a:Nat),GrOk l x.length c a n l.length ->
  ∀(i j e:Int),i=Y0 0 l a+e->j=u6 0 l a+e->0<=e->e<=c->(a=0->e=0)->i<=x.length->j<=y.length->yV x y i j (n.map (O2 l x y))
 | [],a,f,i,j,e,hi,hj,he,_,_,hix,hjy=>by
  have f:a=l.length:=f;have z:=nX _ _ _ _ _ h.eq;have p:=nW _ _ _ 0 0 0 h.sc;obtain⟨r,s,I,J⟩:=h.nn a (by omega);rw[<-f]at z p;refine⟨?_,by omega,by omega,hix,hjy⟩;have:=z6 (e:=x.length-i) z r s (by omega) (by omega) (by omega);rw[show (x.length:Int)-(x.length-i)=i by omega,show (y.length:Int)-(x.length-i)=j by omega]at this;exact this
 | hk::n,a,⟨b,hab,ho,hE,f⟩,i,j,e,hi,hj,he,hec,he0,hix,hjy=>by
  have hb:=f.le;have k:b<l.length->opens l c b:=by
   intro C;cases n with
   | nil=>exact absurd f (by show ¬b=l.length;omega)
   | cons B D=>obtain⟨_,_,q,_⟩:=f;exact q
  obtain⟨w1,K,U,V,W⟩:=h.after o hb k (by omega);obtain⟨R,S,T⟩:=h.before o (show a<l.length by omega) ho;have H:=h.hunk o hab hb ho k;rw[<-hE]at H;obtain⟨P,u⟩:∃P,P=O2 l x y hk:=⟨_,rfl⟩
  rw[<-u]at H;have E:=ScFit.chain h o n b f (P.Old+m7 P) (P.New+m8 P) (eB l x.length c b) H.oe H.ne w1 K (by omega) H.ox H.ny;obtain⟨k1,⟨k2,F⟩,k3,⟨k4,G⟩,k5,k6,k7,k8⟩:=X1 _ _ _ _ _ _ h.sc a (show a<l.length by omega);have L:=H.old;have B:=H.new;have M:=H.o0;have Q:=H.n0;have v:e+eA l c a<=(G5 l a).Old-Y0 0 l a:=by
   by_cases t:a=0
   ·have:=he0 t;omega
   ·have:=aO ho t;omega
  obtain⟨r,s,I,J⟩:=h.nn a (by omega);have g:i<=P.Old/\j<=P.New/\P.Old-i=P.New-j/\0<=i/\0<=j:=by omega
  have m:=jH _ _ _ _ _ h.eq a (show a<l.length by omega);have A:=z6 (e:=(G5 l a).Old-i) m r s (by omega) (by omega) (by omega);rw[show (G5 l a).Old-((G5 l a).Old-i)=i by omega,show (G5 l a).New-((G5 l a).Old-i)=j by omega]at A;have t2:=jI (e:=P.Old-i) A (by omega) (by omega) (by omega) (by omega) (by omega);rw[show i+(P.Old-i)=P.Old by omega,show j+(P.Old-i)=P.New by omega]at t2;rw[IC,<-u];exact⟨⟨t2,H.ol,H.nl⟩,⟨by omega,by omega,g.1,g.2.1,H.ox,H.ny⟩,E⟩
def cM(c:UInt8):Bool:=decide (48<=c.toNat/\c.toNat<=57)
def J7(s:Str):Str:=s.takeWhile cM
def u5(a:Str):Nat:=a.foldl (fun n c=>10*n+(c.toNat-48)) 0
def eE(s:Str):Option (Nat×Nat) :=
 if J7 s=[]\/(s.head?=some 48/\1<(J7 s).length)\/2147483647<u5 (J7 s) then none else some (u5 (J7 s),(J7 s).length)
theorem wG(a:Str)(c:UInt8):u5 (a++[c])=10*u5 a+(c.toNat-48):=by
 unfold u5;rw[JJ];rfl
structure Cmd where
 Kind:Int
 A:Int
 B:Int
 C:Int
 Dense:Bool
 Text:Str
 deriving DecidableEq
abbrev FI(c:Cmd):List Cell:=[.v (.int .i64 c.Kind),.v (.int .i64 c.A),.v (.int .i64 c.B),.v (.int .i64 c.C),.v (.bool c.Dense),.v (.string ⟨c.Text.toArray⟩)]
abbrev j7(c:Cmd):PV:=.agg (FI c)
abbrev z7(c:Cmd):List TC:=[.p (.v (.int .i64 c.Kind)),.p (.v (.int .i64 c.A)),.p (.v (.int .i64 c.B)),.p (.v (.int .i64 c.C)),.p (.v (.bool c.Dense)),.p (.v (.string ⟨c.Text.toArray⟩))]
abbrev yW(c:Cmd):List Value:=[.int .i64 c.Kind,.int .i64 c.A,.int .i64 c.B,.int .i64 c.C,.bool c.Dense,.string ⟨c.Text.toArray⟩]
def cN:Cmd:=⟨0,0,0,0,false,[]⟩
structure CForm where
 word:Str
 kind:Int
 dense:Bool
 b:Bool
 c:Bool
 text:Bool
 deriving DecidableEq
def jO:CForm->Nat->Cell:=fun f j=>match j with
 | 0=>.v (.string ⟨f.word.toArray⟩)
 | 1=>.v (.int .i64 f.kind)
 | 2=>.v (.bool f.dense)
 | 3=>.v (.bool f.b)
 | 4=>.v (.bool f.c)
 | _=>.v (.bool f.text)
abbrev yX(f:CForm):List TC:=[.p (.v (.string ⟨f.word.toArray⟩)),.p (.v (.int .i64 f.kind)),.p (.v (.bool f.dense)),.p (.v (.bool f.b)),.p (.v (.bool f.c)),.p (.v (.bool f.text))]
abbrev yY(f:CForm):PV:=.agg [.v (.string ⟨f.word.toArray⟩),.v (.int .i64 f.kind),.v (.bool f.dense),.v (.bool f.b),.v (.bool f.c),.v (.bool f.text)]
abbrev yZ(l:List CForm):PV:=.one (.list CForm 6 jO l)
def formsL:List CForm:=[⟨[108,111,103],1,false,false,false,false⟩,⟨[115,104,111,119],2,false,false,false,false⟩,⟨[100,105,102,102],3,false,true,true,true⟩,⟨[99,111,109,98,105,110,101,100],4,false,false,true,true⟩,
 ⟨[99,99],4,true,false,true,true⟩,⟨[108,105,116,101,114,97,108],5,false,false,false,true⟩,⟨[114,101,103,101,120],6,false,false,false,true⟩,⟨[108,105,110,101,115],7,false,true,true,true⟩,⟨[98,108,97,109,101],8,false,false,false,true⟩,⟨[98,97,115,101,115],9,false,true,false,false⟩]
def O9(f:CForm):List Nat:=1::((if f.b=true then [2] else [])++(if f.c=true then [3] else []))
def Cmd.get(c:Cmd)(o:Nat):Int:=match o with
 | 1=>c.A
 | 2=>c.B
 | _=>c.C
def Cmd.put(c:Cmd)(o:Nat)(n:Int):Cmd:=match o with
 | 1=>{ c with A:=n }
 | 2=>{ c with B:=n }
 | _=>{ c with C:=n }
theorem uX{f:CForm}{o:Nat}(h:o∈O9 f):o=1\/o=2\/o=3:=by
 unfold O9 at h;rcases HZ.1 h with h | h
 ·exact .inl h
 rcases HV.1 h with h | h
 ·split at h
  ·exact .inr (.inl (List.mem_singleton.1 h))
  ·cases h
 ·split at h
  ·exact .inr (.inr (List.mem_singleton.1 h))
  ·cases h
theorem qO(f:CForm):(O9 f).length<=3:=by unfold O9;cases f.b<;>cases f.c<;>decide
theorem zA{c:Cmd}{o:Nat}(h:o=1\/o=2\/o=3):(z7 c)[o]?=some (.p (.v (.int .i64 (c.get o)))):=by
 rcases h with rfl | rfl | rfl<;>rfl
theorem qP{c:Cmd}{o:Nat}(n:Int)(h:o=1\/o=2\/o=3):setTs (z7 c) o [.p (.v (.int .i64 n))]=z7 (c.put o n):=by
 rcases h with rfl | rfl | rfl<;>rfl
theorem oA(c:Cmd)(o:Nat)(n:Int):(c.put o n).Text=c.Text:=by
 unfold Cmd.put;split<;>rfl
def aQ:List Nat->Cmd->Str->Option (Cmd×Str)
 | [],c,s=>some (c,s)
 | o::r,c,s=>if c.get o<0\/2147483647<c.get o then none else aQ r (c.put o 0) (s++([32]++U1 (c.get o)))
def jP(f:CForm)(c:Cmd)(s:Str):Str×Int:=if c=⟨f.kind,0,0,0,f.dense,[]⟩ then (s,0) else ([],2)
def oB(f:CForm)(c:Cmd):Str×Int:=match aQ (O9 f) c f.word with
 | none=>([],2)
 | some (c',s)=>if f.text=true then jP f { c' with Text:=[] } (s++([32]++Q1 c'.Text)) else jP f c' s
def uY(c:Cmd):List CForm->Str×Int
 | []=>([],2)
 | f::r=>if f.kind≠c.Kind\/f.dense≠c.Dense then uY c r else oB f c
def jQ(c:Cmd):Str×Int:=uY c formsL
theorem wH{f:CForm}(h:f∈formsL):f.word.length<=8:=by
 unfold formsL at h;simp only[HZ,List.not_mem_nil,or_false]at h;rcases h with h | h | h | h | h | h | h | h | h | h<;>(rw[h];decide)
def r8:List Nat->List Str->Cmd->Option Cmd
 | o::r,w::ws,c=>match eE w with
  | some (n,e)=>if e=w.length then r8 r ws (c.put o n) else none
  | none=>none
 | _,_,c=>some c
def Z1(f:CForm)(a:List Str):Option Cmd :=
 let b:Cmd:=⟨f.kind,0,0,0,f.dense,[]⟩
 if f.text=true then
  if a=[] then none
  else if a.length-1≠(O9 f).length then none
  else r8 (O9 f) a.dropLast { b with Text:=a.getLastD [] }
 else if a.length≠(O9 f).length then none
 else r8 (O9 f) a b
def r9(w:Str)(a:List Str):List CForm->Option Cmd
 | []=>none
 | f::r=>if f.word≠w then r9 w a r else match Z1 f a with
  | some c=>some c
  | none=>r9 w a r
def I9:List Str->Str
 | []=>[]
 | [w]=>w
 | w::x::r=>w++32::I9 (x::r)
theorem jR(w:Str):I9 [w]=w:=rfl
theorem m9(w x:Str)(r:List Str):I9 (w::x::r)=w++32::I9 (x::r):=rfl
theorem wI{w:Str}(b:w.all L0=true)(r:List Str):(I9 (w::r)).takeWhile L0=w:=by
 have ha:∀c∈w,L0 c=true:=List.all_eq_true.1 b;cases r with
 | nil =>
  rw[jR];have:=List.takeWhile_append_of_pos (l₂:=[]) ha;simpa using this
 | cons x r =>
  rw[m9,List.takeWhile_append_of_pos ha,List.takeWhile_cons];rw[show L0 32=false by rfl];simp
theorem qQ(w:Str)(r:List Str):w.length<=(I9 (w::r)).length:=by
 cases r with
 | nil=>exact Nat.le_refl _
 | cons x r=>rw[m9,HW];omega
theorem qR{w:Str}(a:w≠[])(b:w.all L0=true):Q1 w=w:=by unfold Q1;rw[A4 ⟨a,b⟩]
theorem DB(a b:Cmd):mS (yW a) (yW b)=decide (a=b):=by
 obtain⟨c,a2,a3,a4,a5,d⟩:=a;obtain⟨e,f,g,h,i,j⟩:=b;rw[Bool.eq_iff_iff,decide_eq_true_eq];simp only[yW,mS,GD,ByteArray.toList_mk,Bool.and_true,HR,beq_iff_eq,Cmd.mk.injEq]
def jS(f:CForm)(a:List Str):Cmd:=if f.text=true then ⟨f.kind,0,0,0,f.dense,a.getLastD []⟩ else ⟨f.kind,0,0,0,f.dense,[]⟩
def bR(f:CForm)(a:List Str):List Str:=if f.text=true then a.dropLast else a
theorem qS(f:CForm)(a:List Str):Z1 f a=if f.text=true/\a=[] then none else if (bR f a).length≠(O9 f).length then none else r8 (O9 f) (bR f a) (jS f a):=by
 unfold Z1 bR jS;by_cases b:f.text=true
 ·by_cases c:a=[]
  ·simp only[A4 b,A4 c,A4 (And.intro b c)]
  ·simp only[A4 b,A5 c,A5 (fun h:f.text=true/\a=[]=>c h.2),List.length_dropLast]
 ·simp only[A5 b,A5 (fun h:f.text=true/\a=[]=>b h.1)]
theorem wJ{f:CForm}{a:List Str}{w:Str}(h:w∈bR f a):w∈a:=by
 unfold bR at h;split at h
 ·exact (List.dropLast_sublist a).subset h
 ·exact h
theorem wK(f:CForm)(a:List Str):(bR f a).length<=a.length:=by
 unfold bR;split
 ·rw[List.length_dropLast];omega
 ·exact Nat.le_refl _
def cO(a:List Str):Cmd×Int:=match a with
 | []=>(cN,320)
 | w::r=>match r9 w r formsL with
  | some c=>(c,0)
  | none=>(cN,320)
theorem jT:∀(a:List Str),(∀w∈a,w≠[])->a.length<=(I9 a).length
 | [],_=>Nat.zero_le _
 | [w],h=>by
  have:=List.length_pos_iff.2 (h w (by simp));rw[jR,List.length_singleton];exact this
 | w::x::r,h=>by
  have:=jT (x::r) fun v b=>h v (by simp[b]);rw[m9];simp only[HW,HU]at this ⊢;omega
theorem wL(w t:Str)(c:UInt8):(w++c::t).drop (w.length+1)=t:=by
 rw[show w++c::t=(w++[c])++t by simp];exact List.drop_left' (by simp)
def gS:Str:=[99,111,109,109,105,116]
def c7(ns:List Int)(i:Nat):Str:=gS++((ns.take i).map fun n=>32::U1 n).flatten
def s5(ns:List Int):Str:=c7 ns ns.length
theorem jU{ns:List Int}{i:Nat}{n:Int}(h:ns[i]?=some n):c7 ns (i+1)=c7 ns i++([32]++U1 n):=by
 unfold c7;rw[List.take_add_one,h,IL];simp
theorem aR(ns:List Int):∀i,(c7 ns i).length<=6+11*i
 | 0=>by simp[c7,gS]
 | i+1=>by
  have:=aR ns i;by_cases h:i<ns.length
  ·rw[jU (HQ h)];have:=aN ns[i];simp only[HW,HU,IM];omega
  ·have:c7 ns (i+1)=c7 ns i:=by
    unfold c7;rw[IV (by omega),IV (by omega)]
   rw[this];omega
def c8(L:List (List Int))(i:Nat):Str:=((L.take i).map fun ns=>s5 ns++[10]).flatten
def zB(L:List (List Int)):Str:=c8 L L.length
theorem jV{L:List (List Int)}{i:Nat}{ns:List Int}(h:L[i]?=some ns):c8 L (i+1)=c8 L i++(s5 ns++[10]):=by
 unfold c8;rw[List.take_add_one,h];simp
theorem mD{L:List (List Int)}{m:Nat}(b:∀ns∈L,ns.length<=m):∀i,(c8 L i).length<=(7+11*m)*i
 | 0=>by simp[c8]
 | i+1=>by
  have:=mD b i;by_cases h:i<L.length
  ·rw[jV (HQ h)];have a:=aR L[i] L[i].length;have c:=b L[i] (HT h);have d:(s5 L[i]).length<=6+11*m:=by
    unfold s5;have:11*L[i].length<=11*m:=Nat.mul_le_mul_left _ c;omega
   simp only[HW,HU,IM];rw[Nat.mul_succ];omega
  ·have a:c8 L (i+1)=c8 L i:=by
    unfold c8;rw[IV (by omega),IV (by omega)]
   rw[a,Nat.mul_succ];omega
theorem wM(L:List (List Int)):c8 L 0=[]:=by simp[c8]
def eF(e:Int):Str:=[101,114,114,111,114,32]++U1 e++[10]
def X2(a b:Str)(e:Int):Str:=[62,32]++a++[10]++(if e≠0 then eF e else b)
theorem aS{α:Type}[DecidableEq α]:∀{l m:List α},l.Nodup->(∀x∈l,x∈m)->l.length<=m.length
 | [],_,_,_=>Nat.zero_le _
 | x::l,m,h,hs=>by
  have b:=List.nodup_cons.1 h;have d:l.length<=(m.erase x).length:=aS b.2 fun y c=>by
   have a:y≠x:=fun e=>b.1 (e ▸ c);exact (List.mem_erase_of_ne a).2 (hs y (by simp[c]))
  have f:=List.length_erase_of_mem (hs x (by simp));have i:0<m.length:=List.length_pos_of_mem (hs x (by simp));rw[HU];omega
theorem V9{l:List Int}{n:Nat}(h:l.Nodup)(b:∀x∈l,0<=x/\x<n):l.length<=n:=by
 have:=aS (m:=(List.range n).map fun i:Nat=>(i:Int)) h fun x c=>by
  have:=b x c;exact IQ.2 ⟨x.toNat,IA.2 (by omega),by omega⟩
 simpa using this
theorem zC{l:List Int}{n:Nat}(h:l.Nodup)(d:∀x∈l,0<=x/\x<n)(f:n<=l.length)(c:Nat)(e:c<n):(c:Int)∈l:=by
 apply Classical.byContradiction;intro b;have:=V9 (l:=(c:Int)::l) (n:=n) (List.nodup_cons.2 ⟨b,h⟩) fun x a=>by
  rcases HZ.1 a with rfl | a
  ·exact⟨by omega,by omega⟩
  ·exact d x a
 rw[HU]at this;omega
theorem cP{q r:Nat->Bool}(x:Nat)(d:∀y,r y=(q y&&decide (y≠x))):∀{L:List Nat},L.Nodup->L.countP q=L.countP r+(if x∈L/\q x=true then 1 else 0)
 | [],_=>by simp
 | y :: L,h=>by
  have c:=List.nodup_cons.1 h;have g:=cP x d c.2;rw[List.countP_cons,List.countP_cons,g,d y];by_cases e:y=x
  ·subst e;have:¬(y∈L/\q y=true):=fun e=>c.1 e.1;rw[A5 this];cases j:q y<;>simp
  ·have f:(x∈y::L/\q x=true)↔(x∈L/\q x=true):=by
    rw[HZ];constructor
    ·rintro⟨a | a,b⟩
     ·exact absurd a.symm e
     ·exact⟨a,b⟩
    ·exact fun ⟨a,b⟩=>⟨.inr a,b⟩
   rw[show (if x∈y::L/\q x=true then 1 else 0)=(if x∈L/\q x=true then 1 else 0) by simp only[f]];simp only[e,ne_eq,not_false_eq_true,decide_true,Bool.and_true];omega
abbrev Graph:=List Commit
def C6(g:Graph)(c:Nat):List Int:=(g[c]?.map (·.Parents)).getD []
def c9(n:Int)(a:List Int):List Int->Bool
 | []=>true
 | p::r=>decide (0<=p/\p<n/\p∉a)&&c9 n (a++[p]) r
def related(g:Graph):Bool:=g.all fun c=>c9 g.length [] c.Parents
theorem qT{n:Int}:∀{ps a:List Int},c9 n a ps=true->(∀p∈ps,0<=p/\p<n/\p∉a)/\ps.Nodup
 | [],_,_=>⟨(fun _ h=>by cases h),List.nodup_nil⟩
 | p::r,a,h=>by
  unfold c9 at h;rw[HR,decide_eq_true_eq]at h;obtain⟨c,d⟩:=qT h.2;refine⟨fun q b=>?_,List.nodup_cons.2 ⟨fun e=>(c p e).2.2 (by simp),d⟩⟩;rcases HZ.1 b with rfl | b
  ·exact h.1
  ·have:=c q b;exact⟨this.1,this.2.1,fun f=>this.2.2 (by simp[f])⟩
theorem W4{g:Graph}{c:Nat}(b:c<g.length):C6 g c=g[c].Parents:=by unfold C6;rw[HQ b];rfl
theorem z8{g:Graph}{c:Nat}(a:¬c<g.length):C6 g c=[]:=by unfold C6;rw[IK (by omega)];rfl
theorem H2{g:Graph}(h:related g=true)(c:Nat):(∀p∈C6 g c,0<=p/\p<g.length)/\(C6 g c).Nodup:=by
 by_cases a:c<g.length
 ·rw[W4 a];have:=qT (List.all_eq_true.1 h g[c] (HT a));exact⟨fun p b=>⟨(this.1 p b).1,(this.1 p b).2.1⟩,this.2⟩
 ·rw[z8 a];exact⟨(fun _ h=>by cases h),List.nodup_nil⟩
inductive Reaches (g:Graph):Nat->Nat->Prop
 | one {c p:Nat} (h:(p:Int)∈C6 g c):Reaches g c p
 | more {c d p:Nat} (h:Reaches g c d) (h2:(p:Int)∈C6 g d):Reaches g c p
theorem Reaches.trans{g:Graph}{a b c:Nat}(h:Reaches g a b)(d:Reaches g b c):Reaches g a c:=by
 induction d with
 | one d=>exact .more h d
 | more _ f i=>exact .more i f
theorem Reaches.lt{g:Graph}(i:related g=true){a b:Nat}(h:Reaches g a b):a<g.length/\b<g.length:=by
 have d:∀{c p:Nat},(p:Int)∈C6 g c->c<g.length/\p<g.length:=fun {c p} h=>by
  refine⟨?_,by have:=(H2 i c).1 p h;omega⟩;apply Classical.byContradiction;intro f;rw[z8 f]at h;cases h
 induction h with
 | one h=>exact d h
 | more _ e j=>exact⟨j.1,(d e).2⟩
def M8(ps:List Int)(l:List Bool):List Bool:=ps.foldl (fun l p=>l.set p.toNat true) l
def D2(l:List Bool)(c:Nat):Bool:=l[c]?.getD false
def P6(g:Graph)(l:List Bool)(c:Nat):List Bool:=if D2 l c=true then M8 (C6 g c) l else l
def aA(g:Graph)(l:List Bool):List Bool:=(List.range g.length).foldl (P6 g) l
def N3(g:Graph):Nat->List Bool->List Bool
 | 0,l=>l
 | k+1,l=>N3 g k (aA g l)
def G6(g:Graph)(a:List Int):List Bool:=N3 g g.length (M8 a (List.replicate g.length false))
theorem Z2{l:List Bool}{i c:Nat}:D2 (l.set i true) c=(D2 l c||decide (i=c/\c<l.length)):=by
 unfold D2;rw[List.getElem?_set];split
 ·rename_i e;subst e;split
  ·rename_i h;simp[h]
  ·rename_i h;simp[h,IK (Nat.le_of_not_lt h)]
 ·rename_i h;simp[h]
theorem M9:∀(ps:List Int) (l:List Bool),(M8 ps l).length=l.length
 | [],_=>rfl
 | p::r,l=>by show (M8 r (l.set p.toNat true)).length=_;rw[M9 r];simp
theorem S2:∀(ps:List Int) (l:List Bool) (c:Nat),D2 (M8 ps l) c=(D2 l c||(decide (c<l.length)&&ps.any fun p=>decide (p.toNat=c)))
 | [],l,c=>by simp[M8]
 | p::r,l,c=>by
  show D2 (M8 r (l.set p.toNat true)) c=_;rw[S2 r,Z2,IT,List.any_cons];by_cases a:p.toNat=c<;>by_cases b:c<l.length<;>simp[a,b]
theorem wN(g:Graph)(l:List Bool)(c:Nat):(P6 g l c).length=l.length:=by unfold P6;split<;>simp[M9]
theorem fH(g:Graph):∀(a:List Nat) (l:List Bool),(a.foldl (P6 g) l).length=l.length
 | [],_=>rfl
 | c::r,l=>by rw[IS,fH g r,wN]
theorem jW(g:Graph)(l:List Bool):(aA g l).length=l.length:=fH g _ l
theorem aT(g:Graph):∀(k:Nat) (l:List Bool),(N3 g k l).length=l.length
 | 0,_=>rfl
 | k+1,l=>by rw[N3,aT g k,jW]
theorem W5(g:Graph)(s:List Int):(G6 g s).length=g.length:=by unfold G6;rw[aT,M9];simp
def LeB(a b:List Bool):Prop:=a.length=b.length/\∀c,D2 a c=true->D2 b c=true
theorem LeB.refl(a:List Bool):LeB a a:=⟨rfl,fun _ h=>h⟩
theorem LeB.trans{a b c:List Bool}(h:LeB a b)(d:LeB b c):LeB a c:=⟨h.1.trans d.1,fun x e=>d.2 x (h.2 x e)⟩
theorem aU:∀{a b:List Bool},LeB a b->a=b\/a.countP id<b.countP id
 | [],[],_=>.inl rfl
 | [],_::_,h=>by have:=h.1;simp at this
 | _::_,[],h=>by have:=h.1;simp at this
 | x::a,y::b,h=>by
  have e:LeB a b:=⟨by simpa using h.1,fun c f=>h.2 (c+1) f⟩
  have d:x=true->y=true:=fun g=>by simpa[D2] using h.2 0 (by simpa[D2] using g)
  rw[List.countP_cons,List.countP_cons];rcases aU e with rfl | h3
  ·cases x<;>cases y
   ·exact .inl rfl
   ·right;simp
   ·exact absurd (d rfl) (by decide)
   ·exact .inl rfl
  ·right;cases x<;>cases y
   ·simpa using h3
   ·simp;omega
   ·exact absurd (d rfl) (by decide)
   ·simpa using h3
theorem qU{a b:List Bool}(h:LeB a b)(d:LeB b a):a=b:=by
 rcases aU h with e | e
 ·exact e
 ·rcases aU d with c | c
  ·exact c.symm
  ·omega
theorem fI(ps:List Int)(l:List Bool):LeB l (M8 ps l):=⟨(M9 ps l).symm,fun c h=>by rw[S2,h];rfl⟩
theorem qV(g:Graph)(l:List Bool)(c:Nat):LeB l (P6 g l c):=by unfold P6;split<;>first | exact fI _ _ | exact LeB.refl _
theorem eG(g:Graph):∀(b:List Nat) (l:List Bool),LeB l (b.foldl (P6 g) l)
 | [],l=>LeB.refl l
 | c::r,l=>(qV g l c).trans (eG g r _)
theorem qW(g:Graph):∀(k:Nat) (l:List Bool),LeB l (N3 g k l)
 | 0,l=>LeB.refl l
 | k+1,l=>(eG g _ l).trans (qW g k _)
def d5(g:Graph)(l:List Bool):Prop:=∀c,D2 l c=true->∀p∈C6 g c,D2 l p.toNat=true
theorem qX(g:Graph):∀(a:List Nat) (l:List Bool),a.foldl (P6 g) l=l->∀c∈a,P6 g l c=l
 | [],_,_,_,h=>by cases h
 | d::r,l,h,c,hc=>by
  rw[IS]at h;have b:P6 g l d=l:=qU (by have:=eG g r (P6 g l d);rw[h]at this;exact this) (qV g l d);rcases HZ.1 hc with rfl | hc
  ·exact b
  ·rw[b]at h;exact qX g r l h c hc
theorem oC{l:List Bool}{c:Nat}(h:D2 l c=true):c<l.length:=by
 unfold D2 at h;apply Classical.byContradiction;intro a;rw[IK (by omega)]at h;cases h
theorem tF{g:Graph}{l:List Bool}(f:related g=true)(e:l.length=g.length)(h:aA g l=l):d5 g l:=by
 intro c b p d;have a:=qX g _ l h c (IA.2 (by rw[<-e];exact oC b));unfold P6 at a;rw[A4 b]at a;rw[<-a,S2];have:=(H2 f c).1 p d;rw[IH];right;rw[HR,decide_eq_true_eq,List.any_eq_true];exact⟨by omega,p,d,by simp⟩
theorem eH{g:Graph}{l:List Bool}(h:d5 g l):aA g l=l:=by
 have d:∀(b:List Nat),b.foldl (P6 g) l=l:=by
  intro b;induction b with
  | nil=>rfl
  | cons c r i =>
   rw[IS];have:P6 g l c=l:=by
    unfold P6;split
    ·rename_i f;refine qU ⟨M9 _ _,fun x a=>?_⟩ (fI _ _);rw[S2,IH,HR,List.any_eq_true]at a;rcases a with a | ⟨_,p,hp,e⟩
     ·exact a
     ·rw[<-A0 e];exact h c f p hp
    ·rfl
   rw[this];exact i
 exact d _
theorem gE{g:Graph}(b:related g=true):∀(k:Nat) {l:List Bool},l.length=g.length->d5 g (N3 g k l)\/l.countP id+k<=(N3 g k l).countP id
 | 0,l,_=>.inr (by simp[N3])
 | k+1,l,hl=>by
  rw[N3];rcases aU (eG g (List.range g.length) l) with e | e
  ·left;have a:d5 g l:=tF b hl e.symm;rw[show aA g l=l from e.symm];have:∀k,N3 g k l=l:=fun k=>by
    induction k with
    | zero=>rfl
    | succ k d=>rw[N3,eH a];exact d
   rw[this];exact a
  ·rcases gE b k (l:=aA g l) (by rw[jW];exact hl) with h | h
   ·exact .inl h
   ·right;have e:l.countP id<(aA g l).countP id:=e;omega
theorem oD{g:Graph}(j:related g=true)(s:List Int)(m:∀f∈s,0<=f/\f<g.length):d5 g (G6 g s):=by
 by_cases i:s=[]
 ·subst i;have:d5 g (List.replicate g.length false):=fun c d=>by
   unfold D2 at d;rw[List.getElem?_replicate]at d;split at d<;>cases d
  have e:∀k,N3 g k (List.replicate g.length false)=List.replicate g.length false:=fun k=>by
   induction k with
   | zero=>rfl
   | succ k q=>rw[N3,eH this];exact q
  unfold G6;show d5 g (N3 g g.length (List.replicate g.length false));rw[e];exact this
 ·rcases gE j g.length (l:=M8 s (List.replicate g.length false)) (by rw[M9];simp) with h | h
  ·exact h
  ·obtain⟨f,r,rfl⟩:=List.exists_cons_of_ne_nil i;have v:(N3 g g.length (M8 (f::r) (List.replicate g.length false))).countP id<=g.length:=by
    have:=List.countP_le_length (p:=id) (l:=N3 g g.length (M8 (f::r) (List.replicate g.length false)));rw[aT,M9,IN]at this;exact this
   have w:0<(M8 (f::r) (List.replicate g.length false)).countP id:=by
    rw[List.countP_pos_iff];have x:=m f (by simp);have a:D2 (M8 (f::r) (List.replicate g.length false)) f.toNat=true:=by
     rw[S2,IH];right;rw[HR,decide_eq_true_eq,List.any_eq_true];exact⟨by rw[IN];omega,f,by simp,by simp⟩
    have b:=oC a;unfold D2 at a;rw[HQ b]at a;exact⟨_,HT b,a⟩
   omega
theorem aV{g:Graph}(y:related g=true){s:List Int}(u:∀f∈s,0<=f/\f<g.length)(x:Nat):D2 (G6 g s) x=true↔∃f:Nat,(f:Int)∈s/\(f=x\/Reaches g f x):=by
 constructor
 ·let Good:List Bool->Prop:=fun l=>∀x,D2 l x=true->∃f:Nat,(f:Int)∈s/\(f=x\/Reaches g f x)
  have z:∀l c,Good l->Good (P6 g l c):=by
   intro l c h x a;unfold P6 at a;split at a
   ·rename_i B;rw[S2,IH,HR,List.any_eq_true]at a;rcases a with a | ⟨_,p,hp,e⟩
    ·exact h x a
    ·have e:=A0 e;have C:=(H2 y c).1 p hp;have v:((x:Nat):Int)=p:=by omega
     obtain⟨f,q,b⟩:=h c B;refine⟨f,q,.inr ?_⟩;rcases b with rfl | b
     ·exact .one (by rw[v];exact hp)
     ·exact .more b (by rw[v];exact hp)
   ·exact h x a
  have b:∀(t:List Nat) l,Good l->Good (t.foldl (P6 g) l):=by
   intro t;induction t with
   | nil=>exact fun l h=>h
   | cons c r j=>exact fun l h=>j _ (z l c h)
  have A:∀k l,Good l->Good (N3 g k l):=by
   intro k;induction k with
   | zero=>exact fun l h=>h
   | succ k j=>exact fun l h=>j _ (b _ l h)
  refine A _ _ (fun x a=>?_) x;rw[S2,IH,HR,List.any_eq_true]at a;rcases a with a | ⟨_,p,hp,e⟩
  ·unfold D2 at a;rw[List.getElem?_replicate]at a;split at a<;>cases a
  ·have e:=A0 e;have:=u p hp;exact⟨x,by rw[show ((x:Nat):Int)=p by omega];exact hp,.inl rfl⟩
 ·rintro⟨f,q,h⟩;have d:=oD y s u;have w:D2 (G6 g s) f=true:=by
   refine (qW g _ _).2 f ?_;rw[S2,IH];right;rw[HR,decide_eq_true_eq,List.any_eq_true];have:=u f q;exact⟨by rw[IN];omega,f,q,by simp⟩
  rcases h with rfl | h
  ·exact w
  ·induction h with
   | one h=>exact d _ w _ h
   | more _ b j=>exact d _ j _ b
def cyclic(g:Graph):Bool:=(List.range g.length).any fun c=>decide (C6 g c≠[])&&D2 (G6 g (C6 g c)) c
theorem cQ{g:Graph}(k:related g=true):cyclic g=true↔∃c,Reaches g c c:=by
 unfold cyclic;rw[List.any_eq_true];constructor
 ·rintro⟨c,_,h⟩;rw[HR]at h;obtain⟨f,j,d⟩:=(aV k (H2 k c).1 c).1 h.2;rcases d with rfl | d
  ·exact⟨f,.one j⟩
  ·exact⟨c,(Reaches.one j).trans d⟩
 ·rintro⟨c,h⟩;have q:=(h.lt k).1;refine⟨c,IA.2 q,?_⟩;have u:∀{a b:Nat},Reaches g a b->∃f:Nat,(f:Int)∈C6 g a/\(f=b\/Reaches g f b):=by
   intro a b h;induction h with
   | one h=>exact⟨_,h,.inl rfl⟩
   | more _ d v =>
    obtain⟨f,j,p⟩:=v;refine⟨f,j,.inr ?_⟩;rcases p with rfl | p
    ·exact .one d
    ·exact .more p d
  obtain⟨f,j,d⟩:=u h;rw[HR,decide_eq_true_eq];exact⟨(fun e=>by rw[e]at j;cases j),(aV k (H2 k c).1 c).2 ⟨f,j,d⟩⟩
def eI(g:Graph)(ex:List Int)(p:Nat):Nat:=(List.range g.length).countP fun c:Nat=>decide ((c:Int)∉ex/\(p:Int)∈C6 g c)
theorem mE{g:Graph}{ex:List Int}{x p:Nat}(f:(x:Int)∉ex)(a:x<g.length):eI g ex p=eI g (ex++[(x:Int)]) p+(if (p:Int)∈C6 g x then 1 else 0):=by
 unfold eI;rw[cP (q:=fun c:Nat=>decide ((c:Int)∉ex/\(p:Int)∈C6 g c)) (r:=fun c:Nat=>decide ((c:Int)∉ex++[(x:Int)]/\(p:Int)∈C6 g c)) x (fun y=>?_) List.nodup_range]
 ·congr 1
  simp only[IA,a,true_and,decide_eq_true_eq,f,not_false_eq_true]
 ·simp only[HV,List.mem_singleton];by_cases b:(y:Int)∈ex<;>by_cases d:y=x<;>by_cases e:(p:Int)∈C6 g y<;>simp[b,d,e]<;>omega
theorem zD{g:Graph}{ex:List Int}{p:Nat}(h:0<eI g ex p):∃c,c<g.length/\(c:Int)∉ex/\(p:Int)∈C6 g c:=by
 unfold eI at h;rw[List.countP_pos_iff]at h;obtain⟨c,a,h⟩:=h;have:=A0 h;exact⟨c,IA.1 a,this.1,this.2⟩
theorem mF{g:Graph}{ex:List Int}{p:Nat}(h:eI g ex p=0){c:Nat}(a:c<g.length)(d:(p:Int)∈C6 g c):(c:Int)∈ex:=by
 apply Classical.byContradiction;intro b;have:0<eI g ex p:=by
  unfold eI;rw[List.countP_pos_iff];exact⟨c,IA.2 a,by simp[b,d]⟩
 omega
structure KInv (g:Graph) (k i:Nat) (ch:List Int) (out:List Int):Prop where
 len:ch.length=g.length
 nodup:out.Nodup
 rng:∀x∈out,0<=x/\x<g.length
 cnt:∀p,p<g.length->ch[p]?.getD 0+(if (p:Int)∈(C6 g (out.getD k 0).toNat).take i then 1 else 0)=eI g (out.take k) p
 zero:∀p,p<g.length->((p:Int)∈out↔ch[p]?.getD 0=0)
 kids:∀j (h:j<out.length) (c:Nat),out[j]∈C6 g c->(c:Int)∈out.take j
theorem minimal{R:Nat->Nat->Prop}(i:∀a b c,R a b->R b c->R a c)(g:∀a,¬R a a):∀{M:List Nat},M≠[]->∃m∈M,∀x∈M,¬R x m
 | [],h=>absurd rfl h
 | [a],_=>⟨a,by simp,fun x d=>by rw[List.mem_singleton.1 d];exact g a⟩
 | a::b::r,_=>by
  obtain⟨m,j,h⟩:=minimal i g (M:=b::r) (by simp);by_cases e:R a m
  ·refine⟨a,by simp,fun x d f=>?_⟩;rcases HZ.1 d with rfl | d
   ·exact g _ f
   ·exact h x d (i _ _ _ f e)
  ·refine⟨m,List.mem_cons_of_mem _ j,fun x d=>?_⟩;rcases HZ.1 d with rfl | d
   ·exact e
   ·exact h x d
theorem KInv.done{g:Graph}(O:related g=true){Q b:List Int}(h:KInv g b.length 0 Q b):(decide (b.length<g.length))=cyclic g:=by
 cases z:cyclic g
 ·rw[decide_eq_false_iff_not];intro A;have N:∀c,¬Reaches g c c:=fun c d=>by rw[(cQ O).2 ⟨c,d⟩]at z;cases z
  let M:=(List.range g.length).filter fun c:Nat=>decide ((c:Int)∉b);have W:M≠[]:=by
   intro e;have w:∀c,c<g.length->(c:Int)∈b:=fun c z=>by
    apply Classical.byContradiction;intro U;have:c∈M:=List.mem_filter.2 ⟨IA.2 z,by simp[U]⟩;rw[e]at this;cases this
   have:=aS (l:=(List.range g.length).map fun i:Nat=>(i:Int)) (m:=b) ((List.nodup_range).map (fun i:Nat=>(i:Int)) (fun _ _ L e=>L (Int.ofNat.inj e))) fun x Y=>by
    obtain⟨i,k,rfl⟩:=IQ.1 Y;exact w i (IA.1 k)
   rw[IX,IW]at this;omega
  obtain⟨m,X,B⟩:=minimal (R:=Reaches g) (fun _ _ _ F C=>F.trans C) N W;obtain⟨q,u⟩:=List.mem_filter.1 X;have q:=IA.1 q;have u:=A0 u;have F:=h.cnt m q;have C:¬Q[m]?.getD 0=0:=fun e=>u ((h.zero m q).2 e);rw[HX,List.take_zero,A5 (by simp),Int.add_zero]at F;obtain⟨c,G,H,I⟩:=zD (g:=g) (ex:=b) (p:=m) (by omega);exact B c (List.mem_filter.2 ⟨IA.2 G,by simp[H]⟩) (.one I)
 ·rw[decide_eq_true_eq];obtain⟨c,d⟩:=(cQ O).1 z;apply Classical.byContradiction;intro U;have K:=zC h.nodup h.rng (by omega) c (d.lt O).1;have P:∀{x y:Nat},Reaches g x y->∀j (s:j<b.length),b[j]=(y:Int)->∃i,∃k:i<b.length,i<j/\b[i]=(x:Int):=by
   have one:∀{x y:Nat},(y:Int)∈C6 g x->∀j (s:j<b.length),b[j]=(y:Int)->∃i,∃k:i<b.length,i<j/\b[i]=(x:Int):=by
    intro x y v j s e;have:=h.kids j s x (by rw[e];exact v);obtain⟨i,k,S⟩:=List.getElem_of_mem this;rw[IF]at k;rw[List.getElem_take]at S;exact⟨i,by omega,by omega,S⟩
   intro x y v;induction v with
   | one h=>exact one h
   | more _ C ih =>
    intro j s e;obtain⟨i,k,A,E⟩:=one C j s e;obtain⟨Z,J,T,V⟩:=ih i k E;exact⟨Z,J,by omega,V⟩
  obtain⟨j,s,e⟩:=List.getElem_of_mem K;obtain⟨i,k,A,E⟩:=P d j s e;have:=(List.getElem_inj (i:=i) (j:=j) (h₀:=k) (h₁:=s) h.nodup).1 (E.trans e.symm);omega
def I1(l:List Int)(p:Nat):Int:=l[p]?.getD 0
def bump(l:List Int)(p:Int):List Int:=l.set p.toNat (I1 l p.toNat+1)
def T9(l:List Int)(p:Int):List Int:=l.set p.toNat (I1 l p.toNat-1)
def N6(ps:List Int)(l:List Int):List Int:=ps.foldl bump l
def J0(g:Graph)(i:Nat):List Int:=(g.take i).foldl (fun l c=>N6 c.Parents l) (List.replicate g.length 0)
theorem d6{l:List Int}{i p:Nat}{v:Int}(h:i<l.length):I1 (l.set i v) p=if i=p then v else I1 l p:=by
 unfold I1;rw[List.getElem?_set];split
 ·rename_i e;subst e;simp[h]
 ·rfl
theorem aB:∀(ps:List Int) (l:List Int),(N6 ps l).length=l.length
 | [],_=>rfl
 | p::r,l=>by show (N6 r (bump l p)).length=_;rw[aB r];simp[bump]
theorem cR{n:Int}:∀{ps:List Int} {l:List Int},(∀p∈ps,0<=p/\p<l.length)->ps.Nodup->∀p:Nat,I1 (N6 ps l) p=I1 l p+(if (p:Int)∈ps then 1 else 0)
 | [],l,_,_,p=>by simp[N6]
 | q::r,l,h,b,p=>by
  show I1 (N6 r (bump l q)) p=_;have f:=h q (by simp);have b:=List.nodup_cons.1 b;rw[cR (n:=n) (fun x d=>by have:=h x (by simp[d]);simpa[bump] using this) b.2 p];unfold bump;rw[d6 (by omega)];by_cases e:q.toNat=p
  ·have a:(p:Int)=q:=by omega
   have c:¬(p:Int)∈r:=by rw[a];exact b.1
   rw[A4 e,A5 c,a,A4 (by simp),e];omega
  ·have a:((p:Int)∈q::r)↔(p:Int)∈r:=by
    rw[HZ];exact⟨fun h=>h.resolve_left (by omega),.inr⟩
   rw[A5 e];simp only[a]
theorem Y1(g:Graph):∀i,(J0 g i).length=g.length:=by
 intro i;unfold J0;have b:∀(a:List Commit) (l:List Int),(a.foldl (fun l c=>N6 c.Parents l) l).length=l.length:=by
  intro a;induction a with
  | nil=>intro l;rfl
  | cons c r d=>intro l;rw[IS,d,aB]
 rw[b];simp
theorem bS{g:Graph}{i:Nat}(a:i<g.length):J0 g (i+1)=N6 (C6 g i) (J0 g i):=by
 unfold J0;rw[List.take_add_one,HQ a,Option.toList_some,JJ,W4 a];rfl
theorem aC{g:Graph}(b:related g=true)(p:Nat)(a:p<g.length):∀i,i<=g.length->I1 (J0 g i) p=((List.range i).countP fun c:Nat=>decide ((p:Int)∈C6 g c):Nat)
 | 0,_=>by
  unfold J0 I1;simp[List.getElem?_replicate,a]
 | i+1,hi=>by
  have hpr:=H2 b i;rw[bS (by omega),cR (n:=0) (fun q d=>by rw[Y1];exact hpr.1 q d) hpr.2,aC b p a i (by omega),JR,List.countP_append];by_cases h:(p:Int)∈C6 g i<;>simp[h]
theorem gF{g:Graph}(b:related g=true)(p:Nat)(a:p<g.length):I1 (J0 g g.length) p=eI g [] p:=by
 rw[aC b p a _ (Nat.le_refl _)];unfold eI;simp
def M4(b:List Int)(i:Nat):List Int:=((List.range i).filter fun c=>decide (I1 b c=0)).map fun c:Nat=>(c:Int)
theorem oE(a:List Int)(i:Nat):M4 a (i+1)=if I1 a i=0 then M4 a i++[(i:Int)] else M4 a i:=by
 unfold M4;rw[JR,List.filter_append,JI];by_cases h:I1 a i=0<;>simp[h]
theorem gG(a:List Int)(i p:Nat):(p:Int)∈M4 a i↔p<i/\I1 a p=0:=by
 unfold M4;rw[IQ];constructor
 ·rintro⟨c,b,e⟩;have e:c=p:=Int.ofNat.inj e;subst e;rw[List.mem_filter,IA,decide_eq_true_eq]at b;exact b
 ·rintro⟨d,f⟩;exact⟨p,by rw[List.mem_filter,IA,decide_eq_true_eq];exact⟨d,f⟩,rfl⟩
theorem aD{b:List Int}{i:Nat}:∀x∈M4 b i,0<=x/\x<i:=by
 intro x a;unfold M4 at a;obtain⟨c,d,rfl⟩:=IQ.1 a;have:=IA.1 (List.mem_filter.1 d).1;omega
theorem bT(c:List Int)(i:Nat):(M4 c i).Nodup:=by
 unfold M4;exact (List.nodup_range.filter _).map (fun i:Nat=>(i:Int)) fun _ _ b e=>b (Int.ofNat.inj e)
theorem qY(a:List Int)(i:Nat):(M4 a i).length<=i:=V9 (bT a i) aD
theorem KInv.start{g:Graph}(l:related g=true):KInv g 0 0 (J0 g g.length) (M4 (J0 g g.length) g.length) where
 len:=Y1 g _
 nodup:=bT _ _
 rng:=aD
 cnt:=fun p e=>by
  have:=gF l p e;unfold I1 at this;rw[this,List.take_zero,List.take_zero];simp
 zero:=fun p e=>by
  have:=gG (J0 g g.length) g.length p;rw[this];exact⟨fun h=>h.2,fun h=>⟨e,h⟩⟩
 kids:=fun j k c b=>by
  have f:=aD _ (HT k);have i:=(gG (J0 g g.length) g.length ((M4 (J0 g g.length) g.length)[j]).toNat).1 (by rw[Int.toNat_of_nonneg f.1];exact HT k);rw[gF l _ i.1]at i;have d:c<g.length:=by
   apply Classical.byContradiction;intro m;rw[z8 m]at b;cases b
  have:=mF (g:=g) (ex:=[]) (p:=((M4 (J0 g g.length) g.length)[j]).toNat) (by omega) d (by rw[Int.toNat_of_nonneg f.1];exact b);cases this
theorem KInv.le{g:Graph}{k i:Nat}{b a:List Int}(h:KInv g k i b a):a.length<=g.length:=V9 h.nodup h.rng
theorem W6{α:Type}{l m:List α}{k:Nat}(h:k<=l.length):(l++m).take k=l.take k:=by rw[List.take_append_of_le_length h]
theorem qZ{α:Type}{l m:List α}{k:Nat}{d:α}(h:k<l.length):(l++m).getD k d=l.getD k d:=by
 rw[HY,HY,IJ h]
theorem N0{α:Type}{l:List α}{i:Nat}{x:α}(h:i<l.length):x∈l.take (i+1)↔x∈l.take i\/x=l[i]:=by
 rw[List.take_add_one,HQ h,Option.toList_some,HV,List.mem_singleton]
theorem N7{α:Type}{l:List α}(c:l.Nodup){i:Nat}(h:i<l.length):l[i]∉l.take i:=by
 intro b;obtain⟨j,a,e⟩:=List.getElem_of_mem b;rw[IF]at a;rw[List.getElem_take]at e;have:=(List.getElem_inj (i:=j) (j:=i) (h₀:=by omega) (h₁:=h) c).1 e;omega
theorem KInv.step{g:Graph}(Y:related g=true){k i:Nat}{f b:List Int}(h:KInv g k i f b)(E:k<b.length){c p:Nat}(K:b[k]=(c:Int))(G:i<(C6 g c).length)(H:(C6 g c)[i]=(p:Int)) :
  p<g.length/\1<=I1 f p/\I1 f p<=g.length/\KInv g k (i+1) (T9 f p) (if I1 f p-1=0 then b++[(p:Int)] else b):=by
 have hpr:=H2 Y c;have hpm:(p:Int)∈C6 g c:=by rw[<-H];exact HT G
 have m:p<g.length:=by have:=hpr.1 p hpm;omega
 have A:c<g.length:=by have:=h.rng b[k] (HT E);omega
 have v:b.getD k 0=(c:Int):=by rw[HY,HQ E];exact K
 have P:(c:Int)∉b.take k:=by rw[<-K];exact N7 h.nodup E
 have O:(p:Int)∉(C6 g c).take i:=by rw[<-H];exact N7 hpr.2 G
 have S:=h.cnt p m;rw[v,HS,A5 O]at S;have T:=mE (g:=g) (ex:=b.take k) (x:=c) (p:=p) P A;rw[A4 hpm]at T;have W:eI g (b.take k) p<=g.length:=by
  unfold eI;have:=List.countP_le_length (p:=fun c:Nat=>decide ((c:Int)∉b.take k/\(p:Int)∈C6 g c)) (l:=List.range g.length)
  rwa[IW]at this
 have V:I1 f p=f[p]?.getD 0:=rfl;have L:1<=I1 f p:=by omega
 have o:(p:Int)∉b:=fun s=>by have:=(h.zero p m).1 s;omega
 have F:∀q,I1 (T9 f p) q=if p=q then I1 f p-1 else I1 f q:=fun q=>by
  unfold T9;rw[HS,d6 (by rw[h.len];exact m)]
 refine⟨m,L,by omega,?_⟩;have w:(if I1 f p-1=0 then b++[(p:Int)] else b).take k=b.take k:=by split<;>first | exact W6 (by omega) | rfl
 have B:(if I1 f p-1=0 then b++[(p:Int)] else b).getD k 0=b.getD k 0:=by split<;>first | exact qZ E | rfl
 refine⟨by unfold T9;rw[IT];exact h.len,?_,?_,?_,?_,?_⟩
 ·split
  ·exact List.nodup_append.2 ⟨h.nodup,by simp,fun x d y Z e=>by rw[List.mem_singleton.1 Z]at e;exact o (e ▸ d)⟩
  ·exact h.nodup
 ·intro x d;split at d
  ·rcases HV.1 d with d | d
   ·exact h.rng x d
   ·rw[List.mem_singleton.1 d];omega
  ·exact h.rng x d
 ·intro q Q;rw[w,B,v,HS];have I:=F q;have J:I1 (T9 f p) q=(T9 f p)[q]?.getD 0:=rfl;rw[<-J,I];by_cases e:p=q
  ·subst e;rw[A4 rfl,A4 ((N0 G).2 (.inr H.symm))];omega
  ·rw[A5 e];have z:=h.cnt q Q;rw[v,HS]at z;have U:((q:Int)∈(C6 g c).take (i+1))↔(q:Int)∈(C6 g c).take i:=by
    rw[N0 G,H];exact⟨fun h=>h.resolve_right (by omega),.inl⟩
   simp only[U];exact z
 ·intro q Q;have I:=F q;have J:I1 (T9 f p) q=(T9 f p)[q]?.getD 0:=rfl;rw[<-J,I];by_cases e:p=q
  ·subst e;rw[A4 rfl];split
   ·rename_i u;simp[u]
   ·rename_i u;exact⟨fun s=>absurd s o,fun e=>absurd e u⟩
  ·rw[A5 e];have z:=h.zero q Q;split
   ·rw[HV,List.mem_singleton];exact⟨fun s=>z.1 (s.resolve_right (by omega)),fun e=>.inl (z.2 e)⟩
   ·exact z
 ·intro j M x d;split at M
  ·rename_i u;simp only[u,if_true]at d ⊢;by_cases C:j<b.length
   ·rw[List.getElem_append_left C]at d;rw[W6 (by omega)];exact h.kids j C x d
   ·have N:j=b.length:=by rw[HW,List.length_singleton]at M;omega
    subst N;rw[JO (Nat.le_refl _)]at d;simp only[JN,List.getElem_cons_zero]at d;have R:x<g.length:=by
     apply Classical.byContradiction;intro X;rw[z8 X]at d;cases d
    have hz:eI g (b.take k++[(c:Int)]) p=0:=by omega
    have:=mF hz R d;rw[W6 (Nat.le_refl _),HX];rcases HV.1 this with s | s
    ·exact List.mem_of_mem_take s
    ·rw[List.mem_singleton.1 s,<-K];exact HT E
  ·rename_i u;simp only[u,if_false]at d ⊢;exact h.kids j M x d
theorem KInv.next{g:Graph}{k:Nat}{m a:List Int}(d:k<a.length){c:Nat}(f:a[k]=(c:Int))(h:KInv g k (C6 g c).length m a):KInv g (k+1) 0 m a where
 len:=h.len
 nodup:=h.nodup
 rng:=h.rng
 cnt:=fun p r=>by
  have o:=h.cnt p r;have i:a.getD k 0=(c:Int):=by rw[HY,HQ d];exact f
  have b:c<g.length:=by have:=h.rng a[k] (HT d);omega
  rw[i,HS,HX]at o;have q:=mE (g:=g) (ex:=a.take k) (x:=c) (p:=p) (by rw[<-f];exact N7 h.nodup d) b;have e:a.take (k+1)=a.take k++[(c:Int)]:=by rw[List.take_add_one,HQ d,Option.toList_some,f]
  rw[e,List.take_zero,A5 (by simp)];split at o
  ·rename_i j;rw[A4 j]at q;omega
  ·rename_i j;rw[A5 j]at q;omega
 zero:=h.zero
 kids:=h.kids
def P0:List Commit->Int
 | []=>0
 | c::r=>if E7 c.Files≠0 then E7 c.Files else P0 r
def P1(g:Graph):Bool:=decide (g.length<=300)&&!g.any fun c=>decide (c.Parents.length>32)
def s6(g:Graph):Bool:=g.any fun c=>decide (c.Date<0\/c.Date>2147483647)
def G4(g:Graph):Int:=if P1 g=false then 1 else if related g=false then 230 else if cyclic g=true then 231 else if s6 g=true then 3 else P0 g
theorem bU:∀{g:List Commit},P0 g=0->∀c∈g,E7 c.Files=0
 | [],_,_,hc=>by cases hc
 | d::r,h,c,hc=>by
  unfold P0 at h;split at h
  ·rename_i a;exact absurd h a
  ·rename_i a;rcases HZ.1 hc with rfl | hc
   ·simpa using a
   ·exact bU h c hc
structure Valid (g:Graph):Prop where
 len:g.length<=300
 pars:∀c∈g,c.Parents.length<=32
 rel:related g=true
 acyc:∀c,¬Reaches g c c
 tree:∀c∈g,E7 c.Files=0
theorem jX{g:Graph}(h:G4 g=0):Valid g:=by
 unfold G4 at h;split at h
 ·cases h
 ·rename_i a;split at h
  ·cases h
  ·rename_i d;split at h
   ·cases h
   ·rename_i e;split at h
    ·cases h
    ·have a:P1 g=true:=by simpa using a
     unfold P1 at a;rw[HR,decide_eq_true_eq]at a;have d:related g=true:=by simpa using d
     refine⟨a.1,fun c b=>?_,d,fun c b=>e ((cQ d).2 ⟨c,b⟩),fun c b=>bU h c b⟩;apply Classical.byContradiction;intro f;have:g.any (fun c=>decide (c.Parents.length>32))=true:=List.any_eq_true.2 ⟨c,b,by simp;omega⟩;rw[this]at a;cases a.2
structure CHunk where
 At:List Int
 Rows:List Row
 deriving DecidableEq
structure Comb where
 Path:Str
 Dense:Bool
 Parents:Int
 Hunks:List CHunk
 deriving DecidableEq
def DC(n k:Nat):Int:=if k=n then -1 else k
def GK(a:List Row)(n k:Nat):Int:=(FD a (DC n k)).length
structure CRead (n:Nat) (h:CHunk):Prop where
 len:h.At.length=n+1
 ne:h.Rows≠[]
 GW:∀k,k<n+1->0<=h.At.getD k 0/\h.At.getD k 0+GK h.Rows n k<=4096
 rows:∀r∈h.Rows,CT n r=true/\R6 r.Text=true
abbrev S3:Bool->Nat->Cell:=fun b _=>.v (.bool b)
abbrev oF(l:List Bool):PV:=.one (.list Bool 1 S3 l)
def X6(l:List Int)(i j:Nat):List Int:=(l.set i (I1 l j)).set j (I1 l i)
def FJ(a:Int->Int->Bool):Nat->List Int->Nat->List Int
 | 0,l,_=>l
 | f+1,l,j=>if (j-1) / 2=j\/a (I1 l j) (I1 l ((j-1) / 2))=false then l else FJ a f (X6 l ((j-1) / 2) j) ((j-1) / 2)
def kU(bf:Int->Int->Bool)(n:Nat)(l:List Int)(i:Nat):Nat:=if 2*i+2<n/\bf (I1 l (2*i+2)) (I1 l (2*i+1))=true then 2*i+2 else 2*i+1
def jY(bf:Int->Int->Bool)(n:Nat):Nat->List Int->Nat->List Int
 | 0,l,_=>l
 | f+1,l,i=>if n<=2*i+1 then l else if bf (I1 l (kU bf n l i)) (I1 l i)=false then l else jY bf n f (X6 l i (kU bf n l i)) (kU bf n l i)
def rA(a:Int->Int->Bool)(l:List Int)(x:Int):List Int:=FJ a (l.length+1) (l++[x]) l.length
def rB(a:Int->Int->Bool)(l:List Int):List Int:=jY a (l.length-1) l.length (X6 l 0 (l.length-1)) 0
theorem L4(l:List Int)(i j:Nat):(X6 l i j).length=l.length:=by simp[X6]
theorem P9{l:List Int}{i j:Nat}(a:i<l.length)(b:j<l.length)(k:Nat):I1 (X6 l i j) k=if k=j then I1 l i else if k=i then I1 l j else I1 l k:=by
 unfold X6;rw[d6 (by rw[IT];exact b),d6 a];simp only[@eq_comm Nat j k,@eq_comm Nat i k]
theorem P4{l:List Int}{k:Nat}(h:k<l.length):I1 l k=l[k]:=by unfold I1;rw[HQ h];rfl
theorem wO{l:List Int}{i j:Nat}(a:i<l.length)(b:j<l.length)(x:Int):x∈X6 l i j↔x∈l:=by
 have sub:∀{l:List Int} {i j:Nat},i<l.length->j<l.length->∀x,x∈X6 l i j->x∈l:=by
  intro l i j a b x g;obtain⟨k,d,e⟩:=List.getElem_of_mem g;rw[<-P4 d,P9 a b]at e;rw[L4]at d;split at e
  ·rw[<-e,P4 a];exact HT a
  ·split at e
   ·rw[<-e,P4 b];exact HT b
   ·rw[<-e,P4 d];exact HT d
 refine⟨sub a b x,fun g=>?_⟩;have e:X6 (X6 l i j) i j=l:=by
  refine List.ext_getElem (by rw[L4,L4]) fun k h m=>?_;rw[<-P4 h,<-P4 m,P9 (by rw[L4];exact a) (by rw[L4];exact b),P9 a b,P9 a b,P9 a b];by_cases f:k=j
  ·subst f;rw[A4 rfl];by_cases c:i=k
   ·rw[A4 c,c]
   ·rw[A5 c,A4 rfl]
  ·rw[A5 f];by_cases c:k=i
   ·rw[A4 c,A4 rfl,c]
   ·rw[A5 c,A5 f,A5 c]
 exact sub (by rw[L4];exact a) (by rw[L4];exact b) x (by rw[e];exact g)
theorem zE{l:List Int}:l.Nodup↔∀i j,i<l.length->j<l.length->I1 l i=I1 l j->i=j:=by
 constructor
 ·intro h i j a b e;rw[P4 a,P4 b]at e;exact (List.getElem_inj h).1 e
 ·intro h;rw[List.Nodup,List.pairwise_iff_getElem];intro i j a b c e;have:=h i j a b (by rw[P4 a,P4 b];exact e);omega
theorem rC{l:List Int}{i j:Nat}(f:i<l.length)(g:j<l.length)(h:l.Nodup):(X6 l i j).Nodup:=by
 rw[zE]at h ⊢;intro a b ha hb e;rw[L4]at ha hb;rw[P9 f g,P9 f g]at e;by_cases k:a=j<;>by_cases m:b=j
 ·omega
 ·rw[A4 k,A5 m]at e;by_cases c:b=i
  ·rw[A4 c]at e;have:=h _ _ f g e;omega
  ·rw[A5 c]at e;have:=h _ _ f hb e;omega
 ·rw[A5 k,A4 m]at e;by_cases a2:a=i
  ·rw[A4 a2]at e;have:=h _ _ g f e;omega
  ·rw[A5 a2]at e;have:=h _ _ ha f e;omega
 ·rw[A5 k,A5 m]at e;by_cases a2:a=i<;>by_cases c:b=i
  ·omega
  ·rw[A4 a2,A5 c]at e;have:=h _ _ g hb e;omega
  ·rw[A5 a2,A4 c]at e;have:=h _ _ ha g e;omega
  ·rw[A5 a2,A5 c]at e;exact h _ _ ha hb e
structure SameL (l m:List Int):Prop where
 len:m.length=l.length
 mem:∀x,x∈m↔x∈l
 nodup:l.Nodup->m.Nodup
theorem SameL.refl(l:List Int):SameL l l:=⟨rfl,fun _=>Iff.rfl,id⟩
theorem SameL.trans{a b c:List Int}(h:SameL a b)(d:SameL b c):SameL a c:=⟨d.len.trans h.len,fun x=>(d.mem x).trans (h.mem x),fun e=>d.nodup (h.nodup e)⟩
theorem SameL.swap{l:List Int}{i j:Nat}(a:i<l.length)(b:j<l.length):SameL l (X6 l i j):=⟨L4 l i j,wO a b,rC a b⟩
structure Weak (bf:Int->Int->Bool):Prop where
 irr:∀a,bf a a=false
 asy:∀{a b},bf a b=true->bf b a=false
 ntr:∀{a b c},bf a b=false->bf b c=false->bf a c=false
def eJ(bf:Int->Int->Bool)(n:Nat)(l:List Int):Prop:=∀k,k<n->0<k->bf (I1 l k) (I1 l ((k-1) / 2))=false
theorem wP{a:Int->Int->Bool}(w:Weak a){n:Nat}{l:List Int}(h:eJ a n l):∀k,k<n->a (I1 l k) (I1 l 0)=false:=by
 intro k;induction k using Nat.strongRecOn with
 | _ k d =>
  intro c;by_cases b:k=0
  ·subst b;exact w.irr _
  ·exact w.ntr (h k c (by omega)) (d ((k-1) / 2) (by omega) (by omega))
theorem rD{g:Int->Int->Bool}(w:Weak g){n:Nat}:∀(f j:Nat) (l:List Int),j<f->j<n->n<=l.length ->
  (∀k,k<n->0<k->k≠j->g (I1 l k) (I1 l ((k-1) / 2))=false)->(∀k,k<n->0<k->(k-1) / 2=j->0<j->g (I1 l k) (I1 l ((j-1) / 2))=false) ->
  eJ g n (FJ g f l j)/\SameL l (FJ g f l j)
 | 0,j,l,hf,_,_,_,_=>by omega
 | f + 1,j,l,hf,hj,hl,h1,h2=>by
  unfold FJ;split
  ·rename_i h;refine⟨fun k o m=>?_,SameL.refl l⟩;by_cases e:k=j
   ·subst e;rcases h with h | h
    ·omega
    ·exact h
   ·exact h1 k o m e
  ·rename_i h;have C:(j-1) / 2≠j:=fun e=>h (.inl e);have q:g (I1 l j) (I1 l ((j-1) / 2))=true:=by
    cases hb:g (I1 l j) (I1 l ((j-1) / 2))
    ·exact absurd (.inr hb) h
    ·rfl
   have B:(j-1) / 2<l.length:=by omega
   have p:j<l.length:=by omega
   have d:=P9 B p
   obtain⟨a,b⟩:=rD (n:=n) w f ((j-1) / 2) (X6 l ((j-1) / 2) j) (by omega) (by omega) (by rw[L4];exact hl) (fun k o m u=>by
    rw[d,d];by_cases c:k=j
    ·rw[A4 c,c,A5 (by omega),A4 rfl];exact w.asy q
    ·rw[A5 c,A5 u];by_cases x:(k-1) / 2=j
     ·rw[A4 x];exact h2 k o m x (by omega)
     ·rw[A5 x];by_cases y:(k-1) / 2=(j-1) / 2
      ·rw[A4 y];have v:=h1 k o m c;rw[y]at v;exact w.ntr v (w.asy q)
      ·rw[A5 y];exact h1 k o m c) (fun k o m e v=>by
    rw[d,d,A5 (show ¬((j-1) / 2-1) / 2=j by omega),A5 (show ¬((j-1) / 2-1) / 2=(j-1) / 2 by omega)];have z:=h1 ((j-1) / 2) (by omega) v (by omega);by_cases c:k=j
    ·rw[A4 c];exact z
    ·rw[A5 c,A5 (by omega)];have A:=h1 k o m c;rw[e]at A
     exact w.ntr A z)
   exact⟨a,(SameL.swap B p).trans b⟩
theorem rE{a:Int->Int->Bool}(w:Weak a){l:List Int}(x:Int)(h:eJ a l.length l):eJ a (l.length+1) (rA a l x)/\SameL (l++[x]) (rA a l x):=by
 unfold rA;have b:∀k,k<l.length->I1 (l++[x]) k=I1 l k:=fun k c=>by unfold I1;rw[IJ c]
 refine rD w (n:=l.length+1) (l.length+1) l.length (l++[x]) (by omega) (by omega) (by simp) (fun k c d f=>?_) (fun k c d e g=>by omega);rw[b k (by omega),b _ (by omega)];exact h k (by omega) d
theorem AU{bf:Int->Int->Bool}{n:Nat}{l:List Int}{i:Nat}(h:2*i+1<n):kU bf n l i<n/\(kU bf n l i-1) / 2=i/\i<kU bf n l i:=by
 unfold kU;split<;>omega
theorem zF{bf:Int->Int->Bool}(w:Weak bf){n:Nat}{l:List Int}{i k:Nat}(d:k<n)(c:0<k)(e:(k-1) / 2=i):bf (I1 l k) (I1 l (kU bf n l i))=false:=by
 unfold kU;split
 ·rename_i h;by_cases a:k=2*i+2
  ·rw[a];exact w.irr _
  ·rw[show k=2*i+1 by omega];exact w.asy h.2
 ·rename_i h;by_cases a:k=2*i+1
  ·rw[a];exact w.irr _
  ·have b:k=2*i+2:=by omega
   rw[b];cases hb:bf (I1 l (2*i+2)) (I1 l (2*i+1))
   ·rfl
   ·exact absurd ⟨by omega,hb⟩ h
theorem jZ{bf:Int->Int->Bool}(w:Weak bf){n:Nat}:∀(f i:Nat) (l:List Int),n<=i+f->n<=l.length ->
  (∀k,k<n->0<k->(k-1) / 2≠i->bf (I1 l k) (I1 l ((k-1) / 2))=false)->(∀k,k<n->0<k->(k-1) / 2=i->0<i->bf (I1 l k) (I1 l ((i-1) / 2))=false) ->
  eJ bf n (jY bf n f l i)/\SameL l (jY bf n f l i)/\∀k,n<=k->I1 (jY bf n f l i) k=I1 l k
 | 0,i,l,hf,_,h1,h2=>by
  unfold jY;exact⟨fun k d g=>h1 k d g (by omega),SameL.refl l,fun _ _=>rfl⟩
 | f + 1,i,l,hf,hl,h1,h2=>by
  unfold jY;split
  ·exact⟨fun k d g=>h1 k d g (by omega),SameL.refl l,fun _ _=>rfl⟩
  ·rename_i E;obtain⟨z,o,C⟩:=AU (bf:=bf) (l:=l) (show 2*i+1<n by omega);have q:=fun k d g e=>zF (bf:=bf) w (n:=n) (l:=l) (i:=i) (k:=k) d g e;generalize kU bf n l i=j at z o C q;split
   ·rename_i h;refine⟨fun k d g=>?_,SameL.refl l,fun _ _=>rfl⟩;by_cases e:(k-1) / 2=i
    ·rw[e];exact w.ntr (q k d g e) h
    ·exact h1 k d g e
   ·rename_i h;have x:bf (I1 l j) (I1 l i)=true:=by simpa using h
    have A:i<l.length:=by omega
    have B:j<l.length:=by omega
    have m:=P9 A B
    obtain⟨a,b,c⟩:=jZ (n:=n) w f j (X6 l i j) (by omega) (by rw[L4];exact hl) (fun k d g y=>by
     rw[m,m];rw[A5 (show ¬(k-1) / 2=j from y)];by_cases u:k=j
     ·rw[A4 u];rw[u,A4 o];exact w.asy x
     ·rw[A5 u];by_cases p:(k-1) / 2=i
      ·rw[A4 p,A5 (by omega)];exact q k d g p
      ·rw[A5 p];by_cases v:k=i
       ·rw[A4 v,v];exact h2 j z (by omega) o (by omega)
       ·rw[A5 v];exact h1 k d g p) (fun k d g e D=>by
     rw[m,m,A5 (by omega),A5 (by omega),o,A5 (by omega),A4 rfl];have:=h1 k d g (by omega)
     rw[e]at this;exact this)
    refine⟨a,(SameL.swap A B).trans b,fun k d=>?_⟩;rw[c k d,m,A5 (by omega),A5 (by omega)]
theorem AV{f:Int->Int->Bool}(w:Weak f){l:List Int}(h:eJ f l.length l)(p:0<l.length) :
  eJ f (l.length-1) (rB f l)/\SameL l (rB f l)/\I1 (rB f l) (l.length-1)=I1 l 0:=by
 unfold rB;have j:0<l.length:=p;have m:l.length-1<l.length:=by omega
 have d:=P9 j m
 obtain⟨a,b,c⟩:=jZ w (n:=l.length-1) l.length 0 (X6 l 0 (l.length-1)) (by omega) (by rw[L4];omega) (fun k o g i=>by
  rw[d,d,A5 (by omega),A5 (by omega),A5 (by omega),A5 i]
  exact h k (by omega) g) (fun k o g e q=>by omega)
 refine⟨a,(SameL.swap j m).trans b,?_⟩;rw[c _ (Nat.le_refl _),d,A4 rfl]
def j8(g:Graph)(c:Nat):Int:=(g[c]?.map (·.Date)).getD 0
def aZ(g:Graph)(a b:Int):Bool:=decide (j8 g a.toNat>j8 g b.toNat\/(j8 g a.toNat=j8 g b.toNat/\a<b))
theorem aW(g:Graph):Weak (aZ g) where
 irr:=fun a=>by unfold aZ;rw[decide_eq_false_iff_not];omega
 asy:=fun {a b} h=>by unfold aZ at h ⊢;rw[decide_eq_true_eq]at h;rw[decide_eq_false_iff_not];omega
 ntr:=fun {a b c} h d=>by unfold aZ at h d ⊢;rw[decide_eq_false_iff_not]at h d ⊢;omega
def Z3(g:Graph)(inn:List Bool)(L:List Int)(c:Nat):Bool:=D2 inn c&&decide ((c:Int)∉L)&&(List.range g.length).all fun k=>!(decide ((c:Int)∈C6 g k)&&D2 inn k&&decide ((k:Int)∉L))
def cS(g:Graph)(b:List Bool)(L:List Int):Nat->Int
 | 0 => -1
 | m+1=>if Z3 g b L m=true/\(cS g b L m<0\/j8 g m>j8 g (cS g b L m).toNat) then m else cS g b L m
def mG(g:Graph)(a:List Bool)(L:List Int):Int:=cS g a L g.length
theorem fJ(g:Graph)(d:List Bool)(L:List Int):∀m,(cS g d L m = -1/\∀c,c<m->Z3 g d L c=false)\/∃b:Nat,b<m/\cS g d L m=b/\Z3 g d L b=true/\∀c,c<m->Z3 g d L c=true->c≠b->aZ g b c=true
 | 0=>.inl ⟨rfl,fun _ h=>by omega⟩
 | m + 1=>by
  rw[cS];rcases fJ g d L m with ⟨p,j⟩ | ⟨b,p,j,h3,h4⟩
  ·rw[p];cases q:Z3 g d L m
   ·rw[A5 (by simp)]
    exact .inl ⟨rfl,fun c k=>by
     by_cases e:c=m
     ·rw[e];exact q
     ·exact j c (by omega)⟩
   ·rw[A4 ⟨rfl,.inl (by omega)⟩];exact .inr ⟨m,by omega,rfl,q,fun c k a f=>by rw[j c (by omega)]at a;cases a⟩
  ·rw[j];split
   ·rename_i h;have o:j8 g m>j8 g b:=by
     rcases h.2 with h | h
     ·omega
     ·simpa using h
    refine .inr ⟨m,by omega,rfl,h.1,fun c k a f=>?_⟩;unfold aZ;rw[decide_eq_true_eq,HS,HS];by_cases e:c=b
    ·subst e;exact .inl o
    ·have:=A0 (h4 c (by omega) a e);rw[HS,HS]at this;omega
   ·rename_i h;refine .inr ⟨b,by omega,rfl,h3,fun c k a f=>?_⟩;by_cases e:c=m
    ·subst e;unfold aZ;rw[decide_eq_true_eq,HS,HS];have:¬j8 g c>j8 g b:=fun o=>h ⟨a,.inr (by simpa using o)⟩;omega
    ·exact h4 c (by omega) a f
theorem tG{g:Graph}{a:List Bool}{L:List Int}(h:∀c,c<g.length->Z3 g a L c=false):mG g a L = -1:=by
 rcases fJ g a L g.length with d | ⟨b,d,_,h3,_⟩
 ·exact d.1
 ·rw[h b d]at h3;cases h3
theorem zG{g:Graph}{a:List Bool}{L:List Int}{b:Nat}(hb:b<g.length)(f:Z3 g a L b=true)(h:∀c,c<g.length->Z3 g a L c=true->aZ g c b=false):mG g a L=b:=by
 rcases fJ g a L g.length with d | ⟨b',d,h2,h3,h4⟩
 ·rw[d.2 b hb]at f;cases f
 ·unfold mG;rw[h2];by_cases e:b=b'
  ·rw[e]
  ·have:=h4 b hb f e;rw[h b' d h3]at this;cases this
def gK(g:Graph)(inn:List Bool)(ex:List Int)(p:Nat):Nat:=(List.range g.length).countP fun c:Nat=>D2 inn c&&decide ((c:Int)∉ex/\(p:Int)∈C6 g c)
theorem mH{g:Graph}{inn:List Bool}{ex:List Int}{x p:Nat}(h:(x:Int)∉ex)(a:x<g.length)(b:D2 inn x=true):gK g inn ex p=gK g inn (ex++[(x:Int)]) p+(if (p:Int)∈C6 g x then 1 else 0):=by
 unfold gK;rw[cP (q:=fun c=>D2 inn c&&decide ((c:Int)∉ex/\(p:Int)∈C6 g c)) (r:=fun c=>D2 inn c&&decide ((c:Int)∉ex++[(x:Int)]/\(p:Int)∈C6 g c)) x (fun y=>?_) List.nodup_range]
 ·congr 1
  simp only[IA,a,true_and,decide_eq_true_eq,h,not_false_eq_true,b,Bool.true_and]
 ·simp only[HV,List.mem_singleton];by_cases d:(y:Int)∈ex<;>by_cases e:y=x<;>by_cases f:(p:Int)∈C6 g y<;>cases D2 inn y<;>simp[d,e,f]<;>omega
theorem wQ{g:Graph}{inn:List Bool}{ex:List Int}{p:Nat}:gK g inn ex p=0↔∀c,c<g.length->D2 inn c=true->(p:Int)∈C6 g c->(c:Int)∈ex:=by
 unfold gK;rw[List.countP_eq_zero];constructor
 ·intro h c b e f;have:=h c (IA.2 b);rw[e,Bool.true_and,decide_eq_true_eq]at this;apply Classical.byContradiction;exact fun d=>this ⟨d,f⟩
 ·intro h c b a;rw[HR,decide_eq_true_eq]at a;exact a.2.1 (h c (IA.1 b) a.1 a.2.2)
theorem AW(g:Graph)(inn:List Bool)(ex:List Int)(p:Nat):gK g inn ex p<=g.length:=by
 unfold gK;have:=List.countP_le_length (p:=fun c=>D2 inn c&&decide ((c:Int)∉ex/\(p:Int)∈C6 g c)) (l:=List.range g.length)
 rwa[IW]at this
structure OInv (g:Graph) (inn:List Bool) (k i:Nat) (ch hp out:List Int):Prop where
 len:ch.length=g.length
 cnt:∀p,p<g.length->D2 inn p=true->I1 ch p+(if (p:Int)∈(C6 g (out.getD k 0).toNat).take i then 1 else 0)=gK g inn (out.take k) p
 off:∀p,p<g.length->D2 inn p=false->I1 ch p = -1
 hpm:∀p:Nat,(p:Int)∈hp↔p<g.length/\D2 inn p=true/\(p:Int)∉out/\I1 ch p=0
 hpr:∀x∈hp,0<=x/\x<g.length
 hpn:hp.Nodup
 heap:eJ (aZ g) hp.length hp
 outn:out.Nodup
 outr:∀x∈out,0<=x/\x<g.length/\D2 inn x.toNat=true/\I1 ch x.toNat=0
theorem OInv.ready{g:Graph}{inn:List Bool}{n b a:List Int}(h:OInv g inn a.length 0 n b a){c:Nat}(o:c<g.length):Z3 g inn a c=true↔(c:Int)∈b:=by
 rw[h.hpm];unfold Z3;rw[HR,HR,decide_eq_true_eq,List.all_eq_true];have j:D2 inn c=true->((∀x∈List.range g.length,(!(decide ((c:Int)∈C6 g x)&&D2 inn x&&decide ((x:Int)∉a)))=true)↔I1 n c=0):=by
  intro q;have d:=h.cnt c o q;rw[HX,List.take_zero,A5 (by simp)]at d;have f:=wQ (g:=g) (inn:=inn) (ex:=a) (p:=c);constructor
  ·intro i;have:gK g inn a c=0:=f.2 fun k m e b=>by
    have:=i k (IA.2 m);simpa[b,e] using this
   omega
  ·intro r k m;cases e:D2 inn k
   ·simp
   ·by_cases b:(c:Int)∈C6 g k
    ·have:=f.1 (by omega) k (IA.1 m) e b;simp[b,this]
    ·simp[b]
 constructor
 ·rintro⟨⟨d,f⟩,l⟩;exact⟨o,d,f,(j d).1 l⟩
 ·rintro⟨_,d,f,l⟩;exact⟨⟨d,f⟩,(j d).2 l⟩
theorem OInv.fin{g:Graph}{b:List Bool}{d a:List Int}(h:OInv g b a.length 0 d [] a):mG g b a = -1 :=
 tG fun c e=>by
  cases f:Z3 g b a c
  ·rfl
  ·have:=(h.ready e).1 f;cases this
theorem OInv.le{g:Graph}{b:List Bool}{k i:Nat}{e c a:List Int}(h:OInv g b k i e c a):a.length<=g.length/\c.length<=g.length :=
 ⟨V9 h.outn fun x d=>⟨(h.outr x d).1,(h.outr x d).2.1⟩,V9 h.hpn h.hpr⟩
theorem wR{l m:List Int}{n:Nat}(v:n+1=l.length)(q:SameL l m)(j:l.Nodup){x:Int}(r:I1 m n=x):(∀y,y∈m.take n↔y∈l/\y≠x)/\(m.take n).Nodup/\(m.take n).length=n:=by
 have s:m.length=n+1:=by rw[q.len,v]
 have i:=q.nodup j;have c:n<m.length:=by omega
 have e:m=m.take n++[x]:=by
  have f:m.take (n+1)=m:=IV (by omega);rw[List.take_add_one,HQ c,Option.toList_some]at f;rw[P4 c]at r;rw[r]at f;exact f.symm
 have a:=i;rw[e,List.nodup_append]at a;refine⟨fun y=>?_,a.1,by rw[IF];omega⟩;rw[<-q.mem y];constructor
 ·intro b;exact⟨List.mem_of_mem_take b,a.2.2 y b x (by simp)⟩
 ·rintro⟨b,k⟩;rw[e]at b;rcases HV.1 b with b | b
  ·exact b
  ·exact absurd (List.mem_singleton.1 b) k
theorem OInv.pop{g:Graph}{m:List Bool}{B b f:List Int}(h:OInv g m f.length 0 B b f)(u:0<b.length) :
  mG g m f=I1 b 0/\OInv g m f.length 0 B ((rB (aZ g) b).take (b.length-1)) (f++[I1 b 0])/\I1 (rB (aZ g) b) (b.length-1)=I1 b 0:=by
 have z:I1 b 0∈b:=by rw[P4 u];exact HT u
 have K:=h.hpr _ z;obtain⟨c,q⟩:∃c:Nat,I1 b 0=c:=⟨(I1 b 0).toNat,by omega⟩
 have i:=(h.hpm c).1 (by rw[<-q];exact z);obtain⟨I,J,E⟩:=AV (aW g) h.heap u;obtain⟨A,t2,t3⟩:=wR (n:=b.length-1) (by omega) J h.hpn E;have hb:mG g m f=c:=zG i.1 ((h.ready i.1).2 (by rw[<-q];exact z)) fun d F v=>by
  obtain⟨j,r,e⟩:=List.getElem_of_mem ((h.ready F).1 v);have:=wP (aW g) h.heap j r;rw[P4 r,e,q]at this;exact this
 refine⟨by rw[hb,q],?_,E⟩;rw[q]at A ⊢;refine⟨h.len,fun p b G=>?_,h.off,fun p=>?_,fun x l=>h.hpr x ((A x).1 l).1,t2,?_,?_,?_⟩
 ·have C:=h.cnt p b G;rw[List.take_zero,A5 (by simp)]at C ⊢;rw[W6 (Nat.le_refl _)];exact C
 ·rw[A,h.hpm,HV,List.mem_singleton,not_or];constructor
  ·rintro⟨⟨s,a2,a3,a4⟩,a5⟩;exact⟨s,a2,⟨a3,a5⟩,a4⟩
  ·rintro⟨s,a2,⟨a3,a5⟩,a4⟩;exact⟨⟨s,a2,a3,a4⟩,a5⟩
 ·rw[t3];intro k D w;have e:∀j,j<b.length-1->I1 ((rB (aZ g) b).take (b.length-1)) j=I1 (rB (aZ g) b) j:=fun j r=>by
   unfold I1;rw[List.getElem?_take,A4 r]
  rw[e k D,e _ (by omega)];exact I k D w
 ·exact List.nodup_append.2 ⟨h.outn,by simp,fun x l y H e=>by rw[List.mem_singleton.1 H]at e;exact i.2.2.1 (e ▸ l)⟩
 ·intro x l;rcases HV.1 l with l | l
  ·exact h.outr x l
  ·rw[List.mem_singleton.1 l,HS];exact⟨by omega,by omega,i.2.1,i.2.2.2⟩
theorem OInv.step{g:Graph}{inn:List Bool}(T:related g=true)(K:d5 g inn){k i:Nat}{o D b:List Int}(h:OInv g inn k i o D b)(W:k+1=b.length){c p:Nat}(A:b[k]?=some (c:Int))(H:i<(C6 g c).length)(u:(C6 g c)[i]=(p:Int)) :
  p<g.length/\1<=I1 o p/\I1 o p<=g.length/\D.length<g.length/\OInv g inn k (i+1) (T9 o p) (if I1 o p-1=0 then rA (aZ g) D p else D) b:=by
 have hkl:k<b.length:=by omega
 have A:b[k]=(c:Int):=by rw[HQ hkl]at A;exact Option.some.inj A
 have hpr:=H2 T c;have hpm:(p:Int)∈C6 g c:=by rw[<-u];exact HT H
 have f:p<g.length:=by have:=hpr.1 p hpm;omega
 have B:=h.outr b[k] (HT hkl);rw[A,HS]at B;have E:c<g.length:=by omega
 have s:D2 inn p=true:=by have:=K c B.2.2.1 p hpm;rwa[HS]at this
 have C:b.getD k 0=(c:Int):=by rw[HY,HQ hkl];exact A
 have N:(c:Int)∉b.take k:=by rw[<-A];exact N7 h.outn hkl
 have M:(p:Int)∉(C6 g c).take i:=by rw[<-u];exact N7 hpr.2 H
 have P:=h.cnt p f s;rw[C,HS,A5 M]at P;have Q:=mH (g:=g) (inn:=inn) (ex:=b.take k) (x:=c) (p:=p) N E B.2.2.1;rw[A4 hpm]at Q;have S:=AW g inn (b.take k) p;have L:1<=I1 o p:=by omega
 have m:(p:Int)∉b:=fun j=>by have:=(h.outr _ j).2.2.2;rw[HS]at this;omega
 have w:(p:Int)∉D:=fun j=>by have:=((h.hpm p).1 j).2.2.2;omega
 have v:∀q,I1 (T9 o p) q=if p=q then I1 o p-1 else I1 o q:=fun q=>by
  unfold T9;rw[HS,d6 (by rw[h.len];exact f)]
 have F:D.length<g.length:=by
  have:=V9 (l:=(c:Int)::D) (n:=g.length) (List.nodup_cons.2 ⟨fun j=>((h.hpm c).1 j).2.2.1 (by rw[<-A];exact HT hkl),h.hpn⟩) fun x d=>by
   rcases HZ.1 d with rfl | d
   ·omega
   ·exact h.hpr x d
  rw[HU]at this;omega
 obtain⟨V,G⟩:=rE (aW g) (p:Int) h.heap;refine⟨f,L,by omega,F,⟨by unfold T9;rw[IT];exact h.len,?_,?_,?_,?_,?_,?_,h.outn,?_⟩⟩
 ·intro q O I;rw[C,HS,v q];by_cases e:p=q
  ·subst e;rw[A4 rfl,A4 ((N0 H).2 (.inr u.symm))];omega
  ·rw[A5 e];have z:=h.cnt q O I;rw[C,HS]at z;have R:((q:Int)∈(C6 g c).take (i+1))↔(q:Int)∈(C6 g c).take i:=by
    rw[N0 H,u];exact⟨fun h=>h.resolve_right (by omega),.inl⟩
   simp only[R];exact z
 ·intro q O I;rw[v q,A5 (fun e=>by rw[e,I]at s;cases s)];exact h.off q O I
 ·intro q;rw[v q];by_cases e:p=q
  ·subst e;rw[A4 rfl];split
   ·rename_i J;rw[G.mem];exact⟨fun _=>⟨f,s,m,J⟩,fun _=>by simp⟩
   ·rename_i J;exact⟨fun j=>absurd j w,fun j=>absurd j.2.2.2 J⟩
  ·rw[A5 e,<-h.hpm q];split
   ·rw[G.mem,HV,List.mem_singleton];exact⟨fun j=>j.resolve_right (by omega),.inl⟩
   ·exact Iff.rfl
 ·intro x d;split at d
  ·rw[G.mem,HV,List.mem_singleton]at d;rcases d with d | rfl
   ·exact h.hpr x d
   ·omega
  ·exact h.hpr x d
 ·split
  ·exact G.nodup (List.nodup_append.2 ⟨h.hpn,by simp,fun x d y U e=>by rw[List.mem_singleton.1 U]at e;exact w (e ▸ d)⟩)
  ·exact h.hpn
 ·split
  ·rw[G.len,HW,List.length_singleton];exact V
  ·exact h.heap
 ·intro x d;have z:=h.outr x d;refine⟨z.1,z.2.1,z.2.2.1,?_⟩;rw[v,A5 (fun e=>m (by rw[show ((p:Nat):Int)=x by omega];exact d))];exact z.2.2.2
theorem OInv.next{g:Graph}{inn:List Bool}{k:Nat}{m f a:List Int}(r:k+1=a.length){c:Nat}(b:a[k]?=some (c:Int))(h:OInv g inn k (C6 g c).length m f a):OInv g inn a.length 0 m f a:=by
 refine { h with cnt:=fun p f s=>?_ };have hkl:k<a.length:=by omega
 have b:a[k]=(c:Int):=by rw[HQ hkl]at b;exact Option.some.inj b
 have o:=h.cnt p f s;have i:a.getD k 0=(c:Int):=by rw[HY,HQ hkl];exact b
 have d:=h.outr a[k] (HT hkl);rw[b,HS]at d;rw[i,HS,HX]at o;have q:=mH (g:=g) (inn:=inn) (ex:=a.take k) (x:=c) (p:=p) (by rw[<-b];exact N7 h.outn hkl) (by omega) d.2.2.1;have e:a.take (k+1)=a.take k++[(c:Int)]:=by rw[List.take_add_one,HQ hkl,Option.toList_some,b]
 rw[<-r,e,List.take_zero,A5 (by simp)];split at o
 ·rename_i j;rw[A4 j]at q;omega
 ·rename_i j;rw[A5 j]at q;omega
structure HInv (g:Graph) (ch hp:List Int) (i:Nat):Prop where
 mem:∀p:Nat,(p:Int)∈hp↔p<i/\I1 ch p=0
 rng:∀x∈hp,0<=x/\x<i
 nodup:hp.Nodup
 heap:eJ (aZ g) hp.length hp
theorem HInv.nil(g:Graph)(a:List Int):HInv g a [] 0:=⟨fun p=>by simp,(fun _ h=>by cases h),List.nodup_nil,fun k b=>by simp at b⟩
theorem HInv.le{g:Graph}{b a:List Int}{i:Nat}(h:HInv g b a i):a.length<=i:=V9 h.nodup h.rng
theorem HInv.step{g:Graph}{f k:List Int}{i:Nat}(h:HInv g f k i):HInv g f (if I1 f i=0 then rA (aZ g) k (i:Int) else k) (i+1):=by
 obtain⟨o,d⟩:=rE (aW g) (i:Int) h.heap;split
 ·rename_i j;refine⟨fun p=>?_,fun x c=>?_,d.nodup (List.nodup_append.2 ⟨h.nodup,by simp,fun x c y m e=>by rw[List.mem_singleton.1 m]at e;have:=h.rng x c;omega⟩),by rw[d.len,HW,List.length_singleton];exact o⟩
  ·rw[d.mem,HV,List.mem_singleton,h.mem];constructor
   ·rintro (⟨a,b⟩ | e)
    ·exact⟨by omega,b⟩
    ·have e:p=i:=by omega
     subst e;exact⟨by omega,j⟩
   ·rintro⟨a,b⟩;by_cases e:p=i
    ·right;omega
    ·exact .inl ⟨by omega,b⟩
  ·rw[d.mem,HV,List.mem_singleton]at c;rcases c with c | rfl
   ·have:=h.rng x c;omega
   ·omega
 ·rename_i j;refine⟨fun p=>?_,fun x c=>by have:=h.rng x c;omega,h.nodup,h.heap⟩;rw[h.mem];constructor
  ·rintro⟨a,b⟩;exact⟨by omega,b⟩
  ·rintro⟨a,b⟩;refine⟨?_,b⟩;apply Classical.byContradiction;intro q;have:p=i:=by omega
   subst this;exact j b
def tH(g:Graph)(D:List Int)(p:Nat):Nat:=D.countP fun x=>decide ((p:Int)∈C6 g x.toNat)
structure DInv (g:Graph) (inn:List Bool) (st:List Int) (k i:Nat) (ch opn D:List Int):Prop where
 len:ch.length=g.length
 nodup:(D++opn).Nodup
 on:∀x∈D++opn,0<=x/\x<g.length/\D2 inn x.toNat=true
 cnt:∀p:Nat,(p:Int)∈D++opn->I1 ch p=tH g (D.take k) p+(if (p:Int)∈(C6 g (D.getD k 0).toNat).take i then 1 else 0)
 off:∀p,p<g.length->(p:Int)∉D++opn->I1 ch p = -1
 clo:∀x∈D.take k,∀p∈C6 g x.toNat,p∈D++opn
 clo2:∀p∈(C6 g (D.getD k 0).toNat).take i,p∈D++opn
 sts:∀f∈st,f∈D++opn
theorem DInv.start(g:Graph)(a:List Bool):DInv g a [] 0 0 (List.replicate g.length (-1)) [] [] where
 len:=by simp
 nodup:=List.nodup_nil
 on:=fun _ h=>by cases h
 cnt:=fun _ h=>by cases h
 off:=fun p b _=>by unfold I1;rw[List.getElem?_replicate,A4 b];rfl
 clo:=fun _ h=>by cases h
 clo2:=fun _ h=>by simp at h
 sts:=fun _ h=>by cases h
theorem DInv.le{g:Graph}{b:List Bool}{st:List Int}{k i:Nat}{d a D:List Int}(h:DInv g b st k i d a D):D.length+a.length<=g.length:=by
 have:=V9 h.nodup fun x c=>⟨(h.on x c).1,(h.on x c).2.1⟩
 rwa[HW]at this
theorem DInv.mem{g:Graph}{inn:List Bool}{st:List Int}{k i:Nat}{c a D:List Int}(h:DInv g inn st k i c a D){p:Nat}(e:p<g.length):I1 c p<0↔(p:Int)∉D++a:=by
 by_cases b:(p:Int)∈D++a
 ·have:=h.cnt p b;constructor
  ·intro f;split at this<;>omega
  ·exact fun d=>absurd b d
 ·have:=h.off p e b;exact⟨fun _=>b,fun _=>by omega⟩
theorem DInv.reach{g:Graph}{l:List Bool}{st:List Int}{k i:Nat}{m a D:List Int}(h:DInv g l st k i m a D)(_hk:k<=D.length){p:Nat}(s:p<g.length)(u:D2 l p=true)(st':List Int)(o:∀f∈st',f∈st\/f=p) :
  DInv g l st' k i (if I1 m p<0 then m.set p 0 else m) (if I1 m p<0 then a++[(p:Int)] else a) D/\(p:Int)∈D++(if I1 m p<0 then a++[(p:Int)] else a):=by
 split
 ·rename_i t;have j:=(h.mem s).1 t;refine⟨⟨by rw[IT];exact h.len,?_,?_,?_,?_,?_,?_,?_⟩,by simp⟩
  ·rw[<-IL];exact List.nodup_append.2 ⟨h.nodup,by simp,fun x c y v e=>by rw[List.mem_singleton.1 v]at e;exact j (e ▸ c)⟩
  ·intro x c;rw[<-IL]at c;rcases HV.1 c with c | c
   ·exact h.on x c
   ·rw[List.mem_singleton.1 c,HS];exact⟨by omega,by omega,u⟩
  ·intro q b;rw[d6 (by rw[h.len];exact s)];by_cases e:p=q
   ·subst e;rw[A4 rfl,A5 (fun n=>j (h.clo2 _ n))];have:tH g (D.take k) p=0:=by
     unfold tH;rw[List.countP_eq_zero];intro x c n;exact j (h.clo x c _ (A0 n))
    rw[this];rfl
   ·rw[A5 e];rw[<-IL]at b;rcases HV.1 b with b | b
    ·exact h.cnt q b
    ·exact absurd (List.mem_singleton.1 b) (by omega)
  ·intro q b r;rw[<-IL,HV,not_or,List.mem_singleton]at r;rw[d6 (by rw[h.len];exact s),A5 (by omega)];exact h.off q b r.1
  ·intro x c q b;rw[<-IL];exact List.mem_append_left _ (h.clo x c q b)
  ·intro q b;rw[<-IL];exact List.mem_append_left _ (h.clo2 q b)
  ·intro f d;rw[<-IL];rcases o f d with d | rfl
   ·exact List.mem_append_left _ (h.sts f d)
   ·simp
 ·rename_i t;have n:(p:Int)∈D++a:=by
   apply Classical.byContradiction;intro r;exact t ((h.mem s).2 r)
  refine⟨{ h with sts:=fun f d=>?_ },n⟩;rcases o f d with d | rfl
  ·exact h.sts f d
  ·exact n
theorem DInv.count{g:Graph}{v:List Bool}{st:List Int}{k i:Nat}{f j D:List Int}(h:DInv g v st k i f j D){c p:Nat}(G:related g=true)(m:D.getD k 0=(c:Int))(o:i<(C6 g c).length)(b:(C6 g c)[i]=(p:Int))(w:(p:Int)∈D++j) :
  0<=I1 f p/\I1 f p<=g.length/\DInv g v st k (i+1) (bump f p) j D:=by
 have hpr:=H2 G c;have s:p<g.length:=by have:=hpr.1 p (by rw[<-b];exact HT o);omega
 have B:=h.cnt p w;have y:(p:Int)∉(C6 g c).take i:=by rw[<-b];exact N7 hpr.2 o
 rw[m,HS,A5 y]at B;have F:tH g (D.take k) p<=g.length:=by
  unfold tH;have C:=List.countP_le_length (p:=fun x:Int=>decide ((p:Int)∈C6 g x.toNat)) (l:=D.take k);rw[IF]at C;have:=h.le;omega
 have u:∀q,I1 (bump f p) q=if p=q then I1 f p+1 else I1 f q:=fun q=>by
  unfold bump;rw[HS,d6 (by rw[h.len];exact s)]
 refine⟨by omega,by omega,{ h with len:=by unfold bump;rw[IT];exact h.len,cnt:=fun q d=>?_,off:=fun q d A=>?_,clo2:=fun q d=>?_ }⟩
 ·rw[u q,m,HS];by_cases e:p=q
  ·subst e;rw[A4 rfl,A4 ((N0 o).2 (.inr b.symm))];omega
  ·rw[A5 e];have z:=h.cnt q d;rw[m,HS]at z;have E:((q:Int)∈(C6 g c).take (i+1))↔(q:Int)∈(C6 g c).take i:=by
    rw[N0 o,b];exact⟨fun h=>h.resolve_right (by omega),.inl⟩
   simp only[E];exact z
 ·rw[u q,A5 (show ¬p=q from fun e=>A (by rw[<-e];exact w))];exact h.off q d A
 ·rw[m,HS]at d;rcases (N0 o).1 d with d | rfl
  ·exact h.clo2 q (by rw[m,HS];exact d)
  ·rw[b];exact w
theorem DInv.pop{g:Graph}{s:List Bool}{st:List Int}{u d D:List Int}{c:Int}(h:DInv g s st D.length 0 u (d++[c]) D):DInv g s st D.length 0 u d (D++[c]):=by
 have b:∀x,x∈(D++[c])++d↔x∈D++(d++[c]):=fun x=>by
  simp only[HV,List.mem_singleton];constructor
  ·rintro ((h | h) | h)
   ·exact .inl h
   ·exact .inr (.inr h)
   ·exact .inr (.inl h)
  ·rintro (h | h | h)
   ·exact .inl (.inl h)
   ·exact .inr h
   ·exact .inl (.inr h)
 have v:(D++[c]).take D.length=D:=by rw[W6 (Nat.le_refl _),HX]
 refine⟨h.len,?_,fun x m=>h.on x ((b x).1 m),fun p o=>?_,fun p o A=>h.off p o fun z=>A ((b _).2 z),fun x m p o=>?_,fun p o=>by simp at o,fun f w=>(b f).2 (h.sts f w)⟩
 ·have j:=h.nodup;rw[List.nodup_append,List.nodup_append]at j;rw[IL,List.nodup_append,List.nodup_append];refine⟨j.1,⟨by simp,j.2.1.1,fun x m y q e=>?_⟩,fun x m y q=>?_⟩
  ·exact j.2.1.2.2 y q x m e.symm
  ·refine j.2.2 x m y ?_;rcases HV.1 q with q | q
   ·exact List.mem_append_right _ q
   ·exact List.mem_append_left _ q
 ·have j:=h.cnt p ((b _).1 o);rw[List.take_zero,A5 (by simp),HX]at j;rw[v,List.take_zero,A5 (by simp)];exact j
 ·rw[v]at m;exact (b p).2 (h.clo x (by rw[HX];exact m) p o)
theorem DInv.next{g:Graph}{inn:List Bool}{st:List Int}{k:Nat}{j d D:List Int}{c:Nat}(o:k+1=D.length)(f:D.getD k 0=(c:Int))(h:DInv g inn st k (C6 g c).length j d D):DInv g inn st D.length 0 j d D:=by
 have hkl:k<D.length:=by omega
 have i:D[k]?=some (c:Int):=by
  rw[HY,HQ hkl]at f;rw[HQ hkl];exact congrArg some f
 have e:D.take D.length=D.take k++[(c:Int)]:=by rw[<-o,List.take_add_one,i,Option.toList_some]
 refine { h with cnt:=fun p a=>?_,clo:=fun x b p a=>?_,clo2:=fun p a=>by simp at a }
 ·have m:=h.cnt p a;rw[f,HS,HX]at m;rw[List.take_zero,A5 (show ¬(p:Int)∈([]:List Int) by simp),m,e];unfold tH;rw[List.countP_append,List.countP_singleton,HS];by_cases q:(p:Int)∈C6 g c<;>simp[q]
 ·rw[e]at b;rcases HV.1 b with b | b
  ·exact h.clo x b p a
  ·rw[List.mem_singleton.1 b,HS]at a;exact h.clo2 p (by rw[f,HS,HX];exact a)
theorem rF{q:Int->Bool}{l m:List Int}(b:l.Nodup)(d:m.Nodup)(h:∀x,x∈l↔x∈m):l.countP q=m.countP q:=by
 rw[List.countP_eq_length_filter,List.countP_eq_length_filter];have a:∀{l m:List Int},l.Nodup->(∀x,x∈l↔x∈m)->(l.filter q).length<=(m.filter q).length:=fun b h =>
  aS (b.filter _) fun x c=>by
   rw[List.mem_filter]at c ⊢;exact⟨(h x).1 c.1,c.2⟩
 have f:=a b h;have i:=a d fun x=>(h x).symm;omega
theorem DInv.fin{g:Graph}{s z D:List Int}(I:related g=true)(J:∀f∈s,0<=f/\f<g.length)(h:DInv g (G6 g s) s D.length 0 z [] D) :
  ∀p,p<g.length->I1 z p=if D2 (G6 g s) p=true then (gK g (G6 g s) [] p:Int) else -1:=by
 have b:∀p:Nat,D2 (G6 g s) p=true↔(p:Int)∈D:=by
  intro p;constructor
  ·intro j;obtain⟨f,F,d⟩:=(aV I J p).1 j;clear j;have A:(f:Int)∈D:=by simpa using h.sts f F
   have v:∀x:Nat,(x:Int)∈D->∀q:Nat,(q:Int)∈C6 g x->(q:Int)∈D:=fun x k q H=>by
    have:=h.clo x (by rw[HX];exact k) q (by rw[HS];exact H);simpa using this
   rcases d with rfl | d
   ·exact A
   ·induction d with
    | one h=>exact v _ A _ h
    | more _ d K=>exact v _ K _ d
  ·intro w;have:=(h.on p (by simpa using w)).2.2
   rwa[HS]at this
 intro p G;split
 ·rename_i j;have B:=h.cnt p (by simpa using (b p).1 j);rw[HX,List.take_zero,A5 (by simp)]at B;rw[B,Int.add_zero]
  congr 1
  have C:D.Nodup:=by have:=h.nodup;rwa[JC]at this
  have d:∀x∈D,0<=x/\x<g.length:=fun x k=>by
   have:=h.on x (by simpa using k);exact⟨this.1,this.2.1⟩
  unfold tH gK;have e:(List.range g.length).countP (fun c=>D2 (G6 g s) c&&decide ((c:Int)∉([]:List Int)/\(p:Int)∈C6 g c))=(((List.range g.length).filter fun c=>D2 (G6 g s) c).map fun c:Nat=>(c:Int)).countP fun x=>decide ((p:Int)∈C6 g x.toNat):=by
   rw[List.countP_map,List.countP_filter];refine List.countP_congr fun c _=>?_;simp only[List.not_mem_nil,not_false_eq_true,true_and,Function.comp_def,HS,HR,decide_eq_true_eq];exact And.comm
  rw[e];refine rF C ((List.nodup_range.filter _).map (fun i:Nat=>(i:Int)) fun _ _ y e=>y (Int.ofNat.inj e)) fun x=>?_;rw[IQ];constructor
  ·intro k;have:=d x k;refine⟨x.toNat,List.mem_filter.2 ⟨IA.2 (by omega),(b _).2 (by rw[Int.toNat_of_nonneg this.1];exact k)⟩,by omega⟩
  ·rintro⟨c,E,rfl⟩;exact (b c).1 (List.mem_filter.1 E).2
 ·rename_i j;exact h.off p G fun w=>j ((b p).2 (by simpa using w))
theorem OInv.start{g:Graph}{c:List Bool}{f d:List Int}(j:f.length=g.length)(_hin:c.length=g.length)(i:∀p,p<g.length->I1 f p=if D2 c p=true then (gK g c [] p:Int) else -1)(h:HInv g f d g.length):OInv g c 0 0 f d [] where
 len:=j
 cnt:=fun p d e=>by rw[i p d,A4 e,List.take_zero,List.take_zero];simp
 off:=fun p d e=>by rw[i p d,e];rfl
 hpm:=fun p=>by
  rw[h.mem];constructor
  ·rintro⟨a,b⟩;refine⟨a,?_,by simp,b⟩;cases e:D2 c p
   ·rw[i p a,e]at b;simp at b
   ·rfl
  ·rintro⟨a,_,_,b⟩;exact⟨a,b⟩
 hpr:=h.rng
 hpn:=h.nodup
 heap:=h.heap
 outn:=List.nodup_nil
 outr:=fun _ h=>by cases h
def d7(g:Graph)(c:Nat):List File:=(g[c]?.map (·.Files)).getD []
def gT(g:Graph)(c:Nat):List (List File):=if C6 g c=[] then [[]] else (C6 g c).map fun p=>d7 g p.toNat
def aE(g:Graph)(c:Int):Prop:=0<=c/\c<g.length
instance (g:Graph) (c:Int):Decidable (aE g c):=inferInstanceAs (Decidable (_/\_))
section
structure Set4 where
 a:Int
 b:Int
 c:Int
 d:Int
 deriving DecidableEq
def GF(x y:Int):Int:=((x.toNat ||| y.toNat:Nat):Int)
def set0:Set4:=⟨0,0,0,0⟩
def Set4.with_(s:Set4)(c:Nat):Set4:=match c / 64 with
 | 0=>{ s with a:=GF s.a (2 ^ (c % 64)) }
 | 1=>{ s with b:=GF s.b (2 ^ (c % 64)) }
 | 2=>{ s with c:=GF s.c (2 ^ (c % 64)) }
 | _=>{ s with d:=GF s.d (2 ^ (c % 64)) }
def mI:Nat->Nat->Set4->Set4
 | 0,_,s=>s
 | n+1,c,s=>mI n (c+1) (s.with_ c)
def Set4.through(s:Set4)(a b:Nat):Set4:=mI (b+1-a) a s
def Set4.compl(s:Set4):Set4:=⟨18446744073709551615-s.a,18446744073709551615-s.b,18446744073709551615-s.c,18446744073709551615-s.d⟩
def DD(s:Set4)(a:Str):Option Set4 :=
 if a=[97,108,112,104,97] then some ((s.through 97 122).through 65 90)
 else if a=[100,105,103,105,116] then some (s.through 48 57)
 else if a=[97,108,110,117,109] then some (((s.through 97 122).through 65 90).through 48 57)
 else if a=[117,112,112,101,114] then some (s.through 65 90)
 else if a=[108,111,119,101,114] then some (s.through 97 122)
 else if a=[115,112,97,99,101] then some ((s.through 9 13).with_ 32)
 else if a=[112,117,110,99,116] then some ((((s.through 33 47).through 58 64).through 91 96).through 123 126)
 else none
structure Node where
 Kind:Int
 Set:Set4
 Min:Int
 Max:Int
 Kids:List Int
 deriving DecidableEq
def mJ:Node:=⟨0,set0,0,0,[]⟩
structure PSt where
 at_:Nat
 depth:Nat
 nodes:List Node
abbrev Ps(α:Type):=Except Int (PSt×α)
section
variable (s:Str)
def kA(c:UInt8)(st:PSt):Bool:=decide (s[st.at_]?=some c)
def PSt.skip(st:PSt)(n:Nat):PSt:={ st with at_:=st.at_+n }
def FK(c:UInt8)(st:PSt):PSt:=if kA s c st=true then st.skip 1 else st
def FL(st:PSt):Ps UInt8:=match s[st.at_]? with
 | none=>.error 40
 | some c=>.ok (st.skip 1,c)
def zH(n:Node)(st:PSt):PSt×Int:=({ st with nodes:=st.nodes++[n] },st.nodes.length)
def tI(a:Int)(kids:List Int)(st:PSt):PSt×Int:=match kids with
 | []=>zH mJ st
 | [k]=>(st,k)
 | _=>zH { mJ with Kind:=a,Kids:=kids } st
def DE(t:Set4)(st:PSt):PSt×Int:=zH { mJ with Kind:=1,Set:=t } st
def AX(a b:UInt8)(l:Str):Bool:=decide (l[0]?=some a/\l[1]?=some b)
def BS(t:Set4)(st:PSt):Ps Set4 :=
 let rest:=s.drop st.at_
 if AX 91 58 rest=true then
  let r:=rest.drop 2
  if Lib.index r [58,93]<0 then .error 40
  else match DD t (r.take (Lib.index r [58,93]).toNat) with
   | none=>.error 40
   | some b=>.ok (st.skip (4+(Lib.index r [58,93]).toNat),b)
 else match s[st.at_]? with
  | none=>.error 40
  | some c =>
   let r:=s.drop (st.at_+1)
   if r.length<2\/r[0]?≠some 45\/r[1]?=some 93 then .ok (st.skip 1,t.with_ c.toNat)
   else if (r.getD 1 0).toNat<c.toNat then .error 40
   else .ok (st.skip 3,t.through c.toNat (r.getD 1 0).toNat)
def zI:Nat->Set4->PSt->Ps Set4
 | 0,_,_=>.error 0
 | f+1,t,st=>if kA s 93 st=true then .ok (st.skip 1,t) else match BS s t st with
  | .error e=>.error e
  | .ok (st',t')=>zI f t' st'
def DF(f:Nat)(st:PSt):Ps Int :=
 let a:=st.skip 1;let b:=FK s 94 a
 match BS s set0 b with
 | .error e=>.error e
 | .ok (st3,t)=>match zI s f t st3 with
  | .error e=>.error e
  | .ok (st4,t')=>.ok (DE (if kA s 94 a=true then t'.compl else t') st4)
def uZ(a:Int)(st:PSt):Ps Int :=
 let r:=zH { mJ with Kind:=a } (st.skip 1)
 match s[r.1.at_]? with
 | some c=>if c∈([42,43,63,123]:Str) then .error 40 else .ok r
 | none=>.ok r
def FM(a:Str->Nat->Option (Int×Nat))(st:PSt):Ps Int:=match a s st.at_ with
 | none=>.error 40
 | some (n,e)=>if n>100 then .error 40 else .ok ({ st with at_:=e },n)
def AY(d:Str->Nat->Option (Int×Nat))(st:PSt):Ps (Int×Int):=match FM s d st with
 | .error e=>.error e
 | .ok (st1,least) =>
  let fin:=fun (st:PSt) (a:Int)=>(if kA s 125 st=false\/(0<=a/\a<least) then .error 40 else .ok (st.skip 1,(least,a)):Ps (Int×Int))
  if kA s 44 st1=true then
   let b:=st1.skip 1
   match s[b.at_]? with
   | none=>fin b (-1)
   | some c=>if c=125 then fin b (-1) else match FM s d b with
    | .error e=>.error e
    | .ok (st3,a)=>fin st3 a
  else fin st1 least
def DG(a:Str->Nat->Option (Int×Nat))(st:PSt):Ps (Option (Int×Int)) :=
 if kA s 42 st=true then .ok (st.skip 1,some (0,-1))
 else if kA s 43 st=true then .ok (st.skip 1,some (1,-1))
 else if kA s 63 st=true then .ok (st.skip 1,some (0,1))
 else if kA s 123 st=true then match AY s a (st.skip 1) with
  | .error e=>.error e
  | .ok (st',b)=>.ok (st',some b)
 else .ok (st,none)
def vA(st:PSt):Ps Int:=match FL s st with
 | .error e=>.error e
 | .ok (st',c)=>.ok (DE (set0.with_ c.toNat) st')
def AZ(st:PSt):Ps Int:=vA s (st.skip 1)
def GL(st:PSt):PSt×Int:=DE set0.compl (st.skip 1)
def eK(a:Str->Nat->Option (Int×Nat))(r:Ps Int):Ps Int:=match r with
 | .error e=>.error e
 | .ok (st,atom)=>match DG s a st with
  | .error e=>.error e
  | .ok (st',none)=>.ok (st',atom)
  | .ok (st',some (least,most))=>.ok (zH { mJ with Kind:=6,Min:=least,Max:=most,Kids:=[atom] } st')
mutual
def FN(a:Str->Nat->Option (Int×Nat)):Nat->PSt->Ps Int
 | 0,_=>.error 0
 | f+1,st=>match BA a f st [] with
  | .error e=>.error e
  | .ok (st',k)=>oG a f st' [k]
def oG(a:Str->Nat->Option (Int×Nat)):Nat->PSt->List Int->Ps Int
 | 0,_,_=>.error 0
 | f+1,st,kids=>if kA s 124 st=true then match BA a f (st.skip 1) [] with
   | .error e=>.error e
   | .ok (st',k)=>oG a f st' (kids++[k])
  else .ok (tI 5 kids st)
def BA(a:Str->Nat->Option (Int×Nat)):Nat->PSt->List Int->Ps Int
 | 0,_,_=>.error 0
 | f+1,st,kids=>match s[st.at_]? with
  | none=>.ok (tI 4 kids st)
  | some c=>if c=124\/c=41 then .ok (tI 4 kids st) else match zJ a f st c with
   | .error e=>.error e
   | .ok (st',k)=>BA a f st' (kids++[k])
def zJ(a:Str->Nat->Option (Int×Nat)):Nat->PSt->UInt8->Ps Int
 | 0,_,_=>.error 0
 | f+1,st,c =>
  if c=94 then uZ s 2 st
  else if c=36 then uZ s 3 st
  else if c=40 then eK s a (zK a f st)
  else if c=91 then eK s a (DF s (s.length+2) st)
  else if c=46 then eK s a (.ok (GL st))
  else if c=92 then eK s a (AZ s st)
  else if c∈([42,43,63,123]:Str) then .error 40
  else eK s a (vA s st)
def zK(a:Str->Nat->Option (Int×Nat)):Nat->PSt->Ps Int
 | 0,_=>.error 0
 | f+1,st=>if st.depth=50 then .error 1 else match FN a f { st with at_:=st.at_+1,depth:=st.depth+1 } with
  | .error e=>.error e
  | .ok (st',n)=>if kA s 41 st'=true then .ok ({ st' with at_:=st'.at_+1,depth:=st'.depth-1 },n) else .error 40
end
end
def FO(n:Node)(i:Int):Bool:=n.Kids.all (fun k=>decide (0<=k/\k<i)) &&
 (if n.Kind=0\/n.Kind=1\/n.Kind=2\/n.Kind=3 then decide (n.Kids.length=0)
 else if n.Kind=4\/n.Kind=5 then decide (2<=n.Kids.length)
 else if n.Kind=6 then decide (n.Kids.length=1/\0<=n.Min/\n.Min<=100/\(n.Max = -1\/n.Min<=n.Max/\n.Max<=100)) else false)
structure State where
 Kind:Int
 Set:Set4
 Next:Int
 Other:Int
 deriving DecidableEq
structure Auto where
 States:List State
 Start:Int
 deriving DecidableEq
def aF:State:=⟨0,set0,0,0⟩
abbrev Bld:=List State×Int
def DH(q:State)(st:List State):Bld:=(st++[q],st.length)
section
variable (ns:List Node) (w:List Int)
mutual
def fK:Nat->Int->Int->List State->Option Bld
 | 0,_,_,_=>none
 | f + 1,i,next,st =>
  if I1 w i.toNat=0 then some (st,next)
  else
   let n:=ns.getD i.toNat mJ
   if n.Kind=1 then some (DH { aF with Kind:=0,Set:=n.Set,Next:=next } st)
   else if n.Kind=2 then some (DH { aF with Kind:=2,Next:=next } st)
   else if n.Kind=3 then some (DH { aF with Kind:=3,Next:=next } st)
   else if n.Kind=4 then FP f n.Kids.reverse next st
   else if n.Kind=5 then match n.Kids.reverse with
    | []=>none
    | k::r=>match fK f k next st with
     | none=>none
     | some (st',start)=>FQ f r next start st'
   else if n.Kind=6 then
    let c:=n.Kids.getD 0 0
    if n.Max<0 then
     let b:Int:=st.length
     match fK f c b (st++[{ aF with Kind:=1,Other:=next }]) with
     | none=>none
     | some (st',start)=>DI f c n.Min.toNat b (st'.set b.toNat { (st'.getD b.toNat aF) with Next:=start })
    else match FR f c (n.Max-n.Min).toNat next next st with
     | none=>none
     | some (st',next')=>DI f c n.Min.toNat next' st'
   else some (st,next)
def FP:Nat->List Int->Int->List State->Option Bld
 | 0,_,_,_=>none
 | _+1,[],next,st=>some (st,next)
 | f+1,k::r,next,st=>match fK f k next st with
  | none=>none
  | some (st',next')=>FP f r next' st'
def FQ:Nat->List Int->Int->Int->List State->Option Bld
 | 0,_,_,_,_=>none
 | _+1,[],_,start,st=>some (st,start)
 | f+1,k::r,next,start,st=>match fK f k next st with
  | none=>none
  | some (st',b)=>FQ f r next st'.length (st'++[{ aF with Kind:=1,Next:=b,Other:=start }])
def FR:Nat->Int->Nat->Int->Int->List State->Option Bld
 | 0,_,_,_,_,_=>none
 | _+1,_,0,_,next,st=>some (st,next)
 | f+1,kid,m+1,last,next,st=>match fK f kid next st with
  | none=>none
  | some (st',b)=>FR f kid m last st'.length (st'++[{ aF with Kind:=1,Next:=b,Other:=last }])
def DI:Nat->Int->Nat->Int->List State->Option Bld
 | 0,_,_,_,_=>none
 | _+1,_,0,next,st=>some (st,next)
 | f+1,kid,m+1,next,st=>match fK f kid next st with
  | none=>none
  | some (st',next')=>DI f kid m next' st'
end
end
end
def BB(q:State)(start fin:Bool):List Int :=
 if q.Kind=1 then [q.Next,q.Other] else if q.Kind=2 then (if start=true then [q.Next] else []) else if q.Kind=3 then (if fin=true then [q.Next] else []) else []
def mK(n:Int)(q:State):Bool :=
 if q.Kind=0\/q.Kind=2\/q.Kind=3 then decide (0<=q.Next/\q.Next<n)
 else if q.Kind=1 then decide (0<=q.Next/\q.Next<n/\0<=q.Other/\q.Other<n)
 else decide (q.Kind=4)
def zL(a:Auto):Int:=if a.States.length<1\/a.States.length>8000\/a.Start<0\/a.Start>=a.States.length then 2 else if a.States.all (mK a.States.length)=true then 0 else 2
structure Thread where
 state:Int
 from_:Int
 deriving DecidableEq
abbrev Mach:=List Thread×List Bool
section
variable (a:Auto) (s:Str)
def rG(i:Int):State:=a.States.getD i.toNat aF
def DJ(q:Set4)(c:Nat):Int:=match c / 64 with
 | 0=>q.a.fdiv (2 ^ (c % 64)) % 2
 | 1=>q.b.fdiv (2 ^ (c % 64)) % 2
 | 2=>q.c.fdiv (2 ^ (c % 64)) % 2
 | _=>q.d.fdiv (2 ^ (c % 64)) % 2
def rH(fr:Int):List Thread->List Thread
 | []=>[]
 | t::r=>if t.from_>fr then [] else t::rH fr r
end
def aG(s:Str):Str:=Lib.trimSuffix s [10]
def s7(s:Str):List Str×Int:=if 65536<s.length then ([],1) else if (X9 s).2≠0\/100<(X9 s).1.length then ([],1) else ((X9 s).1.map aG,0)
def d8(P:List Str)(i:Nat):List Str:=(P.take i).map aG++P.drop i
theorem wS(P:List Str)(i:Nat):(d8 P i).length=P.length:=by
 unfold d8;rw[HW,IX,<-HW,JH]
theorem wT{P:List Str}{i:Nat}(h:i<P.length):(d8 P i)[i]?=some P[i]:=by
 unfold d8;rw[II (by rw[IX,IF];omega),IX,IF,Nat.min_eq_left (by omega),JN,IE,Nat.add_zero];exact HQ h
theorem wU{P:List Str}{i:Nat}(h:i<P.length):(d8 P i).set i (aG P[i])=d8 P (i+1):=by
 unfold d8;rw[List.set_append_right _ _ (by rw[IX,IF];omega),IX,IF,Nat.min_eq_left (by omega),JN,IB h,List.set_cons_zero,List.take_add_one,HQ h,Option.toList_some,JI,IL];rfl
theorem wV(P:List Str):d8 P P.length=P.map aG:=by
 unfold d8;rw[HX,List.drop_length,JC]
theorem tJ(P:List Str):d8 P 0=P:=by simp[d8]
end Go.AL
attribute [local semireducible] Go.AL.Neu Go.AL.Eff Go.AL.EffV Go.AL.WpL Go.AL.WpC Go.AL.FnOk Go.AL.LexD Go.AL.Sees Go.AL.RetOk Go.AL.FnIo Go.AL.Met Go.AL.RetS
namespace Go.AL
open Go Go.RowKit
variable {P:Program}{nt:Nat}{fr:Fr}{ob:Obs}
theorem Sim.shutB{S:Ctx}{G:Gh}{a:Act}{w:World}(h:Sim P S fr ob G a w){k t:Nat}{cs:List Cell}{α:Type}{c:α->Nat->Cell}{x:α}(A:C2 ob k=some (.box (cs.map .p)))(J:C8 fr t=some (.s (.one (.ref k 0))))(F:∀j,j<cs.length->cs[j]?=some (c x j)) :
  Sim P S ((t,.s (.one (.eref α cs.length c x 0)))::fr) (Obs.drop k ob) G a w:=by
 have D:=h.drop k;obtain⟨b,N,M,y,H,ha⟩:=h.box A;have q:∀b i z,D1 (Mut S ob G) w b i z->D1 (Mut S (Obs.drop k ob) G) w b i z:=by
  intro b i z v;refine⟨v.1,fun g=>v.2 ?_⟩;rcases g with g | ⟨k',o',hk',hb⟩
  ·exact .inl g
  ·refine .inr ⟨k',o',?_,hb⟩;by_cases d:k'=k
   ·subst d;rw[I5]at hk';cases hk'
   ·rwa[I0 d]at hk'
 refine { D with facts:=fun i s u=>?_ };by_cases E:i=t
 ·subst E;rw[C7]at u;cases u;obtain⟨L,m,K⟩:=h.facts i _ J;rw[y]at m;cases m;refine⟨b,0,K,fun j I=>?_⟩;obtain⟨z,B,C⟩:=ha.get j (.p (c x j)) (by rw[JE,F j I];rfl);refine⟨z,⟨by rw[Nat.zero_add];exact cell_of_heap H (by simpa using B),fun g=>?_⟩,Cell.rep_mono (fun _ _ _ v=>q _ _ _ v) _ _ C⟩;rcases g with g | ⟨k',o',hk',hb,_⟩
  ·have:=h.m0 _ _ g;rcases h.old k _ b A (by rw[y];rfl) with h1 | h1
   ·omega
   ·exact h.m0io _ _ g h1.1
  ·by_cases d:k'=k
   ·subst d;rw[I5]at hk';cases hk'
   ·rw[I0 d]at hk';exact d (h.dis k' k o' _ b hk' A hb (by rw[y];rfl))
 ·rw[C0 (fun e=>E e.symm)]at u;exact D.facts i s u
theorem Sees.shutB{k t:Nat}{cs:List Cell}{α:Type}{c:α->Nat->Cell}(x:α)(d:C2 ob k=some (.box (cs.map .p)))(g:C8 fr t=some (.s (.one (.ref k 0))))(a:∀j,j<cs.length->cs[j]?=some (c x j)) :
  Sees P nt fr ob ((t,.s (.one (.eref α cs.length c x 0)))::fr) (Obs.drop k ob):=fun _ G _ _ _ h=>⟨G,h.shutB d g a⟩
theorem tK{a b:List Bool}(e:a.length=b.length)(h:∀x,D2 a x=D2 b x):a=b:=by
 refine List.ext_getElem e fun i c d=>?_;have:=h i;unfold D2 at this;rw[HQ c,HQ d]at this;exact this
theorem kB{l:List Bool}{i:Nat}(a:i<l.length)(h:D2 l i=false):(l.set i true).count false+1=l.count false:=by
 unfold D2 at h;rw[HQ a]at h;have h:l[i]=false:=h;rw[List.count_set a,h];have:0<l.count false:=List.count_pos_iff.2 (by rw[<-h];exact HT a);simp only[beq_self_eq_true,if_true,beq_iff_eq,Bool.true_eq_false,if_false];omega
structure Dfs (g:Graph) (c:Nat) (x:Option Nat) (k:Nat) (out:List Bool) (op:List Int):Prop where
 len:out.length=g.length
 sound:∀y,D2 out y=true->c=y\/Reaches g c y
 start:D2 out c=true
 opn:∀y∈op,0<=y/\D2 out y.toNat=true
 at_:∀y,x=some y->D2 out y=true/\∀p∈(C6 g y).take k,D2 out p.toNat=true
 clo:∀y,D2 out y=true->(y:Int)∈op\/x=some y\/∀p∈C6 g y,D2 out p.toNat=true
theorem Dfs.init{g:Graph}{c:Nat}(h:c<g.length):Dfs g c none 0 ((List.replicate g.length false).set c true) [(c:Int)]:=by
 have b:∀y,D2 ((List.replicate g.length false).set c true) y=true->c=y:=fun y a=>by
  rw[Z2]at a;have f:D2 (List.replicate g.length false) y=false:=by
   unfold D2;rw[List.getElem?_replicate];split<;>rfl
  rw[f,Bool.false_or]at a;exact (A0 a).1
 have d:D2 ((List.replicate g.length false).set c true) c=true:=by
  rw[Z2,A2 ⟨rfl,by rw[IN];exact h⟩,Bool.or_true]
 exact⟨by rw[IT,IN],fun y a=>.inl (b y a),d,fun y a=>by rw[List.mem_singleton.1 a];exact⟨by omega,d⟩,fun y a=>(by cases a),fun y a=>.inl (by rw[b y a];simp)⟩
theorem Dfs.pop{g:Graph}{c:Nat}{d:List Bool}{e:List Int}{x:Nat}(h:Dfs g c none 0 d (e++[(x:Int)])):Dfs g c (some x) 0 d e:=by
 refine⟨h.len,h.sound,h.start,fun y b=>h.opn y (by simp[b]),fun y b=>?_,fun y b=>?_⟩
 ·cases b;exact⟨(h.opn x (by simp)).2,fun p f=>by simp at f⟩
 ·rcases h.clo y b with a | a | a
  ·rcases HV.1 a with a | a
   ·exact .inl a
   ·refine .inr (.inl ?_);have:=List.mem_singleton.1 a
    congr 1;omega
  ·cases a
  ·exact .inr (.inr a)
theorem bV{l:List Int}{k:Nat}{p q:Int}(b:l[k]?=some p)(a:q∈l.take (k+1)):q∈l.take k\/q=p:=by
 rw[List.take_add_one,b]at a;simpa using a
theorem Dfs.skip{g:Graph}{c:Nat}{a:List Bool}{e:List Int}{x k:Nat}{p:Int}(h:Dfs g c (some x) k a e)(j:(C6 g x)[k]?=some p)(l:D2 a p.toNat=true):Dfs g c (some x) (k+1) a e:=by
 refine⟨h.len,h.sound,h.start,h.opn,fun y d=>?_,h.clo⟩;obtain⟨f,i⟩:=h.at_ y d;refine⟨f,fun q m=>?_⟩;cases d;rcases bV j m with b | b
 ·exact i q b
 ·rw[b];exact l
theorem Dfs.push{g:Graph}{c:Nat}{d:List Bool}{z:List Int}{x k p:Nat}(h:Dfs g c (some x) k d z)(w:(C6 g x)[k]?=some (p:Int))(A:p<g.length):Dfs g c (some x) (k+1) (d.set p true) (z++[(p:Int)]):=by
 have b:∀{y},D2 d y=true->D2 (d.set p true) y=true:=fun {y} a=>by rw[Z2,a,Bool.true_or]
 have s:D2 (d.set p true) p=true:=by rw[Z2,A2 ⟨rfl,by rw[h.len];exact A⟩,Bool.or_true]
 have f:(p:Int)∈C6 g x:=IP w;refine⟨by rw[IT];exact h.len,fun y a=>?_,b h.start,fun y a=>?_,fun y a=>?_,fun y a=>?_⟩
 ·rw[Z2,IH]at a;rcases a with a | a
  ·exact h.sound y a
  ·have j:=(A0 a).1;subst j;rcases h.sound x (h.at_ x rfl).1 with t | t
   ·subst t;exact .inr (.one f)
   ·exact .inr (.more t f)
 ·rcases HV.1 a with a | a
  ·exact⟨(h.opn y a).1,b (h.opn y a).2⟩
  ·rw[List.mem_singleton.1 a];exact⟨by omega,by rw[HS];exact s⟩
 ·cases a;refine⟨b (h.at_ x rfl).1,fun q v=>?_⟩;rcases bV w v with u | u
  ·exact b ((h.at_ x rfl).2 q u)
  ·rw[u,HS];exact s
 ·rw[Z2,IH]at a;rcases a with a | a
  ·rcases h.clo y a with j | j | j
   ·exact .inl (by simp[j])
   ·exact .inr (.inl j)
   ·exact .inr (.inr fun q v=>b (j q v))
  ·rw[<-(A0 a).1];exact .inl (by simp)
theorem Dfs.close{g:Graph}{c:Nat}{b:List Bool}{f:List Int}{x:Nat}(h:Dfs g c (some x) (C6 g x).length b f):Dfs g c none 0 b f:=by
 refine⟨h.len,h.sound,h.start,h.opn,fun y d=>by (cases d),fun y d=>?_⟩;rcases h.clo y d with a | a | a
 ·exact .inl a
 ·refine .inr (.inr fun p j=>?_);cases a;exact (h.at_ x rfl).2 p (by rw[HX];exact j)
 ·exact .inr (.inr a)
theorem Dfs.done{g:Graph}(o:related g=true){c:Nat}(t:c<g.length){b:List Bool}(h:Dfs g c none 0 b []):b=G6 g [(c:Int)]:=by
 have i:=fun x=>aV o (s:=[(c:Int)]) (fun f j=>by rw[List.mem_singleton.1 j];omega) x;have e:∀y,D2 b y=true->∀p:Nat,(p:Int)∈C6 g y->D2 b p=true:=fun y l p n=>by
  rcases h.clo y l with a | a | a
  ·cases a
  ·cases a
  ·have:=a _ n;rwa[HS]at this
 have d:∀y,Reaches g c y->D2 b y=true:=fun y l=>by
  induction l with
  | one a=>exact e c h.start _ a
  | more _ m r=>exact e _ r _ m
 refine tK (by rw[h.len,W5]) fun x=>?_;rw[Bool.eq_iff_iff,i x];constructor
 ·intro q;exact⟨c,by simp,h.sound x q⟩
 ·rintro⟨f,j,a⟩;have k:f=c:=by have:=List.mem_singleton.1 j;omega
  rw[k]at a;rcases a with a | a
  ·rw[<-a];exact h.start
  ·exact d x a
def kC(g:Graph)(a b:Nat)(i:Nat):Bool:=D2 (G6 g [(a:Int)]) i&&D2 (G6 g [(b:Int)]) i
def M5(g:Graph)(a b n:Nat):List Int:=((List.range n).filter fun i=>kC g a b i).map fun (i:Nat)=>(i:Int)
theorem rI(g:Graph)(a b n:Nat):M5 g a b (n+1)=if kC g a b n=true then M5 g a b n++[(n:Int)] else M5 g a b n:=by
 unfold M5;rw[JR,List.filter_append,JI];by_cases h:kC g a b n=true
 ·rw[A4 h,List.filter_cons,A4 h];rfl
 ·rw[A5 h,List.filter_cons,A5 h];simp
theorem tL(g:Graph)(a b n:Nat):(M5 g a b n).length<=n:=by
 unfold M5;rw[IX];exact Nat.le_trans (List.length_filter_le _ _) (by rw[IW];exact Nat.le_refl _)
def I4(g:Graph)(cov:List Bool)(c:Int)(n:Nat):List Bool:=(List.range cov.length).map fun i=>D2 cov i||(decide (i<n)&&(D2 (G6 g [c]) i&&decide ((i:Int)≠c)))
def Q5(g:Graph):List Int->List Bool->List Bool
 | [],cov=>cov
 | c::r,cov=>Q5 g r (I4 g cov c g.length)
def kV(g:Graph)(l:List Int):List Int:=l.filter fun i=>!D2 (Q5 g l (List.replicate g.length false)) i.toNat
def eL(g:Graph)(a b:Nat):List Int:=kV g (M5 g a b g.length)
theorem S4(g:Graph)(cov:List Bool)(c:Int)(n:Nat):(I4 g cov c n).length=cov.length:=by unfold I4;rw[IX,IW]
theorem tM(g:Graph)(cov:List Bool)(c:Int):I4 g cov c 0=cov:=by
 refine tK (S4 g cov c 0) fun x=>?_;unfold I4 D2;rw[JE];by_cases h:x<cov.length
 ·rw[HQ (by rw[IW];exact h),List.getElem_range];simp[D2]
 ·rw[IK (by rw[IW];omega),IK (by omega)];rfl
theorem kD{g:Graph}{a:List Bool}{c:Int}{n x:Nat}(h:x<a.length):(I4 g a c n)[x]?=some (D2 a x||(decide (x<n)&&(D2 (G6 g [c]) x&&decide ((x:Int)≠c)))):=by
 unfold I4;rw[JE,HQ (by rw[IW];exact h),List.getElem_range];rfl
theorem tN{g:Graph}{cov:List Bool}{c:Int}{n:Nat}(h:n<cov.length):(I4 g cov c n).set n (D2 (I4 g cov c n) n||(D2 (G6 g [c]) n&&decide ((n:Int)≠c)))=I4 g cov c (n+1):=by
 refine tK (by rw[IT,S4,S4]) fun x=>?_;have j:D2 (I4 g cov c n) n=D2 cov n:=by
  have:=kD (g:=g) (c:=c) (n:=n) h;unfold D2 at this ⊢;rw[this];simp
 rw[j];by_cases d:x<cov.length
 ·have i:D2 (I4 g cov c (n+1)) x=(D2 cov x||(decide (x<n+1)&&(D2 (G6 g [c]) x&&decide ((x:Int)≠c)))):=by
   have:=kD (g:=g) (c:=c) (n:=n+1) d;rw[show D2 (I4 g cov c (n+1)) x=((I4 g cov c (n+1))[x]?).getD false from rfl,this];rfl
  have f:D2 (I4 g cov c n) x=(D2 cov x||(decide (x<n)&&(D2 (G6 g [c]) x&&decide ((x:Int)≠c)))):=by
   have:=kD (g:=g) (c:=c) (n:=n) d;rw[show D2 (I4 g cov c n) x=((I4 g cov c n)[x]?).getD false from rfl,this];rfl
  rw[i];by_cases a:n=x
  ·subst a;unfold D2;rw[List.getElem?_set_self (by rw[S4];exact h)];rw[show decide (n<n+1)=true by simp,Bool.true_and];rfl
  ·rw[show D2 ((I4 g cov c n).set n (D2 cov n||(D2 (G6 g [c]) n&&decide ((n:Int)≠c)))) x=D2 (I4 g cov c n) x by unfold D2;rw[List.getElem?_set_ne a],f];by_cases b:x<n
   ·rw[A2 b,A2 (show x<n+1 by omega)]
   ·rw[A3 b,A3 (show ¬x<n+1 by omega)]
 ·unfold D2;rw[IK (by rw[IT,S4];omega),IK (by rw[S4];omega)]
structure AG (A:Auto):Prop where
 len:1<=A.States.length/\A.States.length<=8000
 start:0<=A.Start/\A.Start<A.States.length
 good:∀q∈A.States,mK A.States.length q=true
theorem AG.check{A:Auto}(h:AG A):zL A=0:=by
 obtain⟨a,b⟩:=h.len;obtain⟨c,d⟩:=h.start;unfold zL;rw[A5 (by omega),A4 (List.all_eq_true.2 h.good)]
structure MG (A:Auto) (m:Mach):Prop where
 sl:m.2.length=A.States.length
 cnt:m.1.length+m.2.count false<=A.States.length
 st:∀t∈m.1,0<=t.state/\t.state<A.States.length
theorem count_set{sn:List Bool}:∀{i:Nat},sn[i]?=some false->(sn.set i true).count false+1=sn.count false:=by
 induction sn with
 | nil=>intro i h;cases h
 | cons b r a =>
  intro i h;cases i with
  | zero =>
   rw[List.getElem?_cons_zero]at h;cases h;simp
  | succ i =>
   rw[List.getElem?_cons_succ]at h;have:=a h;rw[List.set_cons_succ,List.count_cons,List.count_cons];omega
theorem MG.first(A:Auto):MG A ([],List.replicate A.States.length false):=⟨by simp,by simp,fun _ h=>by cases h⟩
theorem DK{sn:List Bool}{i:Nat}(h:i<sn.length):sn[i]?=some (D2 sn i):=by
 unfold D2;rw[HQ h];rfl
theorem MG.push{A:Auto}{m:Mach}(h:MG A m){i:Int}(c:0<=i/\i<A.States.length)(fr:Int)(d:D2 m.2 i.toNat=false):MG A (m.1++[⟨i,fr⟩],m.2.set i.toNat true):=by
 have b:=h.sl;have e:=count_set (sn:=m.2) (i:=i.toNat) (by rw[<-d];exact DK (by omega));have f:=h.cnt;refine⟨by dsimp only;rw[IT];exact b,by dsimp only;rw[HW,List.length_singleton];omega,fun t a=>?_⟩;rcases HV.1 a with a | a
 ·exact h.st t a
 ·rw[List.mem_singleton.1 a];exact c
section
variable (A:Auto) (s:Str)
variable {A}
theorem rJ(fr:Int):∀a:List Thread,(rH fr a).length<=a.length/\∀t∈rH fr a,t∈a
 | []=>⟨Nat.le_refl _,fun _ h=>h⟩
 | t::r=>by
  have c:=rJ fr r;unfold rH;split
  ·exact⟨Nat.zero_le _,fun _ h=>by cases h⟩
  ·refine⟨by rw[HU,HU];omega,fun x b=>?_⟩;rcases HZ.1 b with rfl | b
   ·simp
   ·exact List.mem_cons_of_mem _ (c.2 x b)
theorem MG.keep{m:Mach}(h:MG A m)(fr:Int):MG A (rH fr m.1,m.2):=by
 have a:=rJ fr m.1;have c:=h.cnt;exact⟨h.sl,by dsimp only;omega,fun t b=>h.st t (a.2 t b)⟩
end
section
variable (A:Auto) (s:Str)
abbrev zM(p:Nat)(k:Int):List Int:=BB (rG A k) (decide (p=0)) (decide (p=s.length))
def reads(p:Nat)(k:Int):Prop:=(rG A k).Kind=0/\DJ (rG A k).Set (s.getD p 0).toNat=1
inductive Run:Int->Nat->Prop
 | start {i:Nat} (hi:i<=s.length):Run A.Start i
 | eps {k j:Int} {p:Nat} (h:Run k p) (hj:j∈zM A s p k):Run j p
 | read {k:Int} {p:Nat} (h:Run k p) (hp:p<s.length) (hr:reads A s p k):Run (rG A k).Next (p+1)
abbrev GM(k:Int):Prop:=0<=k/\k<A.States.length
variable {A s}
variable (A s)
def BT(m:Mach)(k:Int):Prop:=GM A k/\D2 m.2 k.toNat=true
structure Sy (p:Nat) (m:Mach):Prop where
 mg:MG A m
 fr:∀t∈m.1,0<=t.from_
 sync:∀k,BT A m k↔∃t∈m.1,t.state=k
variable {A s}
theorem wW{a:List Bool}{i c:Nat}(b:i<a.length):D2 (a.set i true) c=(D2 a c||decide (i=c)):=by
 unfold D2;rw[List.getElem?_set];by_cases e:i=c
 ·subst e;rw[A4 rfl,A4 b];simp
 ·rw[A5 e];simp[e]
theorem zN{m:Mach}(d:MG A m){i:Int}(c:GM A i){fr:Int}(k:Int):BT A (m.1++[⟨i,fr⟩],m.2.set i.toNat true) k↔BT A m k\/k=i:=by
 unfold BT;rw[wW (by rw[d.sl];have:=c.2;have:=c.1;omega),IH,decide_eq_true_eq];constructor
 ·rintro⟨a,b | b⟩
  ·exact .inl ⟨a,b⟩
  ·right;have:=c.1;have:=a.1;omega
 ·rintro (⟨a,b⟩ | rfl)
  ·exact⟨a,.inl b⟩
  ·exact⟨c,.inr rfl⟩
theorem Sy.push{p:Nat}{m:Mach}(h:Sy A p m){i:Int}(c:GM A i){fr:Int}(b:0<=fr)(d:D2 m.2 i.toNat=false):Sy A p (m.1++[⟨i,fr⟩],m.2.set i.toNat true) where
 mg:=h.mg.push c fr d
 fr:=fun t a=>by
  rcases HV.1 a with a | a
  ·exact h.fr t a
  ·rw[List.mem_singleton.1 a];exact b
 sync:=fun k=>by
  rw[zN h.mg c,h.sync k];constructor
  ·rintro (⟨t,a,e⟩ | rfl)
   ·exact⟨t,List.mem_append_left _ a,e⟩
   ·exact⟨⟨k,fr⟩,by simp,rfl⟩
  ·rintro⟨t,a,e⟩;rcases HV.1 a with a | a
   ·exact .inl ⟨t,a,e⟩
   ·right;rw[<-e,List.mem_singleton.1 a]
def Shut(A:Auto)(s:Str)(p:Nat)(m:Mach):Prop:=∀k,BT A m k->∀j∈zM A s p k,BT A m j
theorem Sy.first(A:Auto)(p:Nat):Sy A p ([],List.replicate A.States.length false) where
 mg:=MG.first A
 fr:=fun _ h=>by cases h
 sync:=fun k=>by
  constructor
  ·rintro⟨b,a⟩;unfold D2 at a;rw[List.getElem?_replicate]at a;split at a<;>cases a
  ·rintro⟨_,h,_⟩;cases h
structure NI (A:Auto) (s:Str) (a:Nat) (m:Mach):Prop where
 sy:Sy A a m
 shut:Shut A s a m
 sound:∀k,BT A m k->Run A s k a
 all:∀p k,p+1=a->Run A s k p->reads A s p k->BT A m (rG A k).Next
 no:∀p k,p<a->Run A s k p->(rG A k).Kind≠4
end
def zO(s:Str)(i:Nat):Option (Int×Nat):=(eE (s.drop i)).map fun p=>((p.1:Int),i+p.2)
theorem digs_le(s:Str):(J7 s).length<=s.length:=(List.takeWhile_sublist _).length_le
def GS(l:List Node):Prop:=∀(i:Nat) (n:Node),l[i]?=some n->FO n i=true
section
variable (s:Str)
abbrev DL(st:PSt)(k:Int):Prop:=0<=k/\k<st.nodes.length
structure Gr (a b:Nat) (st st':PSt):Prop where
 at_:st.at_<=st'.at_
 len:st'.at_<=s.length
 dep:st'.depth=st.depth
 cnt:st'.nodes.length+st.at_+a<=st.nodes.length+st'.at_+b
 more:st.nodes.length<=st'.nodes.length
 ok:GS st.nodes->GS st'.nodes
variable {s}
theorem Gr.trans{a b c d:Nat}{x y z:PSt}(h:Gr s a b x y)(g:Gr s c d y z):Gr s (a+c) (b+d) x z where
 at_:=Nat.le_trans h.at_ g.at_
 len:=g.len
 dep:=g.dep.trans h.dep
 cnt:=by have:=h.cnt;have:=g.cnt;omega
 more:=Nat.le_trans h.more g.more
 ok:=fun k=>g.ok (h.ok k)
theorem Gr.le{a b c d:Nat}{x y:PSt}(h:Gr s a b x y)(e:c+b<=a+d):Gr s c d x y where
 at_:=h.at_
 len:=h.len
 dep:=h.dep
 cnt:=by have:=h.cnt;omega
 more:=h.more
 ok:=h.ok
theorem Gr.refl{x:PSt}(h:x.at_<=s.length):Gr s 0 0 x x:=⟨Nat.le_refl _,h,rfl,by omega,Nat.le_refl _,fun h=>h⟩
structure GrAll (f:Nat):Prop where
 pat:∀{x y:PSt} {n:Int},x.at_<=s.length->FN s zO f x=.ok (y,n)->Gr s 0 2 x y/\DL y n
 loop:∀{x y:PSt} {kids:List Int} {n:Int},x.at_<=s.length->(∀k∈kids,DL x k)->oG s zO f x kids=.ok (y,n)->Gr s 0 1 x y/\DL y n
 alt:∀{x y:PSt} {kids:List Int} {n:Int},x.at_<=s.length->(∀k∈kids,DL x k)->BA s zO f x kids=.ok (y,n)->Gr s 0 1 x y/\DL y n
 piece:∀{x y:PSt} {c:UInt8} {n:Int},s[x.at_]?=some c->zJ s zO f x c=.ok (y,n)->Gr s 0 0 x y/\DL y n
 paren:∀{x y:PSt} {n:Int},x.at_+1<=s.length->zK s zO f x=.ok (y,n)->Gr s 0 0 x y/\DL y n
end
abbrev Lng:=Nat->Nat->Prop
section
variable (A:Auto) (s:Str)
def FS:Nat->Int->Nat->Prop
 | 0,k,p=>(rG A k).Kind=4/\p<=s.length
 | n+1,k,p=>(∃j∈zM A s p k,FS n j p)\/(p<s.length/\reads A s p k/\FS n (rG A k).Next (p+1))
def Ac(k:Int)(p:Nat):Prop:=∃n,FS A s n k p
def Leads(q next:Int)(R:Lng):Prop:=(∀n i,FS A s n q i->∃m j,m<=n/\R i j/\FS A s m next j)/\(∀i j,R i j->Ac A s next j->Ac A s q i)
variable {A s}
theorem Leads.congr{q next:Int}{R S:Lng}(h:Leads A s q next R)(a:∀i j,R i j↔S i j):Leads A s q next S :=
 ⟨fun n i ha=>let ⟨m,j,b,c,d⟩:=h.1 n i ha;⟨m,j,b,(a i j).1 c,d⟩,fun i j e ha=>h.2 i j ((a i j).2 e) ha⟩
theorem Leads.trans{q r t:Int}{R S:Lng}(h:Leads A s q r R)(g:Leads A s r t S):Leads A s q t (fun i j=>∃p,R i p/\S p j) :=
 ⟨fun n i ha=>let ⟨m,p,d,b,e⟩:=h.1 n i ha;let ⟨f,j,g1,a,c⟩:=g.1 m p e;⟨f,j,Nat.le_trans g1 d,⟨p,b,a⟩,c⟩,
  fun i j ⟨p,b,a⟩ ha=>h.2 i p b (g.2 p j a ha)⟩
end
variable {L:List Node}{s:Str}
def zP(T:List (List Bool))(i j:Nat):Bool:=((T[i]?).getD [])[j]?.getD false
structure Tab (s:Str) (T:List (List Bool)) (R:Lng):Prop where
 len:T.length=s.length+1
 row:∀r∈T,r.length=s.length+1
 is:∀i j,i<=s.length->j<=s.length->(zP T i j=true↔R i j)
theorem Tab.congr{T:List (List Bool)}{R S:Lng}(h:Tab s T R)(d:∀i j,i<=s.length->j<=s.length->(R i j↔S i j)):Tab s T S:=⟨h.len,h.row,fun i j b c=>(h.is i j b c).trans (d i j b c)⟩
variable {n:Node}{D:Int->Lng}
theorem Tab.cell{T:List (List Bool)}{R:Lng}(h:Tab s T R){i:Nat}(b:i<=s.length):∃a,T[i]?=some a/\a.length=s.length+1/\∀j,j<=s.length->a[j]?=some (zP T i j):=by
 have d:=h.len;refine⟨T[i],HQ (by omega),h.row _ (HT _),fun j c=>?_⟩;have e:=h.row T[i] (HT _);unfold zP;rw[HQ (show i<T.length by omega)];dsimp only[Option.getD_some];rw[HQ (by omega)];rfl
end Go.AL
