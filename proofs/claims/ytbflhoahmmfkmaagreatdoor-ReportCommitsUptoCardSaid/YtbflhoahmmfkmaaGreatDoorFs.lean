/- Plain facts about data; no project text. -/
import Derived.Test.YtbflhoahmmfkmaaGreatDoorD
import Derived.Lib.Strings
import Derived.Lib.Bytealg
import Derived.Lib.Join
import Derived.Lib.ItoaNum
import Derived.Test.YtbflhoahmmfkmaaGreatDoorAn
import Derived.Lib.IndexMore
import Derived.Lib.SliceRun
set_option linter.all false
namespace Go.AL
open Go
theorem RV(c:UInt8):((c.toNat:Int)=10)↔c=10:=by
 constructor
 ·intro h;have:c.toNat=10:=by omega
  exact UInt8.toNat_inj.1 (by simpa using this)
 ·rintro rfl;rfl
def H9(a:Str):Str->List Str
 | []=>if a=[] then [] else [a]
 | c::r=>if c=10 then (a++[c])::H9 [] r else H9 (a++[c]) r
def G4(b:Str):List Str:=H9 [] b
theorem dI(a:Str)(s:Str):(H9 a s).length<=s.length+1:=by
 induction s generalizing a with
 | nil=>unfold H9;split<;>simp
 | cons c r b=>unfold H9;split<;>simp<;>(have:=b [];have:=b (a++[c]);omega)
theorem fX(s:Str):(H9 [] s).length<=s.length:=by
 have b:∀(s a:Str),a≠[]->(H9 a s).length<=s.length+1:=fun s a _=>dI a s;induction s with
 | nil=>simp[H9]
 | cons c r d=>unfold H9;split<;>simp<;>(have:=dI ([]++[c]) r;simp at this;omega)
theorem w8(b:Str):(G4 b).length<=b.length:=fX b
theorem aS(a r:Str)(c:UInt8):H9 a (c::r)=if c=10 then (a++[c])::H9 [] r else H9 (a++[c]) r:=rfl
theorem vU(a:Str)(h:a≠[]):H9 a []=[a]:=by simp[H9,h]
theorem or_pick{p q:Prop}[Decidable p][Decidable q]:(if decide p=true then true else decide q)=decide (p\/q):=by by_cases p<;>simp[*]
theorem and_pick{p q:Prop}[Decidable p][Decidable q]:(if decide p=true then decide q else false)=decide (p/\q):=by by_cases p<;>simp[*]
theorem kI{α:Type}(l:List (List α))(i:Nat)(h:i<l.length):(l.take (i+1)).flatten=(l.take i).flatten++l[i]:=by
 rw[List.take_add_one,VA h,Option.toList_some,WP];simp
theorem dJ{α:Type}(l:List (List α))(i:Nat):(l.take i).flatten.length<=l.flatten.length:=by
 conv=>rhs;rw[<-WR i l,WP,VF]
 omega
theorem CW(i:Nat):((i:Int)+1).toNat=i+1:=by omega
theorem tP{α:Type}(b:List α)(f i:Nat)(d:f<=i)(c:i<b.length):(b.drop f).take (i-f)++[b[i]]=(b.drop f).take (i+1-f):=by
 rw[show i+1-f=(i-f)+1 by omega,List.take_add_one,WD,show f+(i-f)=i by omega,VA c];rfl
def ended(s:Str):Bool:=s.getLast? == some 10
def r9:List Str->Str->Int->Int
 | [],_,_ => -1
 | x::r,s,i=>if x=s then i else r9 r s (i+1)
def W5(s:Str):Bool:=s.dropLast.all (·≠10)&&s != []
def CX:List Str->Bool
 | []=>true
 | s::r=>W5 s&&(r.isEmpty||ended s)&&CX r
def V5(b:Str):Int:=if b.length>1048576\/(G4 b).length>4096 then 1 else 0
def PL(l:List Str):Str×Int:=if CX l=false then ([],2) else if l.flatten.length>1048576\/l.length>4096 then ([],1) else (l.flatten,0)
def fM(a:List Str)(s:Str):List Str:=if s∈a then a else a++[s]
def y9(files:List (List Str)):List Str:=files.flatten.foldl fM []
def gX(a:List Str)(b:List Str):List Int:=b.map (fun s=>r9 a s 0)
def o9(i j:Int):List Span->Int->Int->List Change
 | [],m,n=>if m>i\/n>j then [⟨i,m-i,j,n-j⟩] else []
 | x::r,m,n=>(if x.From>i\/x.To>j then [⟨i,x.From-i,j,x.To-j⟩] else [])++o9 (x.From+1) (x.To+1) r m n
def CY(p:List Span)(m n:Int):List Change:=o9 0 0 p m n
def oA(i j:Int)(n:Nat):List Span:=(List.range n).map fun (t:Nat)=>⟨i+(t:Int),j+(t:Int)⟩
def bI(i j:Int):List Change->Int->List Span
 | [],m=>oA i j (m-i).toNat
 | c::r,m=>oA i j (c.Old-i).toNat++bI (max i c.Old+c.OldLen) (j+(c.Old-i).toNat+c.NewLen) r m
def tQ(l:List Change)(m:Int):List Span:=bI 0 0 l m
def dist:List Int->List Int->Nat
 | [],b=>b.length
 | x::a,[]=>(x::a).length
 | x::a,y::b=>if x=y then dist a b else 1+min (dist a (y::b)) (dist (x::a) b)
def c8(i j:Int):List Int->List Int->List Span
 | [],_=>[]
 | _::_,[]=>[]
 | x::a,y::b=>if x=y then ⟨i,j⟩::c8 (i+1) (j+1) a b else if dist a (y::b)+1=dist (x::a) (y::b) then c8 (i+1) j a (y::b) else c8 i (j+1) (x::a) b
def CZ(a b:List Int):List Change:=CY (c8 0 0 a b) a.length b.length
theorem nQ(p q:Int)(b:List Int):c8 p q [] b=[]:=by simp[c8]
theorem lU(p q:Int)(a:List Int):c8 p q a []=[]:=by cases a<;>simp[c8]
universe u
def Asc(m n:Int):Int->Int->List Span->Prop
 | i,j,[]=>i<=m/\j<=n
 | i,j,x::r=>i<=x.From/\j<=x.To/\Asc m n (x.From+1) (x.To+1) r
theorem Asc.le{m n:Int}:∀{p:List Span} {i j:Int},Asc m n i j p->i<=m/\j<=n
 | [],i,j,h=>h
 | x::r,i,j,h=>by have:=Asc.le h.2.2;have:=h.1;have:=h.2.1;omega
theorem Asc.weaken{m n:Int}{p:List Span}{i j i' j':Int}(h:Asc m n i j p)(a:i'<=i)(b:j'<=j):Asc m n i' j' p:=by
 cases p with
 | nil=>exact⟨by have:=h.1;omega,by have:=h.2;omega⟩
 | cons x r=>exact⟨by have:=h.1;omega,by have:=h.2.1;omega,h.2.2⟩
theorem DA(a b:List Int):∀(p q:Int),Asc (p+a.length) (q+b.length) p q (c8 p q a b):=by
 induction a generalizing b with
 | nil=>intro p q;rw[nQ];simp only[Asc,VI];omega
 | cons x a c =>
  induction b with
  | nil=>intro p q;rw[lU];simp only[Asc,VI];omega
  | cons y b d =>
   intro p q;rw[c8];split
   ·have:=c b (p+1) (q+1);refine⟨Int.le_refl _,Int.le_refl _,?_⟩;simp only[VD]
    rwa[show p+((a.length+1:Nat):Int)=p+1+a.length by omega,show q+((b.length+1:Nat):Int)=q+1+b.length by omega]
   ·split
    ·have:=(c (y::b) (p+1) q).weaken (i':=p) (j':=q) (by omega) (Int.le_refl _)
     rwa[show p+((x::a).length:Int)=p+1+a.length by simp;omega]
    ·have:=(d p (q+1)).weaken (i':=p) (j':=q) (Int.le_refl _) (by omega)
     rwa[show q+((y::b).length:Int)=q+1+b.length by simp;omega]
theorem Asc.made{m n:Int}:∀{p:List Span} {i j:Int},Asc m n i j p->∀c∈o9 i j p m n,i<=c.Old/\j<=c.New/\0<=c.OldLen/\0<=c.NewLen/\c.Old+c.OldLen<=m/\c.New+c.NewLen<=n
 | [],i,j,h,c,a=>by
  unfold o9 at a;split at a
  ·simp only[List.mem_singleton]at a;subst a;have:=h.1;have:=h.2;simp only;omega
  ·cases a
 | x::r,i,j,h,c,a=>by
  unfold o9 at a;obtain⟨d,e,b⟩:=h;have f:=b.le;rcases VG.1 a with a | a
  ·split at a
   ·simp only[List.mem_singleton]at a;subst a;simp only;omega
   ·cases a
  ·have:=Asc.made b c a;omega
def RW(m:Int)(c:Nat):Bool:=m / 2 ^ c % 2 == 1
def TL(r:Row)(c:Int):Bool:=if c = -1 then !r.Lost else if c < -1\/32<=c then false else RW r.Marks c.toNat == r.Lost
def RX(b:List Row)(c:Int):List Str:=(b.filter (TL · c)).map (·.Text)
def PM(n:Nat)(r:Row):Bool:=r.Marks / 2 ^ n == 0&&!(r.Lost&&r.Marks == 0)
theorem PN(m c:Int)(b:Nat)(a:0<=c/\c<=b):m.fdiv (2 ^ (min c.toNat b))=m / 2 ^ c.toNat:=by
 rw[show min c.toNat b=c.toNat by omega,Int.fdiv_eq_ediv_of_nonneg _ (Int.pow_nonneg (by decide))]
abbrev Loom:=List Int×(Nat->List (List Int))
structure LoomOk (Q:Int->Prop) (B lines n:Nat) (s:Loom):Prop where
 len:s.1.length=lines
 marks:∀m∈s.1,0<=m/\m<4294967296
 gaps:∀k,(s.2 k).length=n/\∀x∈s.2 k,x.length<=B/\∀v∈x,Q v
theorem qE(l:List Str)(s:Str):∀k:Int,0<=k->s∈l->k<=r9 l s k/\r9 l s k<k+l.length:=by
 induction l with
 | nil=>intro k _ h;cases h
 | cons x r b =>
  intro k c h;unfold r9;by_cases a:x=s
  ·rw[A4 a];simp;omega
  ·rw[A5 a];have:=b (k+1) (by omega) (by rcases VH.1 h with rfl | h;exact absurd rfl a;exact h);simp only[VD];omega
theorem nR(l:List Str):∀(a:List Str) (s:Str),s∈a\/s∈l->s∈l.foldl fM a:=by
 induction l with
 | nil=>intro a s h;rcases h with h | h;exact h;cases h
 | cons x r b =>
  intro a s h;apply b;rcases h with h | h
  ·left;unfold fM;split;exact h;exact List.mem_append_left _ h
  ·rcases VH.1 h with rfl | h
   ·left;unfold fM;split;assumption;simp
   ·exact .inr h
theorem mX(a:List (List Str))(s:Str)(f:List Str)(b:f∈a)(c:s∈f):s∈y9 a:=nR _ _ _ (.inr (List.mem_flatten.2 ⟨f,b,c⟩))
theorem vV(s:Str):Lib.hasSuffix s [10]=ended s:=by
 unfold Lib.hasSuffix ended;rw[Bool.eq_iff_iff,List.isSuffixOf_iff_suffix,beq_iff_eq];constructor
 ·rintro⟨t,rfl⟩;simp
 ·intro h;obtain⟨a,b⟩:=List.getLast?_eq_some_iff.1 h;exact⟨a,b.symm⟩
theorem X7(c:UInt8):∀l:Str,(c∉l/\Lib.indexByte l c = -1)\/∃a b,l=a++c::b/\c∉a/\Lib.indexByte l c=a.length
 | []=>.inl ⟨by simp,rfl⟩
 | x::l=>by
  unfold Lib.indexByte;by_cases d:x=c
  ·exact .inr ⟨[],l,by rw[d];rfl,by simp,by simp[d]⟩
  ·rcases X7 c l with ⟨e,f⟩ | ⟨a,b,e,f,h3⟩
   ·exact .inl ⟨by simp[e,Ne.symm d],by simp[d,f]⟩
   ·refine .inr ⟨x::a,b,by rw[e];rfl,by simp[f,Ne.symm d],?_⟩;have g:¬((a.length:Int) = -1):=by omega
    simp[d,h3,g]
theorem sA(c:UInt8)(l:Str):0<=Lib.indexByte l c↔c∈l:=by
 rcases X7 c l with ⟨d,e⟩ | ⟨a,b,d,e,h3⟩
 ·rw[e];simp[d]
 ·rw[h3,d];simp
def RY(a b:Int):Int:=IntKind.u32.wrap ((BitVec.ofInt IntKind.u32.bits a &&& BitVec.ofInt IntKind.u32.bits b).toNat:Int)
def RZ(a:Int):Int:=IntKind.u32.wrap ((BitVec.ofInt IntKind.u32.bits IntKind.u32.max ^^^ BitVec.ofInt IntKind.u32.bits a).toNat:Int)
def TM(r:Row):Int:=if r.Lost then r.Marks else RZ r.Marks
def addOk(b:Bool)(a:Int)(r:Row):Bool:=decide (RY a (TM r)=0)&&(r.Lost||!b)
structure EndsAt (res:Bool) (par:Int) (bad:Int->Bool):Prop where
 res:res=bad (-1)
 par:∃p:Nat,p<4294967296/\par=p/\∀c:Nat,c<32->p.testBit c=bad c
def O7(c:UInt8):Bool:=decide (33<=c.toNat/\c.toNat<=126/\c.toNat≠34/\c.toNat≠92)
def digs8:Str:=[48,49,50,51,52,53,54,55]
def digs10:Str:=[48,49,50,51,52,53,54,55,56,57]
def zH(c:UInt8):Str:=(digs8.drop (c.toNat / 64)).take 1++(digs8.drop (c.toNat / 8 % 8)).take 1++(digs8.drop (c.toNat % 8)).take 1
def bJ(c:UInt8):Str:=if c.toNat=34\/c.toNat=92 then [92,c] else if c.toNat=10 then [92,110] else if c.toNat=9 then [92,116] else if c.toNat<32\/126<c.toNat then 92::zH c else [c]
def X8(s:Str):Str:=if s≠[]/\s.all O7=true then s else 34::((s.map bJ).flatten++[34])
theorem HD(c:UInt8):(zH c).length<=3:=by unfold zH;simp only[VF,VM];omega
theorem tR(c:UInt8):(bJ c).length<=4:=by
 have:=HD c;unfold bJ;split
 ·simp
 ·split
  ·simp
  ·split
   ·simp
   ·split
    ·simp only[VD];omega
    ·simp
theorem kJ(s:Str):((s.map bJ).flatten).length<=4*s.length:=by
 induction s with
 | nil=>simp
 | cons c r b=>have:=tR c;simp only[VR,WO,VF,VD];omega
theorem zI(s:Str):(X8 s).length<=4*s.length+2:=by
 unfold X8;have:=kJ s;split
 ·omega
 ·simp only[VD,VF,VI];omega
def c9(n:Int):Str:=if n<0\/2147483647<n then [] else Lib.itoa n
def EP(a n:Int):Str:=if a<0\/n<0\/2147483647<a\/2147483647-a<n then [] else if n=0 then c9 a++[44,48] else if n=1 then c9 (a+1) else c9 (a+1)++[44]++c9 n
theorem gY:∀(k u:Nat),u<10 ^ (k+1)->(Lib.decDigits u).length<=k+1
 | 0,u,h=>by rw[Lib.decDigits,dif_pos (by omega)];simp
 | k+1,u,h=>by
  rw[Lib.decDigits];split
  ·simp
  ·have:=gY k (u / 10) (by rw[Nat.div_lt_iff_lt_mul (by omega)];rw[Nat.pow_succ]at h;omega);simp only[VF,VD,VI];omega
theorem bK(n:Int):(c9 n).length<=10:=by
 unfold c9;split
 ·simp
 ·unfold Lib.itoa;rw[A5 (by omega)];exact gY 9 n.toNat (by omega)
theorem SA(k:Nat)(h:k<10):(digs10.drop k).take 1=[UInt8.ofNat (48+k)]:=by
 have:∀k:Fin 10,(digs10.drop k.1).take 1=[UInt8.ofNat (48+k.1)]:=by decide
 exact this ⟨k,h⟩
theorem HF(n:Int)(b:0<=n)(h:n<10):c9 n=(digs10.drop n.toNat).take 1:=by
 unfold c9 Lib.itoa;rw[A5 (by omega),A5 (by omega),SA _ (by omega),Lib.decDigits,dif_pos (by omega)]
theorem PO(k:Nat)(h:k<8):(digs8.drop k).take 1=[UInt8.ofNat (48+k)]:=by
 have:∀k:Fin 8,(digs8.drop k.1).take 1=[UInt8.ofNat (48+k.1)]:=by decide
 exact this ⟨k,h⟩
theorem zJ(c:UInt8):zH c=[UInt8.ofNat (48+c.toNat / 64),UInt8.ofNat (48+c.toNat / 8 % 8),UInt8.ofNat (48+c.toNat % 8)]:=by
 have:=c.toNat_lt;unfold zH;rw[PO _ (by omega),PO _ (by omega),PO _ (by omega)];rfl
def escs(s:Str)(i:Nat):Str:=((s.take i).map bJ).flatten
theorem HG(s:Str)(i:Nat)(h:i<s.length):escs s (i+1)=escs s i++bJ s[i]:=by
 unfold escs;rw[WM h,WC,WP];simp only[VR,List.map_nil,WO,List.flatten_nil,WL]
theorem KK(s:Str)(i:Nat)(h:i<=s.length):(escs s i).length<=4*i:=by
 have:=kJ (s.take i);unfold escs;rw[VM]at this;omega
def plains(s:Str)(i:Nat):Bool:=decide (s≠[])&&(s.take i).all O7
theorem zK(s:Str):plains s 0=decide (s≠[]):=by simp[plains]
theorem zL(s:Str)(i:Nat)(h:i<s.length):plains s (i+1)=(plains s i&&O7 s[i]):=by
 unfold plains;rw[WM h,WY];simp only[List.all_cons,List.all_nil,Bool.and_true,Bool.and_assoc]
theorem qF(s:Str):X8 s=if plains s s.length=true then s else (34::escs s s.length)++[34]:=by
 unfold X8 plains escs;rw[VJ];simp only[VB,decide_eq_true_eq,WE]
structure File where
 Path:Str
 Blob:Str
 deriving DecidableEq
structure Delta where
 Path:Str
 Kind:Int
 deriving DecidableEq
structure Commit where
 Parents:List Int
 Date:Int
 Files:List File
 deriving DecidableEq
def Q4:File->Nat->Cell:=fun f j=>match j with
 | 0=>.v (.string ⟨f.Path.toArray⟩)
 | _=>.v (.string ⟨f.Blob.toArray⟩)
def cL:Delta->Nat->Cell:=fun d j=>match j with
 | 0=>.v (.string ⟨d.Path.toArray⟩)
 | _=>.v (.int .i64 d.Kind)
def E7:Commit->Nat->Cell:=fun c j=>match j with
 | 0=>.list Int 1 G2 c.Parents
 | 1=>.v (.int .i64 c.Date)
 | _=>.list File 2 Q4 c.Files
abbrev eO:List File->Nat->Cell:=fun l _=>.list File 2 Q4 l
abbrev cM:List Delta->Nat->Cell:=fun l _=>.list Delta 2 cL l
abbrev EQ(f:File):PV:=.agg [.v (.string ⟨f.Path.toArray⟩),.v (.string ⟨f.Blob.toArray⟩)]
abbrev KL(d:Delta):PV:=.agg [.v (.string ⟨d.Path.toArray⟩),.v (.int .i64 d.Kind)]
abbrev kK(c:Commit):PV:=.agg [.list Int 1 G2 c.Parents,.v (.int .i64 c.Date),.list File 2 Q4 c.Files]
abbrev R7(l:List File):PV:=.one (.list File 2 Q4 l)
abbrev vW(l:List Delta):PV:=.one (.list Delta 2 cL l)
abbrev F4(l:List Commit):PV:=.one (.list Commit 3 E7 l)
abbrev vX(l:List (List File)):PV:=.one (.list (List File) 1 eO l)
theorem dK(a b:Bool):(if a=true then b else false)=(a&&b):=by cases a<;>rfl
theorem SB(a b:Bool):(if a=true then true else b)=(a||b):=by cases a<;>rfl
abbrev aY(a b:Str):Bool:=Op.bytesLess a b
theorem ER(a:Str):aY a []=false:=by cases a<;>rfl
theorem bL(a b:UInt8)(x y:Str):aY (a::x) (b::y)=(decide (a<b)||(a == b&&aY x y)):=rfl
theorem U3:∀a:Str,aY a a=false
 | []=>rfl
 | c::r=>by
  rw[bL,U3 r];have:¬c<c:=by rw[UInt8.lt_iff_toNat_lt];omega
  simp[this]
theorem j6:∀{a b c:Str},aY a b=true->aY b c=true->aY a c=true
 | _,[],_,h,_=>by rw[ER]at h;cases h
 | _,_::_,[],_,h=>by rw[ER]at h;cases h
 | [],_::_,_::_,_,_=>rfl
 | a::x,b::y,c::z,e,d=>by
  rw[bL,VU,VB,decide_eq_true_eq,UInt8.lt_iff_toNat_lt,beq_iff_eq]at e d;rw[bL,VU,VB,decide_eq_true_eq,UInt8.lt_iff_toNat_lt,beq_iff_eq];rcases e with e | ⟨rfl,e⟩
  ·rcases d with d | ⟨rfl,d⟩
   ·left;omega
   ·left;omega
  ·rcases d with d | ⟨rfl,d⟩
   ·left;omega
   ·right;exact⟨rfl,j6 e d⟩
theorem fN:∀{a b:Str},aY a b=false->aY b a=false->a=b
 | [],[],_,_=>rfl
 | [],_::_,h,_=>by cases h
 | _::_,[],_,h=>by cases h
 | a::x,b::y,h1,h2=>by
  rw[bL,WT,decide_eq_false_iff_not,UInt8.lt_iff_toNat_lt]at h1 h2;have e:a=b:=UInt8.toNat_inj.1 (by omega);subst e;simp only[beq_self_eq_true,Bool.true_and]at h1 h2;rw[fN h1.2 h2.2]
theorem HH{a b:Str}(h:aY a b=true):aY b a=false:=by
 cases c:aY b a
 ·rfl
 ·have:=j6 h c;rw[U3]at this;cases this
theorem ES:∀(a:Str) (c:UInt8) (t:Str),aY a (a++c::t)=true
 | [],_,_=>rfl
 | x::r,c,t=>by rw[WE,bL,ES r c t];simp
def P1(s:Str):Bool:=decide (s≠[]/\s≠[46]/\s≠[46,46])
def I4(a:Str):Str->List Str
 | []=>[a]
 | c::r=>if c=47 then a::I4 [] r else I4 (a++[c]) r
def HI(a:Str):Str->Bool
 | []=>P1 a
 | c::r=>if c=0 then false else if c=47 then P1 a&&HI [] r else HI (a++[c]) r
def Z4(p:Str):Int:=if p.length<1\/p.length>200\/HI [] p=false then 210 else 0
theorem iW:∀(s b:Str),HI b s=(!s.contains 0&&(I4 b s).all P1)
 | [],b=>by simp[HI,I4]
 | c::r,b=>by
  rw[HI,I4];by_cases d:c=0
  ·subst d;simp
  ·rw[A5 d];have f:(c::r).contains 0=r.contains 0:=by
    rw[List.contains_cons];have:((0:UInt8) == c)=false:=by simpa using fun e=>d e.symm
    rw[this,Bool.false_or]
   rw[f];split
   ·rw[iW r [],List.all_cons];cases P1 b<;>cases r.contains 0<;>rfl
   ·rw[iW r]
theorem vY(p:Str):Z4 p=if p.length>200\/p.contains 0=true then 210 else if (I4 [] p).all P1=true then 0 else 210:=by
 unfold Z4;rw[iW];by_cases b:p.length>200
 ·rw[A4 (.inr (.inl b)),A4 (.inl b)]
 ·cases d:p.contains 0
  ·rw[A5 (show ¬(p.length>200\/false=true) by simp[b])];cases c:(I4 [] p).all P1
   ·simp
   ·have:¬p.length<1:=by
     intro h;have:p=[]:=List.length_eq_zero_iff.1 (by omega);subst this;simp[I4,P1]at c
    rw[A5 (fun h=>by
     rcases h with h | h | h
     ·exact this h
     ·exact b h
     ·cases h)];rfl
  ·rw[A4 (show p.length>200\/true=true from .inr rfl),A4 (.inr (.inr (by simp)))]
def above(a b:Str):Bool:=decide (b.length>a.length/\b.take a.length=a/\b[a.length]?=some 47)
theorem KM{a b:Str}(h:above a b=true):aY a b=true:=by
 obtain⟨c,f,d⟩:=A0 h;have e:b=a++47::b.drop (a.length+1):=by
  conv=>lhs;rw[<-WR a.length b,f]
  rw[VN c];rw[VA c]at d;rw[Option.some.inj d]
 rw[e];exact ES _ _ _
def V6:List File->Bool
 | []=>true
 | f::r=>r.all (fun x=>aY f.Path x.Path&&!above f.Path x.Path)&&V6 r
def F5(l:List File):Int:=if l.length>200 then 1 else if l.any (fun f=>decide (Z4 f.Path≠0))=true then 210 else if V6 l=false then 211 else if l.any (fun f=>decide (V5 f.Blob≠0))=true then 1 else 0
def N7(p:Str)(ps:List Str):Bool:=(List.range p.length).any fun i=>decide (p.take i∈ps)&&decide (p[i]?=some 47)
def ascend:List File->Bool
 | []=>true
 | [_]=>true
 | f::g::r=>aY f.Path g.Path&&ascend (g::r)
def n8(l:List File):Bool:=ascend l&&l.all fun f=>!N7 f.Path (l.map (·.Path))
theorem qG(p:Str)(ps:List Str):N7 p ps=true↔∃a∈ps,above a p=true:=by
 unfold N7;rw[List.any_eq_true];constructor
 ·rintro⟨i,k,h⟩;rw[VB,decide_eq_true_eq,decide_eq_true_eq]at h;have c:i<p.length:=VL.1 k;have b:(p.take i).length=i:=by rw[VM];omega
  exact⟨_,h.1,A2 ⟨by rw[b];exact c,by rw[b],by rw[b];exact h.2⟩⟩
 ·rintro⟨a,ha,h⟩;obtain⟨d,f,j⟩:=A0 h;exact⟨a.length,VL.2 d,by rw[VB,decide_eq_true_eq,decide_eq_true_eq,f];exact⟨ha,j⟩⟩
theorem Z5:∀{f:File} {r:List File},ascend (f::r)=true->∀x∈r,aY f.Path x.Path=true
 | _,[],_,_,hx=>by cases hx
 | f,g::r,h,x,hx=>by
  unfold ascend at h;rw[VB]at h;rcases VH.1 hx with rfl | hx
  ·exact h.1
  ·exact j6 h.1 (Z5 h.2 x hx)
theorem z1{f:File}{r:List File}(h:ascend (f::r)=true):ascend r=true:=by
 cases r with
 | nil=>rfl
 | cons g r=>unfold ascend at h;rw[VB]at h;exact h.2
theorem d5:∀{l:List File},V6 l=true->ascend l=true
 | [],_=>rfl
 | [_],_=>rfl
 | f::g::r,h=>by
  unfold V6 at h;rw[VB,List.all_eq_true]at h;have a:=h.1 g (by simp);rw[VB]at a;unfold ascend;rw[a.1,d5 h.2];rfl
theorem gZ:∀{l:List File},V6 l=true->∀x∈l,∀y∈l,above x.Path y.Path=false
 | [],_,x,hx,_,_=>by cases hx
 | f::r,h,x,hx,y,hy=>by
  have ha:=d5 h;unfold V6 at h;rw[VB,List.all_eq_true]at h;cases a:above x.Path y.Path
  ·rfl
  have b:=KM a;rcases VH.1 hx with rfl | hx0
  ·rcases VH.1 hy with rfl | hy
   ·rw[U3]at b;cases b
   ·have:=h.1 y hy;rw[a,Bool.not_true,Bool.and_false]at this;cases this
  ·have c:=hx0;rcases VH.1 hy with d | hy2
   ·have:=Z5 ha x c;rw[<-d,HH b]at this;cases this
   ·rw[gZ h.2 x c y hy2]at a;cases a
theorem iX:∀{l:List File},ascend l=true->(∀x∈l,∀y∈l,above x.Path y.Path=false)->V6 l=true
 | [],_,_=>rfl
 | f::r,h,ha=>by
  unfold V6;rw[VB,List.all_eq_true];refine⟨fun x a=>?_,iX (z1 h) fun x a y b=>ha x (by simp[a]) y (by simp[b])⟩;rw[Z5 h x a,ha f (by simp) x (by simp[a])];rfl
theorem DB(l:List File):n8 l=V6 l:=by
 cases h:V6 l
 ·cases c:n8 l
  ·rfl
  unfold n8 at c;rw[VB,List.all_eq_true]at c;have:V6 l=true:=iX c.1 fun x d y e=>by
   cases b:above x.Path y.Path
   ·rfl
   have f:=c.2 y e;rw[(qG _ _).2 ⟨x.Path,List.mem_map_of_mem d,b⟩]at f;cases f
  rw[this]at h;cases h
 ·unfold n8;rw[VB,List.all_eq_true];refine⟨d5 h,fun y e=>?_⟩;cases g:N7 y.Path (l.map (·.Path))
  ·rfl
  obtain⟨a,ha,b⟩:=(qG _ _).1 g;obtain⟨x,d,rfl⟩:=VT.1 ha;rw[gZ h x d y e]at b;cases b
def I2:List File->Str->Option Str
 | [],_=>none
 | f::r,p=>if f.Path=p then some f.Blob else I2 r p
def l5(a:Str)(k:List Str->List Str):List Str->List Str
 | []=>a::k []
 | b::bs=>if aY a b=true then a::k (b::bs) else if aY b a=true then b::l5 a k bs else a::k bs
def w9:List Str->List Str->List Str
 | [],bs=>bs
 | a::as,bs=>l5 a (w9 as) bs
def cN(a b:List File)(p:Str):Option Delta:=match I2 a p,I2 b p with
 | none,_=>some ⟨p,1⟩
 | some _,none=>some ⟨p,2⟩
 | some x,some y=>if x≠y then some ⟨p,3⟩ else none
def S4(a b:List File):List Delta:=(w9 (a.map (·.Path)) (b.map (·.Path))).filterMap (cN a b)
def aT(b:List File)(f:File):Option Delta:=match I2 b f.Path with
 | none=>some ⟨f.Path,2⟩
 | some y=>if y≠f.Blob then some ⟨f.Path,3⟩ else none
def fY(a:List File)(f:File):Option Delta:=match I2 a f.Path with
 | none=>some ⟨f.Path,1⟩
 | some _=>none
def l6(a b:List File):List Delta:=a.filterMap (aT b)++b.filterMap (fY a)
def fZ(x:Delta):List Delta->List Delta
 | []=>[x]
 | y::r=>if aY x.Path y.Path=true then y::fZ x r else x::y::r
def j1:List Delta->List Delta->List Delta
 | acc,[]=>acc
 | acc,x::r=>j1 (fZ x acc) r
def hJ(l:List Delta):List Delta:=(j1 [] l).reverse
def KN(a b:List File):List Delta:=hJ (l6 a b)
theorem kL(x:Delta):∀(l:List Delta) (y:Delta),y∈fZ x l↔y=x\/y∈l
 | [],y=>by simp[fZ]
 | z::r,y=>by
  unfold fZ;split
  ·rw[VH,kL x r,VH];constructor
   ·rintro (h | h | h)
    ·exact .inr (.inl h)
    ·exact .inl h
    ·exact .inr (.inr h)
   ·rintro (h | h | h)
    ·exact .inr (.inl h)
    ·exact .inl h
    ·exact .inr (.inr h)
  ·rw[VH]
theorem mY(x:Delta):∀l:List Delta,(fZ x l).length=l.length+1
 | []=>rfl
 | y::r=>by
  unfold fZ;split
  ·rw[VD,mY x r,VD]
  ·rfl
theorem tS:∀(l a:List Delta) (y:Delta),y∈j1 a l↔y∈a\/y∈l
 | [],a,y=>by simp[j1]
 | x::r,a,y=>by
  unfold j1;rw[tS r,kL,VH];constructor
  ·rintro ((h | h) | h)
   ·exact .inr (.inl h)
   ·exact .inl h
   ·exact .inr (.inr h)
  ·rintro (h | h | h)
   ·exact .inl (.inr h)
   ·exact .inl (.inl h)
   ·exact .inr h
abbrev zM(l:List Delta):Prop:=l.Pairwise fun x y=>aY y.Path x.Path=true
abbrev KO(l:List Delta):Prop:=l.Pairwise fun x y=>aY x.Path y.Path=true
theorem tT{x:Delta}:∀{l:List Delta},zM l->(∀y∈l,y.Path≠x.Path)->zM (fZ x l)
 | [],_,_=>by simp[fZ,zM]
 | y::r,h,hn=>by
  unfold fZ;have d:=List.pairwise_cons.1 h;split
  ·rename_i b;refine List.pairwise_cons.2 ⟨fun z a=>?_,tT d.2 fun z a=>hn z (by simp[a])⟩;rcases (kL x r z).1 a with rfl | a
   ·exact b
   ·exact d.1 z a
  ·rename_i b;have c:aY y.Path x.Path=true:=by
    cases f:aY y.Path x.Path
    ·exact absurd (fN (by simpa using b) f) fun e=>hn y (by simp) e.symm
    ·rfl
   refine List.pairwise_cons.2 ⟨fun z a=>?_,h⟩;rcases VH.1 a with rfl | a
   ·exact c
   ·exact j6 (d.1 z a) c
theorem qH:∀(l b:List Delta),zM b->(l.map (·.Path)).Nodup->(∀x∈l,∀y∈b,y.Path≠x.Path)->zM (j1 b l)
 | [],b,h,_,_=>h
 | x::r,b,h,hn,hd=>by
  unfold j1;rw[VR,List.nodup_cons]at hn;refine qH r _ (tT h (hd x (by simp))) hn.2 fun z f y c=>?_;rcases (kL x b y).1 c with rfl | c
  ·intro e;exact hn.1 (by rw[e];exact List.mem_map_of_mem f)
  ·exact hd z (by simp[f]) y c
theorem HJ{l:List Delta}(h:(l.map (·.Path)).Nodup):KO (hJ l):=by
 unfold hJ KO;rw[List.pairwise_reverse];exact qH l [] List.Pairwise.nil h fun _ _ _ b=>by cases b
theorem HL(l:List Delta)(y:Delta):y∈hJ l↔y∈l:=by
 unfold hJ;rw[List.mem_reverse,tS];simp
theorem ET:∀{l m:List Delta},KO l->KO m->(∀y,y∈l↔y∈m)->l=m
 | [],[],_,_,_=>rfl
 | [],y::_,_,_,h=>by have:=(h y).2 (by simp);cases this
 | y::_,[],_,_,h=>by have:=(h y).1 (by simp);cases this
 | x::l,y::m,h1,h2,h=>by
  have b:=List.pairwise_cons.1 h1;have a2:=List.pairwise_cons.1 h2;have e:x=y:=by
   rcases VH.1 ((h x).1 (by simp)) with e | hx
   ·exact e
   rcases VH.1 ((h y).2 (by simp)) with e | hy
   ·exact e.symm
   have:=j6 (b.1 y hy) (a2.1 x hx);rw[U3]at this;cases this
  subst e;refine congrArg (x::·) (ET b.2 a2.2 fun z=>⟨fun a=>?_,fun a=>?_⟩)
  ·rcases VH.1 ((h z).1 (by simp[a])) with rfl | h3
   ·have:=b.1 z a;rw[U3]at this;cases this
   ·exact h3
  ·rcases VH.1 ((h z).2 (by simp[a])) with rfl | h3
   ·have:=a2.1 z a;rw[U3]at this;cases this
   ·exact h3
abbrev qI(l:List Str):Prop:=l.Pairwise fun x y=>aY x y=true
theorem eP{a:Str}{k:List Str->List Str}{as:List Str}(d:∀c p,p∈k c↔p∈as\/p∈c):∀(c:List Str) (p:Str),p∈l5 a k c↔p=a\/p∈as\/p∈c
 | [],p=>by rw[l5,VH,d]
 | b :: c,p=>by
  rw[l5];split
  ·rw[VH,d]
  ·split
   ·rw[VH,eP d c p,VH];constructor
    ·rintro (h | h | h | h)
     ·exact .inr (.inr (.inl h))
     ·exact .inl h
     ·exact .inr (.inl h)
     ·exact .inr (.inr (.inr h))
    ·rintro (h | h | h | h)
     ·exact .inr (.inl h)
     ·exact .inr (.inr (.inl h))
     ·exact .inl h
     ·exact .inr (.inr (.inr h))
   ·rename_i f g;have e:a=b:=fN (by simpa using f) (by simpa using g);subst e;rw[VH,d,VH];constructor
    ·rintro (h | h | h)
     ·exact .inl h
     ·exact .inr (.inl h)
     ·exact .inr (.inr (.inr h))
    ·rintro (h | h | h | h)
     ·exact .inl h
     ·exact .inr (.inl h)
     ·exact .inl h
     ·exact .inr (.inr h)
theorem x1:∀(as b:List Str) (p:Str),p∈w9 as b↔p∈as\/p∈b
 | [],b,p=>by simp[w9]
 | a::as,b,p=>by
  rw[w9,eP (fun b p=>x1 as b p) b p,VH];constructor
  ·rintro (h | h | h)
   ·exact .inl (.inl h)
   ·exact .inl (.inr h)
   ·exact .inr h
  ·rintro ((h | h) | h)
   ·exact .inl h
   ·exact .inr (.inl h)
   ·exact .inr (.inr h)
theorem mZ{a:Str}{k:List Str->List Str}{as:List Str}(i:∀d p,p∈k d↔p∈as\/p∈d)(g:∀d,qI d->qI (k d))(ha:∀x∈as,aY a x=true):∀d:List Str,qI d->qI (l5 a k d)
 | [],h=>by
  rw[l5];refine List.pairwise_cons.2 ⟨fun x c=>?_,g [] h⟩;rcases (i [] x).1 c with c | c
  ·exact ha x c
  ·cases c
 | b::d,h=>by
  have hb:=List.pairwise_cons.1 h;rw[l5];split
  ·rename_i f;refine List.pairwise_cons.2 ⟨fun x c=>?_,g _ h⟩;rcases (i _ x).1 c with c | c
   ·exact ha x c
   ·rcases VH.1 c with rfl | c
    ·exact f
    ·exact j6 f (hb.1 x c)
  ·split
   ·rename_i _ f;refine List.pairwise_cons.2 ⟨fun x c=>?_,mZ i g ha d hb.2⟩;rcases (eP i d x).1 c with rfl | c | c
    ·exact f
    ·exact j6 f (ha x c)
    ·exact hb.1 x c
   ·rename_i j l;have e:a=b:=fN (by simpa using j) (by simpa using l);subst e;refine List.pairwise_cons.2 ⟨fun x c=>?_,g _ hb.2⟩;rcases (i _ x).1 c with c | c
    ·exact ha x c
    ·exact hb.1 x c
theorem qJ:∀(as a:List Str),qI as->qI a->qI (w9 as a)
 | [],_,_,h=>h
 | _::as,a,h1,h2=>by
  have ha:=List.pairwise_cons.1 h1;exact mZ (fun a p=>x1 as a p) (fun a hb=>qJ as a ha.2 hb) ha.1 a h2
theorem x3:∀{l:List File} {p x:Str},I2 l p=some x->∃f∈l,f.Path=p/\f.Blob=x
 | [],_,_,h=>by cases h
 | f::r,p,x,h=>by
  unfold I2 at h;split at h
  ·rename_i e;exact⟨f,by simp,e,Option.some.inj h⟩
  ·obtain⟨g,b,a⟩:=x3 h;exact⟨g,by simp[b],a⟩
theorem qK{p:Str}:∀{l:List File},I2 l p=none↔p∉l.map (·.Path)
 | []=>by simp[I2]
 | f::r=>by
  unfold I2;split
  ·rename_i e;simp[e]
  ·rename_i e;rw[qK (l:=r),VR,VH,not_or];exact⟨fun h=>⟨fun b=>e b.symm,h⟩,fun h=>h.2⟩
theorem d6:∀{l:List File},ascend l=true->qI (l.map (·.Path))
 | [],_=>List.Pairwise.nil
 | f::r,h=>by
  rw[VR];refine List.pairwise_cons.2 ⟨fun x c=>?_,d6 (z1 h)⟩;obtain⟨g,b,rfl⟩:=VT.1 c;exact Z5 h g b
theorem qL{l:List Str}(h:qI l):l.Nodup:=h.imp fun {a b} c e=>by rw[e,U3]at c;cases c
theorem n9:∀{l:List File},ascend l=true->∀f∈l,I2 l f.Path=some f.Blob
 | [],_,f,hf=>by cases hf
 | g::r,h,f,hf=>by
  unfold I2;rcases VH.1 hf with rfl | hf
  ·rw[A4 rfl]
  ·have:=Z5 h f hf;rw[A5 (fun e=>by rw[e,U3]at this;cases this)];exact n9 (z1 h) f hf
theorem vZ{a b:List File}{p:Str}{d:Delta}(h:cN a b p=some d):d.Path=p:=by
 unfold cN at h;split at h
 ·cases h;rfl
 ·cases h;rfl
 ·split at h
  ·cases h;rfl
  ·cases h
theorem iA{f:Str->Option Delta}(a:∀p d,f p=some d->d.Path=p):∀{l:List Str},qI l->KO (l.filterMap f)
 | [],_=>List.Pairwise.nil
 | p::r,h=>by
  have c:=List.pairwise_cons.1 h;have e:=iA a c.2;rw[List.filterMap_cons];cases g:f p with
  | none=>exact e
  | some d =>
   refine List.pairwise_cons.2 ⟨fun y j=>?_,e⟩;obtain⟨q,i,b⟩:=List.mem_filterMap.1 j;rw[a p d g,a q y b];exact c.1 q i
theorem tU{b:List File}{f:File}{d:Delta}(h:aT b f=some d):d.Path=f.Path:=by
 unfold aT at h;split at h
 ·cases h;rfl
 ·split at h
  ·cases h;rfl
  ·cases h
theorem tV{a:List File}{f:File}{d:Delta}(h:fY a f=some d):d.Path=f.Path/\f.Path∉a.map (·.Path):=by
 unfold fY at h;split at h
 ·rename_i b;cases h;exact⟨rfl,qK.1 b⟩
 ·cases h
theorem HM{a b:List File}(ha:ascend a=true)(hb:ascend b=true):((l6 a b).map (·.Path)).Nodup:=by
 have sub:∀(f:File->Option Delta),(∀x d,f x=some d->d.Path=x.Path)->∀l:List File,((l.filterMap f).map (·.Path)).Sublist (l.map (·.Path)):=by
  intro f k l;induction l with
  | nil=>exact List.Sublist.slnil
  | cons x r n =>
   rw[List.filterMap_cons];cases c:f x with
   | none=>exact n.cons _
   | some d=>rw[VR,VR,k x d c];exact n.cons_cons _
 unfold l6;rw[WC,List.nodup_append];refine⟨(qL (d6 ha)).sublist (sub _ (fun _ _ h=>tU h) a),(qL (d6 hb)).sublist (sub _ (fun _ _ h=>(tV h).1) b),?_⟩;intro x c y z e;subst e;obtain⟨d,w,q⟩:=VT.1 z;obtain⟨f,k,v⟩:=List.mem_filterMap.1 w;have g:=tV v;have j:=(sub _ (fun _ _ h=>tU h) a).subset c;rw[<-q,g.1]at j;exact g.2 j
theorem NG{a b:List File}(ha:ascend a=true)(_hb:ascend b=true)(y:Delta):y∈l6 a b↔y∈S4 a b:=by
 unfold l6 S4;rw[VG,List.mem_filterMap,List.mem_filterMap,List.mem_filterMap];constructor
 ·rintro (⟨f,d,h⟩ | ⟨f,d,h⟩)
  ·refine⟨f.Path,(x1 _ _ _).2 (.inl (List.mem_map_of_mem d)),?_⟩;unfold aT at h;unfold cN;rw[n9 ha f d];split at h
   ·rename_i c;rw[c];exact h
   ·rename_i z c;rw[c];dsimp only;split at h
    ·rename_i g;rw[A4 (fun e=>g e.symm)];exact h
    ·cases h
  ·refine⟨f.Path,(x1 _ _ _).2 (.inr (List.mem_map_of_mem d)),?_⟩;unfold fY at h;unfold cN;split at h
   ·rename_i c;rw[c];exact h
   ·cases h
 ·rintro⟨p,j,h⟩;unfold cN at h;split at h
  ·rename_i c;rcases (x1 _ _ _).1 j with j | j
   ·exact absurd j (qK.1 c)
   ·obtain⟨f,d,rfl⟩:=VT.1 j;exact .inr ⟨f,d,by unfold fY;rw[c];exact h⟩
  ·rename_i x c g;obtain⟨f,d,rfl,rfl⟩:=x3 c;exact .inl ⟨f,d,by unfold aT;rw[g];exact h⟩
  ·rename_i x z c g;obtain⟨f,d,rfl,rfl⟩:=x3 c;refine .inl ⟨f,d,?_⟩;unfold aT;rw[g];dsimp only;split at h
   ·rename_i k;rw[A4 (fun e=>k e.symm)];exact h
   ·cases h
theorem HN{a b:List File}(ha:ascend a=true)(hb:ascend b=true):KN a b=S4 a b :=
 ET (HJ (HM ha hb)) (iA (fun _ _ h=>vZ h) (qJ _ _ (d6 ha) (d6 hb))) fun y=>(HL _ y).trans (NG ha hb y)
theorem DC(a b:List File):(l6 a b).length<=a.length+b.length:=by
 unfold l6;rw[VF];have c:=List.length_filterMap_le (aT b) a;have d:=List.length_filterMap_le (fY a) b;omega
theorem aU{l:List File}(h:F5 l=0):ascend l=true/\l.length<=200/\(∀f∈l,V5 f.Blob=0)/\∀f∈l,Z4 f.Path=0:=by
 unfold F5 at h;split at h
 ·cases h
 ·rename_i g;split at h
  ·cases h
  ·rename_i b;split at h
   ·cases h
   ·rename_i c;split at h
    ·cases h
    ·rename_i d;refine⟨d5 (by simpa using c),by omega,fun f a=>?_,fun f a=>?_⟩
     ·have:=fun e=>d (List.any_eq_true.2 ⟨f,a,e⟩);simpa using this
     ·have:=fun e=>b (List.any_eq_true.2 ⟨f,a,e⟩);simpa using this
def L6(a:Str):Str->List Str
 | []=>[a]
 | c::r=>if c=10 then (a++[c])::L6 [] r else L6 (a++[c]) r
def O1(b:Str):List Str:=L6 [] b
theorem sB(a b:Str)(h:(10:UInt8)∉a):L6 b a=[b++a]:=by
 induction a generalizing b with
 | nil=>simp[L6]
 | cons c r d =>
  simp only[VH,not_or]at h;rw[L6,A5 (fun e=>h.1 e.symm),d _ h.2];simp
theorem wA(a b d:Str)(h:(10:UInt8)∉a):L6 d (a++10::b)=(d++a++[10])::L6 [] b:=by
 induction a generalizing d with
 | nil=>simp[L6]
 | cons c r f =>
  simp only[VH,not_or]at h;rw[WE,L6,A5 (fun e=>h.1 e.symm),f _ h.2];simp
theorem U4(s a:Str):(L6 a s).length=s.count 10+1:=by
 induction s generalizing a with
 | nil=>rfl
 | cons c r d =>
  by_cases b:c=10
  ·subst b;rw[L6,A4 rfl,VD,d,List.count_cons_self]
  ·rw[L6,A5 b,d,List.count_cons_of_ne b]
theorem zN(s b:Str):H9 b s=if (L6 b s).getLastD []=[] then (L6 b s).dropLast else L6 b s:=by
 induction s generalizing b with
 | nil=>by_cases h:b=[]<;>simp[H9,L6,h]
 | cons c r j =>
  rw[H9,L6];by_cases f:c=10
  ·rw[A4 f,A4 f,j];have l:L6 [] r≠[]:=fun e=>by have:=U4 r [];rw[e]at this;simp at this
   obtain⟨x,y,i⟩:=List.exists_cons_of_ne_nil l;rw[i];have k:((b++[c])::x::y).getLastD []=(x::y).getLastD []:=by cases y<;>simp[List.getLastD]
   rw[k];split
   ·rfl
   ·rfl
  ·rw[A5 f,A5 f,j]
theorem qM(s a:Str):(H9 a s).length=s.count 10+if s=[] then (if a=[] then 0 else 1) else if ended s=true then 0 else 1:=by
 induction s generalizing a with
 | nil=>by_cases h:a=[]<;>simp[H9,h]
 | cons c r i =>
  have j:ended (c::r)=if r=[] then c == 10 else ended r:=by
   cases r with
   | nil=>simp[ended]
   | cons d t=>simp[ended,List.getLast?_cons_cons]
  rw[H9,A5 (List.cons_ne_nil _ _),j];by_cases b:c=10
  ·subst b;rw[A4 rfl,VD,i,List.count_cons_self];by_cases f:r=[]<;>simp[f];omega
  ·rw[A5 b,i,List.count_cons_of_ne b];by_cases f:r=[]<;>simp[f,b]
theorem aV(s:Str):(G4 s).length=s.count 10+if s≠[]/\ended s=false then 1 else 0:=by
 unfold G4;rw[qM];by_cases a:s=[]<;>simp[a];cases ended s<;>simp
theorem DD{P:List Str}{i:Nat}{r a b:Str}(h:P.drop i=O1 r)(c:r=a++10::b)(ha:(10:UInt8)∉a):P[i]?=some (a++[10])/\P.drop (i+1)=O1 b:=by
 have e:O1 r=(a++[10])::O1 b:=by rw[c];unfold O1;rw[wA _ _ _ ha];rfl
 rw[e]at h;refine⟨by rw[<-List.head?_drop,h];rfl,?_⟩;rw[<-List.tail_drop,h];rfl
theorem tW{α:Type}(P:List α)(z x:α)(i:Nat)(h:P[i]?=some x):(P.take i++List.replicate (P.length-i) z).set i x=P.take (i+1)++List.replicate (P.length-(i+1)) z:=by
 obtain⟨a,c⟩:=List.getElem?_eq_some_iff.1 h;have b:(P.take i).length=i:=by rw[VM];omega
 rw[List.set_append_right _ _ (by omega),b,WN,show P.length-i=(P.length-(i+1))+1 by omega,List.replicate_succ,List.set_cons_zero,WM a,c,VV];rfl
def X9(b:Str):List Str×Int:=if b.length>1048576\/(G4 b).length>4096 then ([],1) else (G4 b,0)
def K8(n:Int):Prop:=0<=n/\n<=4096
instance (n:Int):Decidable (K8 n):=by unfold K8;exact inferInstance
def zO(k:Nat)(i j:Int)(c:Change):Prop:=((((((¬K8 c.Old\/¬K8 c.OldLen)\/¬K8 c.New)\/¬K8 c.NewLen)\/c.OldLen+c.NewLen=0)\/c.Old-i≠c.New-j)\/c.Old<i)\/(0<(k:Int)/\c.Old=i)
instance (k:Nat) (i j:Int) (c:Change):Decidable (zO k i j c):=by unfold zO;exact inferInstance
def K1(k:Nat)(i j:Int):List Change->Int->Int->Bool
 | [],m,n=>decide (¬(m-i≠n-j\/m<i))
 | c::r,m,n=>decide (¬zO k i j c)&&K1 (k+1) (c.Old+c.OldLen) (c.New+c.NewLen) r m n
def KP(l:List Change)(m n:Int):Int:=if ¬K8 m\/¬K8 n then 80 else if K1 0 0 0 l m n=true then 0 else 80
def ScOk(i j:Int):List Change->Int->Int->Prop
 | [],m,n=>i<=m/\j<=n
 | c::r,m,n=>K8 c.Old/\K8 c.OldLen/\K8 c.New/\K8 c.NewLen/\i<=c.Old/\j<=c.New/\ScOk (c.Old+c.OldLen) (c.New+c.NewLen) r m n
theorem eQ:∀(l:List Change) (k:Nat) (i j m n:Int),K1 k i j l m n=true->ScOk i j l m n
 | [],k,i,j,m,n,h=>by simp only[K1,decide_eq_true_eq]at h;simp only[ScOk];omega
 | c::r,k,i,j,m,n,h=>by
  simp only[K1,VB,decide_eq_true_eq]at h;obtain⟨a,d⟩:=h;unfold zO at a;refine⟨?_,?_,?_,?_,?_,?_,eQ r _ _ _ m n d⟩
  all_goals (by_cases b:K8 c.Old<;>by_cases a2:K8 c.OldLen<;>by_cases a3:K8 c.New<;>by_cases a4:K8 c.NewLen<;>simp[b,a2,a3,a4]at a ⊢<;>omega)
def I6(l:List Change)(k:Nat):Change:=l.getD k ⟨0,0,0,0⟩
theorem ScOk.end_le:∀{l:List Change} {i j m n:Int},ScOk i j l m n->i<=m/\j<=n
 | [],_,_,_,_,h=>h
 | c::r,i,j,m,n,⟨h1,h2,h3,h4,h5,h6,h7⟩=>by have:=h7.end_le;unfold K8 at *;omega
theorem ScOk.get:∀{l:List Change} {i j m n:Int} (k:Nat),ScOk i j l m n->k<l.length->K8 (I6 l k).Old/\K8 (I6 l k).OldLen/\K8 (I6 l k).New/\K8 (I6 l k).NewLen/\(I6 l k).Old+(I6 l k).OldLen<=m/\(I6 l k).New+(I6 l k).NewLen<=n
 | c::r,i,j,m,n,0,⟨h1,h2,h3,h4,h5,h6,h7⟩,_=>by have:=h7.end_le;exact⟨h1,h2,h3,h4,this.1,this.2⟩
 | c::r,i,j,m,n,k+1,⟨h1,h2,h3,h4,h5,h6,h7⟩,hk=>by
  have:=h7.get k (by simpa using hk);simpa[I6] using this
theorem ScOk.next:∀{l:List Change} {i j m n:Int} (k:Nat),ScOk i j l m n->k+1<l.length->(I6 l k).Old+(I6 l k).OldLen<=(I6 l (k+1)).Old
 | [c],_,_,_,_,_,_,hk=>by simp at hk
 | c::c2::r,i,j,m,n,0,⟨_,_,_,_,_,_,h7⟩,_=>by simpa[I6] using h7.2.2.2.2.1
 | c::c2::r,i,j,m,n,k+1,⟨_,_,_,_,_,_,h7⟩,hk=>by
  have:=h7.next k (by simpa using hk);simpa[I6] using this
theorem ScOk.mono{l:List Change}{m n:Int}(h:ScOk 0 0 l m n):∀(a b:Nat),a<=b->b<l.length->(I6 l a).Old<=(I6 l b).Old/\(I6 l a).Old+(I6 l a).OldLen<=(I6 l b).Old+(I6 l b).OldLen
 | a,0,h1,h2=>by rw[show a=0 by omega];omega
 | a,b+1,h1,h2=>by
  by_cases c:a=b+1
  ·subst c;omega
  ·have f:=h.mono a b (by omega) (by omega);have g:=h.next b h2;have i:=h.get b (by omega);have j:=h.get (b+1) h2;unfold K8 at *;omega
def wC(a b:Int):Int:=if b<a then b else a
def opens(l:List Change)(a:Int)(k:Nat):Prop:=k=0\/2*a<(I6 l k).Old-(I6 l (k-1)).Old-(I6 l (k-1)).OldLen
instance (l:List Change) (ctx:Int) (k:Nat):Decidable (opens l ctx k):=by unfold opens;exact inferInstance
def EU:Hunk:=⟨0,0,⟨0,0⟩,⟨0,0⟩⟩
def bM(l:List Change)(a:Int)(k:Nat):Hunk:=⟨k,0,⟨(I6 l k).Old-wC a (I6 l k).Old,0⟩,⟨(I6 l k).New-wC a (I6 l k).Old,0⟩⟩
def kM(l:List Change)(m b:Int)(k:Nat)(h:Hunk):Hunk :=
 let c:=I6 l k;let a:=wC b (m-(c.Old+c.OldLen))
 ⟨h.First,k+1,⟨h.Old.From,c.Old+c.OldLen+a⟩,⟨h.New.From,c.New+c.NewLen+a⟩⟩
def lV(l:List Change)(a:Int)(k:Nat)(b:List Hunk):List Hunk:=if opens l a k then b++[bM l a k] else b
def S9(l:List Change)(m b:Int):Nat->List Hunk
 | 0=>[]
 | k+1=>let a:=lV l b k (S9 l m b k);a.set (a.length-1) (kM l m b k (a.getD (a.length-1) EU))
theorem nA(l:List Change)(m a:Int):∀k,(S9 l m a k).length<=k/\(0<k->0<(S9 l m a k).length)
 | 0=>by simp[S9]
 | k+1=>by
  have h:=nA l m a k;simp only[S9,VY,lV];split
  ·simp only[VF,VD,VI];omega
  ·rename_i b;have:k≠0:=fun e=>b (.inl e);omega
def KQ(s:Str):Bool:=decide (1<=s.length/\s.length<=200)
def F3(b:List PatchLine)(k:UInt8):List Str:=(b.filter (fun x=>decide (x.Kind≠k))).map (·.Text)
def KR(x:PatchLine):Prop:=((x.Kind≠32/\x.Kind≠45)/\x.Kind≠43)\/W5 x.Text=false
instance (x:PatchLine):Decidable (KR x):=by unfold KR;exact inferInstance
def iY(x:PatchLine):Bool:=decide (¬KR x)
def aW(a:List PatchLine):Bool:=a.any (fun x=>decide (x.Kind≠32))
def kN(some:Bool)(i j:Int)(h:PatchHunk):Prop:=((((some=false\/h.Old<i)\/h.New<j)\/4096<h.Old)\/4096<h.New)\/h.Old-i≠h.New-j
instance (s:Bool) (i j:Int) (h:PatchHunk):Decidable (kN s i j h):=by unfold kN;exact inferInstance
def y2(h:PatchHunk):Int:=(F3 h.Lines 43).length
def bN(h:PatchHunk):Int:=(F3 h.Lines 45).length
def lW(i j:Int):List PatchHunk->Bool
 | []=>true
 | h::r=>h.Lines.all iY&&(decide (¬kN (aW h.Lines) i j h)&&(decide (¬(4096<h.Old+y2 h\/4096<h.New+bN h))&&lW (h.Old+y2 h) (h.New+bN h) r))
def K4(b:List PatchHunk)(k:UInt8):List Str:=(b.map (fun h=>F3 h.Lines k)).flatten
def o3:List Str->Bool
 | []=>true
 | x::r=>(r.isEmpty||ended x)&&o3 r
def DE(a:List PatchHunk)(k:UInt8):Bool:=o3 (K4 a k)
def lX(a:List PatchHunk):Bool:=lW 0 0 a&&(DE a 43&&DE a 45)
def SC:Str:=[10,92,32,78,111,32,110,101,119,108,105,110,101,32,97,116,32,101,110,100,32,111,102,32,102,105,108,101,10]
def PP(x:PatchLine):List Str:=if ended x.Text then [[x.Kind]++x.Text] else [[x.Kind]++x.Text,SC]
def SD(h:PatchHunk):Str:=[64,64,32,45]++EP h.Old (y2 h)++[32,43]++EP h.New (bN h)++[32,64,64,10]
def PQ(h:PatchHunk):List Str:=SD h::(h.Lines.map PP).flatten
def PR(p:Patch):List Str:=[[45,45,45,32]++X8 p.OldName++[10],[43,43,43,32]++X8 p.NewName++[10]]
def NH(p:Patch):List Str:=PR p++(p.Hunks.map PQ).flatten
def EV(p:Patch):Str:=(NH p).flatten
def cO(p:Patch):Int:=if KQ p.OldName=false\/KQ p.NewName=false then 120 else if lX p.Hunks=false then 121 else if 16777216<(EV p).length then 1 else 0
def PS(x:PatchLine):Nat:=x.Text.length+64
def TN(h:PatchHunk):Nat:=64+(h.Lines.map PS).sum
def MA(a:List PatchHunk):Nat:=(a.map TN).sum
structure PFit (p:Patch):Prop where
 old:p.OldName.length<=4194304
 new:p.NewName.length<=4194304
 hunks:MA p.Hunks<=268435456
theorem NJ(a:List PatchLine):64*a.length<=(a.map PS).sum:=by
 induction a with
 | nil=>simp
 | cons x r b=>simp only[VR,List.sum_cons,VD,PS];omega
def z6(k:UInt8)(a:List Str):List PatchLine:=a.map fun t=>⟨k,t⟩
def sub(x:List Str)(a b:Int):List Str:=(x.drop a.toNat).take (b.toNat-a.toNat)
def dL(c:Change):Int:=c.Old+c.OldLen
def z7(l:List Change)(i0:Int)(a t:Nat):Int:=if t=0 then i0 else dL (I6 l (a+t-1))
theorem DF(l:List Change)(i0:Int)(a t:Nat):z7 l i0 a (t+1)=dL (I6 l (a+t)):=by
 unfold z7;rw[A5 (by omega)];congr 2
def p5(l:List Change)(x y:List Str)(i0:Int)(a:Nat):Nat->List PatchLine
 | 0=>[]
 | t+1=>p5 l x y i0 a t++z6 32 (sub x (z7 l i0 a t) (I6 l (a+t)).Old)++z6 45 (sub x (I6 l (a+t)).Old (dL (I6 l (a+t))))++z6 43 (sub y (I6 l (a+t)).New ((I6 l (a+t)).New+(I6 l (a+t)).NewLen))
def T0(l:List Change)(x y:List Str)(h:Hunk):PatchHunk :=
 ⟨h.Old.From,h.New.From,p5 l x y h.Old.From h.First.toNat (h.Last.toNat-h.First.toNat)++z6 32 (sub x (z7 l h.Old.From h.First.toNat (h.Last.toNat-h.First.toNat)) h.Old.To)⟩
def kO(x y:List Str):List Change:=CZ (gX (y9 [x,y]) x) (gX (y9 [x,y]) y)
def PT(h:PatchHunk)(b:List Str):Bool:=if (b.length:Int)<h.Old+y2 h then false else decide ((b.drop h.Old.toNat).take (F3 h.Lines 43).length=F3 h.Lines 43)
def SE:List PatchHunk->List Str->Nat
 | [],_=>0
 | h::r,x=>if PT h x=true then SE r x+1 else 0
def DG(p:Patch)(a:Str):Int×Int:=if cO p≠0 then (0,cO p) else if (X9 a).2≠0 then (0,(X9 a).2) else (SE p.Hunks (X9 a).1,0)
def TB(a:List PatchHunk)(k:Nat):PatchHunk:=a.getD k ⟨0,0,[]⟩
def SF(a:List PatchHunk)(k:Nat):Int:=if k=0 then 0 else (TB a (k-1)).Old+y2 (TB a (k-1))
def OJ(a:List PatchHunk)(x:List Str):Nat->List Str
 | 0=>[]
 | k+1=>OJ a x k++sub x (SF a k) (TB a k).Old++F3 (TB a k).Lines 45
def NK(c:List PatchHunk)(x:List Str):Str×Int :=
 let b:=OJ c x c.length++x.drop (SF c c.length).toNat
 if CX b=false then ([],140) else PL b
def EW(p:Patch)(a:Str):Str×Int:=if (DG p a).2≠0 then ([],(DG p a).2) else if (DG p a).1<p.Hunks.length then ([],140) else NK p.Hunks (G4 a)
def zP(i j:Int)(h:PatchHunk):Prop:=((((h.Old<0\/h.New<0)\/4096<h.Old)\/4096<h.New)\/h.Old<i)\/h.Old-i≠h.New-j
instance (i j:Int) (h:PatchHunk):Decidable (zP i j h):=by unfold zP;exact inferInstance
theorem oB{x:List Str}{a b:Int}{s:Str}(h:s∈sub x a b):s∈x:=by
 unfold sub at h;exact List.mem_of_mem_drop (List.mem_of_mem_take h)
def wD(c:Change):Int:=c.New+c.NewLen
def s6(i:Int)(l:List Change)(k:Nat):Int:=if k=0 then i else dL (I6 l (k-1))
def dO(j:Int)(l:List Change)(k:Nat):Int:=if k=0 then j else wD (I6 l (k-1))
theorem o4(i:Int)(c:Change)(r:List Change)(k:Nat):s6 i (c::r) (k+1)=s6 (dL c) r k:=by
 cases k<;>rfl
theorem o5(j:Int)(c:Change)(r:List Change)(k:Nat):dO j (c::r) (k+1)=dO (wD c) r k:=by
 cases k<;>rfl
theorem eR(i:Int)(l:List Change)(k:Nat):s6 i l (k+1)=dL (I6 l k):=rfl
theorem eS(j:Int)(l:List Change)(k:Nat):dO j l (k+1)=wD (I6 l k):=rfl
theorem kP(c:Change)(r:List Change)(k:Nat):I6 (c::r) (k+1)=I6 r k:=rfl
def eT(x y:List Str)(i j:Int):List Change->Prop
 | []=>sub x i x.length=sub y j y.length
 | c::r=>sub x i c.Old=sub y j c.New/\eT x y (dL c) (wD c) r
theorem p6(m n:Int):∀(l:List Change) (b:Nat) (i j:Int),K1 b i j l m n=true->∀k,k<l.length ->
  K8 (I6 l k).Old/\K8 (I6 l k).OldLen/\K8 (I6 l k).New/\K8 (I6 l k).NewLen/\(I6 l k).OldLen+(I6 l k).NewLen≠0/\(I6 l k).Old-s6 i l k=(I6 l k).New-dO j l k/\s6 i l k<=(I6 l k).Old/\(0<b+k->s6 i l k<(I6 l k).Old)
 | [],_,_,_,_,k,hk=>by simp at hk
 | c :: r,b,i,j,h,k,hk=>by
  simp only[K1,VB,decide_eq_true_eq]at h;obtain⟨a,C⟩:=h;cases k with
  | zero =>
   unfold zO at a;show K8 c.Old/\K8 c.OldLen/\K8 c.New/\K8 c.NewLen/\c.OldLen+c.NewLen≠0/\c.Old-i=c.New-j/\i<=c.Old/\(0<b+0->i<c.Old)
   have f:K8 c.Old:=by by_cases q:K8 c.Old;exact q;exact absurd (.inl (.inl (.inl (.inl (.inl (.inl (.inl q))))))) a
   have g:K8 c.OldLen:=by by_cases q:K8 c.OldLen;exact q;exact absurd (.inl (.inl (.inl (.inl (.inl (.inl (.inr q))))))) a
   have o:K8 c.New:=by by_cases q:K8 c.New;exact q;exact absurd (.inl (.inl (.inl (.inl (.inl (.inr q)))))) a
   have p:K8 c.NewLen:=by by_cases q:K8 c.NewLen;exact q;exact absurd (.inl (.inl (.inl (.inl (.inr q))))) a
   refine⟨f,g,o,p,fun q=>a (.inl (.inl (.inl (.inr q)))),?_,?_,fun B=>?_⟩
   ·by_cases q:c.Old-i=c.New-j
    ·exact q
    ·exact absurd (.inl (.inl (.inr q))) a
   ·by_cases q:c.Old<i
    ·exact absurd (.inl (.inr q)) a
    ·omega
   ·by_cases q:c.Old<i
    ·exact absurd (.inl (.inr q)) a
    ·by_cases D:c.Old=i
     ·exact absurd (.inr ⟨by omega,D⟩) a
     ·omega
  | succ k =>
   have:=p6 m n r (b+1) _ _ C k (by simpa using hk);rw[kP,o4,o5];obtain⟨s,t,u,v,x,y,z,A⟩:=this;exact⟨s,t,u,v,x,y,z,fun B=>A (by omega)⟩
theorem wE(m n:Int):∀(l:List Change) (a:Nat) (i j:Int),K1 a i j l m n=true->m-s6 i l l.length=n-dO j l l.length/\s6 i l l.length<=m
 | [],_,i,j,h=>by
  simp only[K1,decide_eq_true_eq]at h;show m-i=n-j/\i<=m;omega
 | c::r,a,i,j,h=>by
  simp only[K1,VB,decide_eq_true_eq]at h;rw[VD,o4,o5];exact wE m n r _ _ _ h.2
theorem qN(x y:List Str):∀(l:List Change) (i j:Int),eT x y i j l->∀k,k<l.length->sub x (s6 i l k) (I6 l k).Old=sub y (dO j l k) (I6 l k).New
 | [],_,_,_,k,hk=>by simp at hk
 | c::r,i,j,h,k,hk=>by
  cases k with
  | zero=>exact h.1
  | succ k=>rw[o4,o5,kP];exact qN x y r _ _ h.2 k (by simpa using hk)
theorem wF(x y:List Str):∀(l:List Change) (i j:Int),eT x y i j l->sub x (s6 i l l.length) x.length=sub y (dO j l l.length) y.length
 | [],_,_,h=>h
 | c::r,i,j,h=>by rw[VD,o4,o5];exact wF x y r _ _ h.2
def tX(l:List Change)(m c:Int)(a b:Nat):Hunk:=kM l m c (b-1) (bM l c a)
def GrOk(l:List Change)(m c:Int):Nat->List Hunk->Nat->Prop
 | a,[],k=>a=k
 | a,h::r,k=>∃b,a<b/\opens l c a/\h=tX l m c a b/\GrOk l m c b r k
theorem GrOk.le{l:List Change}{m c:Int}:∀{d:List Hunk} {a k:Nat},GrOk l m c a d k->a<=k
 | [],a,k,h=>Nat.le_of_eq h
 | _::_,a,k,⟨b,h1,_,_,h2⟩=>by have:=GrOk.le h2;omega
theorem GrOk.snoc{l:List Change}{m c:Int}{k:Nat}(d:opens l c k):∀{e:List Hunk} {a:Nat},GrOk l m c a e k->GrOk l m c a (e++[tX l m c k (k+1)]) (k+1)
 | [],a,h=>by
  obtain rfl:a=k:=h;exact⟨a+1,by omega,d,rfl,rfl⟩
 | _::_,a,⟨b,h1,h2,h3,h4⟩=>⟨b,h1,h2,h3,GrOk.snoc d h4⟩
theorem GrOk.last{l:List Change}{m c:Int}{k:Nat}:∀{d:List Hunk} {a:Nat},GrOk l m c a d k->d≠[]->GrOk l m c a (d.set (d.length-1) (kM l m c k (d.getD (d.length-1) EU))) (k+1)
 | [],_,_,h0=>absurd rfl h0
 | [h],a,⟨b,h1,h2,h3,h4⟩,_=>by
  obtain rfl:b=k:=h4;subst h3;exact⟨b+1,by omega,h2,rfl,rfl⟩
 | h::h'::r,a,⟨b,h1,h2,h3,h4⟩,_=>by
  have e:=GrOk.last h4 (by simp);refine⟨b,h1,h2,h3,?_⟩;simpa using e
theorem cP(l:List Change)(m a:Int):∀k,GrOk l m a 0 (S9 l m a k) k
 | 0=>rfl
 | k+1=>by
  have d:=cP l m a k;have c:=(nA l m a k).2;simp only[S9,lV];by_cases b:opens l a k
  ·rw[A4 b];have e:(S9 l m a k++[bM l a k]).set ((S9 l m a k++[bM l a k]).length-1) (kM l m a k ((S9 l m a k++[bM l a k]).getD ((S9 l m a k++[bM l a k]).length-1) EU))=S9 l m a k++[tX l m a k (k+1)]:=by
    simp[tX]
   rw[e];exact d.snoc b
  ·rw[A5 b];refine d.last ?_;have:k≠0:=fun e=>b (.inl e);have:=c (by omega);intro e;rw[e]at this;simp at this
theorem cQ(x:List Str){a b c:Int}(f:0<=a)(g:a<=b)(h:b<=c):sub x a b++sub x b c=sub x a c:=by
 unfold sub;obtain⟨u,rfl⟩:∃u:Nat,(u:Int)=a:=⟨a.toNat,by omega⟩
 obtain⟨v,rfl⟩:∃v:Nat,(v:Int)=b:=⟨b.toNat,by omega⟩
 obtain⟨w,rfl⟩:∃w:Nat,(w:Int)=c:=⟨c.toNat,by omega⟩
 simp only[VC];have e:x.drop v=(x.drop u).drop (v-u):=by rw[List.drop_drop];congr 1;omega
 rw[e,show w-u=(v-u)+(w-v) by omega,List.take_add]
theorem z8(x:List Str)(a:Int):sub x a a=[]:=by simp[sub]
theorem cR(x:List Str){a b:Int}(c:0<=a)(d:a<=b)(f:b<=x.length):((sub x a b).length:Int)=b-a:=by
 unfold sub;rw[VM,WA];omega
theorem eU{x y:List Str}{p q g f e:Int}(h:sub x p q=sub y g f)(j:0<=p)(i:0<=g)(m:0<=e)(k:e<=q-p)(l:q-p=f-g):sub x (q-e) q=sub y (f-e) f:=by
 have c:∀(z:List Str) (a b:Int),0<=a->e<=b-a->sub z (b-e) b=(sub z a b).drop (b-a-e).toNat:=by
  intro z a b ha hb;unfold sub;rw[List.drop_take,List.drop_drop]
  congr 1
  ·omega
  ·congr 1;omega
 rw[c x p q j k,c y g f i (by omega),h,l]
theorem qO{x y:List Str}{p q c g e:Int}(h:sub x p q=sub y c g)(i:0<=p)(f:0<=c)(m:0<=e)(j:e<=q-p)(l:q-p=g-c):sub x p (p+e)=sub y c (c+e):=by
 have d:∀(z:List Str) (a b:Int),0<=a->e<=b-a->sub z a (a+e)=(sub z a b).take e.toNat:=by
  intro z a b ha hb;unfold sub;rw[List.take_take]
  congr 1
  omega
 rw[d x p q i j,d y c g f (by omega),h]
theorem cS(p q:List PatchLine)(k:UInt8):F3 (p++q) k=F3 p k++F3 q k:=by simp[F3]
theorem cT(k a:UInt8)(b:List Str):F3 (z6 k b) a=if k=a then [] else b:=by
 unfold F3 z6;by_cases h:k=a
 ·rw[A4 h];subst h;simp[List.filter_eq_nil_iff]
 ·rw[A5 h];rw[List.filter_eq_self.2 (by simp[h])];simp[Function.comp_def]
structure ScFit (x y:List Str) (l:List Change):Prop where
 lx:(x.length:Int)<=4096
 ly:(y.length:Int)<=4096
 sc:K1 0 0 0 l x.length y.length=true
 eq:eT x y 0 0 l
variable {x y:List Str}{l:List Change}
theorem ScFit.ok(h:ScFit x y l):ScOk 0 0 l x.length y.length:=eQ _ _ _ _ _ _ h.sc
theorem ScFit.check(h:ScFit x y l):KP l x.length y.length=0:=by
 have a:=h.lx;have b:=h.ly;unfold KP;rw[A5 (by unfold K8;omega),A4 h.sc]
theorem ScFit.nn(h:ScFit x y l)(k:Nat)(m:k<=l.length):0<=s6 0 l k/\0<=dO 0 l k/\s6 0 l k<=x.length/\dO 0 l k<=y.length:=by
 cases k with
 | zero=>exact⟨Int.le_refl _,Int.le_refl _,Int.natCast_nonneg _,Int.natCast_nonneg _⟩
 | succ k =>
  obtain⟨⟨a,a2⟩,⟨b,c⟩,⟨d,e⟩,⟨f,g⟩,i,j⟩:=h.ok.get k (by omega);rw[eR,eS];unfold dL wD;omega
def eA(l:List Change)(b:Int)(a:Nat):Int:=wC b (I6 l a).Old
def eB(l:List Change)(m a:Int)(b:Nat):Int:=wC a (m-s6 0 l b)
theorem EX{a b:Int}(h:0<=a)(c:0<=b):0<=wC a b/\wC a b<=a/\wC a b<=b:=by unfold wC;split<;>omega
theorem fO{b:Int}{a:Nat}(c:opens l b a)(ha:a≠0):2*b<(I6 l a).Old-s6 0 l a:=by
 rcases c with h | h
 ·exact absurd h ha
 ·unfold s6;rw[A5 ha];unfold dL;omega
theorem ScFit.before(h:ScFit x y l){b:Int}(f:0<=b){a:Nat}(ha:a<l.length)(g:opens l b a) :
  0<=eA l b a/\eA l b a<=b/\eA l b a<=(I6 l a).Old-s6 0 l a:=by
 obtain⟨⟨e,a2⟩,_⟩:=h.ok.get a ha;have i:=EX f e;unfold eA;by_cases c:a=0
 ·subst c;show _/\_/\_<=(I6 l 0).Old-0;omega
 ·have:=fO g c;omega
theorem ScFit.after(h:ScFit x y l){a:Int}(k:0<=a){b:Nat}(hb:b<=l.length)(m:b<l.length->opens l a b)(f:b≠0) :
  0<=eB l x.length a b/\eB l x.length a b<=a/\s6 0 l b+eB l x.length a b<=x.length/\dO 0 l b+eB l x.length a b<=y.length /\
   sub x (s6 0 l b) (s6 0 l b+eB l x.length a b)=sub y (dO 0 l b) (dO 0 l b+eB l x.length a b):=by
 obtain⟨g,i,C,D⟩:=h.nn b hb;have d:=EX k (show 0<=(x.length:Int)-s6 0 l b by omega);unfold eB;rcases Nat.lt_or_ge b l.length with c | hge
 ·obtain⟨g1,j,u,v,w,z,A,B⟩:=p6 _ _ _ _ _ _ h.sc b c;obtain⟨⟨n,a2⟩,⟨o,p⟩,⟨q,r⟩,⟨s,t⟩,k5,k6⟩:=h.ok.get b c;have E:=fO (m c) f;refine⟨d.1,d.2.1,by omega,by omega,qO (qN x y l 0 0 h.eq b c) g i d.1 (by omega) (by omega)⟩
 ·have e:b=l.length:=by omega
  subst e;obtain⟨g1,j⟩:=wE _ _ _ _ _ _ h.sc;refine⟨d.1,d.2.1,by omega,by omega,qO (wF x y l 0 0 h.eq) g i d.1 (by omega) (by omega)⟩
def wG(l:List Change)(b:Int)(a t:Nat):Int:=if t=0 then b else wD (I6 l (a+t-1))
theorem qP(i0:Int)(a t:Nat)(b:t≠0):z7 l i0 a t=s6 0 l (a+t):=by
 unfold z7 s6;rw[A5 b,A5 (by omega)]
theorem EY(c:Int)(a t:Nat)(b:t≠0):wG l c a t=dO 0 l (a+t):=by
 unfold wG dO;rw[A5 b,A5 (by omega)]
theorem ScFit.made(h:ScFit x y l){b:Int}(H:0<=b){a:Nat}(I:opens l b a):∀t,a+t<=l.length->(t=0->a<l.length) ->
  F3 (p5 l x y ((I6 l a).Old-eA l b a) a t) 43=sub x ((I6 l a).Old-eA l b a) (z7 l ((I6 l a).Old-eA l b a) a t) /\
  F3 (p5 l x y ((I6 l a).Old-eA l b a) a t) 45=sub y ((I6 l a).New-eA l b a) (wG l ((I6 l a).New-eA l b a) a t)
 | 0,_,_=>by
  unfold z7 wG;rw[A4 rfl,A4 rfl,z8,z8];exact⟨rfl,rfl⟩
 | t + 1,hl,_=>by
  have j:a+t<l.length:=by omega
  have f:a<l.length:=by omega
  obtain⟨B,C⟩:=ScFit.made h H I t (by omega) (fun _=>f);obtain⟨U,q2,q3⟩:=h.before H f I;obtain⟨p1,p2,p3,p4⟩:=h.nn (a+t) (by omega);obtain⟨V,W,r3,r4⟩:=h.nn a (by omega);obtain⟨g1,g2,g3,g4,g5,g6,g7,g8⟩:=p6 _ _ _ _ _ _ h.sc (a+t) j;obtain⟨k1,⟨k2,R⟩,k3,⟨k4,S⟩,k5,k6,k7,k8⟩:=p6 _ _ _ _ _ _ h.sc a f;obtain⟨⟨X,a2⟩,⟨Y,Z⟩,⟨c1,c2⟩,⟨d1,d2⟩,w5,w6⟩:=h.ok.get (a+t) j
  have c:sub x (z7 l ((I6 l a).Old-eA l b a) a t) (I6 l (a+t)).Old=sub y (wG l ((I6 l a).New-eA l b a) a t) (I6 l (a+t)).New /\
    (I6 l a).Old-eA l b a<=z7 l ((I6 l a).Old-eA l b a) a t/\z7 l ((I6 l a).Old-eA l b a) a t<=(I6 l (a+t)).Old /\
    (I6 l a).New-eA l b a<=wG l ((I6 l a).New-eA l b a) a t/\wG l ((I6 l a).New-eA l b a) a t<=(I6 l (a+t)).New:=by
   have c:=qN x y l 0 0 h.eq (a+t) j;by_cases k:t=0
   ·subst k;unfold z7 wG;rw[A4 rfl,A4 rfl];rw[show a+0=a from rfl]at *;exact⟨eU c V W U (by omega) (by omega),by omega,by omega,by omega,by omega⟩
   ·rw[qP _ _ _ k,EY _ _ _ k];have m1:=h.ok.mono a (a+t-1) (by omega) (by omega);have m2:s6 0 l (a+t)=(I6 l (a+t-1)).Old+(I6 l (a+t-1)).OldLen:=by unfold s6;rw[A5 (by omega)];rfl
    have T:∀u,u<=t->(I6 l a).New<=dO 0 l (a+u)\/u=0:=by
     intro u;induction u with
     | zero=>exact fun _=>.inr rfl
     | succ u D =>
      intro hu;obtain⟨E,F,⟨e3,K⟩,⟨M,P⟩,e5,e6,e7,e8⟩:=p6 _ _ _ _ _ _ h.sc (a+u) (by omega);have Q:dO 0 l (a+(u+1))=(I6 l (a+u)).New+(I6 l (a+u)).NewLen:=rfl;rcases D (by omega) with G | G
      ·left;omega
      ·left;subst G;rw[Q];show (I6 l a).New<=(I6 l a).New+(I6 l a).NewLen;exact Int.le_add_of_nonneg_right M
    have m5:=(T t (Nat.le_refl _)).resolve_right k;refine⟨c,by omega,by omega,by omega,by omega⟩
  obtain⟨m,p,q,z,A⟩:=c;simp (decide:=true) only [p5,cS,cT,B,C,if_true,if_false,WL];have E:z7 l ((I6 l a).Old-eA l b a) a (t+1)=dL (I6 l (a+t)):=DF _ _ _ _;have F:wG l ((I6 l a).New-eA l b a) a (t+1)=wD (I6 l (a+t)):=rfl;rw[E,F];have J:0<=(I6 l a).Old-eA l b a:=by omega
  have s1:0<=(I6 l a).New-eA l b a:=by omega
  refine⟨?_,?_⟩
  ·rw[cQ x J p q,cQ x J (by omega) (by unfold dL;omega)]
  ·rw[m,cQ y s1 z A];exact cQ y s1 (by omega) (by omega)
structure HunkIs (x y:List Str) (l:List Change) (ctx:Int) (a b:Nat) (h:PatchHunk):Prop where
 old:h.Old=(I6 l a).Old-eA l ctx a
 new:h.New=(I6 l a).New-eA l ctx a
 o0:0<=h.Old
 n0:0<=h.New
 oe:h.Old+y2 h=s6 0 l b+eB l x.length ctx b
 ne:h.New+bN h=dO 0 l b+eB l x.length ctx b
 ox:h.Old+y2 h<=x.length
 ny:h.New+bN h<=y.length
 ol:F3 h.Lines 43=sub x h.Old (h.Old+y2 h)
 nl:F3 h.Lines 45=sub y h.New (h.New+bN h)
 ch:aW h.Lines=true
 gl:(∀s∈x,W5 s=true)->(∀s∈y,W5 s=true)->h.Lines.all iY=true
theorem qQ(p q:List PatchLine):aW (p++q)=(aW p||aW q):=by simp[aW]
theorem qR{k:UInt8}{a:List Str}(b:k≠32)(h:a≠[]):aW (z6 k a)=true:=by
 cases a with
 | nil=>exact absurd rfl h
 | cons t a=>simp[aW,z6,b]
theorem cU{k:UInt8}{d:List Str}(i:k=32\/k=45\/k=43)(h:∀t∈d,W5 t=true):(z6 k d).all iY=true:=by
 rw[List.all_eq_true];intro q c;unfold z6 at c;obtain⟨t,j,rfl⟩:=VT.1 c;unfold iY;refine A2 ?_;rintro (⟨⟨b,f⟩,g⟩ | b)
 ·rcases i with e | e | e
  ·exact b e
  ·exact f e
  ·exact g e
 ·rw[show (PatchLine.mk k t).Text=t from rfl,h t j]at b;cases b
theorem nB(c:∀s∈x,W5 s=true)(d:∀s∈y,W5 s=true)(i0:Int)(a:Nat):∀t,(p5 l x y i0 a t).all iY=true
 | 0=>rfl
 | t+1=>by
  simp only[p5,WY,nB c d i0 a t,Bool.true_and,VB];exact⟨⟨cU (.inl rfl) (fun s b=>c s (oB b)),cU (.inr (.inl rfl)) (fun s b=>c s (oB b))⟩,cU (.inr (.inr rfl)) (fun s b=>d s (oB b))⟩
theorem ScFit.hunk(h:ScFit x y l){c:Int}(I:0<=c){a b:Nat}(ag:a<b)(hb:b<=l.length)(U:opens l c a)(K:b<l.length->opens l c b) :
  HunkIs x y l c a b (T0 l x y (tX l x.length c a b)):=by
 have z:a<l.length:=by omega
 obtain⟨q1,q2,q3⟩:=h.before I z U;obtain⟨w1,w2,w3,w4,w5⟩:=h.after I hb K (by omega);obtain⟨m1,R⟩:=h.made I U (b-a) (by omega) (fun e=>by omega);rw[qP _ _ _ (by omega)]at m1;rw[EY _ _ _ (by omega)]at R;rw[show a+(b-a)=b by omega]at m1 R;obtain⟨r1,r2,r3,r4⟩:=h.nn a (by omega);obtain⟨s1,s2,s3,s4⟩:=h.nn b hb;obtain⟨k1,⟨k2,aj⟩,k3,⟨k4,ak⟩,k5,k6,k7,k8⟩:=p6 _ _ _ _ _ _ h.sc a z;have J:b-1<l.length:=by omega
 obtain⟨g1,⟨g2,ac⟩,g3,⟨g4,ae⟩,g5,g6,g7,g8⟩:=p6 _ _ _ _ _ _ h.sc (b-1) J;have eo:s6 0 l b=(I6 l (b-1)).Old+(I6 l (b-1)).OldLen:=by unfold s6;rw[A5 (by omega)];rfl
 have en:dO 0 l b=(I6 l (b-1)).New+(I6 l (b-1)).NewLen:=by unfold dO;rw[A5 (by omega)];rfl
 have mo:=h.ok.mono a (b-1) (by omega) (by omega);have mn:(I6 l a).New<=dO 0 l b:=by
  have m4:∀u,a+u<=l.length->(I6 l a).New<=dO 0 l (a+u)\/u=0:=by
   intro u;induction u with
   | zero=>exact fun _=>.inr rfl
   | succ u M =>
    intro hu;obtain⟨C,e2,⟨e3,W⟩,⟨X,Y⟩,e5,e6,e7,e8⟩:=p6 _ _ _ _ _ _ h.sc (a+u) (by omega);have Z:dO 0 l (a+(u+1))=(I6 l (a+u)).New+(I6 l (a+u)).NewLen:=rfl;rcases M (by omega) with S | S
    ·left;omega
    ·left;subst S;rw[Z];show (I6 l a).New<=(I6 l a).New+(I6 l a).NewLen;exact Int.le_add_of_nonneg_right X
  have:=(m4 (b-a) (by omega)).resolve_right (by omega)
  rwa[show a+(b-a)=b by omega]at this
 have hF:(tX l x.length c a b).First.toNat=a:=by show ((a:Int)).toNat=a;omega
 have hL:(tX l x.length c a b).Last.toNat-(tX l x.length c a b).First.toNat=b-a:=by
  show (((b-1:Nat):Int)+1).toNat-((a:Int)).toNat=b-a;omega
 have G:(tX l x.length c a b).Old.From=(I6 l a).Old-eA l c a:=rfl;have af:(tX l x.length c a b).New.From=(I6 l a).New-eA l c a:=rfl;have H:(tX l x.length c a b).Old.To=s6 0 l b+eB l x.length c b:=by
  unfold eB;rw[eo];rfl
 obtain⟨P,A⟩:∃P,P=T0 l x y (tX l x.length c a b):=⟨_,rfl⟩
 have f:P.Lines=p5 l x y ((I6 l a).Old-eA l c a) a (b-a)++z6 32 (sub x (s6 0 l b) (s6 0 l b+eB l x.length c b)):=by
  rw[A];unfold T0;show p5 l x y _ (tX l x.length c a b).First.toNat ((tX l x.length c a b).Last.toNat-(tX l x.length c a b).First.toNat)++z6 32 (sub x (z7 l _ (tX l x.length c a b).First.toNat ((tX l x.length c a b).Last.toNat-(tX l x.length c a b).First.toNat)) _)=_;rw[hL,hF,G,H,qP _ _ _ (by omega),show a+(b-a)=b by omega]
 have q:P.Old=(I6 l a).Old-eA l c a:=by rw[A];rfl
 have p:P.New=(I6 l a).New-eA l c a:=by rw[A];rfl
 have j:F3 P.Lines 43=sub x ((I6 l a).Old-eA l c a) (s6 0 l b+eB l x.length c b):=by
  rw[f,cS,cT,A5 (by decide),m1];exact cQ x (by omega) (by omega) (by omega)
 have k:F3 P.Lines 45=sub y ((I6 l a).New-eA l c a) (dO 0 l b+eB l x.length c b):=by
  rw[f,cS,cT,A5 (by decide),R,w5];exact cQ y (by omega) (by omega) (by omega)
 have ai:y2 P=s6 0 l b+eB l x.length c b-((I6 l a).Old-eA l c a):=by
  unfold y2;rw[j];exact cR x (by omega) (by omega) (by omega)
 have ah:bN P=dO 0 l b+eB l x.length c b-((I6 l a).New-eA l c a):=by
  unfold bN;rw[k];exact cR y (by omega) (by omega) (by omega)
 rw[<-A];refine⟨q,p,by omega,by omega,by omega,by omega,by omega,by omega,?_,?_,?_,?_⟩
 ·rw[j];congr 1
  ·exact q.symm
  ·omega
 ·rw[k];congr 1
  ·exact p.symm
  ·omega
 ·rw[f,qQ];have e:p5 l x y ((I6 l a).Old-eA l c a) a (b-a)=p5 l x y ((I6 l a).Old-eA l c a) a (b-1-a+1):=by congr 1;omega
  rw[e];simp only[p5,qQ];rw[show a+(b-1-a)=b-1 by omega];have Q:aW (z6 45 (sub x (I6 l (b-1)).Old (dL (I6 l (b-1)))))=true\/aW (z6 43 (sub y (I6 l (b-1)).New ((I6 l (b-1)).New+(I6 l (b-1)).NewLen)))=true:=by
   obtain⟨E,ad⟩:=g3;obtain⟨D,ab⟩:=g1;by_cases h0:(I6 l (b-1)).OldLen=0
   ·right;refine qR (by decide) fun B=>?_;have:=cR y (a:=(I6 l (b-1)).New) (b:=(I6 l (b-1)).New+(I6 l (b-1)).NewLen) E (by omega) (by omega);rw[B]at this;simp at this;omega
   ·left;refine qR (by decide) fun B=>?_;have:=cR x (a:=(I6 l (b-1)).Old) (b:=dL (I6 l (b-1))) D (by unfold dL;omega) (by unfold dL;omega);rw[B]at this;unfold dL at this;simp at this;omega
  rcases Q with C | C<;>rw[C]<;>simp
 ·intro V hy;rw[f,WY,nB V hy,Bool.true_and];exact cU (.inl rfl) (fun s hs=>V s (oB hs))
theorem ScFit.hunks(h:ScFit x y l){c:Int}(D:0<=c)(L:∀s∈x,W5 s=true)(M:∀s∈y,W5 s=true):∀(g:List Hunk) (a:Nat),GrOk l x.length c a g l.length ->
  ∀(i j e:Int),i=s6 0 l a+e->j=dO 0 l a+e->0<=e->e<=c->(a=0->e=0) ->
  lW i j (g.map (T0 l x y))=true/\(K4 (g.map (T0 l x y)) 43).Sublist (x.drop i.toNat)/\(K4 (g.map (T0 l x y)) 45).Sublist (y.drop j.toNat) /\
   ∀p∈g.map (T0 l x y),(p.Old+y2 p<=x.length/\p.New+bN p<=y.length/\0<=p.Old/\0<=p.New)/\F3 p.Lines 43=sub x p.Old (p.Old+y2 p)/\F3 p.Lines 45=sub y p.New (p.New+bN p)
 | [],a,_,i,j,e,_,_,_,_,_=>⟨rfl,by simp[K4],by simp[K4],by simp⟩
 | K::g,a,⟨b,hab,ho,hE,w⟩,i,j,e,hi,hj,he,hec,he0=>by
  have hb:=w.le;have A:b<l.length->opens l c b:=by
   intro X;cases g with
   | nil=>exact absurd w (by show ¬b=l.length;omega)
   | cons I Y=>obtain⟨_,_,F,_⟩:=w;exact F
  obtain⟨w1,w2,w3,w4,w5⟩:=h.after D hb A (by omega);obtain⟨q1,q2,q3⟩:=h.before D (show a<l.length by omega) ho;have H:=h.hunk D hab hb ho A;rw[<-hE]at H;obtain⟨P,C⟩:∃P,P=T0 l x y K:=⟨_,rfl⟩
  rw[<-C]at H;obtain⟨Z,i2,i3,i4⟩:=ScFit.hunks h D L M g b w (P.Old+y2 P) (P.New+bN P) (eB l x.length c b) H.oe H.ne w1 w2 (by omega);obtain⟨k1,⟨k2,ab⟩,k3,⟨k4,ac⟩,k5,k6,k7,k8⟩:=p6 _ _ _ _ _ _ h.sc a (show a<l.length by omega);have R:=H.old;have I:=H.new;have T:=H.o0;have U:=H.n0;have V:=H.ox;have W:=H.ny;have h7:=h.lx;have h8:=h.ly;have n1:0<=y2 P:=by unfold y2;omega
  have n2:0<=bN P:=by unfold bN;omega
  have J:e+eA l c a<=(I6 l a).Old-s6 0 l a:=by
   by_cases E:a=0
   ·have:=he0 E;omega
   ·have:=fO ho E;omega
  obtain⟨r1,r2,r3,r4⟩:=h.nn a (by omega);have n:i<=P.Old/\j<=P.New/\P.Old-i=P.New-j/\0<=i/\0<=j:=by omega
  have q:∀(z:List Str) (i f t:Int),0<=i->i<=f->f<=t->∀r:List Str,r.Sublist (z.drop t.toNat)->(sub z f t++r).Sublist (z.drop i.toNat):=by
   intro z i f t E R I r w;have N:z.drop f.toNat=sub z f t++z.drop t.toNat:=by
    unfold sub;rw[show t.toNat=f.toNat+(t.toNat-f.toNat) by omega,<-List.drop_drop,show f.toNat+(t.toNat-f.toNat)-f.toNat=t.toNat-f.toNat by omega,WR]
   have Q:z.drop f.toNat=(z.drop i.toNat).drop (f.toNat-i.toNat):=by rw[List.drop_drop];congr 1;omega
   refine List.Sublist.trans ?_ (List.drop_sublist (f.toNat-i.toNat) (z.drop i.toNat));rw[<-Q,N];exact List.Sublist.append_left w _
  have B:∀(k:UInt8),K4 ((K::g).map (T0 l x y)) k=F3 P.Lines k++K4 (g.map (T0 l x y)) k:=by
   intro k;rw[C];simp[K4]
  refine⟨?_,?_,?_,?_⟩
  ·rw[VR,<-C];simp only[lW,H.gl L M,Z,Bool.and_true,Bool.true_and,VB,decide_eq_true_eq];refine⟨?_,by omega⟩;unfold kN;rw[H.ch];rintro (((((v | v) | v) | v) | v) | v)
   ·cases v
   all_goals omega
  ·rw[B,H.ol];exact q x i P.Old (P.Old+y2 P) n.2.2.2.1 n.1 (by omega) _ i2
  ·rw[B,H.nl];exact q y j P.New (P.New+bN P) n.2.2.2.2 n.2.1 (by omega) _ i3
  ·rw[VR,<-C];intro p G;rcases VH.1 G with rfl | G
   ·exact⟨⟨V,W,T,U⟩,H.ol,H.nl⟩
   ·exact i4 p G
theorem kQ:∀{s z:List Str},s.Sublist z->o3 z=true->o3 s=true:=by
 intro s z e;induction e with
 | slnil=>exact fun h=>h
 | cons a _ d =>
  intro h;simp only[o3,VB]at h;exact d h.2
 | cons_cons a b d =>
  intro h;simp only[o3,VB,VU]at h ⊢;refine⟨?_,d h.2⟩;rcases h.1 with c | c
  ·left;rw[List.isEmpty_iff]at c ⊢;rw[c]at b;exact List.sublist_nil.1 b
  ·exact .inr c
def Y0(l:List Change)(x y:List Str)(b:Int):List PatchHunk:=(S9 l x.length b l.length).map (T0 l x y)
theorem ScFit.good(h:ScFit x y l){a:Int}(b:0<=a)(i:∀s∈x,W5 s=true)(j:∀s∈y,W5 s=true)(c:o3 x=true)(d:o3 y=true):lX (Y0 l x y a)=true:=by
 obtain⟨e,f,g,_⟩:=h.hunks b i j _ 0 (cP l x.length a l.length) 0 0 0 rfl rfl (Int.le_refl _) b (fun _=>rfl);unfold lX DE Y0;rw[e,kQ f (by simpa using c),kQ g (by simpa using d)];rfl
theorem ScFit.texts(h:ScFit x y l){a:Int}(b:0<=a)(c:∀s∈x,W5 s=true)(d:∀s∈y,W5 s=true):∀p∈Y0 l x y a,(p.Old+y2 p<=x.length/\p.New+bN p<=y.length/\0<=p.Old/\0<=p.New)/\F3 p.Lines 43=sub x p.Old (p.Old+y2 p)/\F3 p.Lines 45=sub y p.New (p.New+bN p) :=
 (h.hunks b c d _ 0 (cP l x.length a l.length) 0 0 0 rfl rfl (Int.le_refl _) b (fun _=>rfl)).2.2.2
theorem lY{m n:Int}(c:K8 m)(d:K8 n):∀(p:List Span) (i j i0 a:Int) (b:Nat),Asc m n i j p->0<=i0->0<=a->i0<=i->i-i0=j-a->(0<b->i0<i)->K1 b i0 a (o9 i j p m n) m n=true
 | [],i,j,i0,a,b,ha,h1,h2,h3,h4,h5=>by
  obtain⟨e,a2⟩:i<=m/\j<=n:=ha;obtain⟨m1,k⟩:=c;obtain⟨l,o⟩:=d;unfold o9;split
  ·rename_i f;simp only[K1,VB,decide_eq_true_eq];refine⟨?_,by omega⟩;unfold zO K8;show ¬(((((((¬(0<=i/\i<=4096)\/¬(0<=m-i/\m-i<=4096))\/¬(0<=j/\j<=4096))\/¬(0<=n-j/\n-j<=4096))\/m-i+(n-j)=0)\/i-i0≠j-a)\/i<i0)\/(0<(b:Int)/\i=i0));omega
  ·simp only[K1,decide_eq_true_eq];omega
 | x::r,i,j,i0,a,b,ha,h1,h2,h3,h4,h5=>by
  obtain⟨e,a2,a3⟩:=ha;have g:=a3.le;unfold o9;split
  ·rename_i f;simp only[WE,WF,K1,VB,decide_eq_true_eq];refine⟨?_,?_⟩
   ·obtain⟨m1,k⟩:=c;obtain⟨l,o⟩:=d;unfold zO K8;show ¬(((((((¬(0<=i/\i<=4096)\/¬(0<=x.From-i/\x.From-i<=4096))\/¬(0<=j/\j<=4096))\/¬(0<=x.To-j/\x.To-j<=4096))\/x.From-i+(x.To-j)=0)\/i-i0≠j-a)\/i<i0)\/(0<(b:Int)/\i=i0));omega
   ·exact lY c d r _ _ _ _ _ a3 (by omega) (by omega) (by omega) (by omega) (fun _=>by omega)
  ·rw[WF];exact lY c d r _ _ _ _ _ a3 h1 h2 (by omega) (by omega) (fun h=>by omega)
def NL(X Y:List Str)(s:Span):Prop:=0<=s.From/\0<=s.To/\∃v,X[s.From.toNat]?=some v/\Y[s.To.toNat]?=some v
theorem bO{X:List Str}{a b:Int}{v:Str}(c:0<=a)(d:a<=b)(g:X[b.toNat]?=some v):sub X a (b+1)=sub X a b++[v]:=by
 rw[<-cQ X c d (by omega:b<=b+1)]
 congr 1
 unfold sub;obtain⟨f,e⟩:=List.getElem?_eq_some_iff.1 g;rw[VN f,e,show (b+1).toNat-b.toNat=1 by omega];rfl
theorem lZ{X Y:List Str}:∀(p:List Span) (i j i0 b:Int),Asc X.length Y.length i j p->0<=i0->0<=b->i0<=i->b<=j->(∀s∈p,NL X Y s)->sub X i0 i=sub Y b j->eT X Y i0 b (o9 i j p X.length Y.length)
 | [],i,j,i0,b,ha,h1,h2,h3,h4,he,a=>by
  obtain⟨g,a2⟩:i<=(X.length:Int)/\j<=(Y.length:Int):=ha;unfold o9;split
  ·refine⟨a,?_⟩;show sub X (i+(X.length-i)) X.length=sub Y (j+(Y.length-j)) Y.length;rw[show i+((X.length:Int)-i)=X.length by omega,show j+((Y.length:Int)-j)=Y.length by omega,z8,z8]
  ·have c:(X.length:Int)=i:=by omega
   have d:(Y.length:Int)=j:=by omega
   show sub X i0 X.length=sub Y b Y.length;rw[c,d];exact a
 | x::r,i,j,i0,b,ha,h1,h2,h3,h4,he,a=>by
  obtain⟨g,a2,a3⟩:=ha;obtain⟨_,_,v,f,v2⟩:=he x (by simp);have e:∀s∈r,NL X Y s:=fun s a=>he s (by simp[a]);unfold o9;split
  ·refine⟨a,?_⟩;show eT X Y (i+(x.From-i)) (j+(x.To-j)) (o9 (x.From+1) (x.To+1) r X.length Y.length);rw[show i+(x.From-i)=x.From by omega,show j+(x.To-j)=x.To by omega];refine lZ r _ _ _ _ a3 (by omega) (by omega) (by omega) (by omega) e ?_;rw[bO (by omega) (Int.le_refl _) f,bO (by omega) (Int.le_refl _) v2,z8,z8]
  ·have c:x.From=i:=by omega
   have d:x.To=j:=by omega
   rw[WF];refine lZ r _ _ _ _ a3 h1 h2 (by omega) (by omega) e ?_;rw[bO h1 (by omega) f,bO h2 (by omega) v2,c,d,a]
theorem HO:∀(a b:List Int) (p q:Int),∀s∈c8 p q a b,p<=s.From/\q<=s.To/\∃v,a[(s.From-p).toNat]?=some v/\b[(s.To-q).toNat]?=some v:=by
 intro a;induction a with
 | nil=>intro b p q s c;simp[c8]at c
 | cons x a g =>
  intro b;induction b with
  | nil=>intro p q s c;simp[c8]at c
  | cons y b h =>
   intro p q s c;unfold c8 at c;split at c
   ·rename_i e;rcases VH.1 c with rfl | c
    ·exact⟨Int.le_refl _,Int.le_refl _,x,by simp,by simp[e]⟩
    ·obtain⟨i,j,v,d,f⟩:=g b (p+1) (q+1) s c;refine⟨by omega,by omega,v,?_,?_⟩
     ·rw[show (s.From-p).toNat=(s.From-(p+1)).toNat+1 by omega];simpa using d
     ·rw[show (s.To-q).toNat=(s.To-(q+1)).toNat+1 by omega];simpa using f
   ·split at c
    ·obtain⟨i,j,v,d,f⟩:=g (y::b) (p+1) q s c;refine⟨by omega,by omega,v,?_,f⟩;rw[show (s.From-p).toNat=(s.From-(p+1)).toNat+1 by omega];simpa using d
    ·obtain⟨i,j,v,d,f⟩:=h p (q+1) s c;refine⟨by omega,by omega,v,d,?_⟩;rw[show (s.To-q).toNat=(s.To-(q+1)).toNat+1 by omega];simpa using f
theorem nC:∀(l:List Str) (s t:Str) (k:Int),0<=k->s∈l->t∈l->r9 l s k=r9 l t k->s=t
 | [],_,_,_,_,h,_,_=>by simp at h
 | x::r,s,t,k,hk,hs,ht,e=>by
  unfold r9 at e;by_cases b:x=s
  ·by_cases a:x=t
   ·exact b.symm.trans a
   ·rw[A4 b,A5 a]at e;have d:t∈r:=(VH.1 ht).resolve_left (fun q=>a q.symm);have:=qE r t (k+1) (by omega) d;omega
  ·have c:s∈r:=(VH.1 hs).resolve_left (fun q=>b q.symm);by_cases a:x=t
   ·rw[A5 b,A4 a]at e;have:=qE r s (k+1) (by omega) c;omega
   ·rw[A5 b,A5 a]at e;exact nC r s t (k+1) (by omega) c ((VH.1 ht).resolve_left (fun q=>a q.symm)) e
theorem tY{a f:List Str}{i:Nat}{v:Int}(h:(gX a f)[i]?=some v):∃s,f[i]?=some s/\r9 a s 0=v:=by
 unfold gX at h;rw[WK]at h;cases b:f[i]? with
 | none=>rw[b]at h;cases h
 | some s=>rw[b]at h;exact⟨s,rfl,Option.some.inj h⟩
theorem DH(x y:List Str)(q:x.length<=4096)(r:y.length<=4096):ScFit x y (kO x y):=by
 have b:(gX (y9 [x,y]) x).length=x.length:=by simp[gX]
 have c:(gX (y9 [x,y]) y).length=y.length:=by simp[gX]
 have a:=DA (gX (y9 [x,y]) x) (gX (y9 [x,y]) y) 0 0;rw[b,c,Int.zero_add,Int.zero_add]at a;refine⟨by omega,by omega,?_,?_⟩
 ·unfold kO CZ CY;rw[b,c];exact lY ⟨by omega,by omega⟩ ⟨by omega,by omega⟩ _ _ _ _ _ _ a (Int.le_refl _) (Int.le_refl _) (Int.le_refl _) rfl (fun h=>absurd h (by omega))
 ·unfold kO CZ CY;rw[b,c];refine lZ _ _ _ _ _ a (Int.le_refl _) (Int.le_refl _) (Int.le_refl _) (Int.le_refl _) ?_ (by rw[z8,z8]);intro s m;obtain⟨j,k,v,d,f⟩:=HO _ _ _ _ s m;rw[Int.sub_zero]at d f;obtain⟨u,i,o⟩:=tY d;obtain⟨w,w1,p⟩:=tY f;have e:u=w:=nC (y9 [x,y]) u w 0 (Int.le_refl _) (mX _ _ x (by simp) (VZ i)) (mX _ _ y (by simp) (VZ w1)) (o.trans p.symm);subst e;exact⟨j,k,u,i,w1⟩
theorem tZ:∀(b:List PatchLine),b.all iY=true->(b.map PS).sum<=64*((F3 b 43).length+(F3 b 45).length)+((F3 b 43).flatten.length+(F3 b 45).flatten.length)
 | [],_=>by simp
 | q::b,h=>by
  rw[List.all_cons,VB]at h;have x:=tZ b h.2;have v:q.Kind=32\/q.Kind=45\/q.Kind=43:=by
   have c:=h.1;unfold iY at c;have c:=A0 c;by_cases d:q.Kind=32
   ·exact .inl d
   by_cases j:q.Kind=45
   ·exact .inr (.inl j)
   by_cases o:q.Kind=43
   ·exact .inr (.inr o)
   exact absurd (.inl ⟨⟨d,j⟩,o⟩) c
  have p:∀k:UInt8,F3 (q::b) k=if q.Kind≠k then q.Text::F3 b k else F3 b k:=by
   intro k;unfold F3;by_cases e:q.Kind=k
   ·rw[A5 (by simpa using e),List.filter_cons_of_neg (by simpa using e)]
   ·rw[A4 e,List.filter_cons_of_pos (by simpa using e)];rfl
  rw[p 43,p 45,VR,List.sum_cons];have w:PS q=q.Text.length+64:=rfl;rcases v with e | e | e<;>rw[e]<;>simp (decide:=true) only [if_true,if_false,ne_eq,not_true_eq_false,not_false_eq_true,VD,WO,VF]<;>omega
theorem kR:∀(c:List PatchHunk) (i j:Int),lW i j c=true->MA c<=128*((K4 c 43).length+(K4 c 45).length)+((K4 c 43).flatten.length+(K4 c 45).flatten.length)
 | [],_,_,_=>by simp[MA]
 | h :: c,i,j,hg=>by
  simp only[lW,VB,decide_eq_true_eq]at hg;obtain⟨z,A,F,B⟩:=hg;have E:=kR c _ _ B;have G:=tZ h.Lines z;have C:1<=h.Lines.length:=by
   cases D:h.Lines with
   | nil=>exact absurd (.inl (.inl (.inl (.inl (.inl (by rw[D];rfl)))))) A
   | cons a b=>simp
  have w:h.Lines.length<=(F3 h.Lines 43).length+(F3 h.Lines 45).length:=by
   have:64*h.Lines.length<=(h.Lines.map PS).sum:=NJ h.Lines;have v:∀d:List PatchLine,d.length<=(F3 d 43).length+(F3 d 45).length:=by
    intro d;induction d with
    | nil=>simp
    | cons q d E =>
     have x:∀k:UInt8,(F3 (q::d) k).length=if q.Kind≠k then (F3 d k).length+1 else (F3 d k).length:=by
      intro k;unfold F3;by_cases e:q.Kind=k
      ·rw[A5 (by simpa using e),List.filter_cons_of_neg (by simpa using e)]
      ·rw[A4 e,List.filter_cons_of_pos (by simpa using e)];simp
     rw[x 43,x 45,VD];by_cases e:q.Kind=43
     ·have y:q.Kind≠45:=by rw[e];decide
      rw[A4 y];split<;>omega
     ·rw[A4 e];split<;>omega
   exact v h.Lines
  have r:MA (h::c)=TN h+MA c:=by simp[MA]
  have p:TN h=64+(h.Lines.map PS).sum:=rfl;have o:∀k,K4 (h::c) k=F3 h.Lines k++K4 c k:=by intro k;simp[K4]
  rw[r,p,o 43,o 45];simp only[VF,WP];omega
theorem nD:∀{s z:List Str},s.Sublist z->s.flatten.length<=z.flatten.length:=by
 intro s z b;induction b with
 | slnil=>exact Nat.le_refl _
 | cons a _ c=>simp only[WO,VF];omega
 | cons_cons a _ c=>simp only[WO,VF];omega
theorem ScFit.size{x y:List Str}{l:List Change}(h:ScFit x y l){c:Int}(k:0<=c)(q:∀s∈x,W5 s=true)(r:∀s∈y,W5 s=true):MA (Y0 l x y c)<=128*(x.length+y.length)+(x.flatten.length+y.flatten.length):=by
 obtain⟨n,g,j,_⟩:=h.hunks k q r _ 0 (cP l x.length c l.length) 0 0 0 rfl rfl (Int.le_refl _) k (fun _=>rfl);have o:=kR _ _ _ n;have e:Y0 l x y c=(S9 l x.length c l.length).map (T0 l x y):=rfl;rw[<-e]at g j o;have d:(K4 (Y0 l x y c) 43).Sublist x:=by simpa using g
 have f:(K4 (Y0 l x y c) 45).Sublist y:=by simpa using j
 have:=d.length_le;have:=f.length_le;have:=nD d;have:=nD f;omega
theorem qS(s:Str):∀b:Str,(H9 b s).flatten=b++s:=by
 induction s with
 | nil=>intro b;unfold H9;split<;>simp[*]
 | cons c r d=>intro b;rw[aS];split<;>simp[d]
theorem DI(a:Str):(G4 a).flatten.length=a.length/\(G4 a).length<=a.length:=⟨by unfold G4;rw[qS];rfl,w8 a⟩
def flat(a b:List Int)(done:Nat->Nat->Bool):List Int :=
 (List.range ((a.length+1)*(b.length+1))).map fun p=>if done (p / (b.length+1)) (p % (b.length+1))=true then (dist (a.drop (p / (b.length+1))) (b.drop (p % (b.length+1))):Int) else 0
def GrX(l:List Change)(m d:Int):Nat->List Hunk->Nat->Prop
 | a,[],k=>a=k
 | a,h::r,k=>∃b,a<b/\opens l d a/\(∀c,a<c->c<b->¬opens l d c)/\h=tX l m d a b/\GrX l m d b r k
theorem GrX.le{l:List Change}{m c:Int}:∀{d:List Hunk} {a k:Nat},GrX l m c a d k->a<=k
 | [],a,k,h=>Nat.le_of_eq h
 | _::_,a,k,⟨b,h1,_,_,_,h2⟩=>by have:=GrX.le h2;omega
theorem GrX.snoc{l:List Change}{m d:Int}{k n:Nat}(g:opens l d k)(f:k<n)(e:∀c,k<c->c<n->¬opens l d c):∀{i:List Hunk} {a:Nat},GrX l m d a i k->GrX l m d a (i++[tX l m d k n]) n
 | [],a,h=>by
  obtain rfl:a=k:=h;exact⟨n,f,g,e,rfl,rfl⟩
 | _::_,a,⟨b,h1,h2,h3,h4,h5⟩=>⟨b,h1,h2,h3,h4,GrX.snoc g f e h5⟩
theorem GrX.last{l:List Change}{m d:Int}{k:Nat}(f:¬opens l d k):∀{e:List Hunk} {a:Nat},GrX l m d a e k->e≠[]->GrX l m d a (e.set (e.length-1) (kM l m d k (e.getD (e.length-1) EU))) (k+1)
 | [],_,_,h0=>absurd rfl h0
 | [h],a,⟨b,h1,h2,h3,h4,h5⟩,_=>by
  obtain rfl:b=k:=h5;subst h4;refine⟨b+1,by omega,h2,fun c g j=>?_,rfl,rfl⟩;by_cases i:c=b
  ·rw[i];exact f
  ·exact h3 c g (by omega)
 | h::h'::r,a,⟨b,h1,h2,h3,h4,h5⟩,_=>by
  have n:=GrX.last f h5 (by simp);refine⟨b,h1,h2,h3,h4,?_⟩;simpa using n
theorem GrX.len{l:List Change}{m c:Int}:∀{d:List Hunk} {a k:Nat},GrX l m c a d k->d.length<=k-a
 | [],_,_,_=>Nat.zero_le _
 | _::_,a,k,⟨b,h1,_,_,_,h2⟩=>by have:=GrX.len h2;have:=h2.le;simp only[VD];omega
theorem EZ(m n:Int):∀(l:List Change) (a:Nat) (i j:Int),(∀k,k<l.length->K8 (I6 l k).Old/\K8 (I6 l k).OldLen/\K8 (I6 l k).New/\K8 (I6 l k).NewLen/\(I6 l k).OldLen+(I6 l k).NewLen≠0/\(I6 l k).Old-s6 i l k=(I6 l k).New-dO j l k/\s6 i l k<=(I6 l k).Old/\(0<a+k->s6 i l k<(I6 l k).Old)) ->
  (m-s6 i l l.length=n-dO j l l.length/\s6 i l l.length<=m)->K1 a i j l m n=true
 | [],a,i,j,_,h=>by
  have b:m-i=n-j/\i<=m:=h;simp only[K1,decide_eq_true_eq];omega
 | c::r,a,i,j,h,he=>by
  simp only[K1,VB,decide_eq_true_eq];refine⟨?_,EZ m n r (a+1) _ _ (fun k E=>?_) ?_⟩
  ·obtain⟨b,f,g,o,p,s,u,t⟩:=h 0 (by simp);have b:K8 c.Old:=b;have f:K8 c.OldLen:=f;have g:K8 c.New:=g;have o:K8 c.NewLen:=o;have p:c.OldLen+c.NewLen≠0:=p;have s:c.Old-i=c.New-j:=s;have u:i<=c.Old:=u;have t:0<a+0->i<c.Old:=t;unfold zO;rintro (((((((q | q) | q) | q) | q) | q) | q) | ⟨q,G⟩)
   ·exact q b
   ·exact q f
   ·exact q g
   ·exact q o
   ·exact p q
   ·exact q s
   ·omega
   ·have:=t (by omega);omega
  ·have:=h (k+1) (by simpa using E);rw[kP,o4,o5]at this;obtain⟨v,x,y,z,A,B,C,D⟩:=this;exact⟨v,x,y,z,A,B,C,fun F=>D (by omega)⟩
  ·rw[VD,o4,o5]at he;exact he
theorem FA(x y:List Str):∀(l:List Change) (i j:Int),(∀k,k<l.length->sub x (s6 i l k) (I6 l k).Old=sub y (dO j l k) (I6 l k).New)->sub x (s6 i l l.length) x.length=sub y (dO j l l.length) y.length->eT x y i j l
 | [],_,_,_,h=>h
 | c::r,i,j,h,he=>by
  refine⟨h 0 (by simp),FA x y r _ _ (fun k a=>?_) ?_⟩
  ·have:=h (k+1) (by simpa using a);rw[kP,o4,o5]at this;exact this
  ·rw[VD,o4,o5]at he;exact he
theorem FB{x:List Str}{p q:Int}{t:Nat}(b:0<=p)(h:p+t<q):(sub x p q)[t]?=x[(p+t).toNat]?:=by
 unfold sub;rw[List.getElem?_take,A4 (by omega),WD]
 congr 1;omega
theorem wH{x y:List Str}{p q b d:Int}(h:sub x p q=sub y b d)(f:0<=p)(c:0<=b)(j:q<=x.length)(i:q-p=d-b){t:Nat}(g:p+t<q):∃v,x[(p+t).toNat]?=some v/\y[(b+t).toNat]?=some v:=by
 have e:x[(p+t).toNat]?=some x[(p+t).toNat]:=VA (by omega);refine⟨_,e,?_⟩;rw[<-FB (q:=d) c (by omega),<-h,FB f g];exact e
theorem nE{i j:Int}{n:Nat}{p:Span}(h:p∈oA i j n):∃t:Nat,t<n/\p=⟨i+t,j+t⟩:=by
 unfold oA at h;obtain⟨t,a,b⟩:=VT.1 h;exact⟨t,VL.1 a,b.symm⟩
theorem qT{x y:List Str}:∀(l:List Change) (e:Nat) (i j:Int),K1 e i j l x.length y.length=true->eT x y i j l->0<=i->0<=j->∀p∈bI i j l x.length,NL x y p
 | [],e,i,j,hs,d,hi,hj,p,b=>by
  simp only[K1,decide_eq_true_eq]at hs;unfold bI at b;obtain⟨t,s,rfl⟩:=nE b;have d:sub x i x.length=sub y j y.length:=d;exact⟨by dsimp only;omega,by dsimp only;omega,wH d hi hj (by omega) (by omega) (by omega)⟩
 | c::r,e,i,j,hs,d,hi,hj,p,b=>by
  have m:=eQ _ _ _ _ _ _ hs;have g:=p6 x.length y.length (c::r) e i j hs 0 (by simp);obtain⟨g1,f,h,k,u,n,q,_⟩:=g;have g1:K8 c.Old:=g1;have f:K8 c.OldLen:=f;have h:K8 c.New:=h;have k:K8 c.NewLen:=k;have n:c.Old-i=c.New-j:=n;have q:i<=c.Old:=q;simp only[K1,VB,decide_eq_true_eq]at hs;unfold bI at b;unfold K8 at g1 f h k;have v:=m.2.2.2.2.2.2.end_le;rcases VG.1 b with b | b
  ·obtain⟨t,s,rfl⟩:=nE b;exact⟨by dsimp only;omega,by dsimp only;omega,wH d.1 hi hj (by omega) (by omega) (by omega)⟩
  ·rw[show max i c.Old+c.OldLen=c.Old+c.OldLen by omega,show j+((c.Old-i).toNat:Int)+c.NewLen=c.New+c.NewLen by omega]at b;exact qT r (e+1) _ _ hs.2 d.2 (by omega) (by omega) p b
theorem ScFit.pairs{x y:List Str}{l:List Change}(h:ScFit x y l):∀p∈tQ l x.length,NL x y p:=qT l 0 0 0 h.sc h.eq (Int.le_refl _) (Int.le_refl _)
def mA(c:Change):Change:=⟨c.Old+1,c.OldLen,c.New+1,c.NewLen⟩
def cV(l:List Change)(k:Nat):List Change:=l.set k (mA (I6 l k))
def MB(t:List Int)(i:Int):Int:=t.getD i.toNat 0
def FC(l:List Change)(k:Nat)(t:List Int)(f n:Int):Prop:=(f+n<t.length/\MB t f=MB t (f+n))/\(k+1=l.length\/(I6 l k).Old+(I6 l k).OldLen+1<(I6 l (k+1)).Old)
instance (l:List Change) (k:Nat) (t:List Int) (f n:Int):Decidable (FC l k t f n):=by unfold FC;exact inferInstance
def oC(l:List Change)(a b:List Int)(k:Nat):Bool :=
 if (I6 l k).NewLen=0 then decide (FC l k a (I6 l k).Old (I6 l k).OldLen) else if (I6 l k).OldLen=0 then decide (FC l k b (I6 l k).New (I6 l k).NewLen) else false
theorem d7(l:List Change)(k:Nat):(cV l k).length=l.length:=by simp[cV]
theorem fP(l:List Change){k:Nat}(a:k<l.length)(q:Nat):I6 (cV l k) q=if q=k then mA (I6 l k) else I6 l q:=by
 unfold cV;by_cases h:q=k
 ·subst h;have:∀z,I6 (l.set q z) q=z:=fun z=>by unfold I6;simp[a]
  rw[A4 rfl,this]
 ·rw[A5 h];unfold I6;simp only[VK];rw[List.getElem?_set_ne (Ne.symm h)]
theorem kS(l:List Change){k:Nat}(a:k<l.length)(q:Nat):s6 0 (cV l k) q=s6 0 l q+(if q=k+1 then 1 else 0):=by
 cases q with
 | zero=>simp[s6]
 | succ q =>
  rw[eR,eR,fP l a];by_cases h:q=k
  ·subst h;rw[A4 rfl,A4 rfl];simp only[dL,mA];omega
  ·rw[A5 h,A5 (by omega)];omega
theorem kT(l:List Change){k:Nat}(a:k<l.length)(q:Nat):dO 0 (cV l k) q=dO 0 l q+(if q=k+1 then 1 else 0):=by
 cases q with
 | zero=>simp[dO]
 | succ q =>
  rw[eS,eS,fP l a];by_cases h:q=k
  ·subst h;rw[A4 rfl,A4 rfl];simp only[wD,mA];omega
  ·rw[A5 h,A5 (by omega)];omega
structure IdsOf (x:List Str) (a:List Int):Prop where
 len:a.length=x.length
 inj:∀(i j:Nat) (u v:Str) (z:Int),x[i]?=some u->x[j]?=some v->a[i]?=some z->a[j]?=some z->u=v
theorem ScFit.down{x y:List Str}{l:List Change}{a b:List Int}(h:ScFit x y l)(ha:IdsOf x a)(hb:IdsOf y b){k:Nat}(m:k<l.length)(g:oC l a b k=true):ScFit x y (cV l k):=by
 have X:=h.lx;have Y:=h.ly;have Q:=p6 _ _ _ 0 0 0 h.sc;have u:=wE _ _ _ 0 0 0 h.sc;have hq:=qN _ _ _ _ _ h.eq;have r:=wF _ _ _ _ _ h.eq;have K:=h.ok;obtain⟨c,p⟩:∃c,c=I6 l k:=⟨_,rfl⟩
 obtain⟨g1,T,g3,U,g5,g6,g7,g8⟩:=Q k m;have W:=K.get k m;rw[<-p]at g1 T g3 U g5 g6 g7 g8 W;unfold K8 at g1 T g3 U;have i:s6 0 l (k+1)=c.Old+c.OldLen:=by rw[eR,<-p];rfl
 have j:dO 0 l (k+1)=c.New+c.NewLen:=by rw[eS,<-p];rfl
 obtain⟨E,E',H,I,V,ac,ad,J⟩:∃E E':Int,sub x (c.Old+c.OldLen) E=sub y (c.New+c.NewLen) E'/\E-(c.Old+c.OldLen)=E'-(c.New+c.NewLen)/\E<=x.length/\E'<=y.length/\(c.Old+c.OldLen<E)/\(k+1<l.length->E=(I6 l (k+1)).Old/\E'=(I6 l (k+1)).New/\c.Old+c.OldLen+1<E):=by
  by_cases B:k+1=l.length
  ·rw[<-B,i,j]at u r;refine⟨x.length,y.length,r,by omega,by omega,by omega,?_,fun q=>absurd B (by omega)⟩;unfold oC at g;rw[<-p]at g;split at g
   ·have:=(A0 g).1.1;rw[ha.len]at this;omega
   ·split at g
    ·have:=(A0 g).1.1;rw[hb.len]at this;omega
    ·cases g
  ·have B:k+1<l.length:=by omega
   obtain⟨M,F,P,G,f5,f6,f7,S⟩:=Q (k+1) B;have f9:=hq (k+1) B;have ab:=K.get (k+1) B;rw[i,j]at f6 f9;rw[i]at f7;unfold K8 at F G;have z:c.Old+c.OldLen+1<(I6 l (k+1)).Old:=by
    unfold oC at g;rw[<-p]at g;split at g
    ·have:=(A0 g).2;rw[<-p]at this;omega
    ·split at g
     ·have:=(A0 g).2;rw[<-p]at this;omega
     ·cases g
   exact⟨_,_,f9,by omega,by omega,by omega,by omega,fun _=>⟨rfl,rfl,z⟩⟩
 have hv:∃v,x[c.Old.toNat]?=some v/\y[c.New.toNat]?=some v:=by
  obtain⟨v,C,v2⟩:=wH (t:=0) H (by omega) (by omega) (by omega) I (by omega);simp only[Int.natCast_zero,Int.add_zero]at C v2;unfold oC at g;rw[<-p]at g;split at g
  ·rename_i Z;have:=(A0 g).1.2;rw[Z,Int.add_zero]at v2;refine⟨v,?_,v2⟩;have l1:c.Old.toNat<a.length:=by rw[ha.len];omega
   have l2:(c.Old+c.OldLen).toNat<a.length:=by rw[ha.len];omega
   have L:x[c.Old.toNat]?=some x[c.Old.toNat]:=VA (by omega);have R:a[c.Old.toNat]?=some (MB a c.Old):=by unfold MB;rw[VK,VA l1];rfl
   have D:a[(c.Old+c.OldLen).toNat]?=some (MB a (c.Old+c.OldLen)):=by unfold MB;rw[VK,VA l2];rfl
   rw[<-this]at D;have:=ha.inj _ _ _ _ _ L C R D;rw[L,this]
  ·split at g
   ·rename_i _ Z;have:=(A0 g).1.2;rw[Z,Int.add_zero]at C;refine⟨v,C,?_⟩;have l1:c.New.toNat<b.length:=by rw[hb.len];omega
    have l2:(c.New+c.NewLen).toNat<b.length:=by rw[hb.len];omega
    have L:y[c.New.toNat]?=some y[c.New.toNat]:=VA (by omega);have R:b[c.New.toNat]?=some (MB b c.New):=by unfold MB;rw[VK,VA l1];rfl
    have D:b[(c.New+c.NewLen).toNat]?=some (MB b (c.New+c.NewLen)):=by unfold MB;rw[VK,VA l2];rfl
    rw[<-this]at D;have:=hb.inj _ _ _ _ _ L v2 R D;rw[L,this]
   ·cases g
 obtain⟨v,C,v2⟩:=hv;have s:0<=s6 0 l k/\0<=dO 0 l k:=by
  cases k with
  | zero=>simp[s6,dO]
  | succ k =>
   obtain⟨M,F,P,G,_⟩:=Q k (by omega);unfold K8 at M F P G;rw[eR,eS];unfold dL wD;omega
 have A:sub x (c.Old+c.OldLen+1) E=sub y (c.New+c.NewLen+1) E':=by
  have:=eU (e:=E-(c.Old+c.OldLen)-1) H (by omega) (by omega) (by omega) (by omega) I;rw[show E-(E-(c.Old+c.OldLen)-1)=c.Old+c.OldLen+1 by omega,show E'-(E-(c.Old+c.OldLen)-1)=c.New+c.NewLen+1 by omega]at this;exact this
 refine⟨X,Y,EZ _ _ _ 0 0 0 (fun q n=>?_) ?_,FA _ _ _ 0 0 (fun q n=>?_) ?_⟩
 ·rw[d7]at n;rw[fP l m,kS l m,kT l m];by_cases e:q=k
  ·rw[A4 e,A5 (show ¬q=k+1 by omega),e,<-p];unfold K8;simp only[mA];refine⟨by omega,T,by omega,U,g5,by omega,by omega,fun _=>by omega⟩
  ·rw[A5 e];obtain⟨M,F,P,G,f5,f6,f7,S⟩:=Q q n;refine⟨M,F,P,G,f5,?_,?_,?_⟩
   ·by_cases f:q=k+1
    ·rw[A4 f];omega
    ·rw[A5 f];omega
   ·by_cases f:q=k+1
    ·rw[A4 f];have:=S (by omega);omega
    ·rw[A5 f];omega
   ·intro h0;by_cases f:q=k+1
    ·rw[A4 f,f,i];have:=(J (by omega))
     omega
    ·rw[A5 f];have:=S h0;omega
 ·rw[d7,kS l m,kT l m];by_cases f:l.length=k+1
  ·rw[A4 f,f,i,j];rw[f,i,j]at u;have h1:E<=x.length:=V;omega
  ·rw[A5 f];omega
 ·rw[d7]at n;rw[fP l m,kS l m,kT l m];by_cases e:q=k
  ·rw[A4 e,A5 (show ¬q=k+1 by omega),e,<-p];simp only[mA,Int.add_zero];have:=hq k m;rw[<-p]at this;rw[bO s.1 g7 C,bO s.2 (by omega) v2,this]
  ·rw[A5 e];by_cases f:q=k+1
   ·rw[A4 f];subst f;obtain⟨q1,q2,_⟩:=J n;rw[i,j,<-q1,<-q2];exact A
   ·rw[A5 f,Int.add_zero,Int.add_zero];exact hq q n
 ·rw[d7,kS l m,kT l m];by_cases f:l.length=k+1
  ·rw[A4 f];rw[f,i,j]at r u ⊢;have:=eU (e:=x.length-(c.Old+c.OldLen)-1) r (by omega) (by omega) (by omega) (by omega) (by omega);rw[show (x.length:Int)-(x.length-(c.Old+c.OldLen)-1)=c.Old+c.OldLen+1 by omega,show (y.length:Int)-(x.length-(c.Old+c.OldLen)-1)=c.New+c.NewLen+1 by omega]at this;exact this
  ·rw[A5 f,Int.add_zero,Int.add_zero];exact r
section
variable {x y:List Str}{a b:List Int} (ha:IdsOf x a) (hb:IdsOf y b)
include ha hb
end
structure Made12 (on nn a b:Str) (l:List Change) (ctx:Int):Prop where
 chk:cO ⟨on,nn,Y0 l (G4 a) (G4 b) ctx⟩=0
 wr:(EV ⟨on,nn,Y0 l (G4 a) (G4 b) ctx⟩).length<=16777216
 fit:PFit ⟨on,nn,Y0 l (G4 a) (G4 b) ctx⟩
 rg:∀h∈Y0 l (G4 a) (G4 b) ctx,(-4611686018427387904<=h.Old/\h.Old<=4611686018427387904)/\(-4611686018427387904<=h.New/\h.New<=4611686018427387904)
 sz:MA (Y0 l (G4 a) (G4 b) ctx)<=268435456
def Few(a:Str):Prop:=a.length<=1048576/\(G4 a).length<=4096
def KS(x y:List Str)(i j:Int):List PatchHunk->Prop
 | []=>sub x i x.length=sub y j y.length/\0<=i/\0<=j/\i<=x.length/\j<=y.length
 | h::r=>(sub x i h.Old=sub y j h.New/\F3 h.Lines 43=sub x h.Old (h.Old+y2 h)/\F3 h.Lines 45=sub y h.New (h.New+bN h))/\(0<=i/\0<=j/\i<=h.Old/\j<=h.New/\h.Old+y2 h<=x.length/\h.New+bN h<=y.length)/\KS x y (h.Old+y2 h) (h.New+bN h) r
theorem ScFit.chain{x y:List Str}{l:List Change}(h:ScFit x y l){c:Int}(o:0<=c):∀(n:List Hunk) (a:Nat),GrOk l x.length c a n l.length ->
  ∀(i j e:Int),i=s6 0 l a+e->j=dO 0 l a+e->0<=e->e<=c->(a=0->e=0)->i<=x.length->j<=y.length->KS x y i j (n.map (T0 l x y))
 | [],a,f,i,j,e,hi,hj,he,_,_,hix,hjy=>by
  have f:a=l.length:=f;have z:=wF _ _ _ _ _ h.eq;have p:=wE _ _ _ 0 0 0 h.sc;obtain⟨r,s,I,J⟩:=h.nn a (by omega);rw[<-f]at z p;refine⟨?_,by omega,by omega,hix,hjy⟩;have:=eU (e:=x.length-i) z r s (by omega) (by omega) (by omega);rw[show (x.length:Int)-(x.length-i)=i by omega,show (y.length:Int)-(x.length-i)=j by omega]at this;exact this
 | hk::n,a,⟨b,hab,ho,hE,f⟩,i,j,e,hi,hj,he,hec,he0,hix,hjy=>by
  have hb:=f.le;have k:b<l.length->opens l c b:=by
   intro C;cases n with
   | nil=>exact absurd f (by show ¬b=l.length;omega)
   | cons B D=>obtain⟨_,_,q,_⟩:=f;exact q
  obtain⟨w1,K,U,V,W⟩:=h.after o hb k (by omega);obtain⟨R,S,T⟩:=h.before o (show a<l.length by omega) ho;have H:=h.hunk o hab hb ho k;rw[<-hE]at H;obtain⟨P,u⟩:∃P,P=T0 l x y hk:=⟨_,rfl⟩
  rw[<-u]at H;have E:=ScFit.chain h o n b f (P.Old+y2 P) (P.New+bN P) (eB l x.length c b) H.oe H.ne w1 K (by omega) H.ox H.ny;obtain⟨k1,⟨k2,F⟩,k3,⟨k4,G⟩,k5,k6,k7,k8⟩:=p6 _ _ _ _ _ _ h.sc a (show a<l.length by omega);have L:=H.old;have B:=H.new;have M:=H.o0;have Q:=H.n0;have v:e+eA l c a<=(I6 l a).Old-s6 0 l a:=by
   by_cases t:a=0
   ·have:=he0 t;omega
   ·have:=fO ho t;omega
  obtain⟨r,s,I,J⟩:=h.nn a (by omega);have g:i<=P.Old/\j<=P.New/\P.Old-i=P.New-j/\0<=i/\0<=j:=by omega
  have m:=qN _ _ _ _ _ h.eq a (show a<l.length by omega);have A:=eU (e:=(I6 l a).Old-i) m r s (by omega) (by omega) (by omega);rw[show (I6 l a).Old-((I6 l a).Old-i)=i by omega,show (I6 l a).New-((I6 l a).Old-i)=j by omega]at A;have t2:=qO (e:=P.Old-i) A (by omega) (by omega) (by omega) (by omega) (by omega);rw[show i+(P.Old-i)=P.Old by omega,show j+(P.Old-i)=P.New by omega]at t2;rw[VR,<-u];exact⟨⟨t2,H.ol,H.nl⟩,⟨by omega,by omega,g.1,g.2.1,H.ox,H.ny⟩,E⟩
def iZ(c:UInt8):Bool:=decide (48<=c.toNat/\c.toNat<=57)
def M8(s:Str):Str:=s.takeWhile iZ
def dM(a:Str):Nat:=a.foldl (fun n c=>10*n+(c.toNat-48)) 0
def kU(s:Str):Option (Nat×Nat) :=
 if M8 s=[]\/(s.head?=some 48/\1<(M8 s).length)\/2147483647<dM (M8 s) then none else some (dM (M8 s),(M8 s).length)
theorem HP(a:Str)(c:UInt8):dM (a++[c])=10*dM a+(c.toNat-48):=by
 unfold dM;rw[List.foldl_append];rfl
structure Cmd where
 Kind:Int
 A:Int
 B:Int
 C:Int
 Dense:Bool
 Text:Str
 deriving DecidableEq
abbrev TO(c:Cmd):List Cell:=[.v (.int .i64 c.Kind),.v (.int .i64 c.A),.v (.int .i64 c.B),.v (.int .i64 c.C),.v (.bool c.Dense),.v (.string ⟨c.Text.toArray⟩)]
abbrev dN(c:Cmd):PV:=.agg (TO c)
abbrev kV(c:Cmd):List TC:=[.p (.v (.int .i64 c.Kind)),.p (.v (.int .i64 c.A)),.p (.v (.int .i64 c.B)),.p (.v (.int .i64 c.C)),.p (.v (.bool c.Dense)),.p (.v (.string ⟨c.Text.toArray⟩))]
abbrev KT(c:Cmd):List Value:=[.int .i64 c.Kind,.int .i64 c.A,.int .i64 c.B,.int .i64 c.C,.bool c.Dense,.string ⟨c.Text.toArray⟩]
def jA:Cmd:=⟨0,0,0,0,false,[]⟩
structure CForm where
 word:Str
 kind:Int
 dense:Bool
 b:Bool
 c:Bool
 text:Bool
 deriving DecidableEq
def qU:CForm->Nat->Cell:=fun f j=>match j with
 | 0=>.v (.string ⟨f.word.toArray⟩)
 | 1=>.v (.int .i64 f.kind)
 | 2=>.v (.bool f.dense)
 | 3=>.v (.bool f.b)
 | 4=>.v (.bool f.c)
 | _=>.v (.bool f.text)
abbrev KU(f:CForm):List TC:=[.p (.v (.string ⟨f.word.toArray⟩)),.p (.v (.int .i64 f.kind)),.p (.v (.bool f.dense)),.p (.v (.bool f.b)),.p (.v (.bool f.c)),.p (.v (.bool f.text))]
abbrev KV(f:CForm):PV:=.agg [.v (.string ⟨f.word.toArray⟩),.v (.int .i64 f.kind),.v (.bool f.dense),.v (.bool f.b),.v (.bool f.c),.v (.bool f.text)]
abbrev KW(l:List CForm):PV:=.one (.list CForm 6 qU l)
def formsL:List CForm:=[⟨[108,111,103],1,false,false,false,false⟩,⟨[115,104,111,119],2,false,false,false,false⟩,⟨[100,105,102,102],3,false,true,true,true⟩,⟨[99,111,109,98,105,110,101,100],4,false,false,true,true⟩,
 ⟨[99,99],4,true,false,true,true⟩,⟨[108,105,116,101,114,97,108],5,false,false,false,true⟩,⟨[114,101,103,101,120],6,false,false,false,true⟩,⟨[108,105,110,101,115],7,false,true,true,true⟩,⟨[98,108,97,109,101],8,false,false,false,true⟩,⟨[98,97,115,101,115],9,false,true,false,false⟩]
def Q5(f:CForm):List Nat:=1::((if f.b=true then [2] else [])++(if f.c=true then [3] else []))
def Cmd.get(c:Cmd)(o:Nat):Int:=match o with
 | 1=>c.A
 | 2=>c.B
 | _=>c.C
def Cmd.put(c:Cmd)(o:Nat)(n:Int):Cmd:=match o with
 | 1=>{ c with A:=n }
 | 2=>{ c with B:=n }
 | _=>{ c with C:=n }
theorem FD{f:CForm}{o:Nat}(h:o∈Q5 f):o=1\/o=2\/o=3:=by
 unfold Q5 at h;rcases VH.1 h with h | h
 ·exact .inl h
 rcases VG.1 h with h | h
 ·split at h
  ·exact .inr (.inl (List.mem_singleton.1 h))
  ·cases h
 ·split at h
  ·exact .inr (.inr (List.mem_singleton.1 h))
  ·cases h
theorem zQ(f:CForm):(Q5 f).length<=3:=by unfold Q5;cases f.b<;>cases f.c<;>decide
theorem KX{c:Cmd}{o:Nat}(h:o=1\/o=2\/o=3):(kV c)[o]?=some (.p (.v (.int .i64 (c.get o)))):=by
 rcases h with rfl | rfl | rfl<;>rfl
theorem zR{c:Cmd}{o:Nat}(n:Int)(h:o=1\/o=2\/o=3):setTs (kV c) o [.p (.v (.int .i64 n))]=kV (c.put o n):=by
 rcases h with rfl | rfl | rfl<;>rfl
theorem wI(c:Cmd)(o:Nat)(n:Int):(c.put o n).Text=c.Text:=by
 unfold Cmd.put;split<;>rfl
def s7:List Nat->Cmd->Str->Option (Cmd×Str)
 | [],c,s=>some (c,s)
 | o::r,c,s=>if c.get o<0\/2147483647<c.get o then none else s7 r (c.put o 0) (s++([32]++c9 (c.get o)))
def eV(f:CForm)(c:Cmd)(s:Str):Str×Int:=if c=⟨f.kind,0,0,0,f.dense,[]⟩ then (s,0) else ([],2)
def fQ(f:CForm)(c:Cmd):Str×Int:=match s7 (Q5 f) c f.word with
 | none=>([],2)
 | some (c',s)=>if f.text=true then eV f { c' with Text:=[] } (s++([32]++X8 c'.Text)) else eV f c' s
def qV(c:Cmd):List CForm->Str×Int
 | []=>([],2)
 | f::r=>if f.kind≠c.Kind\/f.dense≠c.Dense then qV c r else fQ f c
def x4(c:Cmd):Str×Int:=qV c formsL
theorem HQ{f:CForm}(h:f∈formsL):f.word.length<=8:=by
 unfold formsL at h;simp only[VH,List.not_mem_nil,or_false]at h;rcases h with h | h | h | h | h | h | h | h | h | h<;>(rw[h];decide)
def cW:List Nat->List Str->Cmd->Option Cmd
 | o::r,w::ws,c=>match kU w with
  | some (n,e)=>if e=w.length then cW r ws (c.put o n) else none
  | none=>none
 | _,_,c=>some c
def x5(f:CForm)(a:List Str):Option Cmd :=
 let b:Cmd:=⟨f.kind,0,0,0,f.dense,[]⟩
 if f.text=true then
  if a=[] then none
  else if a.length-1≠(Q5 f).length then none
  else cW (Q5 f) a.dropLast { b with Text:=a.getLastD [] }
 else if a.length≠(Q5 f).length then none
 else cW (Q5 f) a b
def cX(w:Str)(a:List Str):List CForm->Option Cmd
 | []=>none
 | f::r=>if f.word≠w then cX w a r else match x5 f a with
  | some c=>some c
  | none=>cX w a r
def M9:List Str->Str
 | []=>[]
 | [w]=>w
 | w::x::r=>w++32::M9 (x::r)
theorem qW(w:Str):M9 [w]=w:=rfl
theorem bP(w x:Str)(r:List Str):M9 (w::x::r)=w++32::M9 (x::r):=rfl
theorem HR{w:Str}(b:w.all O7=true)(r:List Str):(M9 (w::r)).takeWhile O7=w:=by
 have ha:∀c∈w,O7 c=true:=List.all_eq_true.1 b;cases r with
 | nil =>
  rw[qW];have:=List.takeWhile_append_of_pos (l₂:=[]) ha;simpa using this
 | cons x r =>
  rw[bP,List.takeWhile_append_of_pos ha,List.takeWhile_cons];rw[show O7 32=false by rfl];simp
theorem zS(w:Str)(r:List Str):w.length<=(M9 (w::r)).length:=by
 cases r with
 | nil=>exact Nat.le_refl _
 | cons x r=>rw[bP,VF];omega
theorem zT{w:Str}(a:w≠[])(b:w.all O7=true):X8 w=w:=by unfold X8;rw[A4 ⟨a,b⟩]
theorem check12_good{p:Patch}(h:cO p=0):lX p.Hunks=true:=by
 unfold cO at h;split at h
 ·cases h
 ·split at h
  ·cases h
  ·rename_i a;simpa using a
theorem PU(a b:Cmd):uS (KT a) (KT b)=decide (a=b):=by
 obtain⟨c,a2,a3,a4,a5,d⟩:=a;obtain⟨e,f,g,h,i,j⟩:=b;rw[Bool.eq_iff_iff,decide_eq_true_eq];simp only[KT,uS,TA,ByteArray.toList_mk,Bool.and_true,VB,beq_iff_eq,Cmd.mk.injEq]
def qX(f:CForm)(a:List Str):Cmd:=if f.text=true then ⟨f.kind,0,0,0,f.dense,a.getLastD []⟩ else ⟨f.kind,0,0,0,f.dense,[]⟩
def iB(f:CForm)(a:List Str):List Str:=if f.text=true then a.dropLast else a
theorem zU(f:CForm)(a:List Str):x5 f a=if f.text=true/\a=[] then none else if (iB f a).length≠(Q5 f).length then none else cW (Q5 f) (iB f a) (qX f a):=by
 unfold x5 iB qX;by_cases b:f.text=true
 ·by_cases c:a=[]
  ·simp only[A4 b,A4 c,A4 (And.intro b c)]
  ·simp only[A4 b,A5 c,A5 (fun h:f.text=true/\a=[]=>c h.2),List.length_dropLast]
 ·simp only[A5 b,A5 (fun h:f.text=true/\a=[]=>b h.1)]
theorem HS{f:CForm}{a:List Str}{w:Str}(h:w∈iB f a):w∈a:=by
 unfold iB at h;split at h
 ·exact (List.dropLast_sublist a).subset h
 ·exact h
theorem HT(f:CForm)(a:List Str):(iB f a).length<=a.length:=by
 unfold iB;split
 ·rw[List.length_dropLast];omega
 ·exact Nat.le_refl _
def jB(a:List Str):Cmd×Int:=match a with
 | []=>(jA,320)
 | w::r=>match cX w r formsL with
  | some c=>(c,0)
  | none=>(jA,320)
theorem qY:∀(a:List Str),(∀w∈a,w≠[])->a.length<=(M9 a).length
 | [],_=>Nat.zero_le _
 | [w],h=>by
  have:=List.length_pos_iff.2 (h w (by simp));rw[qW,List.length_singleton];exact this
 | w::x::r,h=>by
  have:=qY (x::r) fun v b=>h v (by simp[b]);rw[bP];simp only[VF,VD]at this ⊢;omega
theorem HU(w t:Str)(c:UInt8):(w++c::t).drop (w.length+1)=t:=by
 rw[show w++c::t=(w++[c])++t by simp];exact List.drop_left' (by simp)
def kW:Str:=[99,111,109,109,105,116]
def x6(ns:List Int)(i:Nat):Str:=kW++((ns.take i).map fun n=>32::c9 n).flatten
def s8(ns:List Int):Str:=x6 ns ns.length
theorem qZ{ns:List Int}{i:Nat}{n:Int}(h:ns[i]?=some n):x6 ns (i+1)=x6 ns i++([32]++c9 n):=by
 unfold x6;rw[List.take_add_one,h,VV];simp
theorem fR(ns:List Int):∀i,(x6 ns i).length<=6+11*i
 | 0=>by simp[x6,kW]
 | i+1=>by
  have:=fR ns i;by_cases h:i<ns.length
  ·rw[qZ (VA h)];have:=bK ns[i];simp only[VF,VD,VI];omega
  ·have:x6 ns (i+1)=x6 ns i:=by
    unfold x6;rw[WB (by omega),WB (by omega)]
   rw[this];omega
def o6(L:List (List Int))(i:Nat):Str:=((L.take i).map fun ns=>s8 ns++[10]).flatten
def KY(L:List (List Int)):Str:=o6 L L.length
theorem jC{L:List (List Int)}{i:Nat}{ns:List Int}(h:L[i]?=some ns):o6 L (i+1)=o6 L i++(s8 ns++[10]):=by
 unfold o6;rw[List.take_add_one,h];simp
theorem mB{L:List (List Int)}{m:Nat}(b:∀ns∈L,ns.length<=m):∀i,(o6 L i).length<=(7+11*m)*i
 | 0=>by simp[o6]
 | i+1=>by
  have:=mB b i;by_cases h:i<L.length
  ·rw[jC (VA h)];have a:=fR L[i] L[i].length;have c:=b L[i] (VE h);have d:(s8 L[i]).length<=6+11*m:=by
    unfold s8;have:11*L[i].length<=11*m:=Nat.mul_le_mul_left _ c;omega
   simp only[VF,VD,VI];rw[Nat.mul_succ];omega
  ·have a:o6 L (i+1)=o6 L i:=by
    unfold o6;rw[WB (by omega),WB (by omega)]
   rw[a,Nat.mul_succ];omega
theorem uA(L:List (List Int)):o6 L 0=[]:=by simp[o6]
def kX(e:Int):Str:=[101,114,114,111,114,32]++c9 e++[10]
def aX(a b:Str)(e:Int):Str:=[62,32]++a++[10]++(if e≠0 then kX e else b)
theorem fS{α:Type}[DecidableEq α]:∀{l m:List α},l.Nodup->(∀x∈l,x∈m)->l.length<=m.length
 | [],_,_,_=>Nat.zero_le _
 | x::l,m,h,hs=>by
  have b:=List.nodup_cons.1 h;have d:l.length<=(m.erase x).length:=fS b.2 fun y c=>by
   have a:y≠x:=fun e=>b.1 (e ▸ c);exact (List.mem_erase_of_ne a).2 (hs y (by simp[c]))
  have f:=List.length_erase_of_mem (hs x (by simp));have i:0<m.length:=List.length_pos_of_mem (hs x (by simp));rw[VD];omega
theorem U5{l:List Int}{n:Nat}(h:l.Nodup)(b:∀x∈l,0<=x/\x<n):l.length<=n:=by
 have:=fS (m:=(List.range n).map fun i:Nat=>(i:Int)) h fun x c=>by
  have:=b x c;exact VT.2 ⟨x.toNat,VL.2 (by omega),by omega⟩
 simpa using this
theorem KZ{l:List Int}{n:Nat}(h:l.Nodup)(d:∀x∈l,0<=x/\x<n)(f:n<=l.length)(c:Nat)(e:c<n):(c:Int)∈l:=by
 apply Classical.byContradiction;intro b;have:=U5 (l:=(c:Int)::l) (n:=n) (List.nodup_cons.2 ⟨b,h⟩) fun x a=>by
  rcases VH.1 a with rfl | a
  ·exact⟨by omega,by omega⟩
  ·exact d x a
 rw[VD]at this;omega
theorem jD{q r:Nat->Bool}(x:Nat)(d:∀y,r y=(q y&&decide (y≠x))):∀{L:List Nat},L.Nodup->L.countP q=L.countP r+(if x∈L/\q x=true then 1 else 0)
 | [],_=>by simp
 | y :: L,h=>by
  have c:=List.nodup_cons.1 h;have g:=jD x d c.2;rw[List.countP_cons,List.countP_cons,g,d y];by_cases e:y=x
  ·subst e;have:¬(y∈L/\q y=true):=fun e=>c.1 e.1;rw[A5 this];cases j:q y<;>simp
  ·have f:(x∈y::L/\q x=true)↔(x∈L/\q x=true):=by
    rw[VH];constructor
    ·rintro⟨a | a,b⟩
     ·exact absurd a.symm e
     ·exact⟨a,b⟩
    ·exact fun ⟨a,b⟩=>⟨.inr a,b⟩
   rw[show (if x∈y::L/\q x=true then 1 else 0)=(if x∈L/\q x=true then 1 else 0) by simp only[f]];simp only[e,ne_eq,not_false_eq_true,decide_true,Bool.and_true];omega
abbrev Graph:=List Commit
def D4(g:Graph)(c:Nat):List Int:=(g[c]?.map (·.Parents)).getD []
def eW(n:Int)(a:List Int):List Int->Bool
 | []=>true
 | p::r=>decide (0<=p/\p<n/\p∉a)&&eW n (a++[p]) r
def related(g:Graph):Bool:=g.all fun c=>eW g.length [] c.Parents
theorem zV{n:Int}:∀{ps a:List Int},eW n a ps=true->(∀p∈ps,0<=p/\p<n/\p∉a)/\ps.Nodup
 | [],_,_=>⟨(fun _ h=>by cases h),List.nodup_nil⟩
 | p::r,a,h=>by
  unfold eW at h;rw[VB,decide_eq_true_eq]at h;obtain⟨c,d⟩:=zV h.2;refine⟨fun q b=>?_,List.nodup_cons.2 ⟨fun e=>(c p e).2.2 (by simp),d⟩⟩;rcases VH.1 b with rfl | b
  ·exact h.1
  ·have:=c q b;exact⟨this.1,this.2.1,fun f=>this.2.2 (by simp[f])⟩
theorem U6{g:Graph}{c:Nat}(b:c<g.length):D4 g c=g[c].Parents:=by unfold D4;rw[VA b];rfl
theorem eX{g:Graph}{c:Nat}(a:¬c<g.length):D4 g c=[]:=by unfold D4;rw[VS (by omega)];rfl
theorem I3{g:Graph}(h:related g=true)(c:Nat):(∀p∈D4 g c,0<=p/\p<g.length)/\(D4 g c).Nodup:=by
 by_cases a:c<g.length
 ·rw[U6 a];have:=zV (List.all_eq_true.1 h g[c] (VE a));exact⟨fun p b=>⟨(this.1 p b).1,(this.1 p b).2.1⟩,this.2⟩
 ·rw[eX a];exact⟨(fun _ h=>by cases h),List.nodup_nil⟩
inductive Reaches (g:Graph):Nat->Nat->Prop
 | one {c p:Nat} (h:(p:Int)∈D4 g c):Reaches g c p
 | more {c d p:Nat} (h:Reaches g c d) (h2:(p:Int)∈D4 g d):Reaches g c p
theorem Reaches.trans{g:Graph}{a b c:Nat}(h:Reaches g a b)(d:Reaches g b c):Reaches g a c:=by
 induction d with
 | one d=>exact .more h d
 | more _ f i=>exact .more i f
theorem Reaches.lt{g:Graph}(i:related g=true){a b:Nat}(h:Reaches g a b):a<g.length/\b<g.length:=by
 have d:∀{c p:Nat},(p:Int)∈D4 g c->c<g.length/\p<g.length:=fun {c p} h=>by
  refine⟨?_,by have:=(I3 i c).1 p h;omega⟩;apply Classical.byContradiction;intro f;rw[eX f]at h;cases h
 induction h with
 | one h=>exact d h
 | more _ e j=>exact⟨j.1,(d e).2⟩
def j7(ps:List Int)(l:List Bool):List Bool:=ps.foldl (fun l p=>l.set p.toNat true) l
def E9(l:List Bool)(c:Nat):Bool:=l[c]?.getD false
def j2(g:Graph)(l:List Bool)(c:Nat):List Bool:=if E9 l c=true then j7 (D4 g c) l else l
def jE(g:Graph)(l:List Bool):List Bool:=(List.range g.length).foldl (j2 g) l
def o7(g:Graph):Nat->List Bool->List Bool
 | 0,l=>l
 | k+1,l=>o7 g k (jE g l)
def F6(g:Graph)(a:List Int):List Bool:=o7 g g.length (j7 a (List.replicate g.length false))
theorem x7{l:List Bool}{i c:Nat}:E9 (l.set i true) c=(E9 l c||decide (i=c/\c<l.length)):=by
 unfold E9;rw[WZ];split
 ·rename_i e;subst e;split
  ·rename_i h;simp[h]
  ·rename_i h;simp[h,VS (Nat.le_of_not_lt h)]
 ·rename_i h;simp[h]
theorem Y5:∀(ps:List Int) (l:List Bool),(j7 ps l).length=l.length
 | [],_=>rfl
 | p::r,l=>by show (j7 r (l.set p.toNat true)).length=_;rw[Y5 r];simp
theorem Z6:∀(ps:List Int) (l:List Bool) (c:Nat),E9 (j7 ps l) c=(E9 l c||(decide (c<l.length)&&ps.any fun p=>decide (p.toNat=c)))
 | [],l,c=>by simp[j7]
 | p::r,l,c=>by
  show E9 (j7 r (l.set p.toNat true)) c=_;rw[Z6 r,x7,VY,List.any_cons];by_cases a:p.toNat=c<;>by_cases b:c<l.length<;>simp[a,b]
theorem HV(g:Graph)(l:List Bool)(c:Nat):(j2 g l c).length=l.length:=by unfold j2;split<;>simp[Y5]
theorem uB(g:Graph):∀(a:List Nat) (l:List Bool),(a.foldl (j2 g) l).length=l.length
 | [],_=>rfl
 | c::r,l=>by rw[WJ,uB g r,HV]
theorem rA(g:Graph)(l:List Bool):(jE g l).length=l.length:=uB g _ l
theorem mC(g:Graph):∀(k:Nat) (l:List Bool),(o7 g k l).length=l.length
 | 0,_=>rfl
 | k+1,l=>by rw[o7,mC g k,rA]
theorem R1(g:Graph)(s:List Int):(F6 g s).length=g.length:=by unfold F6;rw[mC,Y5];simp
def LeB(a b:List Bool):Prop:=a.length=b.length/\∀c,E9 a c=true->E9 b c=true
theorem LeB.refl(a:List Bool):LeB a a:=⟨rfl,fun _ h=>h⟩
theorem LeB.trans{a b c:List Bool}(h:LeB a b)(d:LeB b c):LeB a c:=⟨h.1.trans d.1,fun x e=>d.2 x (h.2 x e)⟩
theorem fT:∀{a b:List Bool},LeB a b->a=b\/a.countP id<b.countP id
 | [],[],_=>.inl rfl
 | [],_::_,h=>by have:=h.1;simp at this
 | _::_,[],h=>by have:=h.1;simp at this
 | x::a,y::b,h=>by
  have e:LeB a b:=⟨by simpa using h.1,fun c f=>h.2 (c+1) f⟩
  have d:x=true->y=true:=fun g=>by simpa[E9] using h.2 0 (by simpa[E9] using g)
  rw[List.countP_cons,List.countP_cons];rcases fT e with rfl | h3
  ·cases x<;>cases y
   ·exact .inl rfl
   ·right;simp
   ·exact absurd (d rfl) (by decide)
   ·exact .inl rfl
  ·right;cases x<;>cases y
   ·simpa using h3
   ·simp;omega
   ·exact absurd (d rfl) (by decide)
   ·simpa using h3
theorem zW{a b:List Bool}(h:LeB a b)(d:LeB b a):a=b:=by
 rcases fT h with e | e
 ·exact e
 ·rcases fT d with c | c
  ·exact c.symm
  ·omega
theorem uC(ps:List Int)(l:List Bool):LeB l (j7 ps l):=⟨(Y5 ps l).symm,fun c h=>by rw[Z6,h];rfl⟩
theorem zX(g:Graph)(l:List Bool)(c:Nat):LeB l (j2 g l c):=by unfold j2;split<;>first | exact uC _ _ | exact LeB.refl _
theorem kY(g:Graph):∀(b:List Nat) (l:List Bool),LeB l (b.foldl (j2 g) l)
 | [],l=>LeB.refl l
 | c::r,l=>(zX g l c).trans (kY g r _)
theorem zY(g:Graph):∀(k:Nat) (l:List Bool),LeB l (o7 g k l)
 | 0,l=>LeB.refl l
 | k+1,l=>(kY g _ l).trans (zY g k _)
def aA(g:Graph)(l:List Bool):Prop:=∀c,E9 l c=true->∀p∈D4 g c,E9 l p.toNat=true
theorem zZ(g:Graph):∀(a:List Nat) (l:List Bool),a.foldl (j2 g) l=l->∀c∈a,j2 g l c=l
 | [],_,_,_,h=>by cases h
 | d::r,l,h,c,hc=>by
  rw[WJ]at h;have b:j2 g l d=l:=zW (by have:=kY g r (j2 g l d);rw[h]at this;exact this) (zX g l d);rcases VH.1 hc with rfl | hc
  ·exact b
  ·rw[b]at h;exact zZ g r l h c hc
theorem wJ{l:List Bool}{c:Nat}(h:E9 l c=true):c<l.length:=by
 unfold E9 at h;apply Classical.byContradiction;intro a;rw[VS (by omega)]at h;cases h
theorem DJ{g:Graph}{l:List Bool}(f:related g=true)(e:l.length=g.length)(h:jE g l=l):aA g l:=by
 intro c b p d;have a:=zZ g _ l h c (VL.2 (by rw[<-e];exact wJ b));unfold j2 at a;rw[A4 b]at a;rw[<-a,Z6];have:=(I3 f c).1 p d;rw[VU];right;rw[VB,decide_eq_true_eq,List.any_eq_true];exact⟨by omega,p,d,by simp⟩
theorem kZ{g:Graph}{l:List Bool}(h:aA g l):jE g l=l:=by
 have d:∀(b:List Nat),b.foldl (j2 g) l=l:=by
  intro b;induction b with
  | nil=>rfl
  | cons c r i =>
   rw[WJ];have:j2 g l c=l:=by
    unfold j2;split
    ·rename_i f;refine zW ⟨Y5 _ _,fun x a=>?_⟩ (uC _ _);rw[Z6,VU,VB,List.any_eq_true]at a;rcases a with a | ⟨_,p,hp,e⟩
     ·exact a
     ·rw[<-A0 e];exact h c f p hp
    ·rfl
   rw[this];exact i
 exact d _
theorem nF{g:Graph}(b:related g=true):∀(k:Nat) {l:List Bool},l.length=g.length->aA g (o7 g k l)\/l.countP id+k<=(o7 g k l).countP id
 | 0,l,_=>.inr (by simp[o7])
 | k+1,l,hl=>by
  rw[o7];rcases fT (kY g (List.range g.length) l) with e | e
  ·left;have a:aA g l:=DJ b hl e.symm;rw[show jE g l=l from e.symm];have:∀k,o7 g k l=l:=fun k=>by
    induction k with
    | zero=>rfl
    | succ k d=>rw[o7,kZ a];exact d
   rw[this];exact a
  ·rcases nF b k (l:=jE g l) (by rw[rA];exact hl) with h | h
   ·exact .inl h
   ·right;have e:l.countP id<(jE g l).countP id:=e;omega
theorem cY{g:Graph}(j:related g=true)(s:List Int)(m:∀f∈s,0<=f/\f<g.length):aA g (F6 g s):=by
 by_cases i:s=[]
 ·subst i;have:aA g (List.replicate g.length false):=fun c d=>by
   unfold E9 at d;rw[List.getElem?_replicate]at d;split at d<;>cases d
  have e:∀k,o7 g k (List.replicate g.length false)=List.replicate g.length false:=fun k=>by
   induction k with
   | zero=>rfl
   | succ k q=>rw[o7,kZ this];exact q
  unfold F6;show aA g (o7 g g.length (List.replicate g.length false));rw[e];exact this
 ·rcases nF j g.length (l:=j7 s (List.replicate g.length false)) (by rw[Y5];simp) with h | h
  ·exact h
  ·obtain⟨f,r,rfl⟩:=List.exists_cons_of_ne_nil i;have v:(o7 g g.length (j7 (f::r) (List.replicate g.length false))).countP id<=g.length:=by
    have:=List.countP_le_length (p:=id) (l:=o7 g g.length (j7 (f::r) (List.replicate g.length false)));rw[mC,Y5,VX]at this;exact this
   have w:0<(j7 (f::r) (List.replicate g.length false)).countP id:=by
    rw[List.countP_pos_iff];have x:=m f (by simp);have a:E9 (j7 (f::r) (List.replicate g.length false)) f.toNat=true:=by
     rw[Z6,VU];right;rw[VB,decide_eq_true_eq,List.any_eq_true];exact⟨by rw[VX];omega,f,by simp,by simp⟩
    have b:=wJ a;unfold E9 at a;rw[VA b]at a;exact⟨_,VE b,a⟩
   omega
theorem u0{g:Graph}(y:related g=true){s:List Int}(u:∀f∈s,0<=f/\f<g.length)(x:Nat):E9 (F6 g s) x=true↔∃f:Nat,(f:Int)∈s/\(f=x\/Reaches g f x):=by
 constructor
 ·let Good:List Bool->Prop:=fun l=>∀x,E9 l x=true->∃f:Nat,(f:Int)∈s/\(f=x\/Reaches g f x)
  have z:∀l c,Good l->Good (j2 g l c):=by
   intro l c h x a;unfold j2 at a;split at a
   ·rename_i B;rw[Z6,VU,VB,List.any_eq_true]at a;rcases a with a | ⟨_,p,hp,e⟩
    ·exact h x a
    ·have e:=A0 e;have C:=(I3 y c).1 p hp;have v:((x:Nat):Int)=p:=by omega
     obtain⟨f,q,b⟩:=h c B;refine⟨f,q,.inr ?_⟩;rcases b with rfl | b
     ·exact .one (by rw[v];exact hp)
     ·exact .more b (by rw[v];exact hp)
   ·exact h x a
  have b:∀(t:List Nat) l,Good l->Good (t.foldl (j2 g) l):=by
   intro t;induction t with
   | nil=>exact fun l h=>h
   | cons c r j=>exact fun l h=>j _ (z l c h)
  have A:∀k l,Good l->Good (o7 g k l):=by
   intro k;induction k with
   | zero=>exact fun l h=>h
   | succ k j=>exact fun l h=>j _ (b _ l h)
  refine A _ _ (fun x a=>?_) x;rw[Z6,VU,VB,List.any_eq_true]at a;rcases a with a | ⟨_,p,hp,e⟩
  ·unfold E9 at a;rw[List.getElem?_replicate]at a;split at a<;>cases a
  ·have e:=A0 e;have:=u p hp;exact⟨x,by rw[show ((x:Nat):Int)=p by omega];exact hp,.inl rfl⟩
 ·rintro⟨f,q,h⟩;have d:=cY y s u;have w:E9 (F6 g s) f=true:=by
   refine (zY g _ _).2 f ?_;rw[Z6,VU];right;rw[VB,decide_eq_true_eq,List.any_eq_true];have:=u f q;exact⟨by rw[VX];omega,f,q,by simp⟩
  rcases h with rfl | h
  ·exact w
  ·induction h with
   | one h=>exact d _ w _ h
   | more _ b j=>exact d _ j _ b
def cyclic(g:Graph):Bool:=(List.range g.length).any fun c=>decide (D4 g c≠[])&&E9 (F6 g (D4 g c)) c
theorem cZ{g:Graph}(k:related g=true):cyclic g=true↔∃c,Reaches g c c:=by
 unfold cyclic;rw[List.any_eq_true];constructor
 ·rintro⟨c,_,h⟩;rw[VB]at h;obtain⟨f,j,d⟩:=(u0 k (I3 k c).1 c).1 h.2;rcases d with rfl | d
  ·exact⟨f,.one j⟩
  ·exact⟨c,(Reaches.one j).trans d⟩
 ·rintro⟨c,h⟩;have q:=(h.lt k).1;refine⟨c,VL.2 q,?_⟩;have u:∀{a b:Nat},Reaches g a b->∃f:Nat,(f:Int)∈D4 g a/\(f=b\/Reaches g f b):=by
   intro a b h;induction h with
   | one h=>exact⟨_,h,.inl rfl⟩
   | more _ d v =>
    obtain⟨f,j,p⟩:=v;refine⟨f,j,.inr ?_⟩;rcases p with rfl | p
    ·exact .one d
    ·exact .more p d
  obtain⟨f,j,d⟩:=u h;rw[VB,decide_eq_true_eq];exact⟨(fun e=>by rw[e]at j;cases j),(u0 k (I3 k c).1 c).2 ⟨f,j,d⟩⟩
def lA(g:Graph)(ex:List Int)(p:Nat):Nat:=(List.range g.length).countP fun c:Nat=>decide ((c:Int)∉ex/\(p:Int)∈D4 g c)
theorem uD{g:Graph}{ex:List Int}{x p:Nat}(f:(x:Int)∉ex)(a:x<g.length):lA g ex p=lA g (ex++[(x:Int)]) p+(if (p:Int)∈D4 g x then 1 else 0):=by
 unfold lA;rw[jD (q:=fun c:Nat=>decide ((c:Int)∉ex/\(p:Int)∈D4 g c)) (r:=fun c:Nat=>decide ((c:Int)∉ex++[(x:Int)]/\(p:Int)∈D4 g c)) x (fun y=>?_) List.nodup_range]
 ·congr 1
  simp only[VL,a,true_and,decide_eq_true_eq,f,not_false_eq_true]
 ·simp only[VG,List.mem_singleton];by_cases b:(y:Int)∈ex<;>by_cases d:y=x<;>by_cases e:(p:Int)∈D4 g y<;>simp[b,d,e]<;>omega
theorem LA{g:Graph}{ex:List Int}{p:Nat}(h:0<lA g ex p):∃c,c<g.length/\(c:Int)∉ex/\(p:Int)∈D4 g c:=by
 unfold lA at h;rw[List.countP_pos_iff]at h;obtain⟨c,a,h⟩:=h;have:=A0 h;exact⟨c,VL.1 a,this.1,this.2⟩
theorem uE{g:Graph}{ex:List Int}{p:Nat}(h:lA g ex p=0){c:Nat}(a:c<g.length)(d:(p:Int)∈D4 g c):(c:Int)∈ex:=by
 apply Classical.byContradiction;intro b;have:0<lA g ex p:=by
  unfold lA;rw[List.countP_pos_iff];exact⟨c,VL.2 a,by simp[b,d]⟩
 omega
structure KInv (g:Graph) (k i:Nat) (ch:List Int) (out:List Int):Prop where
 len:ch.length=g.length
 nodup:out.Nodup
 rng:∀x∈out,0<=x/\x<g.length
 cnt:∀p,p<g.length->ch[p]?.getD 0+(if (p:Int)∈(D4 g (out.getD k 0).toNat).take i then 1 else 0)=lA g (out.take k) p
 zero:∀p,p<g.length->((p:Int)∈out↔ch[p]?.getD 0=0)
 kids:∀j (h:j<out.length) (c:Nat),out[j]∈D4 g c->(c:Int)∈out.take j
theorem minimal{R:Nat->Nat->Prop}(i:∀a b c,R a b->R b c->R a c)(g:∀a,¬R a a):∀{M:List Nat},M≠[]->∃m∈M,∀x∈M,¬R x m
 | [],h=>absurd rfl h
 | [a],_=>⟨a,by simp,fun x d=>by rw[List.mem_singleton.1 d];exact g a⟩
 | a::b::r,_=>by
  obtain⟨m,j,h⟩:=minimal i g (M:=b::r) (by simp);by_cases e:R a m
  ·refine⟨a,by simp,fun x d f=>?_⟩;rcases VH.1 d with rfl | d
   ·exact g _ f
   ·exact h x d (i _ _ _ f e)
  ·refine⟨m,List.mem_cons_of_mem _ j,fun x d=>?_⟩;rcases VH.1 d with rfl | d
   ·exact e
   ·exact h x d
theorem KInv.done{g:Graph}(O:related g=true){Q b:List Int}(h:KInv g b.length 0 Q b):(decide (b.length<g.length))=cyclic g:=by
 cases z:cyclic g
 ·rw[decide_eq_false_iff_not];intro A;have N:∀c,¬Reaches g c c:=fun c d=>by rw[(cZ O).2 ⟨c,d⟩]at z;cases z
  let M:=(List.range g.length).filter fun c:Nat=>decide ((c:Int)∉b);have W:M≠[]:=by
   intro e;have w:∀c,c<g.length->(c:Int)∈b:=fun c z=>by
    apply Classical.byContradiction;intro U;have:c∈M:=List.mem_filter.2 ⟨VL.2 z,by simp[U]⟩;rw[e]at this;cases this
   have:=fS (l:=(List.range g.length).map fun i:Nat=>(i:Int)) (m:=b) ((List.nodup_range).map (fun i:Nat=>(i:Int)) (fun _ _ L e=>L (Int.ofNat.inj e))) fun x Y=>by
    obtain⟨i,k,rfl⟩:=VT.1 Y;exact w i (VL.1 k)
   rw[VW,WI]at this;omega
  obtain⟨m,X,B⟩:=minimal (R:=Reaches g) (fun _ _ _ F C=>F.trans C) N W;obtain⟨q,u⟩:=List.mem_filter.1 X;have q:=VL.1 q;have u:=A0 u;have F:=h.cnt m q;have C:¬Q[m]?.getD 0=0:=fun e=>u ((h.zero m q).2 e);rw[VJ,List.take_zero,A5 (by simp),Int.add_zero]at F;obtain⟨c,G,H,I⟩:=LA (g:=g) (ex:=b) (p:=m) (by omega);exact B c (List.mem_filter.2 ⟨VL.2 G,by simp[H]⟩) (.one I)
 ·rw[decide_eq_true_eq];obtain⟨c,d⟩:=(cZ O).1 z;apply Classical.byContradiction;intro U;have K:=KZ h.nodup h.rng (by omega) c (d.lt O).1;have P:∀{x y:Nat},Reaches g x y->∀j (s:j<b.length),b[j]=(y:Int)->∃i,∃k:i<b.length,i<j/\b[i]=(x:Int):=by
   have one:∀{x y:Nat},(y:Int)∈D4 g x->∀j (s:j<b.length),b[j]=(y:Int)->∃i,∃k:i<b.length,i<j/\b[i]=(x:Int):=by
    intro x y v j s e;have:=h.kids j s x (by rw[e];exact v);obtain⟨i,k,S⟩:=List.getElem_of_mem this;rw[VM]at k;rw[List.getElem_take]at S;exact⟨i,by omega,by omega,S⟩
   intro x y v;induction v with
   | one h=>exact one h
   | more _ C ih =>
    intro j s e;obtain⟨i,k,A,E⟩:=one C j s e;obtain⟨Z,J,T,V⟩:=ih i k E;exact⟨Z,J,by omega,V⟩
  obtain⟨j,s,e⟩:=List.getElem_of_mem K;obtain⟨i,k,A,E⟩:=P d j s e;have:=(List.getElem_inj (i:=i) (j:=j) (h₀:=k) (h₁:=s) h.nodup).1 (E.trans e.symm);omega
def I0(l:List Int)(p:Nat):Int:=l[p]?.getD 0
def bump(l:List Int)(p:Int):List Int:=l.set p.toNat (I0 l p.toNat+1)
def R2(l:List Int)(p:Int):List Int:=l.set p.toNat (I0 l p.toNat-1)
def R8(ps:List Int)(l:List Int):List Int:=ps.foldl bump l
def L7(g:Graph)(i:Nat):List Int:=(g.take i).foldl (fun l c=>R8 c.Parents l) (List.replicate g.length 0)
theorem aB{l:List Int}{i p:Nat}{v:Int}(h:i<l.length):I0 (l.set i v) p=if i=p then v else I0 l p:=by
 unfold I0;rw[WZ];split
 ·rename_i e;subst e;simp[h]
 ·rfl
theorem eY:∀(ps:List Int) (l:List Int),(R8 ps l).length=l.length
 | [],_=>rfl
 | p::r,l=>by show (R8 r (bump l p)).length=_;rw[eY r];simp[bump]
theorem jF{n:Int}:∀{ps:List Int} {l:List Int},(∀p∈ps,0<=p/\p<l.length)->ps.Nodup->∀p:Nat,I0 (R8 ps l) p=I0 l p+(if (p:Int)∈ps then 1 else 0)
 | [],l,_,_,p=>by simp[R8]
 | q::r,l,h,b,p=>by
  show I0 (R8 r (bump l q)) p=_;have f:=h q (by simp);have b:=List.nodup_cons.1 b;rw[jF (n:=n) (fun x d=>by have:=h x (by simp[d]);simpa[bump] using this) b.2 p];unfold bump;rw[aB (by omega)];by_cases e:q.toNat=p
  ·have a:(p:Int)=q:=by omega
   have c:¬(p:Int)∈r:=by rw[a];exact b.1
   rw[A4 e,A5 c,a,A4 (by simp),e];omega
  ·have a:((p:Int)∈q::r)↔(p:Int)∈r:=by
    rw[VH];exact⟨fun h=>h.resolve_left (by omega),.inr⟩
   rw[A5 e];simp only[a]
theorem s9(g:Graph):∀i,(L7 g i).length=g.length:=by
 intro i;unfold L7;have b:∀(a:List Commit) (l:List Int),(a.foldl (fun l c=>R8 c.Parents l) l).length=l.length:=by
  intro a;induction a with
  | nil=>intro l;rfl
  | cons c r d=>intro l;rw[WJ,d,eY]
 rw[b];simp
theorem iC{g:Graph}{i:Nat}(a:i<g.length):L7 g (i+1)=R8 (D4 g i) (L7 g i):=by
 unfold L7;rw[List.take_add_one,VA a,Option.toList_some,List.foldl_append,U6 a];rfl
theorem eZ{g:Graph}(b:related g=true)(p:Nat)(a:p<g.length):∀i,i<=g.length->I0 (L7 g i) p=((List.range i).countP fun c:Nat=>decide ((p:Int)∈D4 g c):Nat)
 | 0,_=>by
  unfold L7 I0;simp[List.getElem?_replicate,a]
 | i+1,hi=>by
  have hpr:=I3 b i;rw[iC (by omega),jF (n:=0) (fun q d=>by rw[s9];exact hpr.1 q d) hpr.2,eZ b p a i (by omega),XB,List.countP_append];by_cases h:(p:Int)∈D4 g i<;>simp[h]
theorem nG{g:Graph}(b:related g=true)(p:Nat)(a:p<g.length):I0 (L7 g g.length) p=lA g [] p:=by
 rw[eZ b p a _ (Nat.le_refl _)];unfold lA;simp
def P8(b:List Int)(i:Nat):List Int:=((List.range i).filter fun c=>decide (I0 b c=0)).map fun c:Nat=>(c:Int)
theorem wK(a:List Int)(i:Nat):P8 a (i+1)=if I0 a i=0 then P8 a i++[(i:Int)] else P8 a i:=by
 unfold P8;rw[XB,WW,WC];by_cases h:I0 a i=0<;>simp[h]
theorem nH(a:List Int)(i p:Nat):(p:Int)∈P8 a i↔p<i/\I0 a p=0:=by
 unfold P8;rw[VT];constructor
 ·rintro⟨c,b,e⟩;have e:c=p:=Int.ofNat.inj e;subst e;rw[List.mem_filter,VL,decide_eq_true_eq]at b;exact b
 ·rintro⟨d,f⟩;exact⟨p,by rw[List.mem_filter,VL,decide_eq_true_eq];exact⟨d,f⟩,rfl⟩
theorem fA{b:List Int}{i:Nat}:∀x∈P8 b i,0<=x/\x<i:=by
 intro x a;unfold P8 at a;obtain⟨c,d,rfl⟩:=VT.1 a;have:=VL.1 (List.mem_filter.1 d).1;omega
theorem iD(c:List Int)(i:Nat):(P8 c i).Nodup:=by
 unfold P8;exact (List.nodup_range.filter _).map (fun i:Nat=>(i:Int)) fun _ _ b e=>b (Int.ofNat.inj e)
theorem AA(a:List Int)(i:Nat):(P8 a i).length<=i:=U5 (iD a i) fA
theorem KInv.start{g:Graph}(l:related g=true):KInv g 0 0 (L7 g g.length) (P8 (L7 g g.length) g.length) where
 len:=s9 g _
 nodup:=iD _ _
 rng:=fA
 cnt:=fun p e=>by
  have:=nG l p e;unfold I0 at this;rw[this,List.take_zero,List.take_zero];simp
 zero:=fun p e=>by
  have:=nH (L7 g g.length) g.length p;rw[this];exact⟨fun h=>h.2,fun h=>⟨e,h⟩⟩
 kids:=fun j k c b=>by
  have f:=fA _ (VE k);have i:=(nH (L7 g g.length) g.length ((P8 (L7 g g.length) g.length)[j]).toNat).1 (by rw[Int.toNat_of_nonneg f.1];exact VE k);rw[nG l _ i.1]at i;have d:c<g.length:=by
   apply Classical.byContradiction;intro m;rw[eX m]at b;cases b
  have:=uE (g:=g) (ex:=[]) (p:=((P8 (L7 g g.length) g.length)[j]).toNat) (by omega) d (by rw[Int.toNat_of_nonneg f.1];exact b);cases this
theorem KInv.le{g:Graph}{k i:Nat}{b a:List Int}(h:KInv g k i b a):a.length<=g.length:=U5 h.nodup h.rng
theorem o8{α:Type}{l m:List α}{k:Nat}(h:k<=l.length):(l++m).take k=l.take k:=by rw[List.take_append_of_le_length h]
theorem AB{α:Type}{l m:List α}{k:Nat}{d:α}(h:k<l.length):(l++m).getD k d=l.getD k d:=by
 rw[VK,VK,VP h]
theorem O4{α:Type}{l:List α}{i:Nat}{x:α}(h:i<l.length):x∈l.take (i+1)↔x∈l.take i\/x=l[i]:=by
 rw[List.take_add_one,VA h,Option.toList_some,VG,List.mem_singleton]
theorem R9{α:Type}{l:List α}(c:l.Nodup){i:Nat}(h:i<l.length):l[i]∉l.take i:=by
 intro b;obtain⟨j,a,e⟩:=List.getElem_of_mem b;rw[VM]at a;rw[List.getElem_take]at e;have:=(List.getElem_inj (i:=j) (j:=i) (h₀:=by omega) (h₁:=h) c).1 e;omega
theorem KInv.step{g:Graph}(Y:related g=true){k i:Nat}{f b:List Int}(h:KInv g k i f b)(E:k<b.length){c p:Nat}(K:b[k]=(c:Int))(G:i<(D4 g c).length)(H:(D4 g c)[i]=(p:Int)) :
  p<g.length/\1<=I0 f p/\I0 f p<=g.length/\KInv g k (i+1) (R2 f p) (if I0 f p-1=0 then b++[(p:Int)] else b):=by
 have hpr:=I3 Y c;have hpm:(p:Int)∈D4 g c:=by rw[<-H];exact VE G
 have m:p<g.length:=by have:=hpr.1 p hpm;omega
 have A:c<g.length:=by have:=h.rng b[k] (VE E);omega
 have v:b.getD k 0=(c:Int):=by rw[VK,VA E];exact K
 have P:(c:Int)∉b.take k:=by rw[<-K];exact R9 h.nodup E
 have O:(p:Int)∉(D4 g c).take i:=by rw[<-H];exact R9 hpr.2 G
 have S:=h.cnt p m;rw[v,VC,A5 O]at S;have T:=uD (g:=g) (ex:=b.take k) (x:=c) (p:=p) P A;rw[A4 hpm]at T;have W:lA g (b.take k) p<=g.length:=by
  unfold lA;have:=List.countP_le_length (p:=fun c:Nat=>decide ((c:Int)∉b.take k/\(p:Int)∈D4 g c)) (l:=List.range g.length)
  rwa[WI]at this
 have V:I0 f p=f[p]?.getD 0:=rfl;have L:1<=I0 f p:=by omega
 have o:(p:Int)∉b:=fun s=>by have:=(h.zero p m).1 s;omega
 have F:∀q,I0 (R2 f p) q=if p=q then I0 f p-1 else I0 f q:=fun q=>by
  unfold R2;rw[VC,aB (by rw[h.len];exact m)]
 refine⟨m,L,by omega,?_⟩;have w:(if I0 f p-1=0 then b++[(p:Int)] else b).take k=b.take k:=by split<;>first | exact o8 (by omega) | rfl
 have B:(if I0 f p-1=0 then b++[(p:Int)] else b).getD k 0=b.getD k 0:=by split<;>first | exact AB E | rfl
 refine⟨by unfold R2;rw[VY];exact h.len,?_,?_,?_,?_,?_⟩
 ·split
  ·exact List.nodup_append.2 ⟨h.nodup,by simp,fun x d y Z e=>by rw[List.mem_singleton.1 Z]at e;exact o (e ▸ d)⟩
  ·exact h.nodup
 ·intro x d;split at d
  ·rcases VG.1 d with d | d
   ·exact h.rng x d
   ·rw[List.mem_singleton.1 d];omega
  ·exact h.rng x d
 ·intro q Q;rw[w,B,v,VC];have I:=F q;have J:I0 (R2 f p) q=(R2 f p)[q]?.getD 0:=rfl;rw[<-J,I];by_cases e:p=q
  ·subst e;rw[A4 rfl,A4 ((O4 G).2 (.inr H.symm))];omega
  ·rw[A5 e];have z:=h.cnt q Q;rw[v,VC]at z;have U:((q:Int)∈(D4 g c).take (i+1))↔(q:Int)∈(D4 g c).take i:=by
    rw[O4 G,H];exact⟨fun h=>h.resolve_right (by omega),.inl⟩
   simp only[U];exact z
 ·intro q Q;have I:=F q;have J:I0 (R2 f p) q=(R2 f p)[q]?.getD 0:=rfl;rw[<-J,I];by_cases e:p=q
  ·subst e;rw[A4 rfl];split
   ·rename_i u;simp[u]
   ·rename_i u;exact⟨fun s=>absurd s o,fun e=>absurd e u⟩
  ·rw[A5 e];have z:=h.zero q Q;split
   ·rw[VG,List.mem_singleton];exact⟨fun s=>z.1 (s.resolve_right (by omega)),fun e=>.inl (z.2 e)⟩
   ·exact z
 ·intro j M x d;split at M
  ·rename_i u;simp only[u,if_true]at d ⊢;by_cases C:j<b.length
   ·rw[WS C]at d;rw[o8 (by omega)];exact h.kids j C x d
   ·have N:j=b.length:=by rw[VF,List.length_singleton]at M;omega
    subst N;rw[WQ (Nat.le_refl _)]at d;simp only[WN,List.getElem_cons_zero]at d;have R:x<g.length:=by
     apply Classical.byContradiction;intro X;rw[eX X]at d;cases d
    have hz:lA g (b.take k++[(c:Int)]) p=0:=by omega
    have:=uE hz R d;rw[o8 (Nat.le_refl _),VJ];rcases VG.1 this with s | s
    ·exact List.mem_of_mem_take s
    ·rw[List.mem_singleton.1 s,<-K];exact VE E
  ·rename_i u;simp only[u,if_false]at d ⊢;exact h.kids j M x d
theorem KInv.next{g:Graph}{k:Nat}{m a:List Int}(d:k<a.length){c:Nat}(f:a[k]=(c:Int))(h:KInv g k (D4 g c).length m a):KInv g (k+1) 0 m a where
 len:=h.len
 nodup:=h.nodup
 rng:=h.rng
 cnt:=fun p r=>by
  have o:=h.cnt p r;have i:a.getD k 0=(c:Int):=by rw[VK,VA d];exact f
  have b:c<g.length:=by have:=h.rng a[k] (VE d);omega
  rw[i,VC,VJ]at o;have q:=uD (g:=g) (ex:=a.take k) (x:=c) (p:=p) (by rw[<-f];exact R9 h.nodup d) b;have e:a.take (k+1)=a.take k++[(c:Int)]:=by rw[List.take_add_one,VA d,Option.toList_some,f]
  rw[e,List.take_zero,A5 (by simp)];split at o
  ·rename_i j;rw[A4 j]at q;omega
  ·rename_i j;rw[A5 j]at q;omega
 zero:=h.zero
 kids:=h.kids
def U7:List Commit->Int
 | []=>0
 | c::r=>if F5 c.Files≠0 then F5 c.Files else U7 r
def d8(g:Graph):Bool:=decide (g.length<=300)&&!g.any fun c=>decide (c.Parents.length>32)
def lB(g:Graph):Bool:=g.any fun c=>decide (c.Date<0\/c.Date>2147483647)
def K2(g:Graph):Int:=if d8 g=false then 1 else if related g=false then 230 else if cyclic g=true then 231 else if lB g=true then 3 else U7 g
theorem iE:∀{g:List Commit},U7 g=0->∀c∈g,F5 c.Files=0
 | [],_,_,hc=>by cases hc
 | d::r,h,c,hc=>by
  unfold U7 at h;split at h
  ·rename_i a;exact absurd h a
  ·rename_i a;rcases VH.1 hc with rfl | hc
   ·simpa using a
   ·exact iE h c hc
structure Valid (g:Graph):Prop where
 len:g.length<=300
 pars:∀c∈g,c.Parents.length<=32
 rel:related g=true
 acyc:∀c,¬Reaches g c c
 tree:∀c∈g,F5 c.Files=0
theorem U8{g:Graph}(h:K2 g=0):Valid g:=by
 unfold K2 at h;split at h
 ·cases h
 ·rename_i a;split at h
  ·cases h
  ·rename_i d;split at h
   ·cases h
   ·rename_i e;split at h
    ·cases h
    ·have a:d8 g=true:=by simpa using a
     unfold d8 at a;rw[VB,decide_eq_true_eq]at a;have d:related g=true:=by simpa using d
     refine⟨a.1,fun c b=>?_,d,fun c b=>e ((cZ d).2 ⟨c,b⟩),fun c b=>iE h c b⟩;apply Classical.byContradiction;intro f;have:g.any (fun c=>decide (c.Parents.length>32))=true:=List.any_eq_true.2 ⟨c,b,by simp;omega⟩;rw[this]at a;cases a.2
structure CHunk where
 At:List Int
 Rows:List Row
 deriving DecidableEq
structure Comb where
 Path:Str
 Dense:Bool
 Parents:Int
 Hunks:List CHunk
 deriving DecidableEq
def PW(n k:Nat):Int:=if k=n then -1 else k
def TP(a:List Row)(n k:Nat):Int:=(RX a (PW n k)).length
structure CRead (n:Nat) (h:CHunk):Prop where
 len:h.At.length=n+1
 ne:h.Rows≠[]
 TH:∀k,k<n+1->0<=h.At.getD k 0/\h.At.getD k 0+TP h.Rows n k<=4096
 rows:∀r∈h.Rows,PM n r=true/\W5 r.Text=true
abbrev T3:Bool->Nat->Cell:=fun b _=>.v (.bool b)
abbrev LB(l:List Bool):PV:=.one (.list Bool 1 T3 l)
def U9(l:List Int)(i j:Nat):List Int:=(l.set i (I0 l j)).set j (I0 l i)
def MC(a:Int->Int->Bool):Nat->List Int->Nat->List Int
 | 0,l,_=>l
 | f+1,l,j=>if (j-1) / 2=j\/a (I0 l j) (I0 l ((j-1) / 2))=false then l else MC a f (U9 l ((j-1) / 2) j) ((j-1) / 2)
def nS(bf:Int->Int->Bool)(n:Nat)(l:List Int)(i:Nat):Nat:=if 2*i+2<n/\bf (I0 l (2*i+2)) (I0 l (2*i+1))=true then 2*i+2 else 2*i+1
def x8(bf:Int->Int->Bool)(n:Nat):Nat->List Int->Nat->List Int
 | 0,l,_=>l
 | f+1,l,i=>if n<=2*i+1 then l else if bf (I0 l (nS bf n l i)) (I0 l i)=false then l else x8 bf n f (U9 l i (nS bf n l i)) (nS bf n l i)
def lC(a:Int->Int->Bool)(l:List Int)(x:Int):List Int:=MC a (l.length+1) (l++[x]) l.length
def jG(a:Int->Int->Bool)(l:List Int):List Int:=x8 a (l.length-1) l.length (U9 l 0 (l.length-1)) 0
theorem K5(l:List Int)(i j:Nat):(U9 l i j).length=l.length:=by simp[U9]
theorem X0{l:List Int}{i j:Nat}(a:i<l.length)(b:j<l.length)(k:Nat):I0 (U9 l i j) k=if k=j then I0 l i else if k=i then I0 l j else I0 l k:=by
 unfold U9;rw[aB (by rw[VY];exact b),aB a];simp only[@eq_comm Nat j k,@eq_comm Nat i k]
theorem M4{l:List Int}{k:Nat}(h:k<l.length):I0 l k=l[k]:=by unfold I0;rw[VA h];rfl
theorem uF{l:List Int}{i j:Nat}(a:i<l.length)(b:j<l.length)(x:Int):x∈U9 l i j↔x∈l:=by
 have sub:∀{l:List Int} {i j:Nat},i<l.length->j<l.length->∀x,x∈U9 l i j->x∈l:=by
  intro l i j a b x g;obtain⟨k,d,e⟩:=List.getElem_of_mem g;rw[<-M4 d,X0 a b]at e;rw[K5]at d;split at e
  ·rw[<-e,M4 a];exact VE a
  ·split at e
   ·rw[<-e,M4 b];exact VE b
   ·rw[<-e,M4 d];exact VE d
 refine⟨sub a b x,fun g=>?_⟩;have e:U9 (U9 l i j) i j=l:=by
  refine List.ext_getElem (by rw[K5,K5]) fun k h m=>?_;rw[<-M4 h,<-M4 m,X0 (by rw[K5];exact a) (by rw[K5];exact b),X0 a b,X0 a b,X0 a b];by_cases f:k=j
  ·subst f;rw[A4 rfl];by_cases c:i=k
   ·rw[A4 c,c]
   ·rw[A5 c,A4 rfl]
  ·rw[A5 f];by_cases c:k=i
   ·rw[A4 c,A4 rfl,c]
   ·rw[A5 c,A5 f,A5 c]
 exact sub (by rw[K5];exact a) (by rw[K5];exact b) x (by rw[e];exact g)
theorem LC{l:List Int}:l.Nodup↔∀i j,i<l.length->j<l.length->I0 l i=I0 l j->i=j:=by
 constructor
 ·intro h i j a b e;rw[M4 a,M4 b]at e;exact (List.getElem_inj h).1 e
 ·intro h;rw[List.Nodup,List.pairwise_iff_getElem];intro i j a b c e;have:=h i j a b (by rw[M4 a,M4 b];exact e);omega
theorem AC{l:List Int}{i j:Nat}(f:i<l.length)(g:j<l.length)(h:l.Nodup):(U9 l i j).Nodup:=by
 rw[LC]at h ⊢;intro a b ha hb e;rw[K5]at ha hb;rw[X0 f g,X0 f g]at e;by_cases k:a=j<;>by_cases m:b=j
 ·omega
 ·rw[A4 k,A5 m]at e;by_cases c:b=i
  ·rw[A4 c]at e;have:=h _ _ f g e;omega
  ·rw[A5 c]at e;have:=h _ _ f hb e;omega
 ·rw[A5 k,A4 m]at e;by_cases a2:a=i
  ·rw[A4 a2]at e;have:=h _ _ g f e;omega
  ·rw[A5 a2]at e;have:=h _ _ ha f e;omega
 ·rw[A5 k,A5 m]at e;by_cases a2:a=i<;>by_cases c:b=i
  ·omega
  ·rw[A4 a2,A5 c]at e;have:=h _ _ g hb e;omega
  ·rw[A5 a2,A4 c]at e;have:=h _ _ ha g e;omega
  ·rw[A5 a2,A5 c]at e;exact h _ _ ha hb e
structure SameL (l m:List Int):Prop where
 len:m.length=l.length
 mem:∀x,x∈m↔x∈l
 nodup:l.Nodup->m.Nodup
theorem SameL.refl(l:List Int):SameL l l:=⟨rfl,fun _=>Iff.rfl,id⟩
theorem SameL.trans{a b c:List Int}(h:SameL a b)(d:SameL b c):SameL a c:=⟨d.len.trans h.len,fun x=>(d.mem x).trans (h.mem x),fun e=>d.nodup (h.nodup e)⟩
theorem SameL.swap{l:List Int}{i j:Nat}(a:i<l.length)(b:j<l.length):SameL l (U9 l i j):=⟨K5 l i j,uF a b,AC a b⟩
structure Weak (bf:Int->Int->Bool):Prop where
 irr:∀a,bf a a=false
 asy:∀{a b},bf a b=true->bf b a=false
 ntr:∀{a b c},bf a b=false->bf b c=false->bf a c=false
def lD(bf:Int->Int->Bool)(n:Nat)(l:List Int):Prop:=∀k,k<n->0<k->bf (I0 l k) (I0 l ((k-1) / 2))=false
theorem HW{a:Int->Int->Bool}(w:Weak a){n:Nat}{l:List Int}(h:lD a n l):∀k,k<n->a (I0 l k) (I0 l 0)=false:=by
 intro k;induction k using Nat.strongRecOn with
 | _ k d =>
  intro c;by_cases b:k=0
  ·subst b;exact w.irr _
  ·exact w.ntr (h k c (by omega)) (d ((k-1) / 2) (by omega) (by omega))
theorem AD{g:Int->Int->Bool}(w:Weak g){n:Nat}:∀(f j:Nat) (l:List Int),j<f->j<n->n<=l.length ->
  (∀k,k<n->0<k->k≠j->g (I0 l k) (I0 l ((k-1) / 2))=false)->(∀k,k<n->0<k->(k-1) / 2=j->0<j->g (I0 l k) (I0 l ((j-1) / 2))=false) ->
  lD g n (MC g f l j)/\SameL l (MC g f l j)
 | 0,j,l,hf,_,_,_,_=>by omega
 | f + 1,j,l,hf,hj,hl,h1,h2=>by
  unfold MC;split
  ·rename_i h;refine⟨fun k o m=>?_,SameL.refl l⟩;by_cases e:k=j
   ·subst e;rcases h with h | h
    ·omega
    ·exact h
   ·exact h1 k o m e
  ·rename_i h;have C:(j-1) / 2≠j:=fun e=>h (.inl e);have q:g (I0 l j) (I0 l ((j-1) / 2))=true:=by
    cases hb:g (I0 l j) (I0 l ((j-1) / 2))
    ·exact absurd (.inr hb) h
    ·rfl
   have B:(j-1) / 2<l.length:=by omega
   have p:j<l.length:=by omega
   have d:=X0 B p
   obtain⟨a,b⟩:=AD (n:=n) w f ((j-1) / 2) (U9 l ((j-1) / 2) j) (by omega) (by omega) (by rw[K5];exact hl) (fun k o m u=>by
    rw[d,d];by_cases c:k=j
    ·rw[A4 c,c,A5 (by omega),A4 rfl];exact w.asy q
    ·rw[A5 c,A5 u];by_cases x:(k-1) / 2=j
     ·rw[A4 x];exact h2 k o m x (by omega)
     ·rw[A5 x];by_cases y:(k-1) / 2=(j-1) / 2
      ·rw[A4 y];have v:=h1 k o m c;rw[y]at v;exact w.ntr v (w.asy q)
      ·rw[A5 y];exact h1 k o m c) (fun k o m e v=>by
    rw[d,d,A5 (show ¬((j-1) / 2-1) / 2=j by omega),A5 (show ¬((j-1) / 2-1) / 2=(j-1) / 2 by omega)];have z:=h1 ((j-1) / 2) (by omega) v (by omega);by_cases c:k=j
    ·rw[A4 c];exact z
    ·rw[A5 c,A5 (by omega)];have A:=h1 k o m c;rw[e]at A
     exact w.ntr A z)
   exact⟨a,(SameL.swap B p).trans b⟩
theorem AE{a:Int->Int->Bool}(w:Weak a){l:List Int}(x:Int)(h:lD a l.length l):lD a (l.length+1) (lC a l x)/\SameL (l++[x]) (lC a l x):=by
 unfold lC;have b:∀k,k<l.length->I0 (l++[x]) k=I0 l k:=fun k c=>by unfold I0;rw[VP c]
 refine AD w (n:=l.length+1) (l.length+1) l.length (l++[x]) (by omega) (by omega) (by simp) (fun k c d f=>?_) (fun k c d e g=>by omega);rw[b k (by omega),b _ (by omega)];exact h k (by omega) d
theorem FE{bf:Int->Int->Bool}{n:Nat}{l:List Int}{i:Nat}(h:2*i+1<n):nS bf n l i<n/\(nS bf n l i-1) / 2=i/\i<nS bf n l i:=by
 unfold nS;split<;>omega
theorem LD{bf:Int->Int->Bool}(w:Weak bf){n:Nat}{l:List Int}{i k:Nat}(d:k<n)(c:0<k)(e:(k-1) / 2=i):bf (I0 l k) (I0 l (nS bf n l i))=false:=by
 unfold nS;split
 ·rename_i h;by_cases a:k=2*i+2
  ·rw[a];exact w.irr _
  ·rw[show k=2*i+1 by omega];exact w.asy h.2
 ·rename_i h;by_cases a:k=2*i+1
  ·rw[a];exact w.irr _
  ·have b:k=2*i+2:=by omega
   rw[b];cases hb:bf (I0 l (2*i+2)) (I0 l (2*i+1))
   ·rfl
   ·exact absurd ⟨by omega,hb⟩ h
theorem rB{bf:Int->Int->Bool}(w:Weak bf){n:Nat}:∀(f i:Nat) (l:List Int),n<=i+f->n<=l.length ->
  (∀k,k<n->0<k->(k-1) / 2≠i->bf (I0 l k) (I0 l ((k-1) / 2))=false)->(∀k,k<n->0<k->(k-1) / 2=i->0<i->bf (I0 l k) (I0 l ((i-1) / 2))=false) ->
  lD bf n (x8 bf n f l i)/\SameL l (x8 bf n f l i)/\∀k,n<=k->I0 (x8 bf n f l i) k=I0 l k
 | 0,i,l,hf,_,h1,h2=>by
  unfold x8;exact⟨fun k d g=>h1 k d g (by omega),SameL.refl l,fun _ _=>rfl⟩
 | f + 1,i,l,hf,hl,h1,h2=>by
  unfold x8;split
  ·exact⟨fun k d g=>h1 k d g (by omega),SameL.refl l,fun _ _=>rfl⟩
  ·rename_i E;obtain⟨z,o,C⟩:=FE (bf:=bf) (l:=l) (show 2*i+1<n by omega);have q:=fun k d g e=>LD (bf:=bf) w (n:=n) (l:=l) (i:=i) (k:=k) d g e;generalize nS bf n l i=j at z o C q;split
   ·rename_i h;refine⟨fun k d g=>?_,SameL.refl l,fun _ _=>rfl⟩;by_cases e:(k-1) / 2=i
    ·rw[e];exact w.ntr (q k d g e) h
    ·exact h1 k d g e
   ·rename_i h;have x:bf (I0 l j) (I0 l i)=true:=by simpa using h
    have A:i<l.length:=by omega
    have B:j<l.length:=by omega
    have m:=X0 A B
    obtain⟨a,b,c⟩:=rB (n:=n) w f j (U9 l i j) (by omega) (by rw[K5];exact hl) (fun k d g y=>by
     rw[m,m];rw[A5 (show ¬(k-1) / 2=j from y)];by_cases u:k=j
     ·rw[A4 u];rw[u,A4 o];exact w.asy x
     ·rw[A5 u];by_cases p:(k-1) / 2=i
      ·rw[A4 p,A5 (by omega)];exact q k d g p
      ·rw[A5 p];by_cases v:k=i
       ·rw[A4 v,v];exact h2 j z (by omega) o (by omega)
       ·rw[A5 v];exact h1 k d g p) (fun k d g e D=>by
     rw[m,m,A5 (by omega),A5 (by omega),o,A5 (by omega),A4 rfl];have:=h1 k d g (by omega)
     rw[e]at this;exact this)
    refine⟨a,(SameL.swap A B).trans b,fun k d=>?_⟩;rw[c k d,m,A5 (by omega),A5 (by omega)]
theorem NM{f:Int->Int->Bool}(w:Weak f){l:List Int}(h:lD f l.length l)(p:0<l.length) :
  lD f (l.length-1) (jG f l)/\SameL l (jG f l)/\I0 (jG f l) (l.length-1)=I0 l 0:=by
 unfold jG;have j:0<l.length:=p;have m:l.length-1<l.length:=by omega
 have d:=X0 j m
 obtain⟨a,b,c⟩:=rB w (n:=l.length-1) l.length 0 (U9 l 0 (l.length-1)) (by omega) (by rw[K5];omega) (fun k o g i=>by
  rw[d,d,A5 (by omega),A5 (by omega),A5 (by omega),A5 i]
  exact h k (by omega) g) (fun k o g e q=>by omega)
 refine⟨a,(SameL.swap j m).trans b,?_⟩;rw[c _ (Nat.le_refl _),d,A4 rfl]
def p7(g:Graph)(c:Nat):Int:=(g[c]?.map (·.Date)).getD 0
def O5(g:Graph)(a b:Int):Bool:=decide (p7 g a.toNat>p7 g b.toNat\/(p7 g a.toNat=p7 g b.toNat/\a<b))
theorem fU(g:Graph):Weak (O5 g) where
 irr:=fun a=>by unfold O5;rw[decide_eq_false_iff_not];omega
 asy:=fun {a b} h=>by unfold O5 at h ⊢;rw[decide_eq_true_eq]at h;rw[decide_eq_false_iff_not];omega
 ntr:=fun {a b c} h d=>by unfold O5 at h d ⊢;rw[decide_eq_false_iff_not]at h d ⊢;omega
def V0(g:Graph)(inn:List Bool)(L:List Int)(c:Nat):Bool:=E9 inn c&&decide ((c:Int)∉L)&&(List.range g.length).all fun k=>!(decide ((c:Int)∈D4 g k)&&E9 inn k&&decide ((k:Int)∉L))
def jH(g:Graph)(b:List Bool)(L:List Int):Nat->Int
 | 0 => -1
 | m+1=>if V0 g b L m=true/\(jH g b L m<0\/p7 g m>p7 g (jH g b L m).toNat) then m else jH g b L m
def Z7(g:Graph)(inn:List Bool)(L:List Int):Int:=jH g inn L g.length
def dA(g:Graph)(inn:List Bool):Nat->List Int->List Int
 | 0,L=>L
 | f+1,L=>if Z7 g inn L<0 then L else dA g inn f (L++[Z7 g inn L])
def O2(g:Graph)(s:List Int):List Int:=dA g (F6 g s) (g.length+1) []
theorem u5(g:Graph)(d:List Bool)(L:List Int):∀m,(jH g d L m = -1/\∀c,c<m->V0 g d L c=false)\/∃b:Nat,b<m/\jH g d L m=b/\V0 g d L b=true/\∀c,c<m->V0 g d L c=true->c≠b->O5 g b c=true
 | 0=>.inl ⟨rfl,fun _ h=>by omega⟩
 | m + 1=>by
  rw[jH];rcases u5 g d L m with ⟨p,j⟩ | ⟨b,p,j,h3,h4⟩
  ·rw[p];cases q:V0 g d L m
   ·rw[A5 (by simp)]
    exact .inl ⟨rfl,fun c k=>by
     by_cases e:c=m
     ·rw[e];exact q
     ·exact j c (by omega)⟩
   ·rw[A4 ⟨rfl,.inl (by omega)⟩];exact .inr ⟨m,by omega,rfl,q,fun c k a f=>by rw[j c (by omega)]at a;cases a⟩
  ·rw[j];split
   ·rename_i h;have o:p7 g m>p7 g b:=by
     rcases h.2 with h | h
     ·omega
     ·simpa using h
    refine .inr ⟨m,by omega,rfl,h.1,fun c k a f=>?_⟩;unfold O5;rw[decide_eq_true_eq,VC,VC];by_cases e:c=b
    ·subst e;exact .inl o
    ·have:=A0 (h4 c (by omega) a e);rw[VC,VC]at this;omega
   ·rename_i h;refine .inr ⟨b,by omega,rfl,h3,fun c k a f=>?_⟩;by_cases e:c=m
    ·subst e;unfold O5;rw[decide_eq_true_eq,VC,VC];have:¬p7 g c>p7 g b:=fun o=>h ⟨a,.inr (by simpa using o)⟩;omega
    ·exact h4 c (by omega) a f
theorem DK{g:Graph}{a:List Bool}{L:List Int}(h:∀c,c<g.length->V0 g a L c=false):Z7 g a L = -1:=by
 rcases u5 g a L g.length with d | ⟨b,d,_,h3,_⟩
 ·exact d.1
 ·rw[h b d]at h3;cases h3
theorem LF{g:Graph}{a:List Bool}{L:List Int}{b:Nat}(hb:b<g.length)(f:V0 g a L b=true)(h:∀c,c<g.length->V0 g a L c=true->O5 g c b=false):Z7 g a L=b:=by
 rcases u5 g a L g.length with d | ⟨b',d,h2,h3,h4⟩
 ·rw[d.2 b hb]at f;cases f
 ·unfold Z7;rw[h2];by_cases e:b=b'
  ·rw[e]
  ·have:=h4 b hb f e;rw[h b' d h3]at this;cases this
theorem mD{g:Graph}{inn:List Bool}{L:List Int}(h:0<=Z7 g inn L):∃b:Nat,b<g.length/\Z7 g inn L=b/\E9 inn b=true/\(b:Int)∉L:=by
 rcases u5 g inn L g.length with a | ⟨b,a,h2,h3,_⟩
 ·have:Z7 g inn L = -1:=a.1;omega
 ·unfold V0 at h3;rw[VB,VB,decide_eq_true_eq]at h3;exact⟨b,a,h2,h3.1.1,h3.1.2⟩
theorem HX{g:Graph}{a:List Bool}{f:Nat}{L:List Int}(b:0<f)(h:0<=Z7 g a L):dA g a f L=dA g a (f-1) (L++[Z7 g a L]):=by
 obtain⟨f,rfl⟩:∃k,f=k+1:=⟨f-1,by omega⟩
 rw[dA,A5 (by omega)];rfl
theorem LG{g:Graph}{a:List Bool}{f:Nat}{L:List Int}(h:Z7 g a L<0):dA g a f L=L:=by
 cases f with
 | zero=>rfl
 | succ f=>rw[dA,A4 h]
theorem AF{g:Graph}{inn:List Bool}:∀(f:Nat) (L:List Int),L.Nodup->(∀x∈L,0<=x/\x<g.length)->(dA g inn f L).Nodup/\∀x∈dA g inn f L,0<=x/\x<g.length
 | 0,L,h,h2=>⟨h,h2⟩
 | f+1,L,h,h2=>by
  rw[dA];split
  ·exact⟨h,h2⟩
  ·rename_i hb;obtain⟨b,k,c,_,i⟩:=mD (g:=g) (inn:=inn) (L:=L) (by omega);rw[c];refine AF f _ (List.nodup_append.2 ⟨h,by simp,fun x a y j e=>by rw[List.mem_singleton.1 j]at e;exact i (e ▸ a)⟩) fun x a=>?_;rcases VG.1 a with a | a
   ·exact h2 x a
   ·rw[List.mem_singleton.1 a];omega
theorem aC(g:Graph)(s:List Int):(O2 g s).Nodup/\∀x∈O2 g s,0<=x/\x<g.length:=AF _ [] List.nodup_nil fun _ h=>by cases h
def mE(g:Graph)(inn:List Bool)(ex:List Int)(p:Nat):Nat:=(List.range g.length).countP fun c:Nat=>E9 inn c&&decide ((c:Int)∉ex/\(p:Int)∈D4 g c)
theorem uG{g:Graph}{inn:List Bool}{ex:List Int}{x p:Nat}(h:(x:Int)∉ex)(a:x<g.length)(b:E9 inn x=true):mE g inn ex p=mE g inn (ex++[(x:Int)]) p+(if (p:Int)∈D4 g x then 1 else 0):=by
 unfold mE;rw[jD (q:=fun c=>E9 inn c&&decide ((c:Int)∉ex/\(p:Int)∈D4 g c)) (r:=fun c=>E9 inn c&&decide ((c:Int)∉ex++[(x:Int)]/\(p:Int)∈D4 g c)) x (fun y=>?_) List.nodup_range]
 ·congr 1
  simp only[VL,a,true_and,decide_eq_true_eq,h,not_false_eq_true,b,Bool.true_and]
 ·simp only[VG,List.mem_singleton];by_cases d:(y:Int)∈ex<;>by_cases e:y=x<;>by_cases f:(p:Int)∈D4 g y<;>cases E9 inn y<;>simp[d,e,f]<;>omega
theorem HY{g:Graph}{inn:List Bool}{ex:List Int}{p:Nat}:mE g inn ex p=0↔∀c,c<g.length->E9 inn c=true->(p:Int)∈D4 g c->(c:Int)∈ex:=by
 unfold mE;rw[List.countP_eq_zero];constructor
 ·intro h c b e f;have:=h c (VL.2 b);rw[e,Bool.true_and,decide_eq_true_eq]at this;apply Classical.byContradiction;exact fun d=>this ⟨d,f⟩
 ·intro h c b a;rw[VB,decide_eq_true_eq]at a;exact a.2.1 (h c (VL.1 b) a.1 a.2.2)
theorem wL(g:Graph)(inn:List Bool)(ex:List Int)(p:Nat):mE g inn ex p<=g.length:=by
 unfold mE;have:=List.countP_le_length (p:=fun c=>E9 inn c&&decide ((c:Int)∉ex/\(p:Int)∈D4 g c)) (l:=List.range g.length)
 rwa[WI]at this
structure OInv (g:Graph) (inn:List Bool) (k i:Nat) (ch hp out:List Int):Prop where
 len:ch.length=g.length
 cnt:∀p,p<g.length->E9 inn p=true->I0 ch p+(if (p:Int)∈(D4 g (out.getD k 0).toNat).take i then 1 else 0)=mE g inn (out.take k) p
 off:∀p,p<g.length->E9 inn p=false->I0 ch p = -1
 hpm:∀p:Nat,(p:Int)∈hp↔p<g.length/\E9 inn p=true/\(p:Int)∉out/\I0 ch p=0
 hpr:∀x∈hp,0<=x/\x<g.length
 hpn:hp.Nodup
 heap:lD (O5 g) hp.length hp
 outn:out.Nodup
 outr:∀x∈out,0<=x/\x<g.length/\E9 inn x.toNat=true/\I0 ch x.toNat=0
theorem OInv.ready{g:Graph}{inn:List Bool}{n b a:List Int}(h:OInv g inn a.length 0 n b a){c:Nat}(o:c<g.length):V0 g inn a c=true↔(c:Int)∈b:=by
 rw[h.hpm];unfold V0;rw[VB,VB,decide_eq_true_eq,List.all_eq_true];have j:E9 inn c=true->((∀x∈List.range g.length,(!(decide ((c:Int)∈D4 g x)&&E9 inn x&&decide ((x:Int)∉a)))=true)↔I0 n c=0):=by
  intro q;have d:=h.cnt c o q;rw[VJ,List.take_zero,A5 (by simp)]at d;have f:=HY (g:=g) (inn:=inn) (ex:=a) (p:=c);constructor
  ·intro i;have:mE g inn a c=0:=f.2 fun k m e b=>by
    have:=i k (VL.2 m);simpa[b,e] using this
   omega
  ·intro r k m;cases e:E9 inn k
   ·simp
   ·by_cases b:(c:Int)∈D4 g k
    ·have:=f.1 (by omega) k (VL.1 m) e b;simp[b,this]
    ·simp[b]
 constructor
 ·rintro⟨⟨d,f⟩,l⟩;exact⟨o,d,f,(j d).1 l⟩
 ·rintro⟨_,d,f,l⟩;exact⟨⟨d,f⟩,(j d).2 l⟩
theorem OInv.fin{g:Graph}{b:List Bool}{d a:List Int}(h:OInv g b a.length 0 d [] a):Z7 g b a = -1 :=
 DK fun c e=>by
  cases f:V0 g b a c
  ·rfl
  ·have:=(h.ready e).1 f;cases this
theorem OInv.le{g:Graph}{b:List Bool}{k i:Nat}{e c a:List Int}(h:OInv g b k i e c a):a.length<=g.length/\c.length<=g.length :=
 ⟨U5 h.outn fun x d=>⟨(h.outr x d).1,(h.outr x d).2.1⟩,U5 h.hpn h.hpr⟩
theorem HZ{l m:List Int}{n:Nat}(v:n+1=l.length)(q:SameL l m)(j:l.Nodup){x:Int}(r:I0 m n=x):(∀y,y∈m.take n↔y∈l/\y≠x)/\(m.take n).Nodup/\(m.take n).length=n:=by
 have s:m.length=n+1:=by rw[q.len,v]
 have i:=q.nodup j;have c:n<m.length:=by omega
 have e:m=m.take n++[x]:=by
  have f:m.take (n+1)=m:=WB (by omega);rw[List.take_add_one,VA c,Option.toList_some]at f;rw[M4 c]at r;rw[r]at f;exact f.symm
 have a:=i;rw[e,List.nodup_append]at a;refine⟨fun y=>?_,a.1,by rw[VM];omega⟩;rw[<-q.mem y];constructor
 ·intro b;exact⟨List.mem_of_mem_take b,a.2.2 y b x (by simp)⟩
 ·rintro⟨b,k⟩;rw[e]at b;rcases VG.1 b with b | b
  ·exact b
  ·exact absurd (List.mem_singleton.1 b) k
theorem OInv.pop{g:Graph}{m:List Bool}{B b f:List Int}(h:OInv g m f.length 0 B b f)(u:0<b.length) :
  Z7 g m f=I0 b 0/\OInv g m f.length 0 B ((jG (O5 g) b).take (b.length-1)) (f++[I0 b 0])/\I0 (jG (O5 g) b) (b.length-1)=I0 b 0:=by
 have z:I0 b 0∈b:=by rw[M4 u];exact VE u
 have K:=h.hpr _ z;obtain⟨c,q⟩:∃c:Nat,I0 b 0=c:=⟨(I0 b 0).toNat,by omega⟩
 have i:=(h.hpm c).1 (by rw[<-q];exact z);obtain⟨I,J,E⟩:=NM (fU g) h.heap u;obtain⟨A,t2,t3⟩:=HZ (n:=b.length-1) (by omega) J h.hpn E;have hb:Z7 g m f=c:=LF i.1 ((h.ready i.1).2 (by rw[<-q];exact z)) fun d F v=>by
  obtain⟨j,r,e⟩:=List.getElem_of_mem ((h.ready F).1 v);have:=HW (fU g) h.heap j r;rw[M4 r,e,q]at this;exact this
 refine⟨by rw[hb,q],?_,E⟩;rw[q]at A ⊢;refine⟨h.len,fun p b G=>?_,h.off,fun p=>?_,fun x l=>h.hpr x ((A x).1 l).1,t2,?_,?_,?_⟩
 ·have C:=h.cnt p b G;rw[List.take_zero,A5 (by simp)]at C ⊢;rw[o8 (Nat.le_refl _)];exact C
 ·rw[A,h.hpm,VG,List.mem_singleton,not_or];constructor
  ·rintro⟨⟨s,a2,a3,a4⟩,a5⟩;exact⟨s,a2,⟨a3,a5⟩,a4⟩
  ·rintro⟨s,a2,⟨a3,a5⟩,a4⟩;exact⟨⟨s,a2,a3,a4⟩,a5⟩
 ·rw[t3];intro k D w;have e:∀j,j<b.length-1->I0 ((jG (O5 g) b).take (b.length-1)) j=I0 (jG (O5 g) b) j:=fun j r=>by
   unfold I0;rw[List.getElem?_take,A4 r]
  rw[e k D,e _ (by omega)];exact I k D w
 ·exact List.nodup_append.2 ⟨h.outn,by simp,fun x l y H e=>by rw[List.mem_singleton.1 H]at e;exact i.2.2.1 (e ▸ l)⟩
 ·intro x l;rcases VG.1 l with l | l
  ·exact h.outr x l
  ·rw[List.mem_singleton.1 l,VC];exact⟨by omega,by omega,i.2.1,i.2.2.2⟩
theorem OInv.step{g:Graph}{inn:List Bool}(T:related g=true)(K:aA g inn){k i:Nat}{o D b:List Int}(h:OInv g inn k i o D b)(W:k+1=b.length){c p:Nat}(A:b[k]?=some (c:Int))(H:i<(D4 g c).length)(u:(D4 g c)[i]=(p:Int)) :
  p<g.length/\1<=I0 o p/\I0 o p<=g.length/\D.length<g.length/\OInv g inn k (i+1) (R2 o p) (if I0 o p-1=0 then lC (O5 g) D p else D) b:=by
 have hkl:k<b.length:=by omega
 have A:b[k]=(c:Int):=by rw[VA hkl]at A;exact Option.some.inj A
 have hpr:=I3 T c;have hpm:(p:Int)∈D4 g c:=by rw[<-u];exact VE H
 have f:p<g.length:=by have:=hpr.1 p hpm;omega
 have B:=h.outr b[k] (VE hkl);rw[A,VC]at B;have E:c<g.length:=by omega
 have s:E9 inn p=true:=by have:=K c B.2.2.1 p hpm;rwa[VC]at this
 have C:b.getD k 0=(c:Int):=by rw[VK,VA hkl];exact A
 have N:(c:Int)∉b.take k:=by rw[<-A];exact R9 h.outn hkl
 have M:(p:Int)∉(D4 g c).take i:=by rw[<-u];exact R9 hpr.2 H
 have P:=h.cnt p f s;rw[C,VC,A5 M]at P;have Q:=uG (g:=g) (inn:=inn) (ex:=b.take k) (x:=c) (p:=p) N E B.2.2.1;rw[A4 hpm]at Q;have S:=wL g inn (b.take k) p;have L:1<=I0 o p:=by omega
 have m:(p:Int)∉b:=fun j=>by have:=(h.outr _ j).2.2.2;rw[VC]at this;omega
 have w:(p:Int)∉D:=fun j=>by have:=((h.hpm p).1 j).2.2.2;omega
 have v:∀q,I0 (R2 o p) q=if p=q then I0 o p-1 else I0 o q:=fun q=>by
  unfold R2;rw[VC,aB (by rw[h.len];exact f)]
 have F:D.length<g.length:=by
  have:=U5 (l:=(c:Int)::D) (n:=g.length) (List.nodup_cons.2 ⟨fun j=>((h.hpm c).1 j).2.2.1 (by rw[<-A];exact VE hkl),h.hpn⟩) fun x d=>by
   rcases VH.1 d with rfl | d
   ·omega
   ·exact h.hpr x d
  rw[VD]at this;omega
 obtain⟨V,G⟩:=AE (fU g) (p:Int) h.heap;refine⟨f,L,by omega,F,⟨by unfold R2;rw[VY];exact h.len,?_,?_,?_,?_,?_,?_,h.outn,?_⟩⟩
 ·intro q O I;rw[C,VC,v q];by_cases e:p=q
  ·subst e;rw[A4 rfl,A4 ((O4 H).2 (.inr u.symm))];omega
  ·rw[A5 e];have z:=h.cnt q O I;rw[C,VC]at z;have R:((q:Int)∈(D4 g c).take (i+1))↔(q:Int)∈(D4 g c).take i:=by
    rw[O4 H,u];exact⟨fun h=>h.resolve_right (by omega),.inl⟩
   simp only[R];exact z
 ·intro q O I;rw[v q,A5 (fun e=>by rw[e,I]at s;cases s)];exact h.off q O I
 ·intro q;rw[v q];by_cases e:p=q
  ·subst e;rw[A4 rfl];split
   ·rename_i J;rw[G.mem];exact⟨fun _=>⟨f,s,m,J⟩,fun _=>by simp⟩
   ·rename_i J;exact⟨fun j=>absurd j w,fun j=>absurd j.2.2.2 J⟩
  ·rw[A5 e,<-h.hpm q];split
   ·rw[G.mem,VG,List.mem_singleton];exact⟨fun j=>j.resolve_right (by omega),.inl⟩
   ·exact Iff.rfl
 ·intro x d;split at d
  ·rw[G.mem,VG,List.mem_singleton]at d;rcases d with d | rfl
   ·exact h.hpr x d
   ·omega
  ·exact h.hpr x d
 ·split
  ·exact G.nodup (List.nodup_append.2 ⟨h.hpn,by simp,fun x d y U e=>by rw[List.mem_singleton.1 U]at e;exact w (e ▸ d)⟩)
  ·exact h.hpn
 ·split
  ·rw[G.len,VF,List.length_singleton];exact V
  ·exact h.heap
 ·intro x d;have z:=h.outr x d;refine⟨z.1,z.2.1,z.2.2.1,?_⟩;rw[v,A5 (fun e=>m (by rw[show ((p:Nat):Int)=x by omega];exact d))];exact z.2.2.2
theorem OInv.next{g:Graph}{inn:List Bool}{k:Nat}{m f a:List Int}(r:k+1=a.length){c:Nat}(b:a[k]?=some (c:Int))(h:OInv g inn k (D4 g c).length m f a):OInv g inn a.length 0 m f a:=by
 refine { h with cnt:=fun p f s=>?_ };have hkl:k<a.length:=by omega
 have b:a[k]=(c:Int):=by rw[VA hkl]at b;exact Option.some.inj b
 have o:=h.cnt p f s;have i:a.getD k 0=(c:Int):=by rw[VK,VA hkl];exact b
 have d:=h.outr a[k] (VE hkl);rw[b,VC]at d;rw[i,VC,VJ]at o;have q:=uG (g:=g) (inn:=inn) (ex:=a.take k) (x:=c) (p:=p) (by rw[<-b];exact R9 h.outn hkl) (by omega) d.2.2.1;have e:a.take (k+1)=a.take k++[(c:Int)]:=by rw[List.take_add_one,VA hkl,Option.toList_some,b]
 rw[<-r,e,List.take_zero,A5 (by simp)];split at o
 ·rename_i j;rw[A4 j]at q;omega
 ·rename_i j;rw[A5 j]at q;omega
structure HInv (g:Graph) (ch hp:List Int) (i:Nat):Prop where
 mem:∀p:Nat,(p:Int)∈hp↔p<i/\I0 ch p=0
 rng:∀x∈hp,0<=x/\x<i
 nodup:hp.Nodup
 heap:lD (O5 g) hp.length hp
theorem HInv.nil(g:Graph)(a:List Int):HInv g a [] 0:=⟨fun p=>by simp,(fun _ h=>by cases h),List.nodup_nil,fun k b=>by simp at b⟩
theorem HInv.le{g:Graph}{b a:List Int}{i:Nat}(h:HInv g b a i):a.length<=i:=U5 h.nodup h.rng
theorem HInv.step{g:Graph}{f k:List Int}{i:Nat}(h:HInv g f k i):HInv g f (if I0 f i=0 then lC (O5 g) k (i:Int) else k) (i+1):=by
 obtain⟨o,d⟩:=AE (fU g) (i:Int) h.heap;split
 ·rename_i j;refine⟨fun p=>?_,fun x c=>?_,d.nodup (List.nodup_append.2 ⟨h.nodup,by simp,fun x c y m e=>by rw[List.mem_singleton.1 m]at e;have:=h.rng x c;omega⟩),by rw[d.len,VF,List.length_singleton];exact o⟩
  ·rw[d.mem,VG,List.mem_singleton,h.mem];constructor
   ·rintro (⟨a,b⟩ | e)
    ·exact⟨by omega,b⟩
    ·have e:p=i:=by omega
     subst e;exact⟨by omega,j⟩
   ·rintro⟨a,b⟩;by_cases e:p=i
    ·right;omega
    ·exact .inl ⟨by omega,b⟩
  ·rw[d.mem,VG,List.mem_singleton]at c;rcases c with c | rfl
   ·have:=h.rng x c;omega
   ·omega
 ·rename_i j;refine⟨fun p=>?_,fun x c=>by have:=h.rng x c;omega,h.nodup,h.heap⟩;rw[h.mem];constructor
  ·rintro⟨a,b⟩;exact⟨by omega,b⟩
  ·rintro⟨a,b⟩;refine⟨?_,b⟩;apply Classical.byContradiction;intro q;have:p=i:=by omega
   subst this;exact j b
def DL(g:Graph)(D:List Int)(p:Nat):Nat:=D.countP fun x=>decide ((p:Int)∈D4 g x.toNat)
structure DInv (g:Graph) (inn:List Bool) (st:List Int) (k i:Nat) (ch opn D:List Int):Prop where
 len:ch.length=g.length
 nodup:(D++opn).Nodup
 on:∀x∈D++opn,0<=x/\x<g.length/\E9 inn x.toNat=true
 cnt:∀p:Nat,(p:Int)∈D++opn->I0 ch p=DL g (D.take k) p+(if (p:Int)∈(D4 g (D.getD k 0).toNat).take i then 1 else 0)
 off:∀p,p<g.length->(p:Int)∉D++opn->I0 ch p = -1
 clo:∀x∈D.take k,∀p∈D4 g x.toNat,p∈D++opn
 clo2:∀p∈(D4 g (D.getD k 0).toNat).take i,p∈D++opn
 sts:∀f∈st,f∈D++opn
theorem DInv.start(g:Graph)(a:List Bool):DInv g a [] 0 0 (List.replicate g.length (-1)) [] [] where
 len:=by simp
 nodup:=List.nodup_nil
 on:=fun _ h=>by cases h
 cnt:=fun _ h=>by cases h
 off:=fun p b _=>by unfold I0;rw[List.getElem?_replicate,A4 b];rfl
 clo:=fun _ h=>by cases h
 clo2:=fun _ h=>by simp at h
 sts:=fun _ h=>by cases h
theorem DInv.le{g:Graph}{b:List Bool}{st:List Int}{k i:Nat}{d a D:List Int}(h:DInv g b st k i d a D):D.length+a.length<=g.length:=by
 have:=U5 h.nodup fun x c=>⟨(h.on x c).1,(h.on x c).2.1⟩
 rwa[VF]at this
theorem DInv.mem{g:Graph}{inn:List Bool}{st:List Int}{k i:Nat}{c a D:List Int}(h:DInv g inn st k i c a D){p:Nat}(e:p<g.length):I0 c p<0↔(p:Int)∉D++a:=by
 by_cases b:(p:Int)∈D++a
 ·have:=h.cnt p b;constructor
  ·intro f;split at this<;>omega
  ·exact fun d=>absurd b d
 ·have:=h.off p e b;exact⟨fun _=>b,fun _=>by omega⟩
theorem DInv.reach{g:Graph}{l:List Bool}{st:List Int}{k i:Nat}{m a D:List Int}(h:DInv g l st k i m a D)(_hk:k<=D.length){p:Nat}(s:p<g.length)(u:E9 l p=true)(st':List Int)(o:∀f∈st',f∈st\/f=p) :
  DInv g l st' k i (if I0 m p<0 then m.set p 0 else m) (if I0 m p<0 then a++[(p:Int)] else a) D/\(p:Int)∈D++(if I0 m p<0 then a++[(p:Int)] else a):=by
 split
 ·rename_i t;have j:=(h.mem s).1 t;refine⟨⟨by rw[VY];exact h.len,?_,?_,?_,?_,?_,?_,?_⟩,by simp⟩
  ·rw[<-VV];exact List.nodup_append.2 ⟨h.nodup,by simp,fun x c y v e=>by rw[List.mem_singleton.1 v]at e;exact j (e ▸ c)⟩
  ·intro x c;rw[<-VV]at c;rcases VG.1 c with c | c
   ·exact h.on x c
   ·rw[List.mem_singleton.1 c,VC];exact⟨by omega,by omega,u⟩
  ·intro q b;rw[aB (by rw[h.len];exact s)];by_cases e:p=q
   ·subst e;rw[A4 rfl,A5 (fun n=>j (h.clo2 _ n))];have:DL g (D.take k) p=0:=by
     unfold DL;rw[List.countP_eq_zero];intro x c n;exact j (h.clo x c _ (A0 n))
    rw[this];rfl
   ·rw[A5 e];rw[<-VV]at b;rcases VG.1 b with b | b
    ·exact h.cnt q b
    ·exact absurd (List.mem_singleton.1 b) (by omega)
  ·intro q b r;rw[<-VV,VG,not_or,List.mem_singleton]at r;rw[aB (by rw[h.len];exact s),A5 (by omega)];exact h.off q b r.1
  ·intro x c q b;rw[<-VV];exact List.mem_append_left _ (h.clo x c q b)
  ·intro q b;rw[<-VV];exact List.mem_append_left _ (h.clo2 q b)
  ·intro f d;rw[<-VV];rcases o f d with d | rfl
   ·exact List.mem_append_left _ (h.sts f d)
   ·simp
 ·rename_i t;have n:(p:Int)∈D++a:=by
   apply Classical.byContradiction;intro r;exact t ((h.mem s).2 r)
  refine⟨{ h with sts:=fun f d=>?_ },n⟩;rcases o f d with d | rfl
  ·exact h.sts f d
  ·exact n
theorem DInv.count{g:Graph}{v:List Bool}{st:List Int}{k i:Nat}{f j D:List Int}(h:DInv g v st k i f j D){c p:Nat}(G:related g=true)(m:D.getD k 0=(c:Int))(o:i<(D4 g c).length)(b:(D4 g c)[i]=(p:Int))(w:(p:Int)∈D++j) :
  0<=I0 f p/\I0 f p<=g.length/\DInv g v st k (i+1) (bump f p) j D:=by
 have hpr:=I3 G c;have s:p<g.length:=by have:=hpr.1 p (by rw[<-b];exact VE o);omega
 have B:=h.cnt p w;have y:(p:Int)∉(D4 g c).take i:=by rw[<-b];exact R9 hpr.2 o
 rw[m,VC,A5 y]at B;have F:DL g (D.take k) p<=g.length:=by
  unfold DL;have C:=List.countP_le_length (p:=fun x:Int=>decide ((p:Int)∈D4 g x.toNat)) (l:=D.take k);rw[VM]at C;have:=h.le;omega
 have u:∀q,I0 (bump f p) q=if p=q then I0 f p+1 else I0 f q:=fun q=>by
  unfold bump;rw[VC,aB (by rw[h.len];exact s)]
 refine⟨by omega,by omega,{ h with len:=by unfold bump;rw[VY];exact h.len,cnt:=fun q d=>?_,off:=fun q d A=>?_,clo2:=fun q d=>?_ }⟩
 ·rw[u q,m,VC];by_cases e:p=q
  ·subst e;rw[A4 rfl,A4 ((O4 o).2 (.inr b.symm))];omega
  ·rw[A5 e];have z:=h.cnt q d;rw[m,VC]at z;have E:((q:Int)∈(D4 g c).take (i+1))↔(q:Int)∈(D4 g c).take i:=by
    rw[O4 o,b];exact⟨fun h=>h.resolve_right (by omega),.inl⟩
   simp only[E];exact z
 ·rw[u q,A5 (show ¬p=q from fun e=>A (by rw[<-e];exact w))];exact h.off q d A
 ·rw[m,VC]at d;rcases (O4 o).1 d with d | rfl
  ·exact h.clo2 q (by rw[m,VC];exact d)
  ·rw[b];exact w
theorem DInv.pop{g:Graph}{s:List Bool}{st:List Int}{u d D:List Int}{c:Int}(h:DInv g s st D.length 0 u (d++[c]) D):DInv g s st D.length 0 u d (D++[c]):=by
 have b:∀x,x∈(D++[c])++d↔x∈D++(d++[c]):=fun x=>by
  simp only[VG,List.mem_singleton];constructor
  ·rintro ((h | h) | h)
   ·exact .inl h
   ·exact .inr (.inr h)
   ·exact .inr (.inl h)
  ·rintro (h | h | h)
   ·exact .inl (.inl h)
   ·exact .inr h
   ·exact .inl (.inr h)
 have v:(D++[c]).take D.length=D:=by rw[o8 (Nat.le_refl _),VJ]
 refine⟨h.len,?_,fun x m=>h.on x ((b x).1 m),fun p o=>?_,fun p o A=>h.off p o fun z=>A ((b _).2 z),fun x m p o=>?_,fun p o=>by simp at o,fun f w=>(b f).2 (h.sts f w)⟩
 ·have j:=h.nodup;rw[List.nodup_append,List.nodup_append]at j;rw[VV,List.nodup_append,List.nodup_append];refine⟨j.1,⟨by simp,j.2.1.1,fun x m y q e=>?_⟩,fun x m y q=>?_⟩
  ·exact j.2.1.2.2 y q x m e.symm
  ·refine j.2.2 x m y ?_;rcases VG.1 q with q | q
   ·exact List.mem_append_right _ q
   ·exact List.mem_append_left _ q
 ·have j:=h.cnt p ((b _).1 o);rw[List.take_zero,A5 (by simp),VJ]at j;rw[v,List.take_zero,A5 (by simp)];exact j
 ·rw[v]at m;exact (b p).2 (h.clo x (by rw[VJ];exact m) p o)
theorem DInv.next{g:Graph}{inn:List Bool}{st:List Int}{k:Nat}{j d D:List Int}{c:Nat}(o:k+1=D.length)(f:D.getD k 0=(c:Int))(h:DInv g inn st k (D4 g c).length j d D):DInv g inn st D.length 0 j d D:=by
 have hkl:k<D.length:=by omega
 have i:D[k]?=some (c:Int):=by
  rw[VK,VA hkl]at f;rw[VA hkl];exact congrArg some f
 have e:D.take D.length=D.take k++[(c:Int)]:=by rw[<-o,List.take_add_one,i,Option.toList_some]
 refine { h with cnt:=fun p a=>?_,clo:=fun x b p a=>?_,clo2:=fun p a=>by simp at a }
 ·have m:=h.cnt p a;rw[f,VC,VJ]at m;rw[List.take_zero,A5 (show ¬(p:Int)∈([]:List Int) by simp),m,e];unfold DL;rw[List.countP_append,List.countP_singleton,VC];by_cases q:(p:Int)∈D4 g c<;>simp[q]
 ·rw[e]at b;rcases VG.1 b with b | b
  ·exact h.clo x b p a
  ·rw[List.mem_singleton.1 b,VC]at a;exact h.clo2 p (by rw[f,VC,VJ];exact a)
theorem AH{q:Int->Bool}{l m:List Int}(b:l.Nodup)(d:m.Nodup)(h:∀x,x∈l↔x∈m):l.countP q=m.countP q:=by
 rw[List.countP_eq_length_filter,List.countP_eq_length_filter];have a:∀{l m:List Int},l.Nodup->(∀x,x∈l↔x∈m)->(l.filter q).length<=(m.filter q).length:=fun b h =>
  fS (b.filter _) fun x c=>by
   rw[List.mem_filter]at c ⊢;exact⟨(h x).1 c.1,c.2⟩
 have f:=a b h;have i:=a d fun x=>(h x).symm;omega
theorem DInv.fin{g:Graph}{s z D:List Int}(I:related g=true)(J:∀f∈s,0<=f/\f<g.length)(h:DInv g (F6 g s) s D.length 0 z [] D) :
  ∀p,p<g.length->I0 z p=if E9 (F6 g s) p=true then (mE g (F6 g s) [] p:Int) else -1:=by
 have b:∀p:Nat,E9 (F6 g s) p=true↔(p:Int)∈D:=by
  intro p;constructor
  ·intro j;obtain⟨f,F,d⟩:=(u0 I J p).1 j;clear j;have A:(f:Int)∈D:=by simpa using h.sts f F
   have v:∀x:Nat,(x:Int)∈D->∀q:Nat,(q:Int)∈D4 g x->(q:Int)∈D:=fun x k q H=>by
    have:=h.clo x (by rw[VJ];exact k) q (by rw[VC];exact H);simpa using this
   rcases d with rfl | d
   ·exact A
   ·induction d with
    | one h=>exact v _ A _ h
    | more _ d K=>exact v _ K _ d
  ·intro w;have:=(h.on p (by simpa using w)).2.2
   rwa[VC]at this
 intro p G;split
 ·rename_i j;have B:=h.cnt p (by simpa using (b p).1 j);rw[VJ,List.take_zero,A5 (by simp)]at B;rw[B,Int.add_zero]
  congr 1
  have C:D.Nodup:=by have:=h.nodup;rwa[WL]at this
  have d:∀x∈D,0<=x/\x<g.length:=fun x k=>by
   have:=h.on x (by simpa using k);exact⟨this.1,this.2.1⟩
  unfold DL mE;have e:(List.range g.length).countP (fun c=>E9 (F6 g s) c&&decide ((c:Int)∉([]:List Int)/\(p:Int)∈D4 g c))=(((List.range g.length).filter fun c=>E9 (F6 g s) c).map fun c:Nat=>(c:Int)).countP fun x=>decide ((p:Int)∈D4 g x.toNat):=by
   rw[List.countP_map,List.countP_filter];refine List.countP_congr fun c _=>?_;simp only[List.not_mem_nil,not_false_eq_true,true_and,Function.comp_def,VC,VB,decide_eq_true_eq];exact And.comm
  rw[e];refine AH C ((List.nodup_range.filter _).map (fun i:Nat=>(i:Int)) fun _ _ y e=>y (Int.ofNat.inj e)) fun x=>?_;rw[VT];constructor
  ·intro k;have:=d x k;refine⟨x.toNat,List.mem_filter.2 ⟨VL.2 (by omega),(b _).2 (by rw[Int.toNat_of_nonneg this.1];exact k)⟩,by omega⟩
  ·rintro⟨c,E,rfl⟩;exact (b c).1 (List.mem_filter.1 E).2
 ·rename_i j;exact h.off p G fun w=>j ((b p).2 (by simpa using w))
theorem OInv.start{g:Graph}{c:List Bool}{f d:List Int}(j:f.length=g.length)(_hin:c.length=g.length)(i:∀p,p<g.length->I0 f p=if E9 c p=true then (mE g c [] p:Int) else -1)(h:HInv g f d g.length):OInv g c 0 0 f d [] where
 len:=j
 cnt:=fun p d e=>by rw[i p d,A4 e,List.take_zero,List.take_zero];simp
 off:=fun p d e=>by rw[i p d,e];rfl
 hpm:=fun p=>by
  rw[h.mem];constructor
  ·rintro⟨a,b⟩;refine⟨a,?_,by simp,b⟩;cases e:E9 c p
   ·rw[i p a,e]at b;simp at b
   ·rfl
  ·rintro⟨a,_,_,b⟩;exact⟨a,b⟩
 hpr:=h.rng
 hpn:=h.nodup
 heap:=h.heap
 outn:=List.nodup_nil
 outr:=fun _ h=>by cases h
def S0(b s:Str)(p:Nat):Option Nat:=if b=[]\/p>s.length\/Lib.index (s.drop p) b<0 then none else some (p+(Lib.index (s.drop p) b).toNat)
def x9(a s:Str):Nat->Nat->List Int->List Int
 | 0,_,out=>out
 | f+1,p,out=>match S0 a s p with
  | none=>out
  | some i=>x9 a s f (i+a.length) (out++[(i:Int)])
def V1(a s:Str):List Int:=x9 a s (s.length+2) 0 []
def wM(a s:Str):Int:=(V1 a s).length
theorem aD{a s:Str}{p i:Nat}(h:S0 a s p=some i):a≠[]/\p<=s.length/\p<=i/\i+a.length<=s.length:=by
 unfold S0 at h;split at h
 ·cases h
 ·rename_i b;simp only[not_or]at b;have c:=Lib.index_room (s.drop p) a (by omega);rw[WA]at c;have e:=Option.some.inj h;exact⟨b.1,by omega,by omega,by omega⟩
theorem jI{b s:Str}{f p i:Nat}{a:List Int}(c:s.length<f+p)(h:S0 b s p=some i):x9 b s f p a=x9 b s (f-1) (i+b.length) (a++[(i:Int)]):=by
 have:=aD h;obtain⟨f,rfl⟩:∃k,f=k+1:=⟨f-1,by omega⟩
 rw[x9,h];rfl
theorem bQ{b s:Str}{f p:Nat}{a:List Int}(h:S0 b s p=none):x9 b s f p a=a:=by
 cases f with
 | zero=>rfl
 | succ f=>rw[x9,h]
theorem rC{c s:Str}:∀(f d p:Nat) (a:List Int),s.length<f+p->s.length<d+p->x9 c s f p a=x9 c s d p a
 | 0,d,p,a,h,_=>by
  have:S0 c s p=none:=by
   cases b:S0 c s p with
   | none=>rfl
   | some i=>have:=aD b;omega
  rw[bQ this,bQ this]
 | f+1,d,p,a,h,h'=>by
  cases b:S0 c s p with
  | none=>rw[bQ b,bQ b]
  | some i =>
   have e:=aD b;have g:0<c.length:=List.length_pos_iff.2 e.1;rw[jI h b,jI h' b];exact rC f (d-1) _ _ (by omega) (by omega)
theorem iF(c s:Str):(V1 c s).length<=s.length+2:=by
 have b:∀(f p:Nat) (a:List Int),(x9 c s f p a).length<=a.length+f:=by
  intro f;induction f with
  | zero=>intro p a;exact Nat.le_refl _
  | succ f d =>
   intro p a;rw[x9];split
   ·omega
   ·rename_i i _;have:=d (i+c.length) (a++[(i:Int)]);rw[VF,List.length_singleton]at this;omega
 have:=b (s.length+2) 0 [];unfold V1;simpa using this
def J9(g:Graph)(c:Nat):List File:=(g[c]?.map (·.Files)).getD []
def N4(g:Graph)(c:Nat):List (List File):=if D4 g c=[] then [[]] else (D4 g c).map fun p=>J9 g p.toNat
def t6(l:List File)(p:Str):Str:=(I2 l p).getD []
def DM(t u:List File)(d:Delta):Str×Str:=(t6 t d.Path,t6 u d.Path)
def dB(t u:List File):List (Str×Str):=(S4 t u).map (DM t u)
def Q6(g:Graph)(c:Nat):List (List (Str×Str)):=(N4 g c).map fun t=>dB t (J9 g c)
def differs(a:Str)(x:Str×Str):Bool:=decide (wM a x.1≠wM a x.2)
def d9(f:Str×Str->Bool)(g:Graph)(c:Nat):Bool:=(Q6 g c).any fun l=>l.any f
def S5(g:Graph)(c:Int):Prop:=0<=c/\c<g.length
instance (g:Graph) (c:Int):Decidable (S5 g c):=inferInstanceAs (Decidable (_/\_))
def Q7(g:Graph)(s:Int):List Int×Int:=if K2 g≠0 then ([],K2 g) else if S5 g s then (O2 g [s],0) else ([],5)
def X1(f:Str×Str->Bool)(g:Graph)(s:Int):List Int×Int:=if (Q7 g s).2≠0 then ([],(Q7 g s).2) else ((Q7 g s).1.filter fun c=>d9 f g c.toNat,0)
def S7(g:Graph)(s:Int)(a:Str):List Int×Int:=if a=[] then ([],2) else if a.length>256 then ([],1) else X1 (differs a) g s
def wN(g:Graph)(c:Int):Int:=if K2 g≠0 then K2 g else if S5 g c then 0 else 5
def aE:Str×Str->Nat->Cell:=fun x j=>match j with
 | 0=>.v (.string ⟨x.1.toArray⟩)
 | _=>.v (.string ⟨x.2.toArray⟩)
abbrev fB:List (Str×Str)->Nat->Cell:=fun l _=>.list (Str×Str) 2 aE l
abbrev LH(l:List (Str×Str)):PV:=.one (.list (Str×Str) 2 aE l)
abbrev wO(l:List (List (Str×Str))):PV:=.one (.list (List (Str×Str)) 1 fB l)
section
structure Set4 where
 a:Int
 b:Int
 c:Int
 d:Int
 deriving DecidableEq
def TD(x y:Int):Int:=((x.toNat ||| y.toNat:Nat):Int)
def set0:Set4:=⟨0,0,0,0⟩
def Set4.with_(s:Set4)(c:Nat):Set4:=match c / 64 with
 | 0=>{ s with a:=TD s.a (2 ^ (c % 64)) }
 | 1=>{ s with b:=TD s.b (2 ^ (c % 64)) }
 | 2=>{ s with c:=TD s.c (2 ^ (c % 64)) }
 | _=>{ s with d:=TD s.d (2 ^ (c % 64)) }
def uH:Nat->Nat->Set4->Set4
 | 0,_,s=>s
 | n+1,c,s=>uH n (c+1) (s.with_ c)
def Set4.through(s:Set4)(a b:Nat):Set4:=uH (b+1-a) a s
def Set4.compl(s:Set4):Set4:=⟨18446744073709551615-s.a,18446744073709551615-s.b,18446744073709551615-s.c,18446744073709551615-s.d⟩
def PX(s:Set4)(name:Str):Option Set4 :=
 if name=[97,108,112,104,97] then some ((s.through 97 122).through 65 90)
 else if name=[100,105,103,105,116] then some (s.through 48 57)
 else if name=[97,108,110,117,109] then some (((s.through 97 122).through 65 90).through 48 57)
 else if name=[117,112,112,101,114] then some (s.through 65 90)
 else if name=[108,111,119,101,114] then some (s.through 97 122)
 else if name=[115,112,97,99,101] then some ((s.through 9 13).with_ 32)
 else if name=[112,117,110,99,116] then some ((((s.through 33 47).through 58 64).through 91 96).through 123 126)
 else none
structure Node where
 Kind:Int
 Set:Set4
 Min:Int
 Max:Int
 Kids:List Int
 deriving DecidableEq
def uI:Node:=⟨0,set0,0,0,[]⟩
structure PSt where
 at_:Nat
 depth:Nat
 nodes:List Node
abbrev Ps(α:Type):=Except Int (PSt×α)
section
variable (s:Str)
def rD(c:UInt8)(st:PSt):Bool:=decide (s[st.at_]?=some c)
def PSt.skip(st:PSt)(n:Nat):PSt:={ st with at_:=st.at_+n }
def SG(c:UInt8)(st:PSt):PSt:=if rD s c st=true then st.skip 1 else st
def SH(st:PSt):Ps UInt8:=match s[st.at_]? with
 | none=>.error 40
 | some c=>.ok (st.skip 1,c)
def LI(n:Node)(st:PSt):PSt×Int:=({ st with nodes:=st.nodes++[n] },st.nodes.length)
def DN(a:Int)(kids:List Int)(st:PSt):PSt×Int:=match kids with
 | []=>LI uI st
 | [k]=>(st,k)
 | _=>LI { uI with Kind:=a,Kids:=kids } st
def PY(t:Set4)(st:PSt):PSt×Int:=LI { uI with Kind:=1,Set:=t } st
def NN(a b:UInt8)(l:Str):Bool:=decide (l[0]?=some a/\l[1]?=some b)
def OK(t:Set4)(st:PSt):Ps Set4 :=
 let rest:=s.drop st.at_
 if NN 91 58 rest=true then
  let r:=rest.drop 2
  if Lib.index r [58,93]<0 then .error 40
  else match PX t (r.take (Lib.index r [58,93]).toNat) with
   | none=>.error 40
   | some b=>.ok (st.skip (4+(Lib.index r [58,93]).toNat),b)
 else match s[st.at_]? with
  | none=>.error 40
  | some c =>
   let r:=s.drop (st.at_+1)
   if r.length<2\/r[0]?≠some 45\/r[1]?=some 93 then .ok (st.skip 1,t.with_ c.toNat)
   else if (r.getD 1 0).toNat<c.toNat then .error 40
   else .ok (st.skip 3,t.through c.toNat (r.getD 1 0).toNat)
def LJ:Nat->Set4->PSt->Ps Set4
 | 0,_,_=>.error 0
 | f+1,t,st=>if rD s 93 st=true then .ok (st.skip 1,t) else match OK s t st with
  | .error e=>.error e
  | .ok (st',t')=>LJ f t' st'
def PZ(f:Nat)(st:PSt):Ps Int :=
 let a:=st.skip 1;let b:=SG s 94 a
 match OK s set0 b with
 | .error e=>.error e
 | .ok (st3,t)=>match LJ s f t st3 with
  | .error e=>.error e
  | .ok (st4,t')=>.ok (PY (if rD s 94 a=true then t'.compl else t') st4)
def FF(a:Int)(st:PSt):Ps Int :=
 let r:=LI { uI with Kind:=a } (st.skip 1)
 match s[r.1.at_]? with
 | some c=>if c∈([42,43,63,123]:Str) then .error 40 else .ok r
 | none=>.ok r
def SI(a:Str->Nat->Option (Int×Nat))(st:PSt):Ps Int:=match a s st.at_ with
 | none=>.error 40
 | some (n,e)=>if n>100 then .error 40 else .ok ({ st with at_:=e },n)
def NO(d:Str->Nat->Option (Int×Nat))(st:PSt):Ps (Int×Int):=match SI s d st with
 | .error e=>.error e
 | .ok (st1,least) =>
  let fin:=fun (st:PSt) (a:Int)=>(if rD s 125 st=false\/(0<=a/\a<least) then .error 40 else .ok (st.skip 1,(least,a)):Ps (Int×Int))
  if rD s 44 st1=true then
   let b:=st1.skip 1
   match s[b.at_]? with
   | none=>fin b (-1)
   | some c=>if c=125 then fin b (-1) else match SI s d b with
    | .error e=>.error e
    | .ok (st3,a)=>fin st3 a
  else fin st1 least
def QA(a:Str->Nat->Option (Int×Nat))(st:PSt):Ps (Option (Int×Int)) :=
 if rD s 42 st=true then .ok (st.skip 1,some (0,-1))
 else if rD s 43 st=true then .ok (st.skip 1,some (1,-1))
 else if rD s 63 st=true then .ok (st.skip 1,some (0,1))
 else if rD s 123 st=true then match NO s a (st.skip 1) with
  | .error e=>.error e
  | .ok (st',b)=>.ok (st',some b)
 else .ok (st,none)
def FG(st:PSt):Ps Int:=match SH s st with
 | .error e=>.error e
 | .ok (st',c)=>.ok (PY (set0.with_ c.toNat) st')
def NP(st:PSt):Ps Int:=FG s (st.skip 1)
def TQ(st:PSt):PSt×Int:=PY set0.compl (st.skip 1)
def lE(a:Str->Nat->Option (Int×Nat))(r:Ps Int):Ps Int:=match r with
 | .error e=>.error e
 | .ok (st,atom)=>match QA s a st with
  | .error e=>.error e
  | .ok (st',none)=>.ok (st',atom)
  | .ok (st',some (least,most))=>.ok (LI { uI with Kind:=6,Min:=least,Max:=most,Kids:=[atom] } st')
mutual
def SJ(a:Str->Nat->Option (Int×Nat)):Nat->PSt->Ps Int
 | 0,_=>.error 0
 | f+1,st=>match NQ a f st [] with
  | .error e=>.error e
  | .ok (st',k)=>wP a f st' [k]
def wP(a:Str->Nat->Option (Int×Nat)):Nat->PSt->List Int->Ps Int
 | 0,_,_=>.error 0
 | f+1,st,kids=>if rD s 124 st=true then match NQ a f (st.skip 1) [] with
   | .error e=>.error e
   | .ok (st',k)=>wP a f st' (kids++[k])
  else .ok (DN 5 kids st)
def NQ(a:Str->Nat->Option (Int×Nat)):Nat->PSt->List Int->Ps Int
 | 0,_,_=>.error 0
 | f+1,st,kids=>match s[st.at_]? with
  | none=>.ok (DN 4 kids st)
  | some c=>if c=124\/c=41 then .ok (DN 4 kids st) else match LK a f st c with
   | .error e=>.error e
   | .ok (st',k)=>NQ a f st' (kids++[k])
def LK(a:Str->Nat->Option (Int×Nat)):Nat->PSt->UInt8->Ps Int
 | 0,_,_=>.error 0
 | f+1,st,c =>
  if c=94 then FF s 2 st
  else if c=36 then FF s 3 st
  else if c=40 then lE s a (LL a f st)
  else if c=91 then lE s a (PZ s (s.length+2) st)
  else if c=46 then lE s a (.ok (TQ st))
  else if c=92 then lE s a (NP s st)
  else if c∈([42,43,63,123]:Str) then .error 40
  else lE s a (FG s st)
def LL(a:Str->Nat->Option (Int×Nat)):Nat->PSt->Ps Int
 | 0,_=>.error 0
 | f+1,st=>if st.depth=50 then .error 1 else match SJ a f { st with at_:=st.at_+1,depth:=st.depth+1 } with
  | .error e=>.error e
  | .ok (st',n)=>if rD s 41 st'=true then .ok ({ st' with at_:=st'.at_+1,depth:=st'.depth-1 },n) else .error 40
end
end
def SK(n:Node)(i:Int):Bool:=n.Kids.all (fun k=>decide (0<=k/\k<i)) &&
 (if n.Kind=0\/n.Kind=1\/n.Kind=2\/n.Kind=3 then decide (n.Kids.length=0)
 else if n.Kind=4\/n.Kind=5 then decide (2<=n.Kids.length)
 else if n.Kind=6 then decide (n.Kids.length=1/\0<=n.Min/\n.Min<=100/\(n.Max = -1\/n.Min<=n.Max/\n.Max<=100)) else false)
structure State where
 Kind:Int
 Set:Set4
 Next:Int
 Other:Int
 deriving DecidableEq
structure Auto where
 States:List State
 Start:Int
 deriving DecidableEq
def dC:State:=⟨0,set0,0,0⟩
abbrev Bld:=List State×Int
def QB(q:State)(st:List State):Bld:=(st++[q],st.length)
section
variable (ns:List Node) (w:List Int)
mutual
def mF:Nat->Int->Int->List State->Option Bld
 | 0,_,_,_=>none
 | f + 1,i,next,st =>
  if I0 w i.toNat=0 then some (st,next)
  else
   let n:=ns.getD i.toNat uI
   if n.Kind=1 then some (QB { dC with Kind:=0,Set:=n.Set,Next:=next } st)
   else if n.Kind=2 then some (QB { dC with Kind:=2,Next:=next } st)
   else if n.Kind=3 then some (QB { dC with Kind:=3,Next:=next } st)
   else if n.Kind=4 then SL f n.Kids.reverse next st
   else if n.Kind=5 then match n.Kids.reverse with
    | []=>none
    | k::r=>match mF f k next st with
     | none=>none
     | some (st',start)=>SM f r next start st'
   else if n.Kind=6 then
    let c:=n.Kids.getD 0 0
    if n.Max<0 then
     let b:Int:=st.length
     match mF f c b (st++[{ dC with Kind:=1,Other:=next }]) with
     | none=>none
     | some (st',start)=>QC f c n.Min.toNat b (st'.set b.toNat { (st'.getD b.toNat dC) with Next:=start })
    else match SN f c (n.Max-n.Min).toNat next next st with
     | none=>none
     | some (st',next')=>QC f c n.Min.toNat next' st'
   else some (st,next)
def SL:Nat->List Int->Int->List State->Option Bld
 | 0,_,_,_=>none
 | _+1,[],next,st=>some (st,next)
 | f+1,k::r,next,st=>match mF f k next st with
  | none=>none
  | some (st',next')=>SL f r next' st'
def SM:Nat->List Int->Int->Int->List State->Option Bld
 | 0,_,_,_,_=>none
 | _+1,[],_,start,st=>some (st,start)
 | f+1,k::r,next,start,st=>match mF f k next st with
  | none=>none
  | some (st',b)=>SM f r next st'.length (st'++[{ dC with Kind:=1,Next:=b,Other:=start }])
def SN:Nat->Int->Nat->Int->Int->List State->Option Bld
 | 0,_,_,_,_,_=>none
 | _+1,_,0,_,next,st=>some (st,next)
 | f+1,kid,m+1,last,next,st=>match mF f kid next st with
  | none=>none
  | some (st',b)=>SN f kid m last st'.length (st'++[{ dC with Kind:=1,Next:=b,Other:=last }])
def QC:Nat->Int->Nat->Int->List State->Option Bld
 | 0,_,_,_,_=>none
 | _+1,_,0,next,st=>some (st,next)
 | f+1,kid,m+1,next,st=>match mF f kid next st with
  | none=>none
  | some (st',next')=>QC f kid m next' st'
end
end
end
def FH(q:State)(start fin:Bool):List Int :=
 if q.Kind=1 then [q.Next,q.Other] else if q.Kind=2 then (if start=true then [q.Next] else []) else if q.Kind=3 then (if fin=true then [q.Next] else []) else []
def uJ(n:Int)(q:State):Bool :=
 if q.Kind=0\/q.Kind=2\/q.Kind=3 then decide (0<=q.Next/\q.Next<n)
 else if q.Kind=1 then decide (0<=q.Next/\q.Next<n/\0<=q.Other/\q.Other<n)
 else decide (q.Kind=4)
def LM(a:Auto):Int:=if a.States.length<1\/a.States.length>8000\/a.Start<0\/a.Start>=a.States.length then 2 else if a.States.all (uJ a.States.length)=true then 0 else 2
structure Thread where
 state:Int
 from_:Int
 deriving DecidableEq
abbrev Mach:=List Thread×List Bool
section
variable (a:Auto) (s:Str)
def gA(i:Int):State:=a.States.getD i.toNat dC
def LN(q:Set4)(c:Nat):Int:=match c / 64 with
 | 0=>q.a.fdiv (2 ^ (c % 64)) % 2
 | 1=>q.b.fdiv (2 ^ (c % 64)) % 2
 | 2=>q.c.fdiv (2 ^ (c % 64)) % 2
 | _=>q.d.fdiv (2 ^ (c % 64)) % 2
def AI(fr:Int):List Thread->List Thread
 | []=>[]
 | t::r=>if t.from_>fr then [] else t::AI fr r
end
def fC(s:Str):Str:=Lib.trimSuffix s [10]
def rE(s:Str):List Str×Int:=if 65536<s.length then ([],1) else if (X9 s).2≠0\/100<(X9 s).1.length then ([],1) else ((X9 s).1.map fC,0)
def aF(P:List Str)(i:Nat):List Str:=(P.take i).map fC++P.drop i
theorem IA(P:List Str)(i:Nat):(aF P i).length=P.length:=by
 unfold aF;rw[VF,VW,<-VF,WR]
theorem IB{P:List Str}{i:Nat}(h:i<P.length):(aF P i)[i]?=some P[i]:=by
 unfold aF;rw[VO (by rw[VW,VM];omega),VW,VM,Nat.min_eq_left (by omega),WN,WD,Nat.add_zero];exact VA h
theorem IC{P:List Str}{i:Nat}(h:i<P.length):(aF P i).set i (fC P[i])=aF P (i+1):=by
 unfold aF;rw[List.set_append_right _ _ (by rw[VW,VM];omega),VW,VM,Nat.min_eq_left (by omega),WN,VN h,List.set_cons_zero,List.take_add_one,VA h,Option.toList_some,WC,VV];rfl
theorem ID(P:List Str):aF P P.length=P.map fC:=by
 unfold aF;rw[VJ,List.drop_length,WL]
theorem DO(P:List Str):aF P 0=P:=by simp[aF]
end Go.AL
attribute [local semireducible] Go.AL.Neu Go.AL.Eff Go.AL.EffV Go.AL.WpL Go.AL.WpC Go.AL.FnOk Go.AL.LexD Go.AL.Sees Go.AL.RetOk Go.AL.FnIo Go.AL.Met Go.AL.RetS
namespace Go.AL
open Go Go.RowKit
variable {P:Program}{nt:Nat}{fr:Fr}{ob:Obs}
theorem Sim.shutB{S:Ctx}{G:Gh}{a:Act}{w:World}(h:Sim P S fr ob G a w){k t:Nat}{cs:List Cell}{α:Type}{c:α->Nat->Cell}{x:α}(A:C5 ob k=some (.box (cs.map .p)))(J:E0 fr t=some (.s (.one (.ref k 0))))(F:∀j,j<cs.length->cs[j]?=some (c x j)) :
  Sim P S ((t,.s (.one (.eref α cs.length c x 0)))::fr) (Obs.drop k ob) G a w:=by
 have D:=h.drop k;obtain⟨b,N,M,y,H,ha⟩:=h.box A;have q:∀b i z,E4 (Mut S ob G) w b i z->E4 (Mut S (Obs.drop k ob) G) w b i z:=by
  intro b i z v;refine⟨v.1,fun g=>v.2 ?_⟩;rcases g with g | ⟨k',o',hk',hb⟩
  ·exact .inl g
  ·refine .inr ⟨k',o',?_,hb⟩;by_cases d:k'=k
   ·subst d;rw[L0]at hk';cases hk'
   ·rwa[K3 d]at hk'
 refine { D with facts:=fun i s u=>?_ };by_cases E:i=t
 ·subst E;rw[D7]at u;cases u;obtain⟨L,m,K⟩:=h.facts i _ J;rw[y]at m;cases m;refine⟨b,0,K,fun j I=>?_⟩;obtain⟨z,B,C⟩:=ha.get j (.p (c x j)) (by rw[WK,F j I];rfl);refine⟨z,⟨by rw[Nat.zero_add];exact cell_of_heap H (by simpa using B),fun g=>?_⟩,Cell.rep_mono (fun _ _ _ v=>q _ _ _ v) _ _ C⟩;rcases g with g | ⟨k',o',hk',hb,_⟩
  ·have:=h.m0 _ _ g;rcases h.old k _ b A (by rw[y];rfl) with h1 | h1
   ·omega
   ·exact h.m0io _ _ g h1.1
  ·by_cases d:k'=k
   ·subst d;rw[L0]at hk';cases hk'
   ·rw[K3 d]at hk';exact d (h.dis k' k o' _ b hk' A hb (by rw[y];rfl))
 ·rw[C6 (fun e=>E e.symm)]at u;exact D.facts i s u
theorem Sees.shutB{k t:Nat}{cs:List Cell}{α:Type}{c:α->Nat->Cell}(x:α)(d:C5 ob k=some (.box (cs.map .p)))(g:E0 fr t=some (.s (.one (.ref k 0))))(a:∀j,j<cs.length->cs[j]?=some (c x j)) :
  Sees P nt fr ob ((t,.s (.one (.eref α cs.length c x 0)))::fr) (Obs.drop k ob):=fun _ G _ _ _ h=>⟨G,h.shutB d g a⟩
theorem DP{a b:List Bool}(e:a.length=b.length)(h:∀x,E9 a x=E9 b x):a=b:=by
 refine List.ext_getElem e fun i c d=>?_;have:=h i;unfold E9 at this;rw[VA c,VA d]at this;exact this
theorem rF{l:List Bool}{i:Nat}(a:i<l.length)(h:E9 l i=false):(l.set i true).count false+1=l.count false:=by
 unfold E9 at h;rw[VA a]at h;have h:l[i]=false:=h;rw[List.count_set a,h];have:0<l.count false:=List.count_pos_iff.2 (by rw[<-h];exact VE a);simp only[beq_self_eq_true,if_true,beq_iff_eq,Bool.true_eq_false,if_false];omega
structure Dfs (g:Graph) (c:Nat) (x:Option Nat) (k:Nat) (out:List Bool) (op:List Int):Prop where
 len:out.length=g.length
 sound:∀y,E9 out y=true->c=y\/Reaches g c y
 start:E9 out c=true
 opn:∀y∈op,0<=y/\E9 out y.toNat=true
 at_:∀y,x=some y->E9 out y=true/\∀p∈(D4 g y).take k,E9 out p.toNat=true
 clo:∀y,E9 out y=true->(y:Int)∈op\/x=some y\/∀p∈D4 g y,E9 out p.toNat=true
theorem Dfs.init{g:Graph}{c:Nat}(h:c<g.length):Dfs g c none 0 ((List.replicate g.length false).set c true) [(c:Int)]:=by
 have b:∀y,E9 ((List.replicate g.length false).set c true) y=true->c=y:=fun y a=>by
  rw[x7]at a;have f:E9 (List.replicate g.length false) y=false:=by
   unfold E9;rw[List.getElem?_replicate];split<;>rfl
  rw[f,Bool.false_or]at a;exact (A0 a).1
 have d:E9 ((List.replicate g.length false).set c true) c=true:=by
  rw[x7,A2 ⟨rfl,by rw[VX];exact h⟩,Bool.or_true]
 exact⟨by rw[VY,VX],fun y a=>.inl (b y a),d,fun y a=>by rw[List.mem_singleton.1 a];exact⟨by omega,d⟩,fun y a=>(by cases a),fun y a=>.inl (by rw[b y a];simp)⟩
theorem Dfs.pop{g:Graph}{c:Nat}{d:List Bool}{e:List Int}{x:Nat}(h:Dfs g c none 0 d (e++[(x:Int)])):Dfs g c (some x) 0 d e:=by
 refine⟨h.len,h.sound,h.start,fun y b=>h.opn y (by simp[b]),fun y b=>?_,fun y b=>?_⟩
 ·cases b;exact⟨(h.opn x (by simp)).2,fun p f=>by simp at f⟩
 ·rcases h.clo y b with a | a | a
  ·rcases VG.1 a with a | a
   ·exact .inl a
   ·refine .inr (.inl ?_);have:=List.mem_singleton.1 a
    congr 1;omega
  ·cases a
  ·exact .inr (.inr a)
theorem iG{l:List Int}{k:Nat}{p q:Int}(b:l[k]?=some p)(a:q∈l.take (k+1)):q∈l.take k\/q=p:=by
 rw[List.take_add_one,b]at a;simpa using a
theorem Dfs.skip{g:Graph}{c:Nat}{a:List Bool}{e:List Int}{x k:Nat}{p:Int}(h:Dfs g c (some x) k a e)(j:(D4 g x)[k]?=some p)(l:E9 a p.toNat=true):Dfs g c (some x) (k+1) a e:=by
 refine⟨h.len,h.sound,h.start,h.opn,fun y d=>?_,h.clo⟩;obtain⟨f,i⟩:=h.at_ y d;refine⟨f,fun q m=>?_⟩;cases d;rcases iG j m with b | b
 ·exact i q b
 ·rw[b];exact l
theorem Dfs.push{g:Graph}{c:Nat}{d:List Bool}{z:List Int}{x k p:Nat}(h:Dfs g c (some x) k d z)(w:(D4 g x)[k]?=some (p:Int))(A:p<g.length):Dfs g c (some x) (k+1) (d.set p true) (z++[(p:Int)]):=by
 have b:∀{y},E9 d y=true->E9 (d.set p true) y=true:=fun {y} a=>by rw[x7,a,Bool.true_or]
 have s:E9 (d.set p true) p=true:=by rw[x7,A2 ⟨rfl,by rw[h.len];exact A⟩,Bool.or_true]
 have f:(p:Int)∈D4 g x:=VZ w;refine⟨by rw[VY];exact h.len,fun y a=>?_,b h.start,fun y a=>?_,fun y a=>?_,fun y a=>?_⟩
 ·rw[x7,VU]at a;rcases a with a | a
  ·exact h.sound y a
  ·have j:=(A0 a).1;subst j;rcases h.sound x (h.at_ x rfl).1 with t | t
   ·subst t;exact .inr (.one f)
   ·exact .inr (.more t f)
 ·rcases VG.1 a with a | a
  ·exact⟨(h.opn y a).1,b (h.opn y a).2⟩
  ·rw[List.mem_singleton.1 a];exact⟨by omega,by rw[VC];exact s⟩
 ·cases a;refine⟨b (h.at_ x rfl).1,fun q v=>?_⟩;rcases iG w v with u | u
  ·exact b ((h.at_ x rfl).2 q u)
  ·rw[u,VC];exact s
 ·rw[x7,VU]at a;rcases a with a | a
  ·rcases h.clo y a with j | j | j
   ·exact .inl (by simp[j])
   ·exact .inr (.inl j)
   ·exact .inr (.inr fun q v=>b (j q v))
  ·rw[<-(A0 a).1];exact .inl (by simp)
theorem Dfs.close{g:Graph}{c:Nat}{b:List Bool}{f:List Int}{x:Nat}(h:Dfs g c (some x) (D4 g x).length b f):Dfs g c none 0 b f:=by
 refine⟨h.len,h.sound,h.start,h.opn,fun y d=>by (cases d),fun y d=>?_⟩;rcases h.clo y d with a | a | a
 ·exact .inl a
 ·refine .inr (.inr fun p j=>?_);cases a;exact (h.at_ x rfl).2 p (by rw[VJ];exact j)
 ·exact .inr (.inr a)
theorem Dfs.done{g:Graph}(o:related g=true){c:Nat}(t:c<g.length){b:List Bool}(h:Dfs g c none 0 b []):b=F6 g [(c:Int)]:=by
 have i:=fun x=>u0 o (s:=[(c:Int)]) (fun f j=>by rw[List.mem_singleton.1 j];omega) x;have e:∀y,E9 b y=true->∀p:Nat,(p:Int)∈D4 g y->E9 b p=true:=fun y l p n=>by
  rcases h.clo y l with a | a | a
  ·cases a
  ·cases a
  ·have:=a _ n;rwa[VC]at this
 have d:∀y,Reaches g c y->E9 b y=true:=fun y l=>by
  induction l with
  | one a=>exact e c h.start _ a
  | more _ m r=>exact e _ r _ m
 refine DP (by rw[h.len,R1]) fun x=>?_;rw[Bool.eq_iff_iff,i x];constructor
 ·intro q;exact⟨c,by simp,h.sound x q⟩
 ·rintro⟨f,j,a⟩;have k:f=c:=by have:=List.mem_singleton.1 j;omega
  rw[k]at a;rcases a with a | a
  ·rw[<-a];exact h.start
  ·exact d x a
def jJ(g:Graph)(a b:Nat)(i:Nat):Bool:=E9 (F6 g [(a:Int)]) i&&E9 (F6 g [(b:Int)]) i
def L8(g:Graph)(a b n:Nat):List Int:=((List.range n).filter fun i=>jJ g a b i).map fun (i:Nat)=>(i:Int)
theorem nI(g:Graph)(a b n:Nat):L8 g a b (n+1)=if jJ g a b n=true then L8 g a b n++[(n:Int)] else L8 g a b n:=by
 unfold L8;rw[XB,WW,WC];by_cases h:jJ g a b n=true
 ·rw[A4 h,List.filter_cons,A4 h];rfl
 ·rw[A5 h,List.filter_cons,A5 h];simp
theorem DQ{g:Graph}{a b n:Nat}:∀x∈L8 g a b n,0<=x/\x<(n:Int):=by
 intro x d;obtain⟨i,c,rfl⟩:=VT.1 d;have:=VL.1 (List.mem_filter.1 c).1;exact⟨by omega,by omega⟩
theorem dD(g:Graph)(a b n:Nat):(L8 g a b n).length<=n:=by
 unfold L8;rw[VW];exact Nat.le_trans (List.length_filter_le _ _) (by rw[WI];exact Nat.le_refl _)
def J5(g:Graph)(cov:List Bool)(c:Int)(n:Nat):List Bool:=(List.range cov.length).map fun i=>E9 cov i||(decide (i<n)&&(E9 (F6 g [c]) i&&decide ((i:Int)≠c)))
def T4(g:Graph):List Int->List Bool->List Bool
 | [],cov=>cov
 | c::r,cov=>T4 g r (J5 g cov c g.length)
def l7(g:Graph)(l:List Int):List Int:=l.filter fun i=>!E9 (T4 g l (List.replicate g.length false)) i.toNat
def f0(g:Graph)(a b:Nat):List Int:=l7 g (L8 g a b g.length)
theorem V7(g:Graph)(cov:List Bool)(c:Int)(n:Nat):(J5 g cov c n).length=cov.length:=by unfold J5;rw[VW,WI]
theorem rG(g:Graph)(cov:List Bool)(c:Int):J5 g cov c 0=cov:=by
 refine DP (V7 g cov c 0) fun x=>?_;unfold J5 E9;rw[WK];by_cases h:x<cov.length
 ·rw[VA (by rw[WI];exact h),List.getElem_range];simp[E9]
 ·rw[VS (by rw[WI];omega),VS (by omega)];rfl
theorem rH{g:Graph}{a:List Bool}{c:Int}{n x:Nat}(h:x<a.length):(J5 g a c n)[x]?=some (E9 a x||(decide (x<n)&&(E9 (F6 g [c]) x&&decide ((x:Int)≠c)))):=by
 unfold J5;rw[WK,VA (by rw[WI];exact h),List.getElem_range];rfl
theorem rI{g:Graph}{cov:List Bool}{c:Int}{n:Nat}(h:n<cov.length):(J5 g cov c n).set n (E9 (J5 g cov c n) n||(E9 (F6 g [c]) n&&decide ((n:Int)≠c)))=J5 g cov c (n+1):=by
 refine DP (by rw[VY,V7,V7]) fun x=>?_;have j:E9 (J5 g cov c n) n=E9 cov n:=by
  have:=rH (g:=g) (c:=c) (n:=n) h;unfold E9 at this ⊢;rw[this];simp
 rw[j];by_cases d:x<cov.length
 ·have i:E9 (J5 g cov c (n+1)) x=(E9 cov x||(decide (x<n+1)&&(E9 (F6 g [c]) x&&decide ((x:Int)≠c)))):=by
   have:=rH (g:=g) (c:=c) (n:=n+1) d;rw[show E9 (J5 g cov c (n+1)) x=((J5 g cov c (n+1))[x]?).getD false from rfl,this];rfl
  have f:E9 (J5 g cov c n) x=(E9 cov x||(decide (x<n)&&(E9 (F6 g [c]) x&&decide ((x:Int)≠c)))):=by
   have:=rH (g:=g) (c:=c) (n:=n) d;rw[show E9 (J5 g cov c n) x=((J5 g cov c n)[x]?).getD false from rfl,this];rfl
  rw[i];by_cases a:n=x
  ·subst a;unfold E9;rw[WX (by rw[V7];exact h)];rw[show decide (n<n+1)=true by simp,Bool.true_and];rfl
  ·rw[show E9 ((J5 g cov c n).set n (E9 cov n||(E9 (F6 g [c]) n&&decide ((n:Int)≠c)))) x=E9 (J5 g cov c n) x by unfold E9;rw[List.getElem?_set_ne a],f];by_cases b:x<n
   ·rw[A2 b,A2 (show x<n+1 by omega)]
   ·rw[A3 b,A3 (show ¬x<n+1 by omega)]
 ·unfold E9;rw[VS (by rw[VY,V7];omega),VS (by rw[V7];omega)]
structure AG (A:Auto):Prop where
 len:1<=A.States.length/\A.States.length<=8000
 start:0<=A.Start/\A.Start<A.States.length
 good:∀q∈A.States,uJ A.States.length q=true
theorem AG.check{A:Auto}(h:AG A):LM A=0:=by
 obtain⟨a,b⟩:=h.len;obtain⟨c,d⟩:=h.start;unfold LM;rw[A5 (by omega),A4 (List.all_eq_true.2 h.good)]
structure MG (A:Auto) (m:Mach):Prop where
 sl:m.2.length=A.States.length
 cnt:m.1.length+m.2.count false<=A.States.length
 st:∀t∈m.1,0<=t.state/\t.state<A.States.length
theorem count_set{sn:List Bool}:∀{i:Nat},sn[i]?=some false->(sn.set i true).count false+1=sn.count false:=by
 induction sn with
 | nil=>intro i h;cases h
 | cons b r a =>
  intro i h;cases i with
  | zero =>
   rw[List.getElem?_cons_zero]at h;cases h;simp
  | succ i =>
   rw[List.getElem?_cons_succ]at h;have:=a h;rw[List.set_cons_succ,List.count_cons,List.count_cons];omega
theorem MG.first(A:Auto):MG A ([],List.replicate A.States.length false):=⟨by simp,by simp,fun _ h=>by cases h⟩
theorem QD{sn:List Bool}{i:Nat}(h:i<sn.length):sn[i]?=some (E9 sn i):=by
 unfold E9;rw[VA h];rfl
theorem MG.push{A:Auto}{m:Mach}(h:MG A m){i:Int}(c:0<=i/\i<A.States.length)(fr:Int)(d:E9 m.2 i.toNat=false):MG A (m.1++[⟨i,fr⟩],m.2.set i.toNat true):=by
 have b:=h.sl;have e:=count_set (sn:=m.2) (i:=i.toNat) (by rw[<-d];exact QD (by omega));have f:=h.cnt;refine⟨by dsimp only;rw[VY];exact b,by dsimp only;rw[VF,List.length_singleton];omega,fun t a=>?_⟩;rcases VG.1 a with a | a
 ·exact h.st t a
 ·rw[List.mem_singleton.1 a];exact c
section
variable (A:Auto) (s:Str)
variable {A}
theorem AJ(fr:Int):∀a:List Thread,(AI fr a).length<=a.length/\∀t∈AI fr a,t∈a
 | []=>⟨Nat.le_refl _,fun _ h=>h⟩
 | t::r=>by
  have c:=AJ fr r;unfold AI;split
  ·exact⟨Nat.zero_le _,fun _ h=>by cases h⟩
  ·refine⟨by rw[VD,VD];omega,fun x b=>?_⟩;rcases VH.1 b with rfl | b
   ·simp
   ·exact List.mem_cons_of_mem _ (c.2 x b)
theorem MG.keep{m:Mach}(h:MG A m)(fr:Int):MG A (AI fr m.1,m.2):=by
 have a:=AJ fr m.1;have c:=h.cnt;exact⟨h.sl,by dsimp only;omega,fun t b=>h.st t (a.2 t b)⟩
end
section
variable (A:Auto) (s:Str)
abbrev LO(p:Nat)(k:Int):List Int:=FH (gA A k) (decide (p=0)) (decide (p=s.length))
def reads(p:Nat)(k:Int):Prop:=(gA A k).Kind=0/\LN (gA A k).Set (s.getD p 0).toNat=1
inductive Run:Int->Nat->Prop
 | start {i:Nat} (hi:i<=s.length):Run A.Start i
 | eps {k j:Int} {p:Nat} (h:Run k p) (hj:j∈LO A s p k):Run j p
 | read {k:Int} {p:Nat} (h:Run k p) (hp:p<s.length) (hr:reads A s p k):Run (gA A k).Next (p+1)
abbrev TR(k:Int):Prop:=0<=k/\k<A.States.length
variable {A s}
variable (A s)
def OL(m:Mach)(k:Int):Prop:=TR A k/\E9 m.2 k.toNat=true
structure Sy (p:Nat) (m:Mach):Prop where
 mg:MG A m
 fr:∀t∈m.1,0<=t.from_
 sync:∀k,OL A m k↔∃t∈m.1,t.state=k
variable {A s}
theorem IE{a:List Bool}{i c:Nat}(b:i<a.length):E9 (a.set i true) c=(E9 a c||decide (i=c)):=by
 unfold E9;rw[WZ];by_cases e:i=c
 ·subst e;rw[A4 rfl,A4 b];simp
 ·rw[A5 e];simp[e]
theorem LP{m:Mach}(d:MG A m){i:Int}(c:TR A i){fr:Int}(k:Int):OL A (m.1++[⟨i,fr⟩],m.2.set i.toNat true) k↔OL A m k\/k=i:=by
 unfold OL;rw[IE (by rw[d.sl];have:=c.2;have:=c.1;omega),VU,decide_eq_true_eq];constructor
 ·rintro⟨a,b | b⟩
  ·exact .inl ⟨a,b⟩
  ·right;have:=c.1;have:=a.1;omega
 ·rintro (⟨a,b⟩ | rfl)
  ·exact⟨a,.inl b⟩
  ·exact⟨c,.inr rfl⟩
theorem Sy.push{p:Nat}{m:Mach}(h:Sy A p m){i:Int}(c:TR A i){fr:Int}(b:0<=fr)(d:E9 m.2 i.toNat=false):Sy A p (m.1++[⟨i,fr⟩],m.2.set i.toNat true) where
 mg:=h.mg.push c fr d
 fr:=fun t a=>by
  rcases VG.1 a with a | a
  ·exact h.fr t a
  ·rw[List.mem_singleton.1 a];exact b
 sync:=fun k=>by
  rw[LP h.mg c,h.sync k];constructor
  ·rintro (⟨t,a,e⟩ | rfl)
   ·exact⟨t,List.mem_append_left _ a,e⟩
   ·exact⟨⟨k,fr⟩,by simp,rfl⟩
  ·rintro⟨t,a,e⟩;rcases VG.1 a with a | a
   ·exact .inl ⟨t,a,e⟩
   ·right;rw[<-e,List.mem_singleton.1 a]
def Shut(A:Auto)(s:Str)(p:Nat)(m:Mach):Prop:=∀k,OL A m k->∀j∈LO A s p k,OL A m j
theorem Sy.first(A:Auto)(p:Nat):Sy A p ([],List.replicate A.States.length false) where
 mg:=MG.first A
 fr:=fun _ h=>by cases h
 sync:=fun k=>by
  constructor
  ·rintro⟨b,a⟩;unfold E9 at a;rw[List.getElem?_replicate]at a;split at a<;>cases a
  ·rintro⟨_,h,_⟩;cases h
structure NI (A:Auto) (s:Str) (a:Nat) (m:Mach):Prop where
 sy:Sy A a m
 shut:Shut A s a m
 sound:∀k,OL A m k->Run A s k a
 all:∀p k,p+1=a->Run A s k p->reads A s p k->OL A m (gA A k).Next
 no:∀p k,p<a->Run A s k p->(gA A k).Kind≠4
end
def LQ(s:Str)(i:Nat):Option (Int×Nat):=(kU (s.drop i)).map fun p=>((p.1:Int),i+p.2)
theorem digs_le(s:Str):(M8 s).length<=s.length:=(List.takeWhile_sublist _).length_le
def TY(l:List Node):Prop:=∀(i:Nat) (n:Node),l[i]?=some n->SK n i=true
section
variable (s:Str)
abbrev QE(st:PSt)(k:Int):Prop:=0<=k/\k<st.nodes.length
structure Gr (a b:Nat) (st st':PSt):Prop where
 at_:st.at_<=st'.at_
 len:st'.at_<=s.length
 dep:st'.depth=st.depth
 cnt:st'.nodes.length+st.at_+a<=st.nodes.length+st'.at_+b
 more:st.nodes.length<=st'.nodes.length
 ok:TY st.nodes->TY st'.nodes
variable {s}
theorem Gr.trans{a b c d:Nat}{x y z:PSt}(h:Gr s a b x y)(g:Gr s c d y z):Gr s (a+c) (b+d) x z where
 at_:=Nat.le_trans h.at_ g.at_
 len:=g.len
 dep:=g.dep.trans h.dep
 cnt:=by have:=h.cnt;have:=g.cnt;omega
 more:=Nat.le_trans h.more g.more
 ok:=fun k=>g.ok (h.ok k)
theorem Gr.le{a b c d:Nat}{x y:PSt}(h:Gr s a b x y)(e:c+b<=a+d):Gr s c d x y where
 at_:=h.at_
 len:=h.len
 dep:=h.dep
 cnt:=by have:=h.cnt;omega
 more:=h.more
 ok:=h.ok
theorem Gr.refl{x:PSt}(h:x.at_<=s.length):Gr s 0 0 x x:=⟨Nat.le_refl _,h,rfl,by omega,Nat.le_refl _,fun h=>h⟩
structure GrAll (f:Nat):Prop where
 pat:∀{x y:PSt} {n:Int},x.at_<=s.length->SJ s LQ f x=.ok (y,n)->Gr s 0 2 x y/\QE y n
 loop:∀{x y:PSt} {kids:List Int} {n:Int},x.at_<=s.length->(∀k∈kids,QE x k)->wP s LQ f x kids=.ok (y,n)->Gr s 0 1 x y/\QE y n
 alt:∀{x y:PSt} {kids:List Int} {n:Int},x.at_<=s.length->(∀k∈kids,QE x k)->NQ s LQ f x kids=.ok (y,n)->Gr s 0 1 x y/\QE y n
 piece:∀{x y:PSt} {c:UInt8} {n:Int},s[x.at_]?=some c->LK s LQ f x c=.ok (y,n)->Gr s 0 0 x y/\QE y n
 paren:∀{x y:PSt} {n:Int},x.at_+1<=s.length->LL s LQ f x=.ok (y,n)->Gr s 0 0 x y/\QE y n
end
abbrev Lng:=Nat->Nat->Prop
section
variable (A:Auto) (s:Str)
def SO:Nat->Int->Nat->Prop
 | 0,k,p=>(gA A k).Kind=4/\p<=s.length
 | n+1,k,p=>(∃j∈LO A s p k,SO n j p)\/(p<s.length/\reads A s p k/\SO n (gA A k).Next (p+1))
def Ac(k:Int)(p:Nat):Prop:=∃n,SO A s n k p
def Leads(q next:Int)(R:Lng):Prop:=(∀n i,SO A s n q i->∃m j,m<=n/\R i j/\SO A s m next j)/\(∀i j,R i j->Ac A s next j->Ac A s q i)
variable {A s}
theorem Leads.congr{q next:Int}{R S:Lng}(h:Leads A s q next R)(a:∀i j,R i j↔S i j):Leads A s q next S :=
 ⟨fun n i ha=>let ⟨m,j,b,c,d⟩:=h.1 n i ha;⟨m,j,b,(a i j).1 c,d⟩,fun i j e ha=>h.2 i j ((a i j).2 e) ha⟩
theorem Leads.trans{q r t:Int}{R S:Lng}(h:Leads A s q r R)(g:Leads A s r t S):Leads A s q t (fun i j=>∃p,R i p/\S p j) :=
 ⟨fun n i ha=>let ⟨m,p,d,b,e⟩:=h.1 n i ha;let ⟨f,j,g1,a,c⟩:=g.1 m p e;⟨f,j,Nat.le_trans g1 d,⟨p,b,a⟩,c⟩,
  fun i j ⟨p,b,a⟩ ha=>h.2 i p b (g.2 p j a ha)⟩
end
variable {L:List Node}{s:Str}
def LR(T:List (List Bool))(i j:Nat):Bool:=((T[i]?).getD [])[j]?.getD false
structure Tab (s:Str) (T:List (List Bool)) (R:Lng):Prop where
 len:T.length=s.length+1
 row:∀r∈T,r.length=s.length+1
 is:∀i j,i<=s.length->j<=s.length->(LR T i j=true↔R i j)
theorem Tab.congr{T:List (List Bool)}{R S:Lng}(h:Tab s T R)(d:∀i j,i<=s.length->j<=s.length->(R i j↔S i j)):Tab s T S:=⟨h.len,h.row,fun i j b c=>(h.is i j b c).trans (d i j b c)⟩
variable {n:Node}{D:Int->Lng}
theorem Tab.cell{T:List (List Bool)}{R:Lng}(h:Tab s T R){i:Nat}(b:i<=s.length):∃a,T[i]?=some a/\a.length=s.length+1/\∀j,j<=s.length->a[j]?=some (LR T i j):=by
 have d:=h.len;refine⟨T[i],VA (by omega),h.row _ (VE _),fun j c=>?_⟩;have e:=h.row T[i] (VE _);unfold LR;rw[VA (show i<T.length by omega)];dsimp only[Option.getD_some];rw[VA (by omega)];rfl
end Go.AL
namespace Go.AL
open Go Go.RowKit
set_option linter.unusedVariables false
variable {P:Program}{dst:Option Tmp}{ty:TypeId}{pos:String}{af:Array Edge}{gd:Option (Nat×Bool)}{fr:Fr}{ob:Obs}{nt:Nat}
theorem AK{x C:Operand}{t e:TypeId}{b f k:Nat}{α:Type}{c:α->Nat->Cell}{d:List α}{B:IntKind}{i:Int}[ht:TySl P t e f b](I:opv fr x=some (.s (.one (.mut k))))(E:C5 ob k=some (.grow e α f c d))
  (z:opv fr C=some (H6 (.int B i))) (D:0<=i) (K:i<d.length) :
  Neu P ⟨dst,.slice t x (some C) none none,ty,pos,af,gd⟩ fr ob (fun J=>J=.s (.one (.msl k f i.toNat (d.length-i.toNat)))) :=
 E3 fun S G a w h=>by
  obtain⟨A,_⟩:=F9 h I;obtain⟨L,p,j,H⟩:=h.obs k _ E;rcases p.2 with ⟨y,F⟩ | ⟨g,cap,cur,y,hbg,hgh,hnc,hcm,hcs,htake⟩
  ·omega
  rw[y]at A;refine⟨sliced (some ⟨g,0,none⟩) i.toNat d.length cap f,?_,g,d.length,cap,cap-i.toNat,if cap=i.toNat then 0 else i.toNat*f,y,by omega,?_,by omega,j,?_⟩
  ·simp only[execOp,A,F2 h z,Option.map_some,Option.map_none];refine J3 ?_;obtain⟨q,v⟩:=ht.elem;simp only[Instr.sliceAt,Sem.run_bind,run_underlying ht.out.1,Result.andThen_ok];rw[run_slice_l w t (some ⟨g,0,none⟩) d.length cap q B i D (by omega),v,I1 ht.size];rfl
  ·unfold sliced;split<;>simp[*,Addr.add_lit]
  ·right;rw[A5 (by omega)]
theorem IF{x:Operand}{t e:TypeId}{C k i n:Nat}{α:Type}{c:α->Nat->Cell}{B:List α}{z:Value}(H:α)[ht:TySl P t e 1 C][hz:TyZero P e z](hx:opv fr x=some (.s (.one (.msl k 1 i n))))(hk:C5 ob k=some (.grow e α 1 c B))
  (hn:0<n) (hl:i+n=B.length) (N:z.oneCell'=true) (ae:∀rd:Rd,(c H 0).rep rd z) :
  Eff P ⟨none,.call ⟨.builtin .clear,#[x],#[t]⟩,ty,pos,af,gd⟩ fr ob fr ((k,.grow e α 1 c (B.take i++List.replicate n H))::ob):=by
 intro S G a w h;obtain⟨b,m,K,ai,d,T,hm,hu,aj,al,W⟩:=F9 h hx;have W:d=i:=by have:=W.resolve_left (by omega);omega
 subst W;obtain⟨vs,q,I,hc⟩:=h.obs k _ hk;rcases q.2 with ⟨ak,h2⟩ | ⟨b',cap2,cur,hg',hB,hh,hcap,hmax,hcs,htake⟩
 ·omega
 rw[T]at hg';cases hg';have ac:=q.1;rw[Nat.mul_one]at ac hcs htake;have ah:z.cells=#[z]:=by cases z<;>first | rfl | simp[Value.oneCell']at N
 have ag:(Builtin.zeroCells z.cells n).toList=List.replicate n z:=by
  rw[ah];simp[Builtin.zeroCells];apply List.ext_getElem
  ·simp
  ·intro i N h2;simp[Nat.mod_one]
 have F:=run_storeCells_at P b d e (List.replicate n z) 0 cur w hh (by simp;omega) (by intro v hv;rw[List.eq_of_mem_replicate hv];exact N);simp only[Nat.add_zero,VX]at F;obtain⟨X,O⟩:∃X,X=(cur.toList.take d++List.replicate n z++cur.toList.drop (d+n)).toArray:=⟨_,rfl⟩
 rw[<-O]at F;have he:(execOp a.eval ⟨none,.call ⟨.builtin .clear,#[x],#[t]⟩,ty,pos,af,gd⟩).run P w=.ok (.value (.tuple #[])) (w.setRow b X):=by
  obtain⟨m',rfl⟩:∃m',n=m'+1:=⟨n-1,by omega⟩
  simp[execOp,resolve,invoke,builtin,hu,Builtin.clear_,run_underlying ht.out.1,J4 hz.out.1,ag,F]
 unfold Does;rw[he];have D:blk (G k)=some b:=by rw[T];rfl
 have E:=setRow_heap w b cur X e (0,0) hh;refine⟨G,h.write hk D (fun i=>⟨D,trivial⟩) (fun i=>⟨D,trivial⟩) rfl rfl rfl (by simp) (fun j _ U=>setRow_other w b j X U) ?_⟩;intro rd Z;have ad:vs.take d=cur.toList.take d:=by rw[<-htake,List.take_take,Nat.min_eq_left (by omega)]
 have R:(cur.toList.take d).length=d:=by simp;omega
 have Q:X.toList.take (d+n)=vs.take d++List.replicate n z:=by
  rw[O,List.toList_toArray,ad];exact List.take_left' (by rw[VF,R,VX])
 have f:(B.take d++List.replicate n H).length=B.length:=by simp;omega
 refine⟨vs.take d++List.replicate n z,⟨by rw[f];simp;omega,.inr ⟨b,K,X,by rw[T,f],hB,E,by omega,hmax,by rw[O];simp;omega,by rw[f,Nat.mul_one,<-hl];exact Q⟩⟩,by rw[f];exact I,?_⟩;intro p hp j U;have V:j=0:=by omega
 subst V;rw[f]at hp;rw[Nat.mul_one,Nat.add_zero];by_cases Y:p<d
 ·obtain⟨u,J,ab⟩:=hc p hp 0 U;rw[Nat.mul_one,Nat.add_zero]at J;refine⟨u,?_,?_⟩
  ·rw[VP (by simp;omega),WH Y];exact J
  ·have M:(B.take d++List.replicate n H)[p]'(by omega)=B[p]:=by
    rw[WS (by simp;omega),List.getElem_take]
   rw[M];exact Cell.rep_mono Z _ _ ab
 ·refine⟨z,?_,?_⟩
  ·rw[VO (by simp;omega),List.getElem?_replicate,A4 (by simp;omega)]
  ·have M:(B.take d++List.replicate n H)[p]'(by omega)=H:=by
    rw[WQ (by simp;omega),List.getElem_replicate]
   rw[M];exact ae rd
def N3(a:Int->Bool)(l:List Int)(j:Nat):List Int:=(l.take j).filter fun x=>!a x
structure DelI (hit:Int->Bool) (l:List Int) (j:Nat) (L:List Int):Prop where
 len:L.length=l.length
 hd:L.take (N3 hit l j).length=N3 hit l j
 tl:L.drop j=l.drop j
 lt:(N3 hit l j).length<j
 le:j<=l.length
theorem LU{a:Int->Bool}{l:List Int}{i:Nat}(h:∀j,j<i->∀x,l[j]?=some x->a x=false):N3 a l i=l.take i:=by
 unfold N3;rw[List.filter_eq_self];intro x d;obtain⟨j,b⟩:=List.mem_iff_getElem?.1 d;rw[List.getElem?_take]at b;split at b
 ·rename_i c;rw[h j c x b];rfl
 ·cases b
theorem mG{a:Int->Bool}{l:List Int}{j:Nat}{x:Int}(h:l[j]?=some x):N3 a l (j+1)=if a x=true then N3 a l j else N3 a l j++[x]:=by
 unfold N3;rw[List.take_add_one,h,Option.toList_some,WW];cases b:a x<;>simp[b]
theorem DelI.start{a:Int->Bool}{l:List Int}{i:Nat}{x:Int}(c:l[i]?=some x)(f:a x=true)(h:∀j,j<i->∀x,l[j]?=some x->a x=false):DelI a l (i+1) l/\(N3 a l (i+1)).length=i:=by
 have d:i<l.length:=(List.getElem?_eq_some_iff.1 c).1;have e:N3 a l (i+1)=l.take i:=by rw[mG c,A4 f,LU h]
 have b:(l.take i).length=i:=by rw[VM];omega
 exact⟨⟨rfl,by rw[e,b],rfl,by rw[e,b];omega,by omega⟩,by rw[e,b]⟩
theorem DelI.drop{a:Int->Bool}{l L:List Int}{j:Nat}{x:Int}(h:DelI a l j L)(b:l[j]?=some x)(d:a x=true):DelI a l (j+1) L/\N3 a l (j+1)=N3 a l j:=by
 have c:j<l.length:=(List.getElem?_eq_some_iff.1 b).1;have e:N3 a l (j+1)=N3 a l j:=by rw[mG b,A4 d]
 refine⟨⟨h.len,by rw[e];exact h.hd,?_,by rw[e];have:=h.lt;omega,by omega⟩,e⟩;rw[<-List.drop_drop,h.tl,List.drop_drop]
theorem DelI.keep{a:Int->Bool}{l L:List Int}{j:Nat}{x:Int}(h:DelI a l j L)(c:l[j]?=some x)(i:a x=false):DelI a l (j+1) (L.set (N3 a l j).length x)/\(N3 a l (j+1)).length=(N3 a l j).length+1:=by
 have d:j<l.length:=(List.getElem?_eq_some_iff.1 c).1;have e:N3 a l (j+1)=N3 a l j++[x]:=by rw[mG c,A5 (by rw[i];decide)]
 have k:=h.lt;have f:=h.len;have b:(N3 a l (j+1)).length=(N3 a l j).length+1:=by rw[e,VF];rfl
 refine⟨⟨by rw[VY];exact f,?_,?_,by rw[b];omega,by omega⟩,b⟩
 ·rw[b,List.take_add_one,List.take_set_of_le (Nat.le_refl _),h.hd,WX (by omega),e];rfl
 ·rw[List.drop_set_of_lt (by omega),<-List.drop_drop,h.tl,List.drop_drop]
theorem DelI.at_{a:Int->Bool}{l L:List Int}{j:Nat}(h:DelI a l j L):L[j]?=l[j]?:=by
 have e:=h.tl;have b:=congrArg (fun m=>m[0]?) e;simpa using b
theorem DelI.fin{a:Int->Bool}{l L:List Int}(h:DelI a l l.length L):L.take (N3 a l l.length).length=l.filter fun x=>!a x:=by
 rw[h.hd];unfold N3;rw[VJ]
end Go.AL
namespace Go.AL
open Go
abbrev names4:List Str:=[[97],[98,47,120],[98,47,121],[99,32,100]]
theorem names4_asc:names4.Pairwise (fun x y=>aY x y=true):=by decide
theorem AM:∀p∈names4,Z4 p=0/\p.length<=3:=by decide
theorem wQ:∀p∈names4,∀q∈names4,above p q=false:=by decide
def NoDig(b:Str):Prop:=∀c∈b,c.toNat<48\/57<c.toNat
theorem NoDig.app{a b:Str}(ha:NoDig a)(hb:NoDig b):NoDig (a++b):=fun c d=>(VG.1 d).elim (ha c) (hb c)
theorem NoDig.sub{a b:Str}(h:NoDig b)(e:∀c∈a,c∈b):NoDig a:=fun c d=>h c (e c d)
structure GN (L:Nat) (l:List File):Prop where
 sub:(l.map (·.Path)).Sublist names4
 cnt:∀f∈l,f.Blob.count 10<=L
 dig:∀f∈l,NoDig f.Blob
theorem GN.name{L:Nat}{l:List File}(h:GN L l):∀f∈l,f.Path∈names4:=fun _ a=>h.sub.subset (List.mem_map_of_mem a)
theorem GN.mono{L L':Nat}{l:List File}(h:GN L l)(a:L<=L'):GN L' l:=⟨h.sub,fun f b=>Nat.le_trans (h.cnt f b) a,h.dig⟩
theorem uK:∀{l:List File},qI (l.map (·.Path))->ascend l=true
 | [],_=>rfl
 | [_],_=>rfl
 | f::g::r,h=>by
  rw[VR]at h;have b:=List.pairwise_cons.1 h;unfold ascend;rw[b.1 g.Path (by simp),uK b.2];rfl
theorem GN.asc{L:Nat}{l:List File}(h:GN L l):ascend l=true:=uK (names4_asc.sublist h.sub)
theorem GN.tree{L:Nat}{l:List File}(h:GN L l)(o:L+1<=4096)(i:∀f∈l,f.Blob.length<=1048576):F5 l=0:=by
 have d:l.length<=4:=by have:=h.sub.length_le;simpa using this
 unfold F5
 rw[A5 (by omega),A5 (fun a=>by
  obtain⟨f,b,c⟩:=List.any_eq_true.1 a
  exact A0 c (AM _ (h.name f b)).1),A5 (fun a=>by
  rw[iX h.asc fun x j y k=>wQ _ (h.name x j) _ (h.name y k)]at a;cases a),A5 (fun a=>by
  obtain⟨f,b,c⟩:=List.any_eq_true.1 a;refine A0 c ?_;unfold V5;have m:=h.cnt f b;have n:=i f b;have e:=aV f.Blob;rw[A5];rintro (g | g)
  ·omega
  ·split at e<;>omega)]
theorem AN{n:Int}:∀{ps a:List Int},(∀p∈ps,0<=p/\p<n/\p∉a)->ps.Nodup->eW n a ps=true
 | [],_,_,_=>rfl
 | p::r,a,h,hn=>by
  have e:=List.nodup_cons.1 hn;unfold eW;rw[A2 (h p (by simp)),Bool.true_and];refine AN (fun q d=>?_) e.2;have c:=h q (by simp[d]);refine⟨c.1,c.2.1,fun b=>?_⟩;rcases VG.1 b with b | b
  ·exact c.2.2 b
  ·rw[List.mem_singleton.1 b]at d;exact e.1 d
def OneWay(g:Graph):Prop:=(∀c p:Nat,(p:Int)∈D4 g c->p<c)\/(∀c p:Nat,(p:Int)∈D4 g c->c<p)
theorem OneWay.acyc{g:Graph}(h:OneWay g)(c:Nat):¬Reaches g c c:=by
 rcases h with h | h
 ·have f:∀{a b:Nat},Reaches g a b->b<a:=fun {a b} e=>by
   induction e with
   | one d=>exact h _ _ d
   | more _ d i=>have:=h _ _ d;omega
  exact fun e=>Nat.lt_irrefl _ (f e)
 ·have f:∀{a b:Nat},Reaches g a b->a<b:=fun {a b} e=>by
   induction e with
   | one d=>exact h _ _ d
   | more _ d i=>have:=h _ _ d;omega
  exact fun e=>Nat.lt_irrefl _ (f e)
theorem nJ:∀{g:List Commit},(∀c∈g,F5 c.Files=0)->U7 g=0
 | [],_=>rfl
 | c::r,h=>by
  unfold U7;rw[A5 (fun a=>a (h c (by simp)))];exact nJ fun d b=>h d (by simp[b])
structure GV (g:Graph):Prop where
 len:g.length<=16
 pars:∀c∈g,c.Parents.length<=3/\(∀p∈c.Parents,0<=p/\p<(g.length:Int))/\c.Parents.Nodup/\0<=c.Date/\c.Date<=5
 way:OneWay g
 files:∀c∈g,GN 2111 c.Files/\∀f∈c.Files,f.Blob.length<=1048576
theorem GV.check{g:Graph}(h:GV g):K2 g=0:=by
 have l:related g=true:=by
  unfold related;rw[List.all_eq_true];exact fun c a=>AN (fun p k=>⟨((h.pars c a).2.1 p k).1,((h.pars c a).2.1 p k).2,by simp⟩) (h.pars c a).2.2.1
 have j:¬cyclic g=true:=fun d=>by
  obtain⟨c,a⟩:=(cZ l).1 d;exact h.way.acyc c a
 have m:=h.len;have b:d8 g=true:=by
  unfold d8;rw[A2 (by omega),Bool.true_and];cases ha:g.any fun c=>decide (c.Parents.length>32)
  ·rfl
  obtain⟨c,a,f⟩:=List.any_eq_true.1 ha;have:=A0 f;have:=(h.pars c a).1;omega
 have i:¬lB g=true:=fun d=>by
  obtain⟨c,a,f⟩:=List.any_eq_true.1 d;have:=A0 f;have:=(h.pars c a).2.2.2;omega
 unfold K2;rw[b,l,A5 (by simp),A5 (by simp),A5 j,A5 i];exact nJ fun c a=>(h.files c a).1.tree (by omega) (h.files c a).2
structure ChainA (A:Auto) (w:Str):Prop where
 ag:AG A
 start:A.Start=(w.length:Int)+2
 s0:(gA A ((w.length:Int)+2)).Kind=2/\(gA A ((w.length:Int)+2)).Next=(w.length:Int)+1
 lt:∀(j:Nat) (c:UInt8),w[j]?=some c->(gA A ((w.length:Int)+1-j)).Kind=0/\(gA A ((w.length:Int)+1-j)).Next=(w.length:Int)-j/\∀x:UInt8,LN (gA A ((w.length:Int)+1-j)).Set x.toNat=1↔x=c
 en:(gA A 1).Kind=3/\(gA A 1).Next=0
 ac:(gA A 0).Kind=4
structure Backs (want x:Str) (l:List Patch) (f:Nat->Str):Prop where
 z:f 0=want
 e:f l.length=x
 st:∀k (h:k<l.length),MA l[k].Hunks<=134217728/\(f (k+1)).length<=1048576/\EW l[k] (f (k+1))=(f k,0)
theorem Backs.snoc{a x y:Str}{l:List Patch}{f:Nat->Str}(h:Backs a x l f){p:Patch}(j:MA p.Hunks<=134217728)(i:y.length<=1048576)(ha:EW p y=(x,0)) :
  Backs a y (l++[p]) (fun k=>if k<=l.length then f k else y):=by
 refine⟨?_,?_,?_⟩
 ·rw[A4 (Nat.zero_le _)];exact h.z
 ·rw[A5 (by simp)]
 ·intro k d;have g:k<l.length+1:=by simpa using d
  by_cases b:k<l.length
  ·rw[A4 (by omega),A4 (by omega),WS b];exact h.st k b
  ·have c:k=l.length:=by omega
   subst c;rw[A5 (by omega),A4 (Nat.le_refl _),WQ (Nat.le_refl _),h.e];simp only[WN,List.getElem_cons_zero];exact⟨j,i,ha⟩
def InWay(g:Graph)(c n:Nat):Prop:=((∀c p:Nat,(p:Int)∈D4 g c->p<c)/\c+n<g.length)\/((∀c p:Nat,(p:Int)∈D4 g c->c<p)/\n<=c)
theorem InWay.init{g:Graph}(h:GV g){c:Nat}(b:c<g.length):InWay g c 0:=by
 rcases h.way with a | a
 ·exact .inl ⟨a,by omega⟩
 ·exact .inr ⟨a,by omega⟩
theorem InWay.step{g:Graph}{c n p:Nat}(h:InWay g c n)(b:(p:Int)∈D4 g c):InWay g p (n+1):=by
 rcases h with ⟨a,d⟩ | ⟨a,d⟩
 ·have:=a c p b;exact .inl ⟨a,by omega⟩
 ·have:=a c p b;exact .inr ⟨a,by omega⟩
theorem InWay.lt{g:Graph}{c n:Nat}(h:InWay g c n)(b:c<g.length):n<g.length:=by
 rcases h with ⟨_,a⟩ | ⟨_,a⟩<;>omega
structure GB (g:Graph):Prop where
 len:g.length<=16
 pars:∀c∈g,c.Parents.length<=3/\∀p∈c.Parents,0<=p/\p<(g.length:Int)
 way:OneWay g
 few:∀c∈g,∀f∈c.Files,Few f.Blob
theorem FI{g:Graph}(h:GB g){c:Nat}{d b:Str}(i:I2 (J9 g c) d=some b):Few b:=by
 obtain⟨f,a,_,rfl⟩:=x3 i;unfold J9 at a;by_cases e:c<g.length
 ·rw[VA e]at a;exact h.few _ (VE e) f a
 ·rw[VS (by omega)]at a;cases a
def wR:List Span->List Int->List Int
 | [],o=>o
 | p::r,o=>wR r (o.set p.To.toNat p.From)
theorem rJ:∀(b:List Span) (o:List Int) {j:Nat} {i:Int},(wR b o)[j]?=some i->o[j]?=some i\/∃p∈b,p.From=i/\p.To.toNat=j
 | [],_,_,_,h=>.inl h
 | p::r,o,j,i,h=>by
  rw[wR]at h;rcases rJ r _ h with a | ⟨q,hq,a⟩
  ·rw[WZ]at a;split at a
   ·rename_i e;split at a
    ·cases a;exact .inr ⟨p,by simp,rfl,e⟩
    ·cases a
   ·exact .inl a
  ·exact .inr ⟨q,by simp[hq],a⟩
def DR(x y:List Str):List Int:=wR (tQ (kO x y) x.length) (List.replicate y.length (-1))
theorem NR{x y:List Str}(f:x.length<=4096)(g:y.length<=4096){j:Nat}{i:Int}(h:(DR x y)[j]?=some i):i = -1\/0<=i/\∃v,x[i.toNat]?=some v/\y[j]?=some v:=by
 rcases rJ _ _ h with b | ⟨p,hp,rfl,rfl⟩
 ·obtain⟨_,c⟩:=List.getElem?_eq_some_iff.1 b;rw[List.getElem_replicate]at c;exact .inl c.symm
 ·obtain⟨b,c,v,d,e⟩:=(DH x y f g).pairs p hp;exact .inr ⟨b,v,d,e⟩
def AO(g:Graph)(a:Str)(b:Str):List Int->List (Int×List Int)
 | []=>[]
 | p::r=>match I2 (J9 g p.toNat) a with
  | some old=>(p,DR (G4 old) (G4 b))::AO g a b r
  | none=>AO g a b r
def QF(g:Graph)(a:Str)(c:Nat):List (Int×List Int):=AO g a (t6 (J9 g c) a) (D4 g c)
theorem wS{g:Graph}{a b:Str}:∀{l:List Int} {s:Int×List Int},s∈AO g a b l->s.1∈l/\∃old,I2 (J9 g s.1.toNat) a=some old/\s.2=DR (G4 old) (G4 b)
 | [],_,h=>by cases h
 | p::r,s,h=>by
  rw[AO]at h;cases e:I2 (J9 g p.toNat) a with
  | none =>
   rw[e]at h;obtain⟨c,d⟩:=wS (l:=r) h;exact⟨by simp[c],d⟩
  | some old =>
   rw[e]at h;rcases VH.1 h with rfl | h
   ·exact⟨by simp,old,e,rfl⟩
   ·obtain⟨c,d⟩:=wS (l:=r) h;exact⟨by simp[c],d⟩
def wT:List (Int×List Int)->Nat->Option (Int×Int)
 | [],_=>none
 | s::r,i=>match s.2[i]? with
  | some v=>if 0<=v then some (s.1,v) else wT r i
  | none=>none
theorem AP:∀{l:List (Int×List Int)} {i:Nat} {b:Int×Int},wT l i=some b->∃s∈l,s.1=b.1/\s.2[i]?=some b.2/\0<=b.2
 | [],_,_,h=>by cases h
 | s::r,i,b,h=>by
  rw[wT]at h;cases a:s.2[i]? with
  | none=>rw[a]at h;cases h
  | some v =>
   rw[a]at h;dsimp only at h;split at h
   ·cases h;exact⟨s,by simp,rfl,a,by assumption⟩
   ·obtain⟨t,d,c⟩:=AP h;exact⟨t,by simp[d],c⟩
def DT(g:Graph)(b:Str)(a:Int×Int):Option (Int×Int):=wT (QF g b a.1.toNat) a.2.toNat
def wU(g:Graph)(c:Str):Nat->Int×Int->Int×Int
 | 0,a=>a
 | n+1,a=>match DT g c a with
  | none=>a
  | some b=>wU g c n b
structure LineAt (g:Graph) (path v:Str) (a:Int×Int):Prop where
 c:0<=a.1/\a.1<(g.length:Int)
 i:0<=a.2
 b:∃b,I2 (J9 g a.1.toNat) path=some b/\(G4 b)[a.2.toNat]?=some v
theorem LineAt.step{g:Graph}(i:GB g){d v:Str}{a b:Int×Int}(h:LineAt g d v a)(x:DT g d a=some b):LineAt g d v b/\b.1∈D4 g a.1.toNat:=by
 obtain⟨s,t,o,k,p⟩:=AP x;obtain⟨e,old,f,q⟩:=wS t;obtain⟨j,l,r⟩:=h.b;rw[o]at e f;rw[q,show t6 (J9 g a.1.toNat) d=j by unfold t6;rw[l];rfl]at k;have n:a.1.toNat<g.length:=by have:=h.c;omega
 have u:=(i.pars _ (VE n)).2 b.1 (by rw[<-U6 n];exact e);refine⟨⟨u,p,old,f,?_⟩,e⟩;rcases NR (FI i f).2 (FI i l).2 k with m | ⟨_,w,m,h10⟩
 ·omega
 ·rw[r]at h10;cases h10;exact m
theorem LineAt.origin{g:Graph}(d:GB g){c v:Str}:∀(n:Nat) {a:Int×Int},LineAt g c v a->LineAt g c v (wU g c n a)
 | 0,_,h=>h
 | n+1,a,h=>by
  rw[wU];cases e:DT g c a with
  | none=>exact h
  | some b=>exact LineAt.origin d n (h.step d e).1
def lF(g:Graph)(inn:List Bool)(L:List Int):Prop:=∀(i:Nat) (x:Int),L[i]?=some x->∀k:Nat,k<g.length->E9 inn k=true->x∈D4 g k->(k:Int)∈L.take i
theorem AQ{g:Graph}{inn:List Bool}{L:List Int}(h:0<=Z7 g inn L):∃b:Nat,b<g.length/\Z7 g inn L=b/\V0 g inn L b=true:=by
 rcases u5 g inn L g.length with a | ⟨b,a,h2,h3,_⟩
 ·have:Z7 g inn L = -1:=a.1;omega
 ·exact⟨b,a,h2,h3⟩
theorem LV{g:Graph}{inn:List Bool}{L:List Int}(h:lF g inn L){b:Nat}(hb:V0 g inn L b=true):lF g inn (L++[(b:Int)]):=by
 intro i x a k f c j;rcases Nat.lt_trichotomy i L.length with d | d | d
 ·rw[VP d]at a;have:=h i x a k f c j;rw[List.take_append_of_le_length (by omega)];exact this
 ·subst d;rw[List.getElem?_concat_length]at a;cases a;rw[List.take_append_of_le_length (Nat.le_refl _),VJ];unfold V0 at hb;rw[VB,List.all_eq_true]at hb;have e:=hb.2 k (VL.2 f);rw[A2 j,c,Bool.true_and,Bool.true_and]at e;simpa using e
 ·rw[VS (by rw[VF,List.length_singleton];omega)]at a;cases a
theorem uL{g:Graph}{inn:List Bool}:∀(f:Nat) (L:List Int),lF g inn L->lF g inn (dA g inn f L)
 | 0,_,h=>h
 | f+1,L,h=>by
  rw[dA];split
  ·exact h
  ·obtain⟨b,_,a,c⟩:=AQ (g:=g) (inn:=inn) (L:=L) (by omega);rw[a];exact uL f _ (LV h c)
theorem DU(g:Graph)(s:List Int):lF g (F6 g s) (O2 g s):=uL _ [] fun i x a=>by simp at a
theorem uM{g:Graph}{inn:List Bool}:∀(f:Nat) (L:List Int),L.Nodup->(∀x∈L,0<=x/\x<g.length)->g.length<L.length+f->Z7 g inn (dA g inn f L)<0
 | 0,L,h,h2,hf=>by
  have:=U5 h h2;omega
 | f+1,L,h,h2,hf=>by
  rw[dA];split
  ·assumption
  ·rename_i hb;obtain⟨b,j,c,_,d⟩:=mD (g:=g) (inn:=inn) (L:=L) (by omega);rw[c];refine uM f _ (List.nodup_append.2 ⟨h,by simp,fun x a y i e=>by rw[List.mem_singleton.1 i]at e;exact d (e ▸ a)⟩) (fun x a=>?_) (by rw[VF,List.length_singleton];omega);rcases VG.1 a with a | a
   ·exact h2 x a
   ·rw[List.mem_singleton.1 a];omega
theorem uN{g:Graph}(q:∀c,¬Reaches g c c)(s:List Int){x:Nat}(D:x<g.length)(u:E9 (F6 g s) x=true):(x:Int)∈O2 g s:=by
 apply Classical.byContradiction;intro C;have w:Z7 g (F6 g s) (O2 g s)<0:=uM _ [] List.nodup_nil (fun _ h=>by cases h) (by simp);obtain⟨M,z⟩:∃M,M=(List.range g.length).filter fun i=>E9 (F6 g s) i&&decide ((i:Int)∉O2 g s):=⟨_,rfl⟩
 have a:∀i,i∈M↔i<g.length/\E9 (F6 g s) i=true/\(i:Int)∉O2 g s:=fun i=>by
  rw[z,List.mem_filter,VL,VB,decide_eq_true_eq]
 have v:x∈M:=(a x).2 ⟨D,u,C⟩;obtain⟨m,B,j⟩:=minimal (R:=Reaches g) (fun _ _ _ d p=>d.trans p) q (List.ne_nil_of_mem v);obtain⟨m1,E,F⟩:=(a m).1 B;have y:V0 g (F6 g s) (O2 g s) m=true:=by
  unfold V0;rw[E,A2 F,Bool.true_and,Bool.true_and,List.all_eq_true];intro k A;cases d:decide ((m:Int)∈D4 g k)&&E9 (F6 g s) k&&decide ((k:Int)∉O2 g s) with
  | false=>rfl
  | true =>
   rw[VB,VB,decide_eq_true_eq,decide_eq_true_eq]at d;exact absurd (.one d.1.1) (j k ((a k).2 ⟨VL.1 A,d.1.2,d.2⟩))
 rcases u5 g (F6 g s) (O2 g s) g.length with d | ⟨b,d,p,_⟩
 ·rw[d.2 m m1]at y;cases y
 ·have G:Z7 g (F6 g s) (O2 g s)=b:=p;omega
def Topo(g:Graph):List Int->Prop
 | []=>True
 | d::r=>(∀p∈D4 g d.toNat,p∈r)/\Topo g r
theorem NS{g:Graph}{L:List Int}(e:L.Nodup)(a:∀d∈L,∀p∈D4 g d.toNat,p∈L/\∀i,L[i]?=some p->d∈L.take i):∀(n:Nat),Topo g (L.drop n):=by
 have f:∀(k n:Nat),L.length-n=k->Topo g (L.drop n):=by
  intro k;induction k with
  | zero =>
   intro n w;rw[List.drop_of_length_le (by omega)];trivial
  | succ k y =>
   intro n w;have b:n<L.length:=by omega
   rw[VN b];refine⟨fun p x=>?_,y (n+1) (by omega)⟩;obtain⟨m,o⟩:=a L[n] (VE b) p x;obtain⟨j,c⟩:=List.mem_iff_getElem?.1 m;have q:=o j c;obtain⟨i,l,h⟩:=List.mem_iff_getElem.1 q;rw[List.getElem_take]at h;have s:i<j:=by rw[VM]at l;omega
   have r:i<L.length:=by rw[VM]at l;omega
   have t:i=n:=(List.getElem_inj e).1 h;obtain⟨v,u⟩:=List.getElem?_eq_some_iff.1 c;rw[List.mem_iff_getElem?];exact⟨j-(n+1),by rw[WD,show n+1+(j-(n+1))=j by omega];exact c⟩
 exact fun n=>f _ n rfl
theorem DV{g:Graph}(E:related g=true)(u:∀c,¬Reaches g c c){s:Nat}(K:s<g.length):Topo g (O2 g [(s:Int)])/\(s:Int)∈O2 g [(s:Int)]:=by
 have j:=fun x=>u0 E (s:=[(s:Int)]) (fun f w=>by rw[List.mem_singleton.1 w];omega) x;have J:=DU g [(s:Int)];obtain⟨z,C⟩:=aC g [(s:Int)];have y:∀{d:Nat},(d:Int)∈O2 g [(s:Int)]->E9 (F6 g [(s:Int)]) d=true:=by
  have D:∀(f:Nat) (L:List Int),(∀d:Nat,(d:Int)∈L->E9 (F6 g [(s:Int)]) d=true)->∀d:Nat,(d:Int)∈dA g (F6 g [(s:Int)]) f L->E9 (F6 g [(s:Int)]) d=true:=by
   intro f;induction f with
   | zero=>exact fun L h=>h
   | succ f M =>
    intro L h;rw[dA];split
    ·exact h
    ·obtain⟨b,_,F,G,_⟩:=mD (g:=g) (inn:=F6 g [(s:Int)]) (L:=L) (by omega);rw[F];refine M _ fun d a=>?_;rcases VG.1 a with a | a
     ·exact h d a
     ·have:d=b:=by have:=List.mem_singleton.1 a;omega
      rw[this];exact G
  exact fun {d} a=>D _ [] (fun d a=>by cases a) d a
 refine⟨?_,uN u _ K ((j s).2 ⟨s,by simp,.inl rfl⟩)⟩;have:=NS (g:=g) z (fun d a p A=>?_) 0
 ·rwa[List.drop_zero]at this
 ·have H:=C d a;have t:((d.toNat:Nat):Int)=d:=by omega
  have v:=y (d:=d.toNat) (by rw[t];exact a);have hpr:=(I3 E d.toNat).1 p A;have hpn:((p.toNat:Nat):Int)=p:=by omega
  refine⟨?_,fun i I=>?_⟩
  ·have B:E9 (F6 g [(s:Int)]) p.toNat=true:=by
    obtain⟨f,w,q⟩:=(j d.toNat).1 v;refine (j p.toNat).2 ⟨f,w,.inr ?_⟩;have k:((p.toNat:Nat):Int)∈D4 g d.toNat:=by rw[hpn];exact A
    rcases q with q | q
    ·rw[q];exact .one k
    ·exact .more q k
   have:=uN u [(s:Int)] (x:=p.toNat) (by omega) B
   rwa[hpn]at this
  ·have:=J i p I d.toNat (by omega) v A
   rwa[t]at this
structure Visit where
 Commit:Int
 Lines:Span
 deriving DecidableEq
structure LS where
 rs:List Span
 vis:List Visit
 lst:List Visit
theorem IG{a b:Int}(ha:¬(a<0\/2147483647<a))(hb:¬(b<0\/2147483647<b)):(x4 ⟨9,a,b,0,false,[]⟩).2=0:=by
 simp[x4,formsL,qV,fQ,Q5,s7,Cmd.get,Cmd.put,eV,ha,hb]
theorem NT{a:Int}(ha:¬(a<0\/2147483647<a)):(x4 ⟨1,a,0,0,false,[]⟩).2=0:=by
 simp[x4,formsL,qV,fQ,Q5,s7,Cmd.get,Cmd.put,eV,ha]
theorem NU{a:Int}{t:Str}(ha:¬(a<0\/2147483647<a)):(x4 ⟨5,a,0,0,false,t⟩).2=0:=by
 simp[x4,formsL,qV,fQ,Q5,s7,Cmd.get,Cmd.put,eV,ha]
theorem LW{g:Graph}{s:Int}(a:(Q7 g s).2=0):(S7 g s [97]).2=0/\(S7 g s [97]).1.length<=(Q7 g s).1.length:=by
 unfold S7;rw[A5 (by decide),A5 (by decide)];unfold X1;rw[A5 (by rw[a];decide)];exact⟨rfl,List.length_filter_le _ _⟩
theorem IH(g:Graph)(a b:Nat):(f0 g a b).length<=g.length:=by
 unfold f0 l7;exact Nat.le_trans (List.length_filter_le _ _) (dD g a b g.length)
theorem LX(S:Str)(a:Int):((S++[99,111,109,109,105,116,32])++c9 a)++[10]=S++(s8 [a]++[10]):=by
 unfold s8 x6 kW;simp
end Go.AL
