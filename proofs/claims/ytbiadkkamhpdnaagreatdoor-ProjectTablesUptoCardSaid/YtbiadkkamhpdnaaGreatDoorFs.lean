/- Plain facts about data; no project text. -/
import Derived.Test.YtbiadkkamhpdnaaGreatDoorD
import Derived.Lib.Strings
import Derived.Lib.Bytealg
import Derived.Lib.Join
import Derived.Lib.ItoaNum
import Derived.Test.YtbiadkkamhpdnaaGreatDoorAn
set_option linter.unusedSimpArgs false
namespace Go.AL
open Go
theorem F74 (c:UInt8):((c.toNat:Int)=10)↔c=10:=by
 constructor
 ·intro h
  have:c.toNat=10:=by omega
  exact UInt8.toNat_inj.1 (by simpa using this)
 ·rintro rfl;rfl
def H0 (cur:Str):Str→List Str
 | []=>if cur=[] then [] else [cur]
 | c::r=>if c=10 then (cur++[c])::H0 [] r else H0 (cur++[c]) r
def D5 (b:Str):List Str:=H0 [] b
theorem B61 (cur:Str) (s:Str):(H0 cur s).length≤s.length+1:=by
 induction s generalizing cur with
 | nil=>unfold H0;split<;>simp
 | cons c r ih=>unfold H0;split<;>simp<;>(have:=ih [];have:=ih (cur++[c]);omega)
theorem C31 (s:Str):(H0 [] s).length≤s.length:=by
 have key:∀(s cur:Str),cur≠[]→(H0 cur s).length≤s.length+1:=fun s cur _=>B61 cur s
 induction s with
 | nil=>simp [H0]
 | cons c r ih=>unfold H0;split<;>simp<;>(have:=B61 ([]++[c]) r;simp at this;omega)
theorem V0 (b:Str):(D5 b).length≤b.length:=C31 b
theorem X3 (cur r:Str) (c:UInt8):H0 cur (c::r)=if c=10 then (cur++[c])::H0 [] r else H0 (cur++[c]) r:=rfl
theorem D07 (cur:Str) (h:cur≠[]):H0 cur []=[cur]:=by simp [H0,h]
theorem or_pick {p q:Prop} [Decidable p] [Decidable q]:(if decide p=true then true else decide q)=decide (p∨q):=by by_cases p<;>simp [*]
theorem L5 {p q:Prop} [Decidable p] [Decidable q]:(if decide p=true then decide q else false)=decide (p∧q):=by by_cases p<;>simp [*]
theorem S9 {α:Type} (l:List (List α)) (i:Nat) (h:i < l.length):(l.take (i+1)).flatten=(l.take i).flatten++l[i]:=by
 rw [List.take_add_one,J88 h,Option.toList_some,K04];simp
theorem T7 {α:Type} (l:List (List α)) (i:Nat):(l.take i).flatten.length≤l.flatten.length:=by
 conv=>rhs;rw [←K21 i l,K04,J86]
 omega
theorem H75 (i:Nat):((i:Int)+1).toNat=i+1:=by omega
theorem F75 {α:Type} (b:List α) (f i:Nat) (hf:f≤i) (hi:i < b.length):(b.drop f).take (i - f)++[b[i]]=(b.drop f).take (i+1 - f):=by
 rw [show i+1 - f=(i - f)+1 by omega,List.take_add_one,K12,show f+(i - f)=i by omega,J88 hi]
 rfl
def ended (s:Str):Bool:=s.getLast? == some 10
theorem J40 (s:Str):ended s=(if decide (s≠[])=true then decide (((s.getLastD 0).toNat:Int)=10) else false):=by
 unfold ended
 by_cases h:s=[]
 ·simp [h]
 ·rw [List.getLast?_eq_some_getLast h,List.getLastD_eq_getLast?,List.getLast?_eq_some_getLast h]
  simp only [ne_eq,h,not_false_eq_true,decide_true,if_true,Option.getD_some,F74]
  rfl
def J6:List Str→Str→Int→Int
 | [],_,_ => -1
 | x::r,s,i=>if x=s then i else J6 r s (i+1)
theorem G20 (l:List Str) (s:Str) (k:Nat) (h:k < l.length):J6 (l.drop k) s k=if l[k]=s then (k:Int) else J6 (l.drop (k+1)) s ((k:Int)+1):=by
 rw [J92 h]
 simp [J6]
theorem G98 (l:List Str) (s:Str):∀(k:Int),0≤k→((J6 l s k < 0)↔s∉l):=by
 induction l with
 | nil=>intro k _;simp [J6]
 | cons x r ih =>
  intro k hk
  unfold J6
  by_cases h:x=s
  ·simp [h];omega
  ·have:=ih (k+1) (by omega)
   simp [h,this,Ne.symm h]
def I6 (s:Str):Bool:=s.dropLast.all (·≠10)&&s != []
def T8:List Str→Bool
 | []=>true
 | s::r=>I6 s&&(r.isEmpty||ended s)&&T8 r
def W7 (b:Str):Int:=if b.length > 1048576∨(D5 b).length > 4096 then 1 else 0
def L9 (l:List Str):Str × Int:=if T8 l=false then ([],2) else if l.flatten.length > 1048576∨l.length > 4096 then ([],1) else (l.flatten,0)
def I4 (out:List Str) (s:Str):List Str:=if s∈out then out else out++[s]
def D2 (files:List (List Str)):List Str:=files.flatten.foldl I4 []
def F0 (names:List Str) (file:List Str):List Int:=file.map (fun s=>J6 names s 0)
theorem D50 (out:List Str) (s:Str):(I4 out s).length≤out.length+1:=by unfold I4;split<;>simp
theorem A71 (l out:List Str):(l.foldl I4 out).length≤out.length+l.length:=by
 induction l generalizing out with
 | nil=>simp
 | cons s r ih=>have h1:=ih (I4 out s);have h2:=D50 out s;simp only [K23,J87];omega
theorem B92 (fs:List (List Str)):(D2 fs).length≤fs.flatten.length:=by have:=A71 fs.flatten [];simpa [D2] using this
end Go.AL
namespace Go.AL
open Go
def R4 (i j:Int):List Span→Int→Int→List Change
 | [],m,n=>if m > i∨n > j then [⟨i,m - i,j,n - j⟩] else []
 | x::r,m,n=>(if x.From > i∨x.To > j then [⟨i,x.From - i,j,x.To - j⟩] else [])++R4 (x.From+1) (x.To+1) r m n
def A10 (p:List Span) (m n:Int):List Change:=R4 0 0 p m n
theorem B00 (p:List Span) (i j m n:Int):(R4 i j p m n).length≤p.length+1:=by
 induction p generalizing i j with
 | nil=>unfold R4;split<;>simp
 | cons x r ih=>unfold R4;have:=ih (x.From+1) (x.To+1);split<;>simp<;>omega
def M5 (i j:Int) (n:Nat):List Span:=(List.range n).map fun (t:Nat)=>⟨i+(t:Int),j+(t:Int)⟩
theorem V1 (i j:Int) (n:Nat):(M5 i j n).length=n:=by simp [M5]
theorem B34 (i j:Int) (n:Nat):M5 i j (n+1)=⟨i,j⟩::M5 (i+1) (j+1) n:=by
 unfold M5
 rw [List.range_succ_eq_map,J95,K27]
 congr 1
 ·simp
 ·refine List.map_congr_left fun t _=>?_
  simp only [Function.comp,Span.mk.injEq]
  omega
def K2 (i j:Int):List Change→Int→List Span
 | [],m=>M5 i j (m - i).toNat
 | c::r,m=>M5 i j (c.Old - i).toNat++K2 (max i c.Old+c.OldLen) (j+(c.Old - i).toNat+c.NewLen) r m
def M8 (l:List Change) (m:Int):List Span:=K2 0 0 l m
def dist:List Int→List Int→Nat
 | [],b=>b.length
 | x::a,[]=>(x::a).length
 | x::a,y::b=>if x=y then dist a b else 1+min (dist a (y::b)) (dist (x::a) b)
theorem A72 (a:List Int):dist a []=a.length:=by cases a<;>simp [dist]
theorem C18 (a b:List Int):dist a b≤a.length+b.length:=by
 induction a generalizing b with
 | nil=>simp [dist]
 | cons x a iha =>
  induction b with
  | nil=>simp [dist]
  | cons y b ihb =>
   unfold dist
   split
   ·have:=iha b;simp;omega
   ·have:=iha (y::b);have:=ihb;simp only [J87] at *;omega
def H1 (i j:Int):List Int→List Int→List Span
 | [],_=>[]
 | _::_,[]=>[]
 | x::a,y::b=>if x=y then ⟨i,j⟩::H1 (i+1) (j+1) a b else if dist a (y::b)+1=dist (x::a) (y::b) then H1 (i+1) j a (y::b) else H1 i (j+1) (x::a) b
def V7 (a b:List Int):List Change:=A10 (H1 0 0 a b) a.length b.length
theorem F76 (a b:List Int) (i j:Nat) (hi:i < a.length) (hj:j < b.length) :
  dist (a.drop i) (b.drop j)=if a[i]=b[j] then dist (a.drop (i+1)) (b.drop (j+1)) else 1+min (dist (a.drop (i+1)) (b.drop j)) (dist (a.drop i) (b.drop (j+1))):=by
 rw [J92 hi,J92 hj]
 conv=>lhs;rw [dist]
theorem A33 (a b:List Int) (i j:Nat) (hi:i < a.length) (hj:j < b.length) (p q:Int) :
  H1 p q (a.drop i) (b.drop j)=if a[i]=b[j] then ⟨p,q⟩::H1 (p+1) (q+1) (a.drop (i+1)) (b.drop (j+1)) else
   if dist (a.drop (i+1)) (b.drop j)+1=dist (a.drop i) (b.drop j) then H1 (p+1) q (a.drop (i+1)) (b.drop j) else H1 p (q+1) (a.drop i) (b.drop (j+1)):=by
 rw [J92 hi,J92 hj]
 conv=>lhs;rw [H1]
theorem c7 (p q:Int) (b:List Int):H1 p q [] b=[]:=by simp [H1]
theorem n7 (p q:Int) (a:List Int):H1 p q a []=[]:=by cases a<;>simp [H1]
theorem d6 (p q:Int) (a b:List Int):(H1 p q a b).length≤a.length:=by
 induction a generalizing p q b with
 | nil=>simp [H1]
 | cons x a iha =>
  induction b generalizing p q with
  | nil=>simp [H1]
  | cons y b ihb =>
   unfold H1
   split
   ·have:=iha (p+1) (q+1) b;simp;omega
   ·split
    ·have:=iha (p+1) q (y::b);simp;omega
    ·exact ihb p (q+1)
universe u
theorem B15 {α:Type u} (n k:Nat) (f g:Nat→α) (v:α) (hv:k < n→g k=v) (h:∀q,q < n→q≠k→g q=f q):((List.range n).map f).set k v=(List.range n).map g:=by
 refine List.ext_getElem (by simp) fun q h1 h2=>?_
 have hq:q < n:=by simpa using h2
 rw [List.getElem_set]
 by_cases he:k=q
 ·subst he;simp [hv hq]
 ·rw [if_neg he];simp [h q hq (Ne.symm he)]
theorem C19 {α:Type u} (n k:Nat) (f:Nat→α) (h:k < n):((List.range n).map f)[k]?=some (f k):=by simp [h]
def T0 (a b:List Int) (i q:Nat):List Int:=(List.range (b.length+1)).map fun j=>if q≤j then (dist (a.drop i) (b.drop j):Int) else 0
def P4 (a b:List Int) (i:Nat):List (List Int):=(List.range (a.length+1)).map fun r=>if i≤r then T0 a b r 0 else []
def C20 (a b:List Int):List (List Int):=P4 a b 0
theorem E75 (a b:List Int) (i q:Nat):(T0 a b i q).length=b.length+1:=by simp [T0]
theorem A41 (a b:List Int) (i:Nat):(P4 a b i).length=a.length+1:=by simp [P4]
theorem G21 (a b:List Int) (i:Nat):List.replicate (b.length+1) 0=T0 a b i (b.length+1):=by
 refine List.ext_getElem (by simp [T0]) fun q h1 h2=>?_
 have:¬(b.length+1≤q):=by simp at h1;omega
 simp [T0,this]
theorem F33 (a b:List Int):List.replicate (a.length+1) []=P4 a b (a.length+1):=by
 refine List.ext_getElem (by simp [P4]) fun q h1 h2=>?_
 have:¬(a.length+1≤q):=by simp at h1;omega
 simp [P4,this]
theorem G99 (a b:List Int) (i j:Nat):(T0 a b i (j+1)).set j (dist (a.drop i) (b.drop j):Int)=T0 a b i j:=by
 unfold T0
 refine B15 _ _ _ _ _ (fun _=>by simp) fun q hq hne=>?_
 by_cases h:j≤q
 ·rw [if_pos h,if_pos (by omega)]
 ·rw [if_neg h,if_neg (by omega)]
theorem A34 (a b:List Int) (i q j:Nat) (h:q≤j) (hj:j≤b.length):(T0 a b i q)[j]?=some (dist (a.drop i) (b.drop j):Int):=by
 unfold T0
 rw [C19 _ _ _ (by omega),if_pos h]
theorem G22 (a b:List Int) (i:Nat):(P4 a b (i+1)).set i (T0 a b i 0)=P4 a b i:=by
 unfold P4
 refine B15 _ _ _ _ _ (fun _=>by simp) fun q hq hne=>?_
 by_cases h:i≤q
 ·rw [if_pos h,if_pos (by omega)]
 ·rw [if_neg h,if_neg (by omega)]
theorem B35 (a b:List Int) (i r:Nat) (h:i≤r) (hr:r≤a.length):(P4 a b i)[r]?=some (T0 a b r 0):=by
 unfold P4
 rw [C19 _ _ _ (by omega),if_pos h]
def N3 (l:List Merged):List Int:=l.map (·.Line)
theorem D51 (l:List Change) (i j m:Int) (hi:0≤i) (B:Nat) (hm:m≤B) (hl:∀c∈l,c.Old≤B∧0≤c.OldLen):((K2 i j l m).length:Int)≤max 0 (B - i):=by
 induction l generalizing i j with
 | nil=>simp only [K2,V1];omega
 | cons c r ih =>
  have hc:=hl c (List.mem_cons_self ..)
  have:=ih (max i c.Old+c.OldLen) (j+(c.Old - i).toNat+c.NewLen) (by omega) (fun d hd=>hl d (List.mem_cons_of_mem _ hd))
  simp only [K2,J86,V1]
  omega
theorem n8 (i j:Int):M5 i j 0=[]:=rfl
theorem A51 (i j:Int) (n:Nat):M5 i j (n+1)=M5 i j n++[⟨i+n,j+n⟩]:=by simp [M5,K30]
def Asc (m n:Int):Int→Int→List Span→Prop
 | i,j,[]=>i≤m∧j≤n
 | i,j,x::r=>i≤x.From∧j≤x.To∧Asc m n (x.From+1) (x.To+1) r
theorem Asc.le {m n:Int}:∀{p:List Span} {i j:Int},Asc m n i j p→i≤m∧j≤n
 | [],i,j,h=>h
 | x::r,i,j,h=>by have:=Asc.le h.2.2;have:=h.1;have:=h.2.1;omega
theorem Asc.weaken {m n:Int} {p:List Span} {i j i' j':Int} (h:Asc m n i j p) (hi:i'≤i) (hj:j'≤j):Asc m n i' j' p:=by
 cases p with
 | nil=>exact ⟨by have:=h.1;omega,by have:=h.2;omega⟩
 | cons x r=>exact ⟨by have:=h.1;omega,by have:=h.2.1;omega,h.2.2⟩
theorem A11 (a b:List Int):∀(p q:Int),Asc (p+a.length) (q+b.length) p q (H1 p q a b):=by
 induction a generalizing b with
 | nil=>intro p q;rw [c7];simp only [Asc,J89];omega
 | cons x a iha =>
  induction b with
  | nil=>intro p q;rw [n7];simp only [Asc,J89];omega
  | cons y b ihb =>
   intro p q
   rw [H1]
   split
   ·have:=iha b (p+1) (q+1)
    refine ⟨Int.le_refl _,Int.le_refl _,?_⟩
    simp only [J87]
    rwa [show p+((a.length+1:Nat):Int)=p+1+a.length by omega,show q+((b.length+1:Nat):Int)=q+1+b.length by omega]
   ·split
    ·have:=(iha (y::b) (p+1) q).weaken (i':=p) (j':=q) (by omega) (Int.le_refl _)
     rwa [show p+((x::a).length:Int)=p+1+a.length by simp;omega]
    ·have:=(ihb p (q+1)).weaken (i':=p) (j':=q) (Int.le_refl _) (by omega)
     rwa [show q+((y::b).length:Int)=q+1+b.length by simp;omega]
theorem Asc.made {m n:Int}:∀{p:List Span} {i j:Int},Asc m n i j p→∀c∈R4 i j p m n,i≤c.Old∧j≤c.New∧0≤c.OldLen∧0≤c.NewLen∧c.Old+c.OldLen≤m∧c.New+c.NewLen≤n
 | [],i,j,h,c,hc=>by
  unfold R4 at hc
  split at hc
  ·simp only [List.mem_singleton] at hc;subst hc
   have:=h.1;have:=h.2
   simp only;omega
  ·cases hc
 | x::r,i,j,h,c,hc=>by
  unfold R4 at hc
  obtain ⟨h1,h2,h3⟩:=h
  have h4:=h3.le
  rcases List.mem_append.1 hc with hc | hc
  ·split at hc
   ·simp only [List.mem_singleton] at hc;subst hc
    simp only;omega
   ·cases hc
  ·have:=Asc.made h3 c hc;omega
theorem E76 (i j m:Int) (l:List Change) (h:∀c∈l,i+1≤c.Old) (hm:l=[]→i+1≤m):K2 i j l m=⟨i,j⟩::K2 (i+1) (j+1) l m:=by
 cases l with
 | nil =>
  have:=hm rfl
  rw [K2,K2,show (m - i).toNat=(m - (i+1)).toNat+1 by omega,B34]
 | cons c r =>
  have:=h c (List.mem_cons_self ..)
  rw [K2,K2,show (c.Old - i).toNat=(c.Old - (i+1)).toNat+1 by omega,B34]
  rw [show max (i+1) c.Old=max i c.Old by omega,show (j+1+((c.Old - (i+1)).toNat:Int))=j+(((c.Old - (i+1)).toNat+1:Nat):Int) by omega]
  rfl
theorem D08 {m n:Int}:∀{p:List Span} {i j:Int},Asc m n i j p→K2 i j (R4 i j p m n) m=p
 | [],i,j,h=>by
  have h1:=h.1;have h2:=h.2
  unfold R4
  split
  ·rw [K2,K2,show (i - i).toNat=0 by omega,show (m - (max i i+(m - i))).toNat=0 by omega];rfl
  ·rw [K2,show (m - i).toNat=0 by omega];rfl
 | x::r,i,j,h=>by
  obtain ⟨h1,h2,h3⟩:=h
  have ih:=D08 h3
  have hm:=h3.le
  have hd:=E76 x.From x.To m (R4 (x.From+1) (x.To+1) r m n) (fun c hc=>(h3.made c hc).1) (fun _=>hm.1)
  rw [ih] at hd
  unfold R4
  split
  ·rw [K37,K2,show (i - i).toNat=0 by omega,show max i i+(x.From - i)=x.From by omega,show j+((0:Nat):Int)+(x.To - j)=x.To by omega,hd];rfl
  ·have e1:i=x.From:=by omega
   have e2:j=x.To:=by omega
   rw [K16,e1,e2,hd]
theorem D09 (a b:List Int):M8 (V7 a b) a.length=H1 0 0 a b:=by
 have:=A11 a b 0 0
 rw [Int.zero_add,Int.zero_add] at this
 exact D08 this
theorem D10 (a b:List Int):∀c∈V7 a b,0≤c.Old∧0≤c.New∧0≤c.OldLen∧0≤c.NewLen∧c.Old+c.OldLen≤a.length∧c.New+c.NewLen≤b.length:=by
 have:=A11 a b 0 0
 rw [Int.zero_add,Int.zero_add] at this
 exact this.made
def V6 (p:Int):Int:=IntKind.u32.wrap (1*2 ^ (min (IntKind.u64.wrap p).toNat IntKind.u32.bits))
def l6 (a b:Int):Int:=IntKind.u32.wrap ((BitVec.ofInt IntKind.u32.bits a ||| BitVec.ofInt IntKind.u32.bits b).toNat:Int)
def d9 (l:List Merged) (list:List Int) (bit:Int) (i j:Nat):List Span→List Merged
 | []=>(l.drop i).take (l.length - i)++((list.drop j).take (list.length - j)).map fun v=>⟨v,bit⟩
 | x::r=>(l.drop i).take (x.From.toNat - i)++(((list.drop j).take (x.To.toNat - j)).map fun v=>⟨v,bit⟩)++((l[x.From.toNat]?.map fun y=>(⟨y.Line,l6 y.Parents bit⟩:Merged)).toList++d9 l list bit (x.From.toNat+1) (x.To.toNat+1) r)
def y4 (l:List Merged) (list:List Int) (p:Int):List Merged:=d9 l list (V6 p) 0 0 (H1 0 0 (N3 l) list)
theorem B93 {α:Type} (l:List α) (i t:Nat) (h:i+t < l.length):(l.drop i).take (t+1)=(l.drop i).take t++[l[i+t]]:=by
 rw [List.take_add_one,K12,J88 h];rfl
theorem C40 (l:List Merged) (list:List Int) (bit:Int):∀(p:List Span) (i j:Nat),(d9 l list bit i j p).length≤l.length*(p.length+1)+list.length*(p.length+1)+p.length
 | [],i,j=>by simp [d9];omega
 | x::r,i,j=>by
  have:=C40 l list bit r (x.From.toNat+1) (x.To.toNat+1)
  have h1:((l.drop i).take (x.From.toNat - i)).length≤l.length:=by simp;omega
  have h2:((list.drop j).take (x.To.toNat - j)).length≤list.length:=by simp;omega
  have h3:((l[x.From.toNat]?.map fun y=>(⟨y.Line,l6 y.Parents bit⟩:Merged)).toList).length≤1:=by cases l[x.From.toNat]?<;>simp
  simp only [d9,J86,K13,J87,Nat.mul_add,Nat.mul_one] at *
  omega
end Go.AL
namespace Go.AL
open Go
def C41 (m:Int) (c:Nat):Bool:=m / 2 ^ c % 2 == 1
def i6 (r:Row) (c:Int):Bool:=if c = -1 then !r.Lost else if c < -1∨32≤c then false else C41 r.Marks c.toNat == r.Lost
def H3 (rows:List Row) (c:Int):List Str:=(rows.filter (i6 · c)).map (·.Text)
def i7 (n:Nat) (r:Row):Bool:=r.Marks / 2 ^ n == 0&&!(r.Lost&&r.Marks == 0)
def N5 (rows:List Row) (n:Nat):Bool:=rows.all (i7 n)
def p8 (rows:List Row) (n:Nat):Bool:=rows.all (fun r=>I6 r.Text)&&(List.range (n+1)).all fun k=>T8 (H3 rows ((k:Int) - 1))
def M6 (t:Table):Int:=if t.Parents < 1∨32 < t.Parents then 2 else if N5 t.Rows t.Parents.toNat=false then 180 else if p8 t.Rows t.Parents.toNat=false then 4 else 0
def U0 (t:Table) (c:Int):Str × Int:=if M6 t≠0 then ([],M6 t) else if c < -1∨t.Parents≤c then ([],3) else L9 (H3 t.Rows c)
theorem B36 (r:Row) (rs:List Row) (n:Nat):N5 (r::rs) n=(i7 n r&&N5 rs n):=rfl
def I2 (rows:List Row):Prop:=∀r∈rows,0≤r.Marks∧r.Marks < 4294967296
def N7 (rows:List Row):Nat:=(rows.map (·.Text)).flatten.length
theorem C21 (rows:List Row) (c:Int):(H3 rows c).length≤rows.length:=by unfold H3;rw [K13];exact List.length_filter_le _ _
theorem C70 (rows:List Row) (c:Int):(H3 rows c).flatten.length≤N7 rows:=by
 unfold H3 N7
 induction rows with
 | nil=>simp
 | cons r rs ih =>
  rw [List.filter_cons]
  split
  ·simp only [J95,J99,J86];omega
  ·simp only [J95,J99,J86];omega
theorem I88 (rows:List Row) (c:Int):∀s∈H3 rows c,∃r∈rows,r.Text=s:=by
 intro s hs
 unfold H3 at hs
 obtain ⟨r,hr,rfl⟩:=List.mem_map.1 hs
 exact ⟨r,(List.mem_filter.1 hr).1,rfl⟩
theorem D11 (rows:List Row):∀r∈rows,r.Text.length≤N7 rows:=by
 intro r hr
 unfold N7
 exact (List.sublist_flatten_of_mem (List.mem_map_of_mem hr)).length_le
theorem D12 (x:Int) (h:0≤x∧x < 4294967296):IntKind.u32.wrap ((BitVec.ofInt IntKind.u32.bits x &&& BitVec.ofInt IntKind.u32.bits 1).toNat:Int)=x % 2:=by
 have h1:(BitVec.ofInt IntKind.u32.bits x &&& BitVec.ofInt IntKind.u32.bits 1).toNat=x.toNat % 2:=by
  rw [BitVec.toNat_and,BitVec.toNat_ofInt,BitVec.toNat_ofInt]
  have e1:(x % ((2 ^ IntKind.u32.bits:Nat):Int)).toNat=x.toNat:=by
   rw [show ((2 ^ IntKind.u32.bits:Nat):Int)=4294967296 by rfl];omega
  have e2:((1:Int) % ((2 ^ IntKind.u32.bits:Nat):Int)).toNat=1:=by rfl
  rw [e1,e2,Nat.and_one_is_mod]
 rw [h1]
 have h2:IntKind.u32.wrap ((x.toNat % 2:Nat):Int)=((x.toNat % 2:Nat):Int):=by
  simp [IntKind.wrap,IntKind.signed,IntKind.bits];omega
 rw [h2];omega
theorem C71 {n:Int} (h:0≤n∧n < 18446744073709551616):IntKind.u64.wrap n=n:=by simp [IntKind.wrap,IntKind.signed,IntKind.bits];omega
theorem F77 (m c:Int) (hc:0≤c∧c≤32):m.fdiv (2 ^ (min c.toNat IntKind.u32.bits))=m / 2 ^ c.toNat:=by
 rw [show min c.toNat IntKind.u32.bits=c.toNat from Nat.min_eq_left (by show c.toNat≤32;omega),Int.fdiv_eq_ediv_of_nonneg _ (Int.pow_nonneg (by decide))]
theorem shr64' (m c:Int) (hc:0≤c∧c≤64):m.fdiv (2 ^ (min c.toNat IntKind.u64.bits))=m / 2 ^ c.toNat:=by
 rw [show min c.toNat IntKind.u64.bits=c.toNat from Nat.min_eq_left (by show c.toNat≤64;omega),Int.fdiv_eq_ediv_of_nonneg _ (Int.pow_nonneg (by decide))]
theorem shr_eq (m c:Int) (b:Nat) (hc:0≤c∧c≤b):m.fdiv (2 ^ (min c.toNat b))=m / 2 ^ c.toNat:=by
 rw [show min c.toNat b=c.toNat by omega,Int.fdiv_eq_ediv_of_nonneg _ (Int.pow_nonneg (by decide))]
end Go.AL
namespace Go.AL
open Go
theorem E77 (n:Int):0≤IntKind.u32.wrap n∧IntKind.u32.wrap n < 4294967296:=by simp [IntKind.wrap,IntKind.signed,IntKind.bits];omega
def clrBit (a b:Int):Int:=IntKind.u32.wrap ((BitVec.ofInt IntKind.u32.bits a &&& ~~~BitVec.ofInt IntKind.u32.bits b).toNat:Int)
def S0 (acc:List Merged) (p:Nat):List (List Int)→List Merged × Int
 | []=>(acc,0)
 | x::r=>if 4096 < acc.length∨4096 < x.length then ([],1) else S0 (y4 acc x p) (p+1) r
def L3 (lists:List (List Int)):List Merged × Int:=if 32 < lists.length then ([],1) else S0 [] 0 lists
theorem D84 (l:List Merged) (list:List Int) (bit:Int):∀(ps:List Span) (i j:Nat),i≤l.length→j≤list.length→Asc l.length list.length i j ps→(d9 l list bit i j ps).length≤(l.length - i)+(list.length - j)
 | [],i,j,hi,hj,_=>by simp [d9]
 | x::r,i,j,hi,hj,ha=>by
  obtain ⟨h1,h2,h3⟩:=ha
  have h4:=h3.le
  have e1:((x.From.toNat+1:Nat):Int)=x.From+1:=by omega
  have e2:((x.To.toNat+1:Nat):Int)=x.To+1:=by omega
  have ih:=D84 l list bit r (x.From.toNat+1) (x.To.toNat+1) (by omega) (by omega) (by rw [e1,e2];exact h3)
  have h5:((l[x.From.toNat]?.map fun y=>(⟨y.Line,l6 y.Parents bit⟩:Merged)).toList).length≤1:=by cases l[x.From.toNat]?<;>simp
  simp only [d9,J86,K13,K03,K08]
  omega
theorem H00 (l:List Merged) (list:List Int) (p:Int):(y4 l list p).length≤l.length+list.length:=by
 have hasc:=A11 (N3 l) list 0 0
 rw [Int.zero_add,Int.zero_add,show (N3 l).length=l.length by simp [N3]] at hasc
 have:=D84 l list (V6 p) (H1 0 0 (N3 l) list) 0 0 (Nat.zero_le _) (Nat.zero_le _) hasc
 simpa [y4] using this
theorem o9 {α:Type} {l:List α} {i n:Nat} {x:α} (h:x∈(l.drop i).take n):x∈l:=List.mem_of_mem_drop (List.mem_of_mem_take h)
theorem E78 (l:List Merged) (list:List Int) (bit:Int) (hb:0≤bit∧bit < 4294967296) (hl:∀m∈l,0≤m.Parents∧m.Parents < 4294967296) (Q:Int→Prop) (hq1:∀m∈l,Q m.Line) (hq2:∀v∈list,Q v) :
  ∀(ps:List Span) (i j:Nat),∀m∈d9 l list bit i j ps,(0≤m.Parents∧m.Parents < 4294967296)∧Q m.Line
 | [],i,j,m,hm=>by
  rcases List.mem_append.1 hm with h | h
  ·have:=o9 h;exact ⟨hl _ this,hq1 _ this⟩
  ·obtain ⟨v,hv,rfl⟩:=List.mem_map.1 h
   exact ⟨hb,hq2 _ (o9 hv)⟩
 | x :: r,i,j,m,hm=>by
  unfold d9 at hm
  rcases List.mem_append.1 hm with h | h
  ·rcases List.mem_append.1 h with h | h
   ·have:=o9 h;exact ⟨hl _ this,hq1 _ this⟩
   ·obtain ⟨v,hv,rfl⟩:=List.mem_map.1 h
    exact ⟨hb,hq2 _ (o9 hv)⟩
  ·rcases List.mem_append.1 h with h | h
   ·cases hx:l[x.From.toNat]? with
    | none=>simp [hx] at h
    | some y =>
     simp [hx] at h
     subst h
     exact ⟨E77 _,hq1 y (K02 hx)⟩
   ·exact E78 l list bit hb hl Q hq1 hq2 r _ _ m h
theorem A88 (Q:Int→Prop) (B:Nat):∀(ls:List (List Int)) (acc:List Merged) (p:Nat),(∀x∈ls,x.length≤B∧∀v∈x,Q v)→(∀m∈acc,(0≤m.Parents∧m.Parents < 4294967296)∧Q m.Line) →
  (S0 acc p ls).1.length≤acc.length+ls.length*B∧∀m∈(S0 acc p ls).1,(0≤m.Parents∧m.Parents < 4294967296)∧Q m.Line
 | [],acc,p,_,ha=>by simp only [S0];exact ⟨by simp,ha⟩
 | x::r,acc,p,hl,ha=>by
  unfold S0
  split
  ·exact ⟨by simp,by simp⟩
  ·have hx:=hl x (List.mem_cons_self ..)
   have hj:=H00 acc x p
   have hm:=E78 acc x (V6 p) (E77 _) (fun m hm=>(ha m hm).1) Q (fun m hm=>(ha m hm).2) hx.2 (H1 0 0 (N3 acc) x) 0 0
   have ih:=A88 Q B r (y4 acc x p) (p+1) (fun y hy=>hl y (List.mem_cons_of_mem _ hy)) hm
   refine ⟨?_,ih.2⟩
   have h1:=ih.1
   have h2:=hx.1
   simp only [J87,K14,Nat.one_mul]
   omega
theorem C42 (Q:Int→Prop) (B:Nat) (ls:List (List Int)) (h:∀x∈ls,x.length≤B∧∀v∈x,Q v):(L3 ls).1.length≤ls.length*B∧∀m∈(L3 ls).1,(0≤m.Parents∧m.Parents < 4294967296)∧Q m.Line:=by
 unfold L3
 split
 ·exact ⟨by simp,by simp⟩
 ·have:=A88 Q B ls [] 0 h (by simp)
  simpa using this
def Q7 (p:Int) (ms:List Int) (x:Span):List Int:=ms.set x.To.toNat (clrBit (ms.getD x.To.toNat 0) (V6 p))
def V8 (p:Nat) (file:List Int) (g:Nat→List (List Int)) (c:Change):Nat→List (List Int):=fun k =>
 if k=c.New.toNat then (g k).set p ((file.drop c.Old.toNat).take ((c.Old+c.OldLen).toNat - c.Old.toNat)) else g k
abbrev Loom:=List Int × (Nat→List (List Int))
def A12 (ids:List (List Int)) (s:Loom) (p:Nat):Loom :=
 let file:=ids.getD (p+1) []
 let sc:=V7 file (ids.getD 0 [])
 ((M8 sc file.length).foldl (Q7 p) (s.1.map (l6 · (V6 p))),sc.foldl (V8 p file) s.2)
def H01 (lines n:Nat):Loom:=(List.replicate lines 0,fun _=>List.replicate n [])
def B01 (ids:List (List Int)) (lines n p:Nat):Loom:=(List.range p).foldl (A12 ids) (H01 lines n)
def A13 (names:List Str) (file:List Str) (s:Loom) (k:Nat):List Row :=
 (L3 (s.2 k)).1.map (fun m=>(⟨true,m.Parents,names.getD m.Line.toNat []⟩:Row))++(if k < file.length then [⟨false,s.1.getD k 0,file.getD k []⟩] else [])
def A42 (names:List Str) (file:List Str) (s:Loom) (k:Nat):List Row:=((List.range k).map (A13 names file s)).flatten
def M7 (result:Str) (parents:List Str):Table × Int :=
 if parents.length < 1∨32 < parents.length then (⟨0,[]⟩,2) else
 let fs:=D5 result::parents.map D5
 let names:=D2 fs
 let s:=B01 (fs.map (F0 names)) (D5 result).length parents.length parents.length
 if ∃k,k < (D5 result).length+1∧(L3 (s.2 k)).2≠0 then (⟨0,[]⟩,1) else (⟨parents.length,A42 names (D5 result) s ((D5 result).length+1)⟩,0)
theorem D85 (names file:List Str) (s:Loom) (k:Nat):A42 names file s (k+1)=A42 names file s k++A13 names file s k:=by
 unfold A42;rw [K30,K00,K04];simp
structure LoomOk (Q:Int→Prop) (B lines n:Nat) (s:Loom):Prop where
 len:s.1.length=lines
 marks:∀m∈s.1,0≤m∧m < 4294967296
 gaps:∀k,(s.2 k).length=n∧∀x∈s.2 k,x.length≤B∧∀v∈x,Q v
theorem J41 (Q:Int→Prop) (B lines n:Nat):LoomOk Q B lines n (H01 lines n) where
 len:=by simp [H01]
 marks:=fun m hm=>by have:=List.eq_of_mem_replicate hm;subst this;decide
 gaps:=fun k=>⟨by simp [H01],fun x hx=>by have:=List.eq_of_mem_replicate hx;subst this;simp⟩
theorem I89 {Q:Int→Prop} {B n p:Nat} {file:List Int} (hf:file.length≤B∧∀v∈file,Q v) {g:Nat→List (List Int)} (hg:∀k,(g k).length=n∧∀x∈g k,x.length≤B∧∀v∈x,Q v) (c:Change) :
  ∀k,(V8 p file g c k).length=n∧∀x∈V8 p file g c k,x.length≤B∧∀v∈x,Q v:=by
 intro k
 unfold V8
 split
 ·refine ⟨by rw [K38];exact (hg k).1,fun x hx=>?_⟩
  rcases List.mem_or_eq_of_mem_set hx with h | rfl
  ·exact (hg k).2 x h
  ·exact ⟨by simp;omega,fun v hv=>hf.2 v (o9 hv)⟩
 ·exact hg k
theorem B37 {Q:Int→Prop} {B n p:Nat} {file:List Int} (hf:file.length≤B∧∀v∈file,Q v):∀(sc:List Change) {g:Nat→List (List Int)},(∀k,(g k).length=n∧∀x∈g k,x.length≤B∧∀v∈x,Q v) →
  ∀k,(sc.foldl (V8 p file) g k).length=n∧∀x∈sc.foldl (V8 p file) g k,x.length≤B∧∀v∈x,Q v
 | [],_,hg=>hg
 | c::r,_,hg=>B37 hf r (I89 hf hg c)
theorem H02 {p:Int} {ms:List Int} {x:Span} (h:∀m∈ms,0≤m∧m < 4294967296):(Q7 p ms x).length=ms.length∧∀m∈Q7 p ms x,0≤m∧m < 4294967296:=by
 refine ⟨by simp [Q7],fun m hm=>?_⟩
 rcases List.mem_or_eq_of_mem_set hm with h' | rfl
 ·exact h m h'
 ·exact E77 _
theorem B94 {p:Int}:∀(ps:List Span) {ms:List Int},(∀m∈ms,0≤m∧m < 4294967296)→(ps.foldl (Q7 p) ms).length=ms.length∧∀m∈ps.foldl (Q7 p) ms,0≤m∧m < 4294967296
 | [],ms,h=>⟨rfl,h⟩
 | x::r,ms,h=>by
  have h1:=H02 (p:=p) (x:=x) h
  have h2:=B94 (p:=p) r h1.2
  exact ⟨h2.1.trans h1.1,h2.2⟩
theorem F34 {Q:Int→Prop} {B lines n:Nat} {ids:List (List Int)} (hids:∀x∈ids,x.length≤B∧∀v∈x,Q v) {s:Loom} (h:LoomOk Q B lines n s) (p:Nat):LoomOk Q B lines n (A12 ids s p):=by
 have hf:(ids.getD (p+1) []).length≤B∧∀v∈ids.getD (p+1) [],Q v:=by
  rw [J91]
  cases hx:ids[p+1]? with
  | none=>simp
  | some x=>exact hids x (K02 hx)
 have hr:∀m∈s.1.map (l6 · (V6 p)),0≤m∧m < 4294967296:=fun m hm=>by
  obtain ⟨v,_,rfl⟩:=List.mem_map.1 hm;exact E77 _
 have hc:=B94 (p:=p) (M8 (V7 (ids.getD (p+1) []) (ids.getD 0 [])) (ids.getD (p+1) []).length) hr
 exact { len:=by rw [A12];simp only;rw [hc.1,K13];exact h.len,marks:=hc.2,gaps:=B37 hf _ h.gaps }
theorem D86 (ids:List (List Int)) (lines n p:Nat):B01 ids lines n (p+1)=A12 ids (B01 ids lines n p) p:=by
 unfold B01;rw [K30,K26];rfl
theorem D52 {Q:Int→Prop} {B lines n:Nat} {ids:List (List Int)} (hids:∀x∈ids,x.length≤B∧∀v∈x,Q v):∀p,LoomOk Q B lines n (B01 ids lines n p)
 | 0=>J41 Q B lines n
 | p+1=>by rw [D86];exact F34 hids (D52 hids p) p
theorem C72 (l:List Str) (s:Str):∀k:Int,0≤k→s∈l→k≤J6 l s k∧J6 l s k < k+l.length:=by
 induction l with
 | nil=>intro k _ h;cases h
 | cons x r ih =>
  intro k hk h
  unfold J6
  by_cases hx:x=s
  ·rw [if_pos hx];simp;omega
  ·rw [if_neg hx]
   have:=ih (k+1) (by omega) (by rcases List.mem_cons.1 h with rfl | h;exact absurd rfl hx;exact h)
   simp only [J87];omega
theorem E13 (l:List Str):∀(out:List Str) (s:Str),s∈out∨s∈l→s∈l.foldl I4 out:=by
 induction l with
 | nil=>intro out s h;rcases h with h | h;exact h;cases h
 | cons x r ih =>
  intro out s h
  apply ih
  rcases h with h | h
  ·left;unfold I4;split;exact h;exact List.mem_append_left _ h
  ·rcases List.mem_cons.1 h with rfl | h
   ·left;unfold I4;split;assumption;simp
   ·exact .inr h
theorem W8 (fs:List (List Str)) (s:Str) (f:List Str) (hf:f∈fs) (hs:s∈f):s∈D2 fs:=E13 _ _ _ (.inr (List.mem_flatten.2 ⟨f,hf,hs⟩))
theorem ids_in (fs:List (List Str)):∀x∈fs.map (F0 (D2 fs)),∀v∈x,0≤v∧v < (D2 fs).length:=by
 intro x hx v hv
 obtain ⟨f,hf,rfl⟩:=List.mem_map.1 hx
 obtain ⟨s,hs,rfl⟩:=List.mem_map.1 hv
 have:=C72 (D2 fs) s 0 (Int.le_refl _) (W8 fs s f hf hs)
 omega
theorem E14 (l:List Str):∀(out:List Str) (s:Str),s∈l.foldl I4 out→s∈out∨s∈l:=by
 induction l with
 | nil=>intro out s h;exact .inl h
 | cons x r ih =>
  intro out s h
  rcases ih _ _ h with h | h
  ·unfold I4 at h
   split at h
   ·exact .inl h
   ·rcases List.mem_append.1 h with h | h
    ·exact .inl h
    ·simp at h;subst h;exact .inr (by simp)
  ·exact .inr (List.mem_cons_of_mem _ h)
theorem H03 (fs:List (List Str)) (s:Str) (h:s∈D2 fs):s∈fs.flatten:=by
 rcases E14 _ _ _ h with h | h
 ·cases h
 ·exact h
end Go.AL
namespace Go.AL
open Go
theorem D13 (s:Str):Lib.hasSuffix s [10]=ended s:=by
 unfold Lib.hasSuffix ended
 rw [Bool.eq_iff_iff,List.isSuffixOf_iff_suffix,beq_iff_eq]
 constructor
 ·rintro ⟨t,rfl⟩;simp
 ·intro h
  obtain ⟨hne,h2⟩:=List.getLast?_eq_some_iff.1 h
  exact ⟨hne,h2.symm⟩
def B95 (s:Str):Str:=if ended s then s.dropLast else s
theorem F35 (s:Str):Lib.trimSuffix s [10]=B95 s:=by
 unfold Lib.trimSuffix B95
 rw [D13,List.dropLast_eq_take];rfl
theorem p9 (c:UInt8):∀l:Str,(c∉l∧Lib.indexByte l c = -1)∨∃a b,l=a++c::b∧c∉a∧Lib.indexByte l c=a.length
 | []=>.inl ⟨by simp,rfl⟩
 | x::l=>by
  unfold Lib.indexByte
  by_cases hx:x=c
  ·exact .inr ⟨[],l,by rw [hx];rfl,by simp,by simp [hx]⟩
  ·rcases p9 c l with ⟨h1,h2⟩ | ⟨a,b,h1,h2,h3⟩
   ·exact .inl ⟨by simp [h1,Ne.symm hx],by simp [hx,h2]⟩
   ·refine .inr ⟨x::a,b,by rw [h1];rfl,by simp [h2,Ne.symm hx],?_⟩
    have h4:¬((a.length:Int) = -1):=by omega
    simp [hx,h3,h4]
theorem C43 (c:UInt8) (l:Str):0≤Lib.indexByte l c↔c∈l:=by
 rcases p9 c l with ⟨h1,h2⟩ | ⟨a,b,h1,h2,h3⟩
 ·rw [h2];simp [h1]
 ·rw [h3,h1];simp
theorem G23 (a b:Str) (c:UInt8) (h:b≠[]):c∈(a++c::b).dropLast:=by
 rw [List.dropLast_append_of_ne_nil (by simp),List.dropLast_cons_of_ne_nil h];simp
theorem E15 (l:Str):(0≤Lib.indexByte l 10∧Lib.indexByte l 10 < (l.length:Int) - 1)↔10∈l.dropLast:=by
 rcases p9 10 l with ⟨h1,h2⟩ | ⟨a,b,h1,h2,h3⟩
 ·rw [h2]
  have:10∉l.dropLast:=fun h=>h1 (List.dropLast_subset l h)
  simp [this]
 ·rw [h3]
  by_cases hb:b=[]
  ·subst hb
   have e:l.dropLast=a:=by rw [h1];simp
   rw [e,h1];simp [h2]
  ·have h4:=G23 a b 10 hb
   rw [←h1] at h4
   have h5:0 < b.length:=List.length_pos_iff.2 hb
   simp only [h4,iff_true]
   rw [h1];simp only [J86,J87];omega
theorem B38 (s:Str):I6 s=true↔s≠[]∧10∉s.dropLast:=by
 unfold I6
 rw [J90,List.all_eq_true]
 constructor
 ·rintro ⟨h1,h2⟩
  exact ⟨by simpa using h2,fun h=>by have:=h1 10 h;simp at this⟩
 ·rintro ⟨h1,h2⟩
  exact ⟨fun x hx=>by simpa using fun e:x=10=>h2 (e ▸ hx),by simpa using h1⟩
theorem J42 (s:Str):10∈B95 s↔10∈s.dropLast:=by
 unfold B95
 split
 ·exact Iff.rfl
 ·rename_i h
  by_cases hs:s=[]
  ·subst hs;simp
  ·constructor
   ·intro h2
    have e:=(List.dropLast_concat_getLast hs).symm
    rw [e] at h2
    rcases List.mem_append.1 h2 with h3 | h3
    ·exact h3
    ·exfalso
     refine h ?_
     unfold ended
     rw [List.getLast?_eq_some_getLast hs]
     simp at h3;simp [←h3]
   ·exact fun h2=>List.dropLast_subset s h2
theorem I90 (s:Str):(if decide (s≠[])=true then !decide (0≤Lib.indexByte (B95 s) 10) else false)=I6 s:=by
 rw [Bool.eq_iff_iff,B38]
 have h:=J42 s
 have h2:=C43 10 (B95 s)
 by_cases hs:s=[]
 ·simp [hs]
 ·simp [hs,h2,h]
theorem I91 (s:Str) (h:I6 s=true):ended s=true↔0≤Lib.indexByte s 10:=by
 obtain ⟨h1,h2⟩:=(B38 s).1 h
 rw [C43]
 have e:=(List.dropLast_concat_getLast h1).symm
 unfold ended
 rw [List.getLast?_eq_some_getLast h1]
 constructor
 ·intro h3
  have:s.getLast h1=10:=by simpa using h3
  rw [←this];exact List.getLast_mem h1
 ·intro h3
  rw [e] at h3
  rcases List.mem_append.1 h3 with h3 | h3
  ·exact absurd h3 h2
  ·simp at h3;simp [←h3]
def G24 (l:Str) (last:Bool):Prop:=l=[]∨(0≤Lib.indexByte l 10∧Lib.indexByte l 10 < (l.length:Int) - 1)∨(Lib.indexByte l 10 < 0∧last=false)
theorem H04 (l:Str) (r:List Str):G24 l r.isEmpty↔(I6 l&&(r.isEmpty||ended l))=false:=by
 unfold G24
 rw [E15]
 by_cases hl:I6 l=true
 ·obtain ⟨h1,h2⟩:=(B38 l).1 hl
  have h3:=I91 l hl
  cases hr:r.isEmpty
  ·cases he:ended l
   ·have:¬0≤Lib.indexByte l 10:=fun h=>by rw [h3.2 h] at he;cases he
    simp [hl,h1,h2];omega
   ·have:=h3.1 he
    simp [hl,h1,h2];omega
  ·simp [hl,h1,h2]
 ·have:l=[]∨10∈l.dropLast:=by
   by_cases h1:l=[]
   ·exact .inl h1
   ·exact .inr (Classical.byContradiction fun h2=>hl ((B38 l).2 ⟨h1,h2⟩))
  have hf:I6 l=false:=by simpa using hl
  rw [hf]
  constructor
  ·intro _;rfl
  ·intro _;rcases this with h | h
   ·exact .inl h
   ·exact .inr (.inl h)
theorem B96 (s:Str) (r:List Str):T8 (s::r)=(I6 s&&(r.isEmpty||ended s)&&T8 r):=rfl
theorem H05 (l:List Str):Lib.join l []=l.flatten:=by
 induction l with
 | nil=>rfl
 | cons s r ih =>
  cases r with
  | nil=>simp [Lib.join]
  | cons t r =>
   have e:List.intersperse ([]:Str) (s::t::r)=s::[]::List.intersperse [] (t::r):=rfl
   simp only [Lib.join,List.intercalate,e,J99,K16] at ih ⊢
   rw [ih]
def H06 (a b:Int):Int:=IntKind.u32.wrap ((BitVec.ofInt IntKind.u32.bits a &&& BitVec.ofInt IntKind.u32.bits b).toNat:Int)
def not32 (a:Int):Int:=IntKind.u32.wrap ((BitVec.ofInt IntKind.u32.bits IntKind.u32.max ^^^ BitVec.ofInt IntKind.u32.bits a).toNat:Int)
theorem D53 (n c:Nat):C41 (n:Int) c=n.testBit c:=by
 unfold C41
 rw [Nat.testBit_eq_decide_div_mod_eq]
 have:((n:Int) / 2 ^ c % 2 == 1)=decide (n / 2 ^ c % 2=1):=by
  rw [Bool.eq_iff_iff,beq_iff_eq,decide_eq_true_iff]
  have e:(n:Int) / 2 ^ c % 2=((n / 2 ^ c % 2:Nat):Int):=by simp
  rw [e];omega
 exact this
theorem G25 (n:Nat) (h:n < 4294967296):IntKind.u32.wrap (n:Int)=n:=by simp [IntKind.wrap,IntKind.signed,IntKind.bits];omega
theorem D54 (n:Nat):BitVec.ofInt IntKind.u32.bits (n:Int)=BitVec.ofNat 32 n:=BitVec.ofInt_natCast 32 n
theorem I92 (n m:Nat) (hn:n < 4294967296) (hm:m < 4294967296):H06 n m=((n &&& m:Nat):Int):=by
 unfold H06
 rw [D54,D54]
 have e:(BitVec.ofNat 32 n &&& BitVec.ofNat 32 m).toNat=n &&& m:=by
  rw [BitVec.toNat_and,BitVec.toNat_ofNat,BitVec.toNat_ofNat,Nat.mod_eq_of_lt (by omega),Nat.mod_eq_of_lt (by omega)]
 have h2:n &&& m < 2 ^ 32:=Nat.and_lt_two_pow n (by omega)
 show IntKind.u32.wrap ((BitVec.ofNat 32 n &&& BitVec.ofNat 32 m).toNat:Int)=_
 rw [e,G25 _ (by omega)]
theorem J43 (n m:Nat) (hn:n < 4294967296) (hm:m < 4294967296):l6 n m=((n ||| m:Nat):Int)∧n ||| m < 4294967296:=by
 unfold l6
 rw [D54,D54]
 have e:(BitVec.ofNat 32 n ||| BitVec.ofNat 32 m).toNat=n ||| m:=by
  rw [BitVec.toNat_or,BitVec.toNat_ofNat,BitVec.toNat_ofNat,Nat.mod_eq_of_lt (by omega),Nat.mod_eq_of_lt (by omega)]
 have h2:n ||| m < 2 ^ 32:=Nat.or_lt_two_pow (by omega) (by omega)
 refine ⟨?_,by omega⟩
 show IntKind.u32.wrap ((BitVec.ofNat 32 n ||| BitVec.ofNat 32 m).toNat:Int)=_
 rw [e,G25 _ (by omega)]
theorem I93 (n:Nat) (hn:n < 4294967296):not32 n=((4294967295 ^^^ n:Nat):Int)∧4294967295 ^^^ n < 4294967296:=by
 unfold not32
 rw [D54,show IntKind.u32.max=((4294967295:Nat):Int) from rfl,D54]
 have e:(BitVec.ofNat 32 4294967295 ^^^ BitVec.ofNat 32 n).toNat=4294967295 ^^^ n:=by
  rw [BitVec.toNat_xor,BitVec.toNat_ofNat,BitVec.toNat_ofNat,Nat.mod_eq_of_lt (by omega),Nat.mod_eq_of_lt (by omega)]
 have h2:4294967295 ^^^ n < 2 ^ 32:=Nat.xor_lt_two_pow (by omega) (by omega)
 refine ⟨?_,by omega⟩
 show IntKind.u32.wrap ((BitVec.ofNat 32 4294967295 ^^^ BitVec.ofNat 32 n).toNat:Int)=_
 rw [e,G25 _ (by omega)]
theorem J44 (c:Nat) (h:c < 32):(4294967295:Nat).testBit c=true:=by
 have:(4294967295:Nat)=2 ^ 32 - 1:=rfl
 rw [this,Nat.testBit_two_pow_sub_one];simpa using h
def F36 (r:Row):Int:=if r.Lost then r.Marks else not32 r.Marks
def C44 (res:Bool) (par:Int) (r:Row):Bool:=decide (H06 par (F36 r)=0)&&(r.Lost||!res)
def B97 (res:Bool) (r:Row):Bool:=if ended r.Text then res else res||!r.Lost
def B98 (par:Int) (r:Row):Int:=if ended r.Text then par else l6 par (F36 r)
def U4:Bool→Int→List Row→Bool
 | _,_,[]=>true
 | res,par,r::rs=>I6 r.Text&&C44 res par r&&U4 (B97 res r) (B98 par r) rs
theorem H07 (r:Row) (hr:0≤r.Marks∧r.Marks < 4294967296):∃m:Nat,m < 4294967296∧F36 r=m∧∀c,c < 32→m.testBit c=i6 r c:=by
 obtain ⟨k,hk⟩:∃k:Nat,r.Marks=k:=⟨r.Marks.toNat,by omega⟩
 have hv:∀c:Nat,c < 32→i6 r c=(k.testBit c == r.Lost):=by
  intro c hc
  rw [i6,if_neg (by omega),if_neg (by omega),hk,J97,D53]
 unfold F36
 cases hl:r.Lost
 ·have:=I93 k (by omega)
  refine ⟨4294967295 ^^^ k,this.2,by rw [if_neg (by simp),hk];exact this.1,fun c hc=>?_⟩
  rw [hv c hc,hl,Nat.testBit_xor,J44 c hc]
  cases k.testBit c<;>rfl
 ·refine ⟨k,by omega,by rw [if_pos rfl];exact hk,fun c hc=>?_⟩
  rw [hv c hc,hl]
  cases k.testBit c<;>rfl
theorem B39 (r:Row):i6 r (-1)=!r.Lost:=by rw [i6,if_pos rfl]
def r7:Bool→List Str→Bool
 | _,[]=>true
 | b,s::r=>!b&&I6 s&&r7 (!ended s) r
theorem G26 (l:List Str):r7 true l=l.isEmpty:=by cases l<;>simp [r7]
theorem H08 (l:List Str):T8 l=r7 false l:=by
 induction l with
 | nil=>rfl
 | cons s r ih =>
  rw [B96,ih,r7]
  cases he:ended s
  ·rw [show (!false)=true from rfl,G26]
   cases r<;>simp [r7]
  ·simp
structure EndsAt (res:Bool) (par:Int) (bad:Int→Bool):Prop where
 res:res=bad (-1)
 par:∃p:Nat,p < 4294967296∧par=p∧∀c:Nat,c < 32→p.testBit c=bad c
theorem J45 (n m:Nat) (hm:m < 4294967296):n &&& m=0↔∀c,c < 32→m.testBit c=true→n.testBit c=false:=by
 constructor
 ·intro h c hc hm1
  have:(n &&& m).testBit c=false:=by rw [h];simp
  rw [Nat.testBit_and,hm1] at this
  simpa using this
 ·intro h
  refine Nat.eq_of_testBit_eq fun c=>?_
  rw [Nat.testBit_and,Nat.zero_testBit]
  by_cases hc:c < 32
  ·cases hm1:m.testBit c
   ·simp
   ·rw [h c hc hm1];rfl
  ·have:m.testBit c=false:=Nat.testBit_lt_two_pow (Nat.lt_of_lt_of_le (by omega:m < 2 ^ 32) (Nat.pow_le_pow_right (by omega) (by omega)))
   rw [this];simp
theorem I94 {res:Bool} {par:Int} {bad:Int→Bool} (h:EndsAt res par bad) (r:Row) (hr:0≤r.Marks∧r.Marks < 4294967296):C44 res par r=true↔∀c:Int,-1≤c→c < 32→i6 r c=true→bad c=false:=by
 obtain ⟨m,hm,he,hb⟩:=H07 r hr
 obtain ⟨p,hp,hpe,hpb⟩:=h.par
 unfold C44
 rw [he,hpe,I92 p m hp hm,J90,decide_eq_true_iff,show (((p &&& m:Nat):Int)=0)↔p &&& m=0 by omega,J45 p m hm]
 constructor
 ·rintro ⟨h1,h2⟩ c hc1 hc2 hv
  by_cases hc:c = -1
  ·subst hc
   rw [B39] at hv
   rw [←h.res]
   simpa [show r.Lost=false by simpa using hv] using h2
  ·obtain ⟨k,rfl⟩:∃k:Nat,c=k:=⟨c.toNat,by omega⟩
   rw [←hpb k (by omega)]
   exact h1 k (by omega) (by rw [hb k (by omega)];exact hv)
 ·intro h1
  refine ⟨fun c hc hm1=>?_,?_⟩
  ·rw [hpb c hc]
   exact h1 c (by omega) (by omega) (by rw [←hb c hc];exact hm1)
  ·cases hl:r.Lost
   ·have:=h1 (-1) (by omega) (by omega) (by rw [B39,hl];rfl)
    rw [h.res,this];rfl
   ·rfl
theorem I95 {res:Bool} {par:Int} {bad:Int→Bool} (h:EndsAt res par bad) (r:Row) (hr:0≤r.Marks∧r.Marks < 4294967296):EndsAt (B97 res r) (B98 par r) (fun c=>bad c||(i6 r c&&!ended r.Text)):=by
 obtain ⟨m,hm,he,hb⟩:=H07 r hr
 obtain ⟨p,hp,hpe,hpb⟩:=h.par
 unfold B97 B98
 cases hen:ended r.Text
 ·have ho:=J43 p m hp hm
  refine ⟨?_,p ||| m,ho.2,?_,fun c hc=>?_⟩
  ·rw [if_neg (by simp),h.res,B39];simp
  ·rw [if_neg (by simp),he,hpe];exact ho.1
  ·rw [Nat.testBit_or,hpb c hc,hb c hc];simp
 ·refine ⟨?_,p,hp,?_,fun c hc=>?_⟩
  ·rw [if_pos rfl,h.res];simp
  ·rw [if_pos rfl];exact hpe
  ·rw [hpb c hc];simp
theorem C73 (r:Row) (rs:List Row) (c:Int):H3 (r::rs) c=if i6 r c then r.Text::H3 rs c else H3 rs c:=by
 unfold H3
 cases hv:i6 r c<;>simp [hv]
theorem E79:∀(rows:List Row) (res:Bool) (par:Int) (bad:Int→Bool),EndsAt res par bad→I2 rows→(U4 res par rows=true↔(∀r∈rows,I6 r.Text=true)∧∀c:Int,-1≤c→c < 32→r7 (bad c) (H3 rows c)=true)
 | [],res,par,bad,_,_=>by simp [U4,H3,r7]
 | r :: rs,res,par,bad,h,hr=>by
  have hr1:=hr r (by simp)
  have ih:=E79 rs _ _ _ (I95 h r hr1) (fun x hx=>hr x (by simp [hx]))
  rw [U4,J90,J90,I94 h r hr1,ih]
  constructor
  ·rintro ⟨⟨h1,h2⟩,h3,h4⟩
   refine ⟨fun x hx=>?_,fun c hc1 hc2=>?_⟩
   ·rcases List.mem_cons.1 hx with rfl | hx
    ·exact h1
    ·exact h3 x hx
   ·have h5:=h4 c hc1 hc2
    rw [C73]
    cases hv:i6 r c
    ·rw [if_neg (by simp)];simpa [hv] using h5
    ·rw [if_pos rfl,r7,h2 c hc1 hc2 hv,h1]
     rw [h2 c hc1 hc2 hv,hv] at h5
     simpa using h5
  ·rintro ⟨h1,h2⟩
   refine ⟨⟨h1 r (by simp),fun c hc1 hc2 hv=>?_⟩,fun x hx=>h1 x (by simp [hx]),fun c hc1 hc2=>?_⟩
   ·have h3:=h2 c hc1 hc2
    rw [C73,hv,if_pos rfl,r7] at h3
    simp only [J90,Bool.not_eq_true'] at h3
    exact h3.1.1
   ·have h3:=h2 c hc1 hc2
    rw [C73] at h3
    cases hv:i6 r c
    ·rw [hv,if_neg (by simp)] at h3;simpa using h3
    ·rw [hv,if_pos rfl,r7] at h3
     simp only [J90,Bool.not_eq_true'] at h3
     rw [h3.1.1];simpa using h3.2
theorem ends0:EndsAt false 0 (fun _=>false):=⟨rfl,0,by omega,rfl,fun c _=>by simp⟩
theorem G27 (m:Int) (n c:Nat) (h0:0≤m) (h:m / 2 ^ n=0) (hc:n≤c):C41 m c=false:=by
 obtain ⟨k,rfl⟩:∃k:Nat,m=k:=⟨m.toNat,by omega⟩
 rw [D53]
 have h1:(k:Int) / 2 ^ n=((k / 2 ^ n:Nat):Int):=by simp
 rw [h1] at h
 have h2:k / 2 ^ n=0:=by omega
 have h3:k < 2 ^ n:=by
  rcases Nat.div_eq_zero_iff.1 h2 with h3 | h3
  ·have:=Nat.two_pow_pos n;omega
  ·exact h3
 exact Nat.testBit_lt_two_pow (Nat.lt_of_lt_of_le h3 (Nat.pow_le_pow_right (by omega) hc))
theorem G28 (rows:List Row) (n:Nat) (hm:N5 rows n=true) (hr:I2 rows) (c:Int) (h1:(n:Int)≤c) (h2:c < 32):H3 rows c=H3 rows (-1):=by
 unfold H3
 have:rows.filter (i6 · c)=rows.filter (i6 · (-1)):=by
  refine List.filter_congr fun r hmem=>?_
  have h3:i7 n r=true:=List.all_eq_true.1 hm r hmem
  unfold i7 at h3
  simp only [J90,beq_iff_eq] at h3
  have h4:=G27 r.Marks n c.toNat (hr r hmem).1 h3.1 (by omega)
  rw [B39,i6,if_neg (by omega),if_neg (by omega),h4]
  cases r.Lost<;>rfl
 rw [this]
theorem E80 (rows:List Row) (n:Nat) (hn:n≤32) (hm:N5 rows n=true) (hr:I2 rows):U4 false 0 rows=p8 rows n:=by
 rw [Bool.eq_iff_iff,E79 rows false 0 _ ends0 hr,p8,J90,List.all_eq_true,List.all_eq_true]
 refine and_congr Iff.rfl ?_
 constructor
 ·intro h k hk
  have hk:=List.mem_range.1 hk
  rw [H08]
  exact h _ (by omega) (by omega)
 ·intro h c hc1 hc2
  have key:∀c:Int,-1≤c→c < n→r7 false (H3 rows c)=true:=by
   intro c h1 h2
   have:=h (c+1).toNat (List.mem_range.2 (by omega))
   rw [show (((c+1).toNat:Nat):Int) - 1=c by omega,H08] at this
   exact this
  by_cases hcn:c < n
  ·exact key c hc1 hcn
  ·rw [G28 rows n hm hr c (by omega) hc2]
   exact key (-1) (by omega) (by omega)
end Go.AL
namespace Go.AL
open Go
def B40 (c:UInt8):Bool:=decide (33≤c.toNat∧c.toNat≤126∧c.toNat≠34∧c.toNat≠92)
def digs8:Str:=[48,49,50,51,52,53,54,55]
def digs10:Str:=[48,49,50,51,52,53,54,55,56,57]
def D87 (c:UInt8):Str:=(digs8.drop (c.toNat / 64)).take 1++(digs8.drop (c.toNat / 8 % 8)).take 1++(digs8.drop (c.toNat % 8)).take 1
def l7 (c:UInt8):Str:=if c.toNat=34∨c.toNat=92 then [92,c] else if c.toNat=10 then [92,110] else if c.toNat=9 then [92,116] else if c.toNat < 32∨126 < c.toNat then 92::D87 c else [c]
def Z3 (s:Str):Str:=if s≠[]∧s.all B40=true then s else 34::((s.map l7).flatten++[34])
theorem F78 (c:UInt8):(D87 c).length≤3:=by unfold D87;simp only [J86,K03];omega
theorem F79 (c:UInt8):(l7 c).length≤4:=by
 have:=F78 c
 unfold l7;split
 ·simp
 ·split
  ·simp
  ·split
   ·simp
   ·split
    ·simp only [J87];omega
    ·simp
theorem D14 (s:Str):((s.map l7).flatten).length≤4*s.length:=by
 induction s with
 | nil=>simp
 | cons c r ih=>have:=F79 c;simp only [J95,J99,J86,J87];omega
theorem l8 (s:Str):(Z3 s).length≤4*s.length+2:=by
 unfold Z3;have:=D14 s
 split
 ·omega
 ·simp only [J87,J86,J89];omega
def p5 (n:Int):Str:=if n < 0∨2147483647 < n then [] else Lib.itoa n
def P5 (a n:Int):Str:=if a < 0∨n < 0∨2147483647 < a∨2147483647 - a < n then [] else if n=0 then p5 a++[44,48] else if n=1 then p5 (a+1) else p5 (a+1)++[44]++p5 n
theorem C45:∀(k u:Nat),u < 10 ^ (k+1)→(Lib.decDigits u).length≤k+1
 | 0,u,h=>by rw [Lib.decDigits,dif_pos (by omega)];simp
 | k+1,u,h=>by
  rw [Lib.decDigits]
  split
  ·simp
  ·have:=C45 k (u / 10) (by rw [Nat.div_lt_iff_lt_mul (by omega)];rw [Nat.pow_succ] at h;omega)
   simp only [J86,J87,J89];omega
theorem Y1 (n:Int):(p5 n).length≤10:=by
 unfold p5;split
 ·simp
 ·unfold Lib.itoa
  rw [if_neg (by omega)]
  exact C45 9 n.toNat (by omega)
theorem U6 (a n:Int):(P5 a n).length≤21:=by
 have:=Y1 a;have:=Y1 (a+1);have:=Y1 n
 unfold P5
 split
 ·simp
 ·split
  ·simp only [J86,J87,J89];omega
  ·split
   ·omega
   ·simp only [J86,J87,J89];omega
theorem dig10 (k:Nat) (h:k < 10):(digs10.drop k).take 1=[UInt8.ofNat (48+k)]:=by
 have:∀k:Fin 10,(digs10.drop k.1).take 1=[UInt8.ofNat (48+k.1)]:=by decide
 exact this ⟨k,h⟩
theorem I96 (n:Int) (h0:0≤n) (h:n < 10):p5 n=(digs10.drop n.toNat).take 1:=by
 unfold p5 Lib.itoa
 rw [if_neg (by omega),if_neg (by omega),dig10 _ (by omega),Lib.decDigits,dif_pos (by omega)]
theorem fmt_big (n:Int) (h0:10≤n) (h:n≤2147483647):p5 n=p5 (n / 10)++(digs10.drop (n % 10).toNat).take 1:=by
 unfold p5 Lib.itoa
 rw [if_neg (by omega),if_neg (by omega),if_neg (by omega),if_neg (by omega),dig10 _ (by omega),Lib.decDigits,dif_neg (by omega)]
 have e1:n.toNat / 10=(n / 10).toNat:=by omega
 have e2:n.toNat % 10=(n % 10).toNat:=by omega
 rw [e1,e2]
theorem dig8 (k:Nat) (h:k < 8):(digs8.drop k).take 1=[UInt8.ofNat (48+k)]:=by
 have:∀k:Fin 8,(digs8.drop k.1).take 1=[UInt8.ofNat (48+k.1)]:=by decide
 exact this ⟨k,h⟩
theorem H09 (c:UInt8):D87 c=[UInt8.ofNat (48+c.toNat / 64),UInt8.ofNat (48+c.toNat / 8 % 8),UInt8.ofNat (48+c.toNat % 8)]:=by
 have:=c.toNat_lt
 unfold D87
 rw [dig8 _ (by omega),dig8 _ (by omega),dig8 _ (by omega)];rfl
def escs (s:Str) (i:Nat):Str:=((s.take i).map l7).flatten
theorem I97 (s:Str):escs s 0=[]:=rfl
theorem F80 (s:Str) (i:Nat) (h:i < s.length):escs s (i+1)=escs s i++l7 s[i]:=by
 unfold escs;rw [J93 h,K00,K04];simp only [J95,K17,J99,K24,K06]
theorem H10 (s:Str) (i:Nat) (h:i≤s.length):(escs s i).length≤4*i:=by
 have:=D14 (s.take i);unfold escs;rw [K03] at this;omega
def plains (s:Str) (i:Nat):Bool:=decide (s≠[])&&(s.take i).all B40
theorem D88 (s:Str):plains s 0=decide (s≠[]):=by simp [plains]
theorem D89 (s:Str) (i:Nat) (h:i < s.length):plains s (i+1)=(plains s i&&B40 s[i]):=by
 unfold plains;rw [J93 h,List.all_append];simp only [List.all_cons,List.all_nil,Bool.and_true,Bool.and_assoc]
theorem B41 (s:Str):Z3 s=if plains s s.length=true then s else (34::escs s s.length)++[34]:=by
 unfold Z3 plains escs
 rw [J98]
 simp only [J90,decide_eq_true_eq,K19]
end Go.AL
namespace Go.AL
open Go
def P6 (cur:Str):Str→List Str
 | []=>[cur]
 | c::r=>if c=10 then (cur++[c])::P6 [] r else P6 (cur++[c]) r
def U5 (b:Str):List Str:=P6 [] b
theorem F37 (a cur:Str) (h:(10:UInt8)∉a):P6 cur a=[cur++a]:=by
 induction a generalizing cur with
 | nil=>simp [P6]
 | cons c r ih =>
  simp only [K28,not_or] at h
  rw [P6,if_neg (fun e=>h.1 e.symm),ih _ h.2];simp
theorem G29 (a b cur:Str) (h:(10:UInt8)∉a):P6 cur (a++10::b)=(cur++a++[10])::P6 [] b:=by
 induction a generalizing cur with
 | nil=>simp [P6]
 | cons c r ih =>
  simp only [K28,not_or] at h
  rw [K19,P6,if_neg (fun e=>h.1 e.symm),ih _ h.2];simp
theorem l9 (s cur:Str):(P6 cur s).length=s.count 10+1:=by
 induction s generalizing cur with
 | nil=>rfl
 | cons c r ih =>
  by_cases hc:c=10
  ·subst hc;rw [P6,if_pos rfl,J87,ih,List.count_cons_self]
  ·rw [P6,if_neg hc,ih,List.count_cons_of_ne hc]
theorem H11 (s cur:Str):H0 cur s=if (P6 cur s).getLastD []=[] then (P6 cur s).dropLast else P6 cur s:=by
 induction s generalizing cur with
 | nil=>by_cases h:cur=[]<;>simp [H0,P6,h]
 | cons c r ih =>
  rw [H0,P6]
  by_cases hc:c=10
  ·rw [if_pos hc,if_pos hc,ih]
   have hn:P6 [] r≠[]:=fun e=>by have:=l9 r [];rw [e] at this;simp at this
   obtain ⟨x,y,hxy⟩:=List.exists_cons_of_ne_nil hn
   rw [hxy]
   have e1:((cur++[c])::x::y).getLastD []=(x::y).getLastD []:=by cases y<;>simp [List.getLastD]
   rw [e1]
   split
   ·rfl
   ·rfl
  ·rw [if_neg hc,if_neg hc,ih]
theorem E81 (s cur:Str):(H0 cur s).length=s.count 10+if s=[] then (if cur=[] then 0 else 1) else if ended s=true then 0 else 1:=by
 induction s generalizing cur with
 | nil=>by_cases h:cur=[]<;>simp [H0,h]
 | cons c r ih =>
  have he:ended (c::r)=if r=[] then c == 10 else ended r:=by
   cases r with
   | nil=>simp [ended]
   | cons d t=>simp [ended,List.getLast?_cons_cons]
  rw [H0,if_neg (List.cons_ne_nil _ _),he]
  by_cases hc:c=10
  ·subst hc
   rw [if_pos rfl,J87,ih,List.count_cons_self]
   by_cases hr:r=[]<;>simp [hr]
   omega
  ·rw [if_neg hc,ih,List.count_cons_of_ne hc]
   by_cases hr:r=[]<;>simp [hr,hc]
theorem F38 (s:Str):(D5 s).length=s.count 10+if s≠[]∧ended s=false then 1 else 0:=by
 unfold D5
 rw [E81]
 by_cases hs:s=[]<;>simp [hs]
 cases ended s<;>simp
theorem H76 {P:List Str} {i:Nat} {r a b:Str} (h:P.drop i=U5 r) (hr:r=a++10::b) (ha:(10:UInt8)∉a):P[i]?=some (a++[10])∧P.drop (i+1)=U5 b:=by
 have e:U5 r=(a++[10])::U5 b:=by rw [hr];unfold U5;rw [G29 _ _ _ ha];rfl
 rw [e] at h
 refine ⟨by rw [←List.head?_drop,h];rfl,?_⟩
 rw [←List.tail_drop,h];rfl
theorem F81 {α:Type} (P:List α) (z x:α) (i:Nat) (h:P[i]?=some x):(P.take i++List.replicate (P.length - i) z).set i x=P.take (i+1)++List.replicate (P.length - (i+1)) z:=by
 obtain ⟨hi,hx⟩:=List.getElem?_eq_some_iff.1 h
 have hl:(P.take i).length=i:=by rw [K03];omega
 rw [List.set_append_right _ _ (by omega),hl,Nat.sub_self,show P.length - i=(P.length - (i+1))+1 by omega,List.replicate_succ,List.set_cons_zero,J93 hi,hx,K01]
 rfl
def A21 (b:Str):List Str × Int:=if b.length > 1048576∨(D5 b).length > 4096 then ([],1) else (D5 b,0)
end Go.AL
namespace Go.AL
open Go
def H7 (n:Int):Prop:=0≤n∧n≤4096
instance (n:Int):Decidable (H7 n):=by unfold H7;exact inferInstance
def D15 (k:Nat) (i j:Int) (c:Change):Prop:=((((((¬H7 c.Old∨¬H7 c.OldLen)∨¬H7 c.New)∨¬H7 c.NewLen)∨c.OldLen+c.NewLen=0)∨c.Old - i≠c.New - j)∨c.Old < i)∨(0 < (k:Int)∧c.Old=i)
instance (k:Nat) (i j:Int) (c:Change):Decidable (D15 k i j c):=by unfold D15;exact inferInstance
def K0 (k:Nat) (i j:Int):List Change→Int→Int→Bool
 | [],m,n=>decide (¬(m - i≠n - j∨m < i))
 | c::r,m,n=>decide (¬D15 k i j c)&&K0 (k+1) (c.Old+c.OldLen) (c.New+c.NewLen) r m n
def T9 (l:List Change) (m n:Int):Int:=if ¬H7 m∨¬H7 n then 80 else if K0 0 0 0 l m n=true then 0 else 80
def ScOk (i j:Int):List Change→Int→Int→Prop
 | [],m,n=>i≤m∧j≤n
 | c::r,m,n=>H7 c.Old∧H7 c.OldLen∧H7 c.New∧H7 c.NewLen∧i≤c.Old∧j≤c.New∧ScOk (c.Old+c.OldLen) (c.New+c.NewLen) r m n
theorem u9:∀(l:List Change) (k:Nat) (i j m n:Int),K0 k i j l m n=true→ScOk i j l m n
 | [],k,i,j,m,n,h=>by simp only [K0,decide_eq_true_eq] at h;simp only [ScOk];omega
 | c::r,k,i,j,m,n,h=>by
  simp only [K0,J90,decide_eq_true_eq] at h
  obtain ⟨h1,h2⟩:=h
  unfold D15 at h1
  refine ⟨?_,?_,?_,?_,?_,?_,u9 r _ _ _ m n h2⟩
  all_goals (by_cases a1:H7 c.Old<;>by_cases a2:H7 c.OldLen<;>by_cases a3:H7 c.New<;>by_cases a4:H7 c.NewLen<;>simp [a1,a2,a3,a4] at h1 ⊢<;>omega)
theorem B16 {l:List Change} {m n:Int} (h:T9 l m n=0):H7 m∧H7 n∧ScOk 0 0 l m n:=by
 unfold T9 at h
 split at h
 ·omega
 ·rename_i h1
  split at h
  ·rename_i h2
   by_cases a1:H7 m<;>by_cases a2:H7 n<;>simp [a1,a2] at h1
   exact ⟨a1,a2,u9 _ _ _ _ _ _ h2⟩
  ·omega
def cAt (l:List Change) (k:Nat):Change:=l.getD k ⟨0,0,0,0⟩
theorem X9 {l:List Change} {k:Nat} (h:k < l.length):l[k]?=some (cAt l k):=by
 unfold cAt;rw [J91,J88 h];rfl
theorem ScOk.end_le:∀{l:List Change} {i j m n:Int},ScOk i j l m n→i≤m∧j≤n
 | [],_,_,_,_,h=>h
 | c::r,i,j,m,n,⟨h1,h2,h3,h4,h5,h6,h7⟩=>by have:=h7.end_le;unfold H7 at *;omega
theorem ScOk.get:∀{l:List Change} {i j m n:Int} (k:Nat),ScOk i j l m n→k < l.length→H7 (cAt l k).Old∧H7 (cAt l k).OldLen∧H7 (cAt l k).New∧H7 (cAt l k).NewLen∧(cAt l k).Old+(cAt l k).OldLen≤m∧(cAt l k).New+(cAt l k).NewLen≤n
 | c::r,i,j,m,n,0,⟨h1,h2,h3,h4,h5,h6,h7⟩,_=>by have:=h7.end_le;exact ⟨h1,h2,h3,h4,this.1,this.2⟩
 | c::r,i,j,m,n,k+1,⟨h1,h2,h3,h4,h5,h6,h7⟩,hk=>by
  have:=h7.get k (by simpa using hk)
  simpa [cAt] using this
theorem ScOk.next:∀{l:List Change} {i j m n:Int} (k:Nat),ScOk i j l m n→k+1 < l.length→(cAt l k).Old+(cAt l k).OldLen≤(cAt l (k+1)).Old
 | [c],_,_,_,_,_,_,hk=>by simp at hk
 | c::c2::r,i,j,m,n,0,⟨_,_,_,_,_,_,h7⟩,_=>by simpa [cAt] using h7.2.2.2.2.1
 | c::c2::r,i,j,m,n,k+1,⟨_,_,_,_,_,_,h7⟩,hk=>by
  have:=h7.next k (by simpa using hk)
  simpa [cAt] using this
theorem ScOk.mono {l:List Change} {m n:Int} (h:ScOk 0 0 l m n):∀(a b:Nat),a≤b→b < l.length→(cAt l a).Old≤(cAt l b).Old∧(cAt l a).Old+(cAt l a).OldLen≤(cAt l b).Old+(cAt l b).OldLen
 | a,0,h1,h2=>by rw [show a=0 by omega];omega
 | a,b+1,h1,h2=>by
  by_cases hab:a=b+1
  ·subst hab;omega
  ·have h3:=h.mono a b (by omega) (by omega)
   have h4:=h.next b h2
   have h5:=h.get b (by omega)
   have h6:=h.get (b+1) h2
   unfold H7 at *;omega
def X8 (a b:Int):Int:=if b < a then b else a
def opens (l:List Change) (ctx:Int) (k:Nat):Prop:=k=0∨2*ctx < (cAt l k).Old - (cAt l (k - 1)).Old - (cAt l (k - 1)).OldLen
instance (l:List Change) (ctx:Int) (k:Nat):Decidable (opens l ctx k):=by unfold opens;exact inferInstance
def D16:Hunk:=⟨0,0,⟨0,0⟩,⟨0,0⟩⟩
def V2 (l:List Change) (ctx:Int) (k:Nat):Hunk:=⟨k,0,⟨(cAt l k).Old - X8 ctx (cAt l k).Old,0⟩,⟨(cAt l k).New - X8 ctx (cAt l k).Old,0⟩⟩
def A52 (l:List Change) (m ctx:Int) (k:Nat) (h:Hunk):Hunk :=
 let c:=cAt l k
 let a:=X8 ctx (m - (c.Old+c.OldLen))
 ⟨h.First,k+1,⟨h.Old.From,c.Old+c.OldLen+a⟩,⟨h.New.From,c.New+c.NewLen+a⟩⟩
def T3 (l:List Change) (ctx:Int) (k:Nat) (out:List Hunk):List Hunk:=if opens l ctx k then out++[V2 l ctx k] else out
def H5 (l:List Change) (m ctx:Int):Nat→List Hunk
 | 0=>[]
 | k+1=>let out:=T3 l ctx k (H5 l m ctx k);out.set (out.length - 1) (A52 l m ctx k (out.getD (out.length - 1) D16))
def r8 (l:List Change) (m n ctx:Int):List Hunk × Int:=if ctx < 0∨1048576 < ctx then ([],3) else if T9 l m n≠0 then ([],T9 l m n) else (H5 l m ctx l.length,0)
theorem m6 (l:List Change) (m ctx:Int):∀k,(H5 l m ctx k).length≤k∧(0 < k→0 < (H5 l m ctx k).length)
 | 0=>by simp [H5]
 | k+1=>by
  have h:=m6 l m ctx k
  simp only [H5,K38,T3]
  split
  ·simp only [J86,J87,J89];omega
  ·rename_i ho
   have:k≠0:=fun e=>ho (.inl e)
   omega
def H77 (l:List Change) (m:Int) (k:Nat) (h:Hunk):Prop :=
 ∃a b:Nat,h.First=a∧h.Last=(b:Int)+1∧a≤b∧b < k∧0≤h.Old.From∧h.Old.From≤(cAt l a).Old∧(cAt l b).Old+(cAt l b).OldLen≤h.Old.To∧h.Old.To≤m ∧ -4096≤h.New.From∧h.New.From≤4096
theorem C74 {l:List Change} {m n ctx:Int} (hs:ScOk 0 0 l m n) (hc:0≤ctx):∀k,k≤l.length→∀h∈H5 l m ctx k,H77 l m k h
 | 0,_,h,hm=>by simp [H5] at hm
 | k + 1,hk,h,hm=>by
  have ih:=C74 hs hc k (by omega)
  have hg:=hs.get k (by omega)
  have hlen:=m6 l m ctx k
  simp only [H5] at hm
  obtain ⟨out,hout⟩:∃out,out=T3 l ctx k (H5 l m ctx k):=⟨_,rfl⟩
  rw [←hout] at hm
  have hmin:∀x,0≤x→0≤X8 ctx x∧X8 ctx x≤x:=fun x hx=>by unfold X8;split<;>omega
  have h1:=hmin (cAt l k).Old hg.1.1
  have h2:=hmin (m - ((cAt l k).Old+(cAt l k).OldLen)) (by omega)
  obtain ⟨⟨g1,g2⟩,⟨g3,g4⟩,⟨g5,g6⟩,⟨g7,g8⟩,g9,g10⟩:=hg
  have hend:∀h0:Hunk,(∃a:Nat,h0.First=a∧a≤k∧0≤h0.Old.From∧h0.Old.From≤(cAt l a).Old ∧ -4096≤h0.New.From∧h0.New.From≤4096)→H77 l m (k+1) (A52 l m ctx k h0):=by
   rintro h0 ⟨a,e1,e2,e3,e4,e5,e6⟩
   refine ⟨a,k,e1,rfl,e2,by omega,e3,e4,?_,?_,e5,e6⟩
   ·show _≤(cAt l k).Old+(cAt l k).OldLen+X8 ctx (m - ((cAt l k).Old+(cAt l k).OldLen));omega
   ·show (cAt l k).Old+(cAt l k).OldLen+X8 ctx (m - ((cAt l k).Old+(cAt l k).OldLen))≤m;omega
  obtain ⟨p,hp,rfl⟩:=List.getElem_of_mem hm
  rw [K38] at hp
  rw [List.getElem_set]
  split
  ·rename_i hq
   refine hend _ ?_
   by_cases ho:opens l ctx k
   ·have e:out=H5 l m ctx k++[V2 l ctx k]:=by rw [hout,T3,if_pos ho]
    have e2:out.getD (out.length - 1) D16=V2 l ctx k:=by rw [e];simp
    rw [e2]
    refine ⟨k,rfl,Nat.le_refl _,?_,?_,?_,?_⟩
    ·show 0≤(cAt l k).Old - X8 ctx (cAt l k).Old;omega
    ·show (cAt l k).Old - X8 ctx (cAt l k).Old≤_;omega
    ·show -4096≤(cAt l k).New - X8 ctx (cAt l k).Old;omega
    ·show (cAt l k).New - X8 ctx (cAt l k).Old≤_;omega
   ·have e:out=H5 l m ctx k:=by rw [hout,T3,if_neg ho]
    have hlt:out.length - 1 < (H5 l m ctx k).length:=by rw [e] at hp ⊢;omega
    have e2:out.getD (out.length - 1) D16∈H5 l m ctx k:=by
     rw [e] at hlt ⊢
     rw [J91,J88 hlt]
     exact J96 hlt
    obtain ⟨a,b,e3,e4,e5,e6,e7,e8,e9,e10,e11,e12⟩:=ih _ e2
    exact ⟨a,e3,by omega,e7,e8,e11,e12⟩
  ·rename_i hq
   have hin:out[p]∈H5 l m ctx k:=by
    by_cases ho:opens l ctx k
    ·have e:out=H5 l m ctx k++[V2 l ctx k]:=by rw [hout,T3,if_pos ho]
     have hlt:p < (H5 l m ctx k).length:=by
      have:out.length=(H5 l m ctx k).length+1:=by rw [e];simp
      omega
     have:out[p]=(H5 l m ctx k)[p]:=by simp only [e];rw [K32 hlt]
     rw [this];exact J96 hlt
    ·have e:out=H5 l m ctx k:=by rw [hout,T3,if_neg ho]
     have:out[p]∈out:=J96 hp
     rw [←e];exact this
   obtain ⟨a,b,e3,e4,e5,e6,e7⟩:=ih _ hin
   exact ⟨a,b,e3,e4,e5,by omega,e7⟩
end Go.AL
namespace Go.AL
open Go
def J1 (s:Str):Bool:=decide (1≤s.length∧s.length≤200)
def F6 (ls:List PatchLine) (k:UInt8):List Str:=(ls.filter (fun x=>decide (x.Kind≠k))).map (·.Text)
def H12 (x:PatchLine):Prop:=((x.Kind≠32∧x.Kind≠45)∧x.Kind≠43)∨I6 x.Text=false
instance (x:PatchLine):Decidable (H12 x):=by unfold H12;exact inferInstance
def A73 (x:PatchLine):Bool:=decide (¬H12 x)
def o4 (ls:List PatchLine):Bool:=ls.any (fun x=>decide (x.Kind≠32))
def A35 (some:Bool) (i j:Int) (h:PatchHunk):Prop:=((((some=false∨h.Old < i)∨h.New < j)∨4096 < h.Old)∨4096 < h.New)∨h.Old - i≠h.New - j
instance (s:Bool) (i j:Int) (h:PatchHunk):Decidable (A35 s i j h):=by unfold A35;exact inferInstance
def c8 (h:PatchHunk):Int:=(F6 h.Lines 43).length
def j4 (h:PatchHunk):Int:=(F6 h.Lines 45).length
def A43 (i j:Int):List PatchHunk→Bool
 | []=>true
 | h::r=>h.Lines.all A73&&(decide (¬A35 (o4 h.Lines) i j h)&&(decide (¬(4096 < h.Old+c8 h∨4096 < h.New+j4 h))&&A43 (h.Old+c8 h) (h.New+j4 h) r))
def J0 (hs:List PatchHunk) (k:UInt8):List Str:=(hs.map (fun h=>F6 h.Lines k)).flatten
def S3:List Str→Bool
 | []=>true
 | x::r=>(r.isEmpty||ended x)&&S3 r
def D55 (hs:List PatchHunk) (k:UInt8):Bool:=S3 (J0 hs k)
def s8 (hs:List PatchHunk):Bool:=A43 0 0 hs&&(D55 hs 43&&D55 hs 45)
def markS:Str:=[10,92,32,78,111,32,110,101,119,108,105,110,101,32,97,116,32,101,110,100,32,111,102,32,102,105,108,101,10]
def V3 (x:PatchLine):List Str:=if ended x.Text then [[x.Kind]++x.Text] else [[x.Kind]++x.Text,markS]
def Y7 (h:PatchHunk):Str:=[64,64,32,45]++P5 h.Old (c8 h)++[32,43]++P5 h.New (j4 h)++[32,64,64,10]
def Z4 (h:PatchHunk):List Str:=Y7 h::(h.Lines.map V3).flatten
def y5 (p:Patch):List Str:=[[45,45,45,32]++Z3 p.OldName++[10],[43,43,43,32]++Z3 p.NewName++[10]]
def D17 (p:Patch):List Str:=y5 p++(p.Hunks.map Z4).flatten
def j1 (p:Patch):Str:=(D17 p).flatten
def y6 (p:Patch):Int:=if J1 p.OldName=false∨J1 p.NewName=false then 120 else if s8 p.Hunks=false then 121 else if 16777216 < (j1 p).length then 1 else 0
def szL (x:PatchLine):Nat:=x.Text.length+64
def szH (h:PatchHunk):Nat:=64+(h.Lines.map szL).sum
def szP (hs:List PatchHunk):Nat:=(hs.map szH).sum
structure PFit (p:Patch):Prop where
 old:p.OldName.length≤4194304
 new:p.NewName.length≤4194304
 hunks:szP p.Hunks≤268435456
theorem H13 (ls:List PatchLine) (i:Nat):((ls.take i).map szL).sum≤(ls.map szL).sum:=by
 conv=>rhs;rw [←K21 i ls,K00,K31]
 omega
theorem A53 (ls:List PatchLine):64*ls.length≤(ls.map szL).sum:=by
 induction ls with
 | nil=>simp
 | cons x r ih=>simp only [J95,K11,J87,szL];omega
theorem D18 {ls:List PatchLine} {x:PatchLine} (h:x∈ls):x.Text.length+64≤(ls.map szL).sum:=by
 induction ls with
 | nil=>simp at h
 | cons y r ih =>
  simp only [J95,K11]
  rcases List.mem_cons.1 h with rfl | h
  ·unfold szL;omega
  ·have:=ih h;omega
theorem B42 {hs:List PatchHunk} {h:PatchHunk} (hm:h∈hs):szH h≤szP hs:=by
 unfold szP
 induction hs with
 | nil=>simp at hm
 | cons y r ih =>
  simp only [J95,K11]
  rcases List.mem_cons.1 hm with rfl | hm
  ·omega
  ·have:=ih hm;omega
theorem C22 (hs:List PatchHunk):64*hs.length≤szP hs:=by
 unfold szP
 induction hs with
 | nil=>simp
 | cons x r ih=>simp only [J95,K11,J87,szH];omega
theorem D19 (hs:List PatchHunk) (i:Nat):szP (hs.take i)≤szP hs:=by
 unfold szP
 conv=>rhs;rw [←K21 i hs,K00,K31]
 omega
theorem P7 (ls:List PatchLine) (k:UInt8):(F6 ls k).length≤ls.length:=by unfold F6;rw [K13];exact List.length_filter_le _ _
theorem B02 (ls:List PatchLine) (k:UInt8) (i:Nat) (h:i < ls.length):F6 (ls.take (i+1)) k=if ls[i].Kind≠k then F6 (ls.take i) k++[ls[i].Text] else F6 (ls.take i) k:=by
 unfold F6
 rw [J93 h,K34,K00]
 by_cases hk:ls[i].Kind=k
 ·rw [if_neg (by simp [hk])];simp [hk]
 ·rw [if_pos hk];simp [hk]
theorem E82 (hs:List PatchHunk) (k:UInt8) (i:Nat) (h:i < hs.length):J0 (hs.take (i+1)) k=J0 (hs.take i) k++F6 hs[i].Lines k:=by
 unfold J0
 rw [J93 h,K00,K04];simp only [J95,K17,J99,K24,K06]
theorem F39 (hs:List PatchHunk) (k:UInt8):64*(J0 hs k).length≤szP hs:=by
 induction hs with
 | nil=>simp [J0]
 | cons h r ih =>
  have h1:=P7 h.Lines k
  have h2:=A53 h.Lines
  simp only [J0,J95,J99,J86,szP,K11,szH] at ih ⊢
  omega
theorem F40 {hs:List PatchHunk} {k:UInt8} {s:Str} (h:s∈J0 hs k):s.length≤szP hs:=by
 unfold J0 at h
 obtain ⟨l,hl,hs'⟩:=List.mem_flatten.1 h
 obtain ⟨hk,hhk,rfl⟩:=List.mem_map.1 hl
 unfold F6 at hs'
 obtain ⟨x,hx,rfl⟩:=List.mem_map.1 hs'
 have h1:=D18 (List.mem_filter.1 hx).1
 have h2:=B42 hhk
 unfold szH at h2
 omega
theorem F41 (l:List Str) (i:Nat) (h:i+1 < l.length):S3 (l.drop i)=(ended l[i]&&S3 (l.drop (i+1))):=by
 rw [J92 (by omega),S3]
 have:(l.drop (i+1)).isEmpty=false:=by
  rw [List.isEmpty_eq_false_iff];intro e
  have:=congrArg List.length e
  simp at this;omega
 rw [this];rfl
theorem F42 (l:List Str) (i:Nat) (h:l.length≤i+1):S3 (l.drop i)=true:=by
 rcases Nat.lt_or_ge i l.length with h' | h'
 ·rw [J92 h',J94 h];rfl
 ·rw [J94 h'];rfl
theorem H78 (x:PatchLine):(V3 x).length≤2∧1≤(V3 x).length:=by unfold V3;split<;>simp
theorem H14 (x:PatchLine):(V3 x).flatten.length≤szL x:=by
 unfold V3 szL markS;split<;>simp<;>omega
theorem B43 (ls:List PatchLine):(ls.map V3).flatten.flatten.length≤(ls.map szL).sum:=by
 induction ls with
 | nil=>simp
 | cons x r ih=>have:=H14 x;simp only [J95,J99,K04,J86,K11];omega
theorem D90 (ls:List PatchLine):(ls.map V3).flatten.length≤2*ls.length:=by
 induction ls with
 | nil=>simp
 | cons x r ih=>have:=H78 x;simp only [J95,J99,J86,J87];omega
theorem D56 (h:PatchHunk):(Y7 h).length≤52:=by
 have h1:=U6 h.Old (c8 h)
 have h2:=U6 h.New (j4 h)
 unfold Y7
 simp only [J86,J87,J89];omega
theorem H15 (h:PatchHunk):(Z4 h).flatten.length≤szH h:=by
 have h1:=D56 h
 have h2:=B43 h.Lines
 unfold Z4 szH
 simp only [J99,J86];omega
theorem A54 (hs:List PatchHunk):(hs.map Z4).flatten.flatten.length≤szP hs:=by
 unfold szP
 induction hs with
 | nil=>simp
 | cons x r ih=>have:=H15 x;simp only [J95,J99,K04,J86,K11];omega
theorem H79 (h:PatchHunk):(Z4 h).length≤szH h:=by
 have h1:=D90 h.Lines
 have h2:=A53 h.Lines
 unfold Z4 szH
 simp only [J87];omega
theorem H16 (hs:List PatchHunk):(hs.map Z4).flatten.length≤szP hs:=by
 unfold szP
 induction hs with
 | nil=>simp
 | cons x r ih=>have:=H79 x;simp only [J95,J99,J86,K11];omega
theorem A89 (p:Patch):(y5 p).flatten.length≤4*p.OldName.length+4*p.NewName.length+14:=by
 have h1:=l8 p.OldName
 have h2:=l8 p.NewName
 unfold y5
 simp only [J99,K24,J86,J87,J89];omega
theorem D91 (hs:List PatchHunk) (k:Nat) (h:k < hs.length):((hs.take (k+1)).map Z4).flatten=((hs.take k).map Z4).flatten++Z4 hs[k]:=by
 rw [J93 h,K00,K04];simp only [J95,K17,J99,K24,K06]
theorem D92 (ls:List PatchLine) (k:Nat) (h:k < ls.length):((ls.take (k+1)).map V3).flatten=((ls.take k).map V3).flatten++V3 ls[k]:=by
 rw [J93 h,K00,K04];simp only [J95,K17,J99,K24,K06]
theorem D20:∀(hs:List PatchHunk) (i j:Int),A43 i j hs=true→0≤i→0≤j→∀h∈hs,(0≤h.Old∧h.Old≤4096)∧(0≤h.New∧h.New≤4096)
 | [],_,_,_,_,_,h,hm=>by simp at hm
 | x::r,i,j,hg,hi,hj,h,hm=>by
  simp only [A43,J90,decide_eq_true_eq] at hg
  obtain ⟨_,h1,h2,h3⟩:=hg
  unfold A35 at h1
  have hx:(0≤x.Old∧x.Old≤4096)∧(0≤x.New∧x.New≤4096):=by omega
  rcases List.mem_cons.1 hm with rfl | hm
  ·exact hx
  ·exact D20 r _ _ h3 (by unfold c8;omega) (by unfold j4;omega) h hm
theorem G30 {hs:List PatchHunk} (h:s8 hs=true):∀x∈hs,(0≤x.Old∧x.Old≤4096)∧(0≤x.New∧x.New≤4096):=by
 unfold s8 at h
 rw [J90] at h
 exact D20 hs 0 0 h.1 (by omega) (by omega)
end Go.AL
namespace Go.AL
open Go
def P0 (k:UInt8) (ts:List Str):List PatchLine:=ts.map fun t=>⟨k,t⟩
theorem E83 (k:UInt8) (ts:List Str) (i:Nat) (h:i < ts.length):P0 k (ts.take (i+1))=P0 k (ts.take i)++[⟨k,ts[i]⟩]:=by
 unfold P0;rw [J93 h,K00];rfl
theorem A14 (k:UInt8) (ts:List Str):(P0 k ts).length=ts.length:=by simp [P0]
def sub (x:List Str) (a b:Int):List Str:=(x.drop a.toNat).take (b.toNat - a.toNat)
theorem y7 (x:List Str) (a b:Int):(sub x a b).length≤x.length:=by unfold sub;rw [K03,K08];omega
def Z5 (c:Change):Int:=c.Old+c.OldLen
def W9 (l:List Change) (i0:Int) (a t:Nat):Int:=if t=0 then i0 else Z5 (cAt l (a+t - 1))
theorem C75 (l:List Change) (i0:Int) (a t:Nat):W9 l i0 a (t+1)=Z5 (cAt l (a+t)):=by
 unfold W9;rw [if_neg (by omega)];congr 2
def R5 (l:List Change) (x y:List Str) (i0:Int) (a:Nat):Nat→List PatchLine
 | 0=>[]
 | t+1=>R5 l x y i0 a t++P0 32 (sub x (W9 l i0 a t) (cAt l (a+t)).Old)++P0 45 (sub x (cAt l (a+t)).Old (Z5 (cAt l (a+t))))++P0 43 (sub y (cAt l (a+t)).New ((cAt l (a+t)).New+(cAt l (a+t)).NewLen))
def K1 (l:List Change) (x y:List Str) (h:Hunk):PatchHunk :=
 ⟨h.Old.From,h.New.From,R5 l x y h.Old.From h.First.toNat (h.Last.toNat - h.First.toNat)++P0 32 (sub x (W9 l h.Old.From h.First.toNat (h.Last.toNat - h.First.toNat)) h.Old.To)⟩
theorem E84 (l:List Change) (x y:List Str) (i0:Int) (a t:Nat):(R5 l x y i0 a t).length≤t*(2*x.length+y.length):=by
 induction t with
 | zero=>simp [R5]
 | succ t ih =>
  have h1:=y7 x (W9 l i0 a t) (cAt l (a+t)).Old
  have h2:=y7 x (cAt l (a+t)).Old (Z5 (cAt l (a+t)))
  have h3:=y7 y (cAt l (a+t)).New ((cAt l (a+t)).New+(cAt l (a+t)).NewLen)
  simp only [R5,J86,A14]
  rw [Nat.succ_mul];omega
def O7:Patch:=⟨[],[],[]⟩
def Q8 (x y:List Str):List Change:=V7 (F0 (D2 [x,y]) x) (F0 (D2 [x,y]) y)
theorem B44 (x y:List Str):(Q8 x y).length≤x.length+1:=by
 unfold Q8 V7 A10
 have h1:=B00 (H1 0 0 (F0 (D2 [x,y]) x) (F0 (D2 [x,y]) y)) 0 0 ((F0 (D2 [x,y]) x).length) ((F0 (D2 [x,y]) y).length)
 have h2:=d6 0 0 (F0 (D2 [x,y]) x) (F0 (D2 [x,y]) y)
 have h3:(F0 (D2 [x,y]) x).length=x.length:=by simp [F0]
 omega
end Go.AL
namespace Go.AL
open Go
end Go.AL
namespace Go.AL
open Go
def H17 (i j:Int) (h:PatchHunk):Prop:=((((h.Old < 0∨h.New < 0)∨4096 < h.Old)∨4096 < h.New)∨h.Old < i)∨h.Old - i≠h.New - j
instance (i j:Int) (h:PatchHunk):Decidable (H17 i j h):=by unfold H17;exact inferInstance
end Go.AL
namespace Go.AL
open Go
theorem textsLen_le (rows:List Row) (B:Nat) (h:∀r∈rows,r.Text.length≤B):N7 rows≤rows.length*B:=by
 unfold N7
 induction rows with
 | nil=>simp
 | cons r rs ih =>
  have h1:=ih fun x hx=>h x (by simp [hx])
  have h2:=h r (by simp)
  simp only [J95,J99,J86,J87,K14,Nat.one_mul]
  omega
theorem H18 (b s:Str) (h:s∈D5 b):s.length≤b.length:=by
 have h1:(D5 b).flatten=b:=by
  have key:∀(s cur:Str),(H0 cur s).flatten=cur++s:=by
   intro s
   induction s with
   | nil=>intro cur;unfold H0;split<;>simp [*]
   | cons c r ih=>intro cur;unfold H0;split<;>simp [ih]
  exact key b []
 have h2:∀(l:List Str),s∈l→s.length≤l.flatten.length:=by
  intro l
  induction l with
  | nil=>intro h;cases h
  | cons x r ih =>
   intro h
   rcases List.mem_cons.1 h with rfl | h
   ·simp
   ·have:=ih h;simp only [J99,J86];omega
 have:=h2 _ h;rw [h1] at this;exact this
end Go.AL
namespace Go.AL
open Go
theorem E21 {x:List Str} {a b:Int} {s:Str} (h:s∈sub x a b):s∈x:=by
 unfold sub at h
 exact List.mem_of_mem_drop (List.mem_of_mem_take h)
end Go.AL
namespace Go.AL
open Go
end Go.AL
namespace Go.AL
open Go
def E85 (c:Change):Int:=c.New+c.NewLen
def eoI (i:Int) (l:List Change) (k:Nat):Int:=if k=0 then i else Z5 (cAt l (k - 1))
def enI (j:Int) (l:List Change) (k:Nat):Int:=if k=0 then j else E85 (cAt l (k - 1))
theorem A36 (i:Int) (c:Change) (r:List Change) (k:Nat):eoI i (c::r) (k+1)=eoI (Z5 c) r k:=by
 cases k<;>rfl
theorem A37 (j:Int) (c:Change) (r:List Change) (k:Nat):enI j (c::r) (k+1)=enI (E85 c) r k:=by
 cases k<;>rfl
theorem A74 (i:Int) (l:List Change) (k:Nat):eoI i l (k+1)=Z5 (cAt l k):=rfl
theorem A75 (j:Int) (l:List Change) (k:Nat):enI j l (k+1)=E85 (cAt l k):=rfl
theorem D21 (c:Change) (r:List Change) (k:Nat):cAt (c::r) (k+1)=cAt r k:=rfl
def B99 (x y:List Str) (i j:Int):List Change→Prop
 | []=>sub x i x.length=sub y j y.length
 | c::r=>sub x i c.Old=sub y j c.New∧B99 x y (Z5 c) (E85 c) r
theorem A15 (m n:Int):∀(l:List Change) (k0:Nat) (i j:Int),K0 k0 i j l m n=true→∀k,k < l.length →
  H7 (cAt l k).Old∧H7 (cAt l k).OldLen∧H7 (cAt l k).New∧H7 (cAt l k).NewLen∧(cAt l k).OldLen+(cAt l k).NewLen≠0∧(cAt l k).Old - eoI i l k=(cAt l k).New - enI j l k∧eoI i l k≤(cAt l k).Old∧(0 < k0+k→eoI i l k < (cAt l k).Old)
 | [],_,_,_,_,k,hk=>by simp at hk
 | c :: r,k0,i,j,h,k,hk=>by
  simp only [K0,J90,decide_eq_true_eq] at h
  obtain ⟨h1,h2⟩:=h
  cases k with
  | zero =>
   unfold D15 at h1
   show H7 c.Old∧H7 c.OldLen∧H7 c.New∧H7 c.NewLen∧c.OldLen+c.NewLen≠0∧c.Old - i=c.New - j∧i≤c.Old∧(0 < k0+0→i < c.Old)
   have d1:H7 c.Old:=by by_cases q:H7 c.Old;exact q;exact absurd (.inl (.inl (.inl (.inl (.inl (.inl (.inl q))))))) h1
   have d2:H7 c.OldLen:=by by_cases q:H7 c.OldLen;exact q;exact absurd (.inl (.inl (.inl (.inl (.inl (.inl (.inr q))))))) h1
   have d3:H7 c.New:=by by_cases q:H7 c.New;exact q;exact absurd (.inl (.inl (.inl (.inl (.inl (.inr q)))))) h1
   have d4:H7 c.NewLen:=by by_cases q:H7 c.NewLen;exact q;exact absurd (.inl (.inl (.inl (.inl (.inr q))))) h1
   refine ⟨d1,d2,d3,d4,fun q=>h1 (.inl (.inl (.inl (.inr q)))),?_,?_,fun h0=>?_⟩
   ·by_cases q:c.Old - i=c.New - j
    ·exact q
    ·exact absurd (.inl (.inl (.inr q))) h1
   ·by_cases q:c.Old < i
    ·exact absurd (.inl (.inr q)) h1
    ·omega
   ·by_cases q:c.Old < i
    ·exact absurd (.inl (.inr q)) h1
    ·by_cases q2:c.Old=i
     ·exact absurd (.inr ⟨by omega,q2⟩) h1
     ·omega
  | succ k =>
   have:=A15 m n r (k0+1) _ _ h2 k (by simpa using hk)
   rw [D21,A36,A37]
   obtain ⟨e1,e2,e3,e4,e5,e6,e7,e8⟩:=this
   exact ⟨e1,e2,e3,e4,e5,e6,e7,fun h0=>e8 (by omega)⟩
theorem E86 (m n:Int):∀(l:List Change) (k0:Nat) (i j:Int),K0 k0 i j l m n=true→m - eoI i l l.length=n - enI j l l.length∧eoI i l l.length≤m
 | [],_,i,j,h=>by
  simp only [K0,decide_eq_true_eq] at h
  show m - i=n - j∧i≤m
  omega
 | c::r,k0,i,j,h=>by
  simp only [K0,J90,decide_eq_true_eq] at h
  rw [J87,A36,A37]
  exact E86 m n r _ _ _ h.2
theorem E87 (x y:List Str):∀(l:List Change) (i j:Int),B99 x y i j l→∀k,k < l.length→sub x (eoI i l k) (cAt l k).Old=sub y (enI j l k) (cAt l k).New
 | [],_,_,_,k,hk=>by simp at hk
 | c::r,i,j,h,k,hk=>by
  cases k with
  | zero=>exact h.1
  | succ k=>rw [A36,A37,D21];exact E87 x y r _ _ h.2 k (by simpa using hk)
theorem G31 (x y:List Str):∀(l:List Change) (i j:Int),B99 x y i j l→sub x (eoI i l l.length) x.length=sub y (enI j l l.length) y.length
 | [],_,_,h=>h
 | c::r,i,j,h=>by rw [J87,A36,A37];exact G31 x y r _ _ h.2
def mkH (l:List Change) (m ctx:Int) (a b:Nat):Hunk:=A52 l m ctx (b - 1) (V2 l ctx a)
def GrOk (l:List Change) (m ctx:Int):Nat→List Hunk→Nat→Prop
 | a,[],k=>a=k
 | a,h::r,k=>∃b,a < b∧opens l ctx a∧h=mkH l m ctx a b∧GrOk l m ctx b r k
theorem GrOk.le {l:List Change} {m ctx:Int}:∀{hs:List Hunk} {a k:Nat},GrOk l m ctx a hs k→a≤k
 | [],a,k,h=>Nat.le_of_eq h
 | _::_,a,k,⟨b,h1,_,_,h2⟩=>by have:=GrOk.le h2;omega
theorem GrOk.snoc {l:List Change} {m ctx:Int} {k:Nat} (ho:opens l ctx k):∀{hs:List Hunk} {a:Nat},GrOk l m ctx a hs k→GrOk l m ctx a (hs++[mkH l m ctx k (k+1)]) (k+1)
 | [],a,h=>by
  obtain rfl:a=k:=h
  exact ⟨a+1,by omega,ho,rfl,rfl⟩
 | _::_,a,⟨b,h1,h2,h3,h4⟩=>⟨b,h1,h2,h3,GrOk.snoc ho h4⟩
theorem GrOk.last {l:List Change} {m ctx:Int} {k:Nat}:∀{hs:List Hunk} {a:Nat},GrOk l m ctx a hs k→hs≠[]→GrOk l m ctx a (hs.set (hs.length - 1) (A52 l m ctx k (hs.getD (hs.length - 1) D16))) (k+1)
 | [],_,_,h0=>absurd rfl h0
 | [h],a,⟨b,h1,h2,h3,h4⟩,_=>by
  obtain rfl:b=k:=h4
  subst h3
  exact ⟨b+1,by omega,h2,rfl,rfl⟩
 | h::h'::r,a,⟨b,h1,h2,h3,h4⟩,_=>by
  have ih:=GrOk.last h4 (by simp)
  refine ⟨b,h1,h2,h3,?_⟩
  simpa using ih
theorem B45 (l:List Change) (m ctx:Int):∀k,GrOk l m ctx 0 (H5 l m ctx k) k
 | 0=>rfl
 | k+1=>by
  have ih:=B45 l m ctx k
  have hne:=(m6 l m ctx k).2
  simp only [H5,T3]
  by_cases ho:opens l ctx k
  ·rw [if_pos ho]
   have e:(H5 l m ctx k++[V2 l ctx k]).set ((H5 l m ctx k++[V2 l ctx k]).length - 1) (A52 l m ctx k ((H5 l m ctx k++[V2 l ctx k]).getD ((H5 l m ctx k++[V2 l ctx k]).length - 1) D16))=H5 l m ctx k++[mkH l m ctx k (k+1)]:=by
    simp [mkH]
   rw [e]
   exact ih.snoc ho
  ·rw [if_neg ho]
   refine ih.last ?_
   have:k≠0:=fun e=>ho (.inl e)
   have:=hne (by omega)
   intro e;rw [e] at this;simp at this
theorem B46 (x:List Str) {a b c:Int} (h0:0≤a) (h1:a≤b) (h2:b≤c):sub x a b++sub x b c=sub x a c:=by
 unfold sub
 obtain ⟨u,rfl⟩:∃u:Nat,(u:Int)=a:=⟨a.toNat,by omega⟩
 obtain ⟨v,rfl⟩:∃v:Nat,(v:Int)=b:=⟨b.toNat,by omega⟩
 obtain ⟨w,rfl⟩:∃w:Nat,(w:Int)=c:=⟨c.toNat,by omega⟩
 simp only [J97]
 have h3:x.drop v=(x.drop u).drop (v - u):=by rw [List.drop_drop];congr 1;omega
 rw [h3,show w - u=(v - u)+(w - v) by omega,List.take_add]
theorem A90 (x:List Str) (a:Int):sub x a a=[]:=by simp [sub]
theorem B47 (x:List Str) {a b:Int} (h0:0≤a) (h1:a≤b) (h2:b≤x.length):((sub x a b).length:Int)=b - a:=by
 unfold sub;rw [K03,K08];omega
theorem C00 {x y:List Str} {p q p' q' e:Int} (h:sub x p q=sub y p' q') (h0:0≤p) (h0':0≤p') (he:0≤e) (h1:e≤q - p) (h2:q - p=q' - p'):sub x (q - e) q=sub y (q' - e) q':=by
 have key:∀(z:List Str) (a b:Int),0≤a→e≤b - a→sub z (b - e) b=(sub z a b).drop (b - a - e).toNat:=by
  intro z a b ha hb
  unfold sub
  rw [List.drop_take,List.drop_drop]
  congr 1
  ·omega
  ·congr 1;omega
 rw [key x p q h0 h1,key y p' q' h0' (by omega),h,h2]
theorem E88 {x y:List Str} {p q p' q' e:Int} (h:sub x p q=sub y p' q') (h0:0≤p) (h0':0≤p') (he:0≤e) (h1:e≤q - p) (h2:q - p=q' - p'):sub x p (p+e)=sub y p' (p'+e):=by
 have key:∀(z:List Str) (a b:Int),0≤a→e≤b - a→sub z a (a+e)=(sub z a b).take e.toNat:=by
  intro z a b ha hb
  unfold sub
  rw [List.take_take]
  congr 1
  omega
 rw [key x p q h0 h1,key y p' q' h0' (by omega),h]
theorem B48 (p q:List PatchLine) (k:UInt8):F6 (p++q) k=F6 p k++F6 q k:=by simp [F6]
theorem B49 (k k':UInt8) (ts:List Str):F6 (P0 k ts) k'=if k=k' then [] else ts:=by
 unfold F6 P0
 by_cases h:k=k'
 ·rw [if_pos h];subst h
  simp [List.filter_eq_nil_iff]
 ·rw [if_neg h]
  rw [List.filter_eq_self.2 (by simp [h])]
  simp [Function.comp_def]
structure ScFit (x y:List Str) (l:List Change):Prop where
 lx:(x.length:Int)≤4096
 ly:(y.length:Int)≤4096
 sc:K0 0 0 0 l x.length y.length=true
 eq:B99 x y 0 0 l
section
variable {x y:List Str} {l:List Change}
theorem ScFit.ok (h:ScFit x y l):ScOk 0 0 l x.length y.length:=u9 _ _ _ _ _ _ h.sc
theorem ScFit.check (h:ScFit x y l):T9 l x.length y.length=0:=by
 have h1:=h.lx
 have h2:=h.ly
 unfold T9
 rw [if_neg (by unfold H7;omega),if_pos h.sc]
theorem ScFit.nn (h:ScFit x y l) (k:Nat) (hk:k≤l.length):0≤eoI 0 l k∧0≤enI 0 l k∧eoI 0 l k≤x.length∧enI 0 l k≤y.length:=by
 cases k with
 | zero=>exact ⟨Int.le_refl _,Int.le_refl _,Int.natCast_nonneg _,Int.natCast_nonneg _⟩
 | succ k =>
  obtain ⟨⟨a1,a2⟩,⟨b1,b2⟩,⟨c1,c2⟩,⟨d1,d2⟩,h5,h6⟩:=h.ok.get k (by omega)
  rw [A74,A75];unfold Z5 E85
  omega
def eA (l:List Change) (ctx:Int) (a:Nat):Int:=X8 ctx (cAt l a).Old
def eB (l:List Change) (m ctx:Int) (b:Nat):Int:=X8 ctx (m - eoI 0 l b)
theorem I26 {a b:Int} (h:0≤a) (h':0≤b):0≤X8 a b∧X8 a b≤a∧X8 a b≤b:=by unfold X8;split<;>omega
theorem C23 {ctx:Int} {a:Nat} (ho:opens l ctx a) (ha:a≠0):2*ctx < (cAt l a).Old - eoI 0 l a:=by
 rcases ho with h | h
 ·exact absurd h ha
 ·unfold eoI;rw [if_neg ha];unfold Z5;omega
theorem ScFit.before (h:ScFit x y l) {ctx:Int} (hc:0≤ctx) {a:Nat} (ha:a < l.length) (ho:opens l ctx a) :
  0≤eA l ctx a∧eA l ctx a≤ctx∧eA l ctx a≤(cAt l a).Old - eoI 0 l a:=by
 obtain ⟨⟨a1,a2⟩,_⟩:=h.ok.get a ha
 have h3:=I26 hc a1
 unfold eA
 by_cases h0:a=0
 ·subst h0
  show _∧_∧_≤(cAt l 0).Old - 0
  omega
 ·have:=C23 ho h0;omega
theorem ScFit.after (h:ScFit x y l) {ctx:Int} (hc:0≤ctx) {b:Nat} (hb:b≤l.length) (ho:b < l.length→opens l ctx b) (hb0:b≠0) :
  0≤eB l x.length ctx b∧eB l x.length ctx b≤ctx∧eoI 0 l b+eB l x.length ctx b≤x.length∧enI 0 l b+eB l x.length ctx b≤y.length ∧
   sub x (eoI 0 l b) (eoI 0 l b+eB l x.length ctx b)=sub y (enI 0 l b) (enI 0 l b+eB l x.length ctx b):=by
 obtain ⟨h1,h2,h3,h4⟩:=h.nn b hb
 have h5:=I26 hc (show 0≤(x.length:Int) - eoI 0 l b by omega)
 unfold eB
 rcases Nat.lt_or_ge b l.length with hlt | hge
 ·obtain ⟨g1,g2,g3,g4,g5,g6,g7,g8⟩:=A15 _ _ _ _ _ _ h.sc b hlt
  obtain ⟨⟨a1,a2⟩,⟨b1,b2⟩,⟨c1,c2⟩,⟨d1,d2⟩,k5,k6⟩:=h.ok.get b hlt
  have hg:=C23 (ho hlt) hb0
  refine ⟨h5.1,h5.2.1,by omega,by omega,E88 (E87 x y l 0 0 h.eq b hlt) h1 h2 h5.1 (by omega) (by omega)⟩
 ·have e:b=l.length:=by omega
  subst e
  obtain ⟨g1,g2⟩:=E86 _ _ _ _ _ _ h.sc
  refine ⟨h5.1,h5.2.1,by omega,by omega,E88 (G31 x y l 0 0 h.eq) h1 h2 h5.1 (by omega) (by omega)⟩
def G32 (l:List Change) (j0:Int) (a t:Nat):Int:=if t=0 then j0 else E85 (cAt l (a+t - 1))
theorem E89 (i0:Int) (a t:Nat) (ht:t≠0):W9 l i0 a t=eoI 0 l (a+t):=by
 unfold W9 eoI;rw [if_neg ht,if_neg (by omega)]
theorem I27 (j0:Int) (a t:Nat) (ht:t≠0):G32 l j0 a t=enI 0 l (a+t):=by
 unfold G32 enI;rw [if_neg ht,if_neg (by omega)]
theorem ScFit.made (h:ScFit x y l) {ctx:Int} (hc:0≤ctx) {a:Nat} (ho:opens l ctx a):∀t,a+t≤l.length→(t=0→a < l.length) →
  F6 (R5 l x y ((cAt l a).Old - eA l ctx a) a t) 43=sub x ((cAt l a).Old - eA l ctx a) (W9 l ((cAt l a).Old - eA l ctx a) a t) ∧
  F6 (R5 l x y ((cAt l a).Old - eA l ctx a) a t) 45=sub y ((cAt l a).New - eA l ctx a) (G32 l ((cAt l a).New - eA l ctx a) a t)
 | 0,_,_=>by
  unfold W9 G32
  rw [if_pos rfl,if_pos rfl,A90,A90]
  exact ⟨rfl,rfl⟩
 | t + 1,hl,_=>by
  have hlt:a+t < l.length:=by omega
  have hla:a < l.length:=by omega
  obtain ⟨ih1,ih2⟩:=ScFit.made h hc ho t (by omega) (fun _=>hla)
  obtain ⟨q1,q2,q3⟩:=h.before hc hla ho
  obtain ⟨p1,p2,p3,p4⟩:=h.nn (a+t) (by omega)
  obtain ⟨r1,r2,r3,r4⟩:=h.nn a (by omega)
  obtain ⟨g1,g2,g3,g4,g5,g6,g7,g8⟩:=A15 _ _ _ _ _ _ h.sc (a+t) hlt
  obtain ⟨k1,⟨k2,k2'⟩,k3,⟨k4,k4'⟩,k5,k6,k7,k8⟩:=A15 _ _ _ _ _ _ h.sc a hla
  obtain ⟨⟨a1,a2⟩,⟨b1,b2⟩,⟨c1,c2⟩,⟨d1,d2⟩,w5,w6⟩:=h.ok.get (a+t) hlt
  have hrun:sub x (W9 l ((cAt l a).Old - eA l ctx a) a t) (cAt l (a+t)).Old=sub y (G32 l ((cAt l a).New - eA l ctx a) a t) (cAt l (a+t)).New ∧
    (cAt l a).Old - eA l ctx a≤W9 l ((cAt l a).Old - eA l ctx a) a t∧W9 l ((cAt l a).Old - eA l ctx a) a t≤(cAt l (a+t)).Old ∧
    (cAt l a).New - eA l ctx a≤G32 l ((cAt l a).New - eA l ctx a) a t∧G32 l ((cAt l a).New - eA l ctx a) a t≤(cAt l (a+t)).New:=by
   have hrun:=E87 x y l 0 0 h.eq (a+t) hlt
   by_cases ht:t=0
   ·subst ht
    unfold W9 G32
    rw [if_pos rfl,if_pos rfl]
    rw [show a+0=a from rfl] at *
    exact ⟨C00 hrun r1 r2 q1 (by omega) (by omega),by omega,by omega,by omega,by omega⟩
   ·rw [E89 _ _ _ ht,I27 _ _ _ ht]
    have m1:=h.ok.mono a (a+t - 1) (by omega) (by omega)
    have m2:eoI 0 l (a+t)=(cAt l (a+t - 1)).Old+(cAt l (a+t - 1)).OldLen:=by unfold eoI;rw [if_neg (by omega)];rfl
    have m4:∀u,u≤t→(cAt l a).New≤enI 0 l (a+u)∨u=0:=by
     intro u
     induction u with
     | zero=>exact fun _=>.inr rfl
     | succ u ihu =>
      intro hu
      obtain ⟨e1,e2,⟨e3,e3'⟩,⟨e4,e4'⟩,e5,e6,e7,e8⟩:=A15 _ _ _ _ _ _ h.sc (a+u) (by omega)
      have e9:enI 0 l (a+(u+1))=(cAt l (a+u)).New+(cAt l (a+u)).NewLen:=rfl
      rcases ihu (by omega) with h' | h'
      ·left;omega
      ·left;subst h';rw [e9];show (cAt l a).New≤(cAt l a).New+(cAt l a).NewLen;exact Int.le_add_of_nonneg_right e4
    have m5:=(m4 t (Nat.le_refl _)).resolve_right ht
    refine ⟨hrun,by omega,by omega,by omega,by omega⟩
  obtain ⟨hr1,hr2,hr3,hr4,hr5⟩:=hrun
  simp (decide:=true) only [R5,B48,B49,ih1,ih2,if_true,if_false,K06]
  have e1:W9 l ((cAt l a).Old - eA l ctx a) a (t+1)=Z5 (cAt l (a+t)):=C75 _ _ _ _
  have e2:G32 l ((cAt l a).New - eA l ctx a) a (t+1)=E85 (cAt l (a+t)):=rfl
  rw [e1,e2]
  have s0:0≤(cAt l a).Old - eA l ctx a:=by omega
  have s1:0≤(cAt l a).New - eA l ctx a:=by omega
  refine ⟨?_,?_⟩
  ·rw [B46 x s0 hr2 hr3,B46 x s0 (by omega) (by unfold Z5;omega)]
  ·rw [hr1,B46 y s1 hr4 hr5]
   exact B46 y s1 (by omega) (by omega)
end
end Go.AL
namespace Go.AL
open Go
section
variable {x y:List Str} {l:List Change}
structure HunkIs (x y:List Str) (l:List Change) (ctx:Int) (a b:Nat) (h:PatchHunk):Prop where
 old:h.Old=(cAt l a).Old - eA l ctx a
 new:h.New=(cAt l a).New - eA l ctx a
 o0:0≤h.Old
 n0:0≤h.New
 oe:h.Old+c8 h=eoI 0 l b+eB l x.length ctx b
 ne:h.New+j4 h=enI 0 l b+eB l x.length ctx b
 ox:h.Old+c8 h≤x.length
 ny:h.New+j4 h≤y.length
 ol:F6 h.Lines 43=sub x h.Old (h.Old+c8 h)
 nl:F6 h.Lines 45=sub y h.New (h.New+j4 h)
 ch:o4 h.Lines=true
 gl:(∀s∈x,I6 s=true)→(∀s∈y,I6 s=true)→h.Lines.all A73=true
theorem E90 (p q:List PatchLine):o4 (p++q)=(o4 p||o4 q):=by simp [o4]
theorem E91 {k:UInt8} {ts:List Str} (hk:k≠32) (h:ts≠[]):o4 (P0 k ts)=true:=by
 cases ts with
 | nil=>exact absurd rfl h
 | cons t ts=>simp [o4,P0,hk]
theorem B50 {k:UInt8} {ts:List Str} (hk:k=32∨k=45∨k=43) (h:∀t∈ts,I6 t=true):(P0 k ts).all A73=true:=by
 rw [List.all_eq_true]
 intro q hq
 unfold P0 at hq
 obtain ⟨t,ht,rfl⟩:=List.mem_map.1 hq
 unfold A73
 refine decide_eq_true ?_
 rintro (⟨⟨h1,h2⟩,h3⟩ | h1)
 ·rcases hk with e | e | e
  ·exact h1 e
  ·exact h2 e
  ·exact h3 e
 ·rw [show (PatchLine.mk k t).Text=t from rfl,h t ht] at h1;cases h1
theorem D93 (hx:∀s∈x,I6 s=true) (hy:∀s∈y,I6 s=true) (i0:Int) (a:Nat):∀t,(R5 l x y i0 a t).all A73=true
 | 0=>rfl
 | t+1=>by
  simp only [R5,List.all_append,D93 hx hy i0 a t,Bool.true_and,J90]
  exact ⟨⟨B50 (.inl rfl) (fun s hs=>hx s (E21 hs)),B50 (.inr (.inl rfl)) (fun s hs=>hx s (E21 hs))⟩,B50 (.inr (.inr rfl)) (fun s hs=>hy s (E21 hs))⟩
theorem ScFit.hunk (h:ScFit x y l) {ctx:Int} (hc:0≤ctx) {a b:Nat} (hab:a < b) (hb:b≤l.length) (ho:opens l ctx a) (hob:b < l.length→opens l ctx b) :
  HunkIs x y l ctx a b (K1 l x y (mkH l x.length ctx a b)):=by
 have hla:a < l.length:=by omega
 obtain ⟨q1,q2,q3⟩:=h.before hc hla ho
 obtain ⟨w1,w2,w3,w4,w5⟩:=h.after hc hb hob (by omega)
 obtain ⟨m1,m2⟩:=h.made hc ho (b - a) (by omega) (fun e=>by omega)
 rw [E89 _ _ _ (by omega)] at m1
 rw [I27 _ _ _ (by omega)] at m2
 rw [show a+(b - a)=b by omega] at m1 m2
 obtain ⟨r1,r2,r3,r4⟩:=h.nn a (by omega)
 obtain ⟨s1,s2,s3,s4⟩:=h.nn b hb
 obtain ⟨k1,⟨k2,k2'⟩,k3,⟨k4,k4'⟩,k5,k6,k7,k8⟩:=A15 _ _ _ _ _ _ h.sc a hla
 have hlb:b - 1 < l.length:=by omega
 obtain ⟨g1,⟨g2,g2'⟩,g3,⟨g4,g4'⟩,g5,g6,g7,g8⟩:=A15 _ _ _ _ _ _ h.sc (b - 1) hlb
 have eo:eoI 0 l b=(cAt l (b - 1)).Old+(cAt l (b - 1)).OldLen:=by unfold eoI;rw [if_neg (by omega)];rfl
 have en:enI 0 l b=(cAt l (b - 1)).New+(cAt l (b - 1)).NewLen:=by unfold enI;rw [if_neg (by omega)];rfl
 have mo:=h.ok.mono a (b - 1) (by omega) (by omega)
 have mn:(cAt l a).New≤enI 0 l b:=by
  have m4:∀u,a+u≤l.length→(cAt l a).New≤enI 0 l (a+u)∨u=0:=by
   intro u
   induction u with
   | zero=>exact fun _=>.inr rfl
   | succ u ihu =>
    intro hu
    obtain ⟨e1,e2,⟨e3,e3'⟩,⟨e4,e4'⟩,e5,e6,e7,e8⟩:=A15 _ _ _ _ _ _ h.sc (a+u) (by omega)
    have e9:enI 0 l (a+(u+1))=(cAt l (a+u)).New+(cAt l (a+u)).NewLen:=rfl
    rcases ihu (by omega) with h' | h'
    ·left;omega
    ·left;subst h';rw [e9];show (cAt l a).New≤(cAt l a).New+(cAt l a).NewLen;exact Int.le_add_of_nonneg_right e4
  have:=(m4 (b - a) (by omega)).resolve_right (by omega)
  rwa [show a+(b - a)=b by omega] at this
 have hF:(mkH l x.length ctx a b).First.toNat=a:=by show ((a:Int)).toNat=a;omega
 have hL:(mkH l x.length ctx a b).Last.toNat - (mkH l x.length ctx a b).First.toNat=b - a:=by
  show (((b - 1:Nat):Int)+1).toNat - ((a:Int)).toNat=b - a;omega
 have hOF:(mkH l x.length ctx a b).Old.From=(cAt l a).Old - eA l ctx a:=rfl
 have hNF:(mkH l x.length ctx a b).New.From=(cAt l a).New - eA l ctx a:=rfl
 have hOT:(mkH l x.length ctx a b).Old.To=eoI 0 l b+eB l x.length ctx b:=by
  unfold eB;rw [eo];rfl
 obtain ⟨P,hP⟩:∃P,P=K1 l x y (mkH l x.length ctx a b):=⟨_,rfl⟩
 have hPl:P.Lines=R5 l x y ((cAt l a).Old - eA l ctx a) a (b - a)++P0 32 (sub x (eoI 0 l b) (eoI 0 l b+eB l x.length ctx b)):=by
  rw [hP];unfold K1
  show R5 l x y _ (mkH l x.length ctx a b).First.toNat ((mkH l x.length ctx a b).Last.toNat - (mkH l x.length ctx a b).First.toNat)++P0 32 (sub x (W9 l _ (mkH l x.length ctx a b).First.toNat ((mkH l x.length ctx a b).Last.toNat - (mkH l x.length ctx a b).First.toNat)) _)=_
  rw [hL,hF,hOF,hOT,E89 _ _ _ (by omega),show a+(b - a)=b by omega]
 have hPO:P.Old=(cAt l a).Old - eA l ctx a:=by rw [hP];rfl
 have hPN:P.New=(cAt l a).New - eA l ctx a:=by rw [hP];rfl
 have h43:F6 P.Lines 43=sub x ((cAt l a).Old - eA l ctx a) (eoI 0 l b+eB l x.length ctx b):=by
  rw [hPl,B48,B49,if_neg (by decide),m1]
  exact B46 x (by omega) (by omega) (by omega)
 have h45:F6 P.Lines 45=sub y ((cAt l a).New - eA l ctx a) (enI 0 l b+eB l x.length ctx b):=by
  rw [hPl,B48,B49,if_neg (by decide),m2,w5]
  exact B46 y (by omega) (by omega) (by omega)
 have hon:c8 P=eoI 0 l b+eB l x.length ctx b - ((cAt l a).Old - eA l ctx a):=by
  unfold c8;rw [h43];exact B47 x (by omega) (by omega) (by omega)
 have hnn:j4 P=enI 0 l b+eB l x.length ctx b - ((cAt l a).New - eA l ctx a):=by
  unfold j4;rw [h45];exact B47 y (by omega) (by omega) (by omega)
 rw [←hP]
 refine ⟨hPO,hPN,by omega,by omega,by omega,by omega,by omega,by omega,?_,?_,?_,?_⟩
 ·rw [h43];congr 1
  ·exact hPO.symm
  ·omega
 ·rw [h45];congr 1
  ·exact hPN.symm
  ·omega
 ·rw [hPl,E90]
  have e:R5 l x y ((cAt l a).Old - eA l ctx a) a (b - a)=R5 l x y ((cAt l a).Old - eA l ctx a) a (b - 1 - a+1):=by congr 1;omega
  rw [e]
  simp only [R5,E90]
  rw [show a+(b - 1 - a)=b - 1 by omega]
  have key:o4 (P0 45 (sub x (cAt l (b - 1)).Old (Z5 (cAt l (b - 1)))))=true∨o4 (P0 43 (sub y (cAt l (b - 1)).New ((cAt l (b - 1)).New+(cAt l (b - 1)).NewLen)))=true:=by
   obtain ⟨g3a,g3b⟩:=g3
   obtain ⟨g1a,g1b⟩:=g1
   by_cases h0:(cAt l (b - 1)).OldLen=0
   ·right
    refine E91 (by decide) fun e0=>?_
    have:=B47 y (a:=(cAt l (b - 1)).New) (b:=(cAt l (b - 1)).New+(cAt l (b - 1)).NewLen) g3a (by omega) (by omega)
    rw [e0] at this;simp at this;omega
   ·left
    refine E91 (by decide) fun e0=>?_
    have:=B47 x (a:=(cAt l (b - 1)).Old) (b:=Z5 (cAt l (b - 1))) g1a (by unfold Z5;omega) (by unfold Z5;omega)
    rw [e0] at this;unfold Z5 at this;simp at this;omega
  rcases key with e1 | e1<;>rw [e1]<;>simp
 ·intro hx hy
  rw [hPl,List.all_append,D93 hx hy,Bool.true_and]
  exact B50 (.inl rfl) (fun s hs=>hx s (E21 hs))
theorem ScFit.hunks (h:ScFit x y l) {ctx:Int} (hc:0≤ctx) (hx:∀s∈x,I6 s=true) (hy:∀s∈y,I6 s=true):∀(hs:List Hunk) (a:Nat),GrOk l x.length ctx a hs l.length →
  ∀(i j e:Int),i=eoI 0 l a+e→j=enI 0 l a+e→0≤e→e≤ctx→(a=0→e=0) →
  A43 i j (hs.map (K1 l x y))=true∧(J0 (hs.map (K1 l x y)) 43).Sublist (x.drop i.toNat)∧(J0 (hs.map (K1 l x y)) 45).Sublist (y.drop j.toNat) ∧
   ∀p∈hs.map (K1 l x y),(p.Old+c8 p≤x.length∧p.New+j4 p≤y.length∧0≤p.Old∧0≤p.New)∧F6 p.Lines 43=sub x p.Old (p.Old+c8 p)∧F6 p.Lines 45=sub y p.New (p.New+j4 p)
 | [],a,_,i,j,e,_,_,_,_,_=>⟨rfl,by simp [J0],by simp [J0],by simp⟩
 | hk::hs,a,⟨b,hab,ho,hE,hr⟩,i,j,e,hi,hj,he,hec,he0=>by
  have hb:=hr.le
  have hob:b < l.length→opens l ctx b:=by
   intro hlt
   cases hs with
   | nil=>exact absurd hr (by show ¬b=l.length;omega)
   | cons h2 hs2=>obtain ⟨_,_,ho2,_⟩:=hr;exact ho2
  obtain ⟨w1,w2,w3,w4,w5⟩:=h.after hc hb hob (by omega)
  obtain ⟨q1,q2,q3⟩:=h.before hc (show a < l.length by omega) ho
  have H:=h.hunk hc hab hb ho hob
  rw [←hE] at H
  obtain ⟨P,hP⟩:∃P,P=K1 l x y hk:=⟨_,rfl⟩
  rw [←hP] at H
  obtain ⟨i1,i2,i3,i4⟩:=ScFit.hunks h hc hx hy hs b hr (P.Old+c8 P) (P.New+j4 P) (eB l x.length ctx b) H.oe H.ne w1 w2 (by omega)
  obtain ⟨k1,⟨k2,k2'⟩,k3,⟨k4,k4'⟩,k5,k6,k7,k8⟩:=A15 _ _ _ _ _ _ h.sc a (show a < l.length by omega)
  have h1:=H.old
  have h2:=H.new
  have h3:=H.o0
  have h4:=H.n0
  have h5:=H.ox
  have h6:=H.ny
  have h7:=h.lx
  have h8:=h.ly
  have n1:0≤c8 P:=by unfold c8;omega
  have n2:0≤j4 P:=by unfold j4;omega
  have hgap:e+eA l ctx a≤(cAt l a).Old - eoI 0 l a:=by
   by_cases h0:a=0
   ·have:=he0 h0;omega
   ·have:=C23 ho h0;omega
  obtain ⟨r1,r2,r3,r4⟩:=h.nn a (by omega)
  have hij:i≤P.Old∧j≤P.New∧P.Old - i=P.New - j∧0≤i∧0≤j:=by omega
  have hsub:∀(z:List Str) (i f t:Int),0≤i→i≤f→f≤t→∀r:List Str,r.Sublist (z.drop t.toNat)→(sub z f t++r).Sublist (z.drop i.toNat):=by
   intro z i f t h0 h1 h2 r hr
   have e1:z.drop f.toNat=sub z f t++z.drop t.toNat:=by
    unfold sub
    rw [show t.toNat=f.toNat+(t.toNat - f.toNat) by omega,←List.drop_drop,show f.toNat+(t.toNat - f.toNat) - f.toNat=t.toNat - f.toNat by omega,K21]
   have e2:z.drop f.toNat=(z.drop i.toNat).drop (f.toNat - i.toNat):=by rw [List.drop_drop];congr 1;omega
   refine List.Sublist.trans ?_ (List.drop_sublist (f.toNat - i.toNat) (z.drop i.toNat))
   rw [←e2,e1]
   exact List.Sublist.append_left hr _
  have key:∀(k:UInt8),J0 ((hk::hs).map (K1 l x y)) k=F6 P.Lines k++J0 (hs.map (K1 l x y)) k:=by
   intro k;rw [hP];simp [J0]
  refine ⟨?_,?_,?_,?_⟩
  ·rw [J95,←hP]
   simp only [A43,H.gl hx hy,i1,Bool.and_true,Bool.true_and,J90,decide_eq_true_eq]
   refine ⟨?_,by omega⟩
   unfold A35
   rw [H.ch]
   rintro (((((e0 | e0) | e0) | e0) | e0) | e0)
   ·cases e0
   all_goals omega
  ·rw [key,H.ol]
   exact hsub x i P.Old (P.Old+c8 P) hij.2.2.2.1 hij.1 (by omega) _ i2
  ·rw [key,H.nl]
   exact hsub y j P.New (P.New+j4 P) hij.2.2.2.2 hij.2.1 (by omega) _ i3
  ·rw [J95,←hP]
   intro p hp
   rcases List.mem_cons.1 hp with rfl | hp
   ·exact ⟨⟨h5,h6,h3,h4⟩,H.ol,H.nl⟩
   ·exact i4 p hp
theorem D22:∀{s z:List Str},s.Sublist z→S3 z=true→S3 s=true:=by
 intro s z hs
 induction hs with
 | slnil=>exact fun h=>h
 | cons a _ ih =>
  intro h
  simp only [S3,J90] at h
  exact ih h.2
 | cons_cons a hs2 ih =>
  intro h
  simp only [S3,J90,K18] at h ⊢
  refine ⟨?_,ih h.2⟩
  rcases h.1 with h1 | h1
  ·left
   rw [List.isEmpty_iff] at h1 ⊢
   rw [h1] at hs2
   exact List.sublist_nil.1 hs2
  ·exact .inr h1
def Q6 (l:List Change) (x y:List Str) (ctx:Int):List PatchHunk:=(H5 l x.length ctx l.length).map (K1 l x y)
theorem ScFit.good (h:ScFit x y l) {ctx:Int} (hc:0≤ctx) (hx:∀s∈x,I6 s=true) (hy:∀s∈y,I6 s=true) (ex:S3 x=true) (ey:S3 y=true):s8 (Q6 l x y ctx)=true:=by
 obtain ⟨h1,h2,h3,_⟩:=h.hunks hc hx hy _ 0 (B45 l x.length ctx l.length) 0 0 0 rfl rfl (Int.le_refl _) hc (fun _=>rfl)
 unfold s8 D55 Q6
 rw [h1,D22 h2 (by simpa using ex),D22 h3 (by simpa using ey)]
 rfl
theorem ScFit.texts (h:ScFit x y l) {ctx:Int} (hc:0≤ctx) (hx:∀s∈x,I6 s=true) (hy:∀s∈y,I6 s=true):∀p∈Q6 l x y ctx,(p.Old+c8 p≤x.length∧p.New+j4 p≤y.length∧0≤p.Old∧0≤p.New)∧F6 p.Lines 43=sub x p.Old (p.Old+c8 p)∧F6 p.Lines 45=sub y p.New (p.New+j4 p) :=
 (h.hunks hc hx hy _ 0 (B45 l x.length ctx l.length) 0 0 0 rfl rfl (Int.le_refl _) hc (fun _=>rfl)).2.2.2
end
theorem D94 (cur:Str) (c:UInt8) (h:∀z∈cur,z≠10):I6 (cur++[c])=true:=by
 unfold I6
 simp only [List.dropLast_concat,J90]
 refine ⟨List.all_eq_true.2 fun z hz=>by simpa using h z hz,by simp⟩
theorem C01:∀(s cur:Str),(∀z∈cur,z≠10)→(∀t∈H0 cur s,I6 t=true)∧S3 (H0 cur s)=true
 | [],cur,hc=>by
  unfold H0
  split
  ·exact ⟨by simp,rfl⟩
  ·rename_i h
   refine ⟨fun t ht=>?_,rfl⟩
   obtain rfl:t=cur:=by simpa using ht
   obtain ⟨d,r,e⟩:∃d r,t=r++[d]:=⟨t.getLast h,t.dropLast,(List.dropLast_concat_getLast h).symm⟩
   rw [e]
   exact D94 r d fun z hz=>hc z (by rw [e];simp [hz])
 | c::r,cur,hc=>by
  rw [X3]
  by_cases h:c=10
  ·rw [if_pos h]
   obtain ⟨h1,h2⟩:=C01 r [] (by simp)
   refine ⟨fun t ht=>?_,?_⟩
   ·rcases List.mem_cons.1 ht with rfl | ht
    ·exact D94 cur c hc
    ·exact h1 t ht
   ·simp only [S3,h2,Bool.and_true,K18]
    right;unfold ended;subst h;simp
  ·rw [if_neg h]
   refine C01 r (cur++[c]) fun z hz=>?_
   rcases List.mem_append.1 hz with hz | hz
   ·exact hc z hz
   ·simp at hz;subst hz;exact h
theorem E92 (b:Str):(∀t∈D5 b,I6 t=true)∧S3 (D5 b)=true:=C01 b [] (by simp)
end Go.AL
namespace Go.AL
open Go
theorem D57 {m n:Int} (hm:H7 m) (hn:H7 n):∀(p:List Span) (i j i0 j0:Int) (k0:Nat),Asc m n i j p→0≤i0→0≤j0→i0≤i→i - i0=j - j0→(0 < k0→i0 < i)→K0 k0 i0 j0 (R4 i j p m n) m n=true
 | [],i,j,i0,j0,k0,ha,h1,h2,h3,h4,h5=>by
  obtain ⟨a1,a2⟩:i≤m∧j≤n:=ha
  obtain ⟨m1,m2⟩:=hm
  obtain ⟨n1,n2⟩:=hn
  unfold R4
  split
  ·rename_i hc
   simp only [K0,J90,decide_eq_true_eq]
   refine ⟨?_,by omega⟩
   unfold D15 H7
   show ¬(((((((¬(0≤i∧i≤4096)∨¬(0≤m - i∧m - i≤4096))∨¬(0≤j∧j≤4096))∨¬(0≤n - j∧n - j≤4096))∨m - i+(n - j)=0)∨i - i0≠j - j0)∨i < i0)∨(0 < (k0:Int)∧i=i0))
   omega
  ·simp only [K0,decide_eq_true_eq];omega
 | x::r,i,j,i0,j0,k0,ha,h1,h2,h3,h4,h5=>by
  obtain ⟨a1,a2,a3⟩:=ha
  have hle:=a3.le
  unfold R4
  split
  ·rename_i hc
   simp only [K19,K16,K0,J90,decide_eq_true_eq]
   refine ⟨?_,?_⟩
   ·obtain ⟨m1,m2⟩:=hm
    obtain ⟨n1,n2⟩:=hn
    unfold D15 H7
    show ¬(((((((¬(0≤i∧i≤4096)∨¬(0≤x.From - i∧x.From - i≤4096))∨¬(0≤j∧j≤4096))∨¬(0≤x.To - j∧x.To - j≤4096))∨x.From - i+(x.To - j)=0)∨i - i0≠j - j0)∨i < i0)∨(0 < (k0:Int)∧i=i0))
    omega
   ·exact D57 hm hn r _ _ _ _ _ a3 (by omega) (by omega) (by omega) (by omega) (fun _=>by omega)
  ·rw [K16]
   exact D57 hm hn r _ _ _ _ _ a3 h1 h2 (by omega) (by omega) (fun h=>by omega)
def EqAt (X Y:List Str) (s:Span):Prop:=0≤s.From∧0≤s.To∧∃v,X[s.From.toNat]?=some v∧Y[s.To.toNat]?=some v
theorem B17 {X:List Str} {a b:Int} {v:Str} (h0:0≤a) (h1:a≤b) (hv:X[b.toNat]?=some v):sub X a (b+1)=sub X a b++[v]:=by
 rw [←B46 X h0 h1 (by omega:b≤b+1)]
 congr 1
 unfold sub
 obtain ⟨hl,e⟩:=List.getElem?_eq_some_iff.1 hv
 rw [J92 hl,e,show (b+1).toNat - b.toNat=1 by omega]
 rfl
theorem D58 {X Y:List Str}:∀(p:List Span) (i j i0 j0:Int),Asc X.length Y.length i j p→0≤i0→0≤j0→i0≤i→j0≤j→(∀s∈p,EqAt X Y s)→sub X i0 i=sub Y j0 j→B99 X Y i0 j0 (R4 i j p X.length Y.length)
 | [],i,j,i0,j0,ha,h1,h2,h3,h4,he,hs=>by
  obtain ⟨a1,a2⟩:i≤(X.length:Int)∧j≤(Y.length:Int):=ha
  unfold R4
  split
  ·refine ⟨hs,?_⟩
   show sub X (i+(X.length - i)) X.length=sub Y (j+(Y.length - j)) Y.length
   rw [show i+((X.length:Int) - i)=X.length by omega,show j+((Y.length:Int) - j)=Y.length by omega,A90,A90]
  ·have e1:(X.length:Int)=i:=by omega
   have e2:(Y.length:Int)=j:=by omega
   show sub X i0 X.length=sub Y j0 Y.length
   rw [e1,e2];exact hs
 | x::r,i,j,i0,j0,ha,h1,h2,h3,h4,he,hs=>by
  obtain ⟨a1,a2,a3⟩:=ha
  obtain ⟨_,_,v,v1,v2⟩:=he x (by simp)
  have hr:∀s∈r,EqAt X Y s:=fun s hs=>he s (by simp [hs])
  unfold R4
  split
  ·refine ⟨hs,?_⟩
   show B99 X Y (i+(x.From - i)) (j+(x.To - j)) (R4 (x.From+1) (x.To+1) r X.length Y.length)
   rw [show i+(x.From - i)=x.From by omega,show j+(x.To - j)=x.To by omega]
   refine D58 r _ _ _ _ a3 (by omega) (by omega) (by omega) (by omega) hr ?_
   rw [B17 (by omega) (Int.le_refl _) v1,B17 (by omega) (Int.le_refl _) v2,A90,A90]
  ·have e1:x.From=i:=by omega
   have e2:x.To=j:=by omega
   rw [K16]
   refine D58 r _ _ _ _ a3 h1 h2 (by omega) (by omega) hr ?_
   rw [B17 h1 (by omega) v1,B17 h2 (by omega) v2,e1,e2,hs]
theorem I98:∀(a b:List Int) (p q:Int),∀s∈H1 p q a b,p≤s.From∧q≤s.To∧∃v,a[(s.From - p).toNat]?=some v∧b[(s.To - q).toNat]?=some v:=by
 intro a
 induction a with
 | nil=>intro b p q s hs;simp [H1] at hs
 | cons x a iha =>
  intro b
  induction b with
  | nil=>intro p q s hs;simp [H1] at hs
  | cons y b ihb =>
   intro p q s hs
   unfold H1 at hs
   split at hs
   ·rename_i e
    rcases List.mem_cons.1 hs with rfl | hs
    ·exact ⟨Int.le_refl _,Int.le_refl _,x,by simp,by simp [e]⟩
    ·obtain ⟨h1,h2,v,h3,h4⟩:=iha b (p+1) (q+1) s hs
     refine ⟨by omega,by omega,v,?_,?_⟩
     ·rw [show (s.From - p).toNat=(s.From - (p+1)).toNat+1 by omega];simpa using h3
     ·rw [show (s.To - q).toNat=(s.To - (q+1)).toNat+1 by omega];simpa using h4
   ·split at hs
    ·obtain ⟨h1,h2,v,h3,h4⟩:=iha (y::b) (p+1) q s hs
     refine ⟨by omega,by omega,v,?_,h4⟩
     rw [show (s.From - p).toNat=(s.From - (p+1)).toNat+1 by omega];simpa using h3
    ·obtain ⟨h1,h2,v,h3,h4⟩:=ihb p (q+1) s hs
     refine ⟨by omega,by omega,v,h3,?_⟩
     rw [show (s.To - q).toNat=(s.To - (q+1)).toNat+1 by omega];simpa using h4
theorem C02:∀(l:List Str) (s t:Str) (k:Int),0≤k→s∈l→t∈l→J6 l s k=J6 l t k→s=t
 | [],_,_,_,_,h,_,_=>by simp at h
 | x::r,s,t,k,hk,hs,ht,e=>by
  unfold J6 at e
  by_cases h1:x=s
  ·by_cases h2:x=t
   ·exact h1.symm.trans h2
   ·rw [if_pos h1,if_neg h2] at e
    have ht':t∈r:=(List.mem_cons.1 ht).resolve_left (fun q=>h2 q.symm)
    have:=C72 r t (k+1) (by omega) ht'
    omega
  ·have hs':s∈r:=(List.mem_cons.1 hs).resolve_left (fun q=>h1 q.symm)
   by_cases h2:x=t
   ·rw [if_neg h1,if_pos h2] at e
    have:=C72 r s (k+1) (by omega) hs'
    omega
   ·rw [if_neg h1,if_neg h2] at e
    exact C02 r s t (k+1) (by omega) hs' ((List.mem_cons.1 ht).resolve_left (fun q=>h2 q.symm)) e
theorem C24 {names f:List Str} {i:Nat} {v:Int} (h:(F0 names f)[i]?=some v):∃s,f[i]?=some s∧J6 names s 0=v:=by
 unfold F0 at h
 rw [K15] at h
 cases hf:f[i]? with
 | none=>rw [hf] at h;cases h
 | some s=>rw [hf] at h;exact ⟨s,rfl,Option.some.inj h⟩
theorem C76 (x y:List Str) (hx:x.length≤4096) (hy:y.length≤4096):ScFit x y (Q8 x y):=by
 have l1:(F0 (D2 [x,y]) x).length=x.length:=by simp [F0]
 have l2:(F0 (D2 [x,y]) y).length=y.length:=by simp [F0]
 have hA:=A11 (F0 (D2 [x,y]) x) (F0 (D2 [x,y]) y) 0 0
 rw [l1,l2,Int.zero_add,Int.zero_add] at hA
 refine ⟨by omega,by omega,?_,?_⟩
 ·unfold Q8 V7 A10
  rw [l1,l2]
  exact D57 ⟨by omega,by omega⟩ ⟨by omega,by omega⟩ _ _ _ _ _ _ hA (Int.le_refl _) (Int.le_refl _) (Int.le_refl _) rfl (fun h=>absurd h (by omega))
 ·unfold Q8 V7 A10
  rw [l1,l2]
  refine D58 _ _ _ _ _ hA (Int.le_refl _) (Int.le_refl _) (Int.le_refl _) (Int.le_refl _) ?_ (by rw [A90,A90])
  intro s hs
  obtain ⟨h1,h2,v,h3,h4⟩:=I98 _ _ _ _ s hs
  rw [Int.sub_zero] at h3 h4
  obtain ⟨u,u1,u2⟩:=C24 h3
  obtain ⟨w,w1,w2⟩:=C24 h4
  have e:u=w:=C02 (D2 [x,y]) u w 0 (Int.le_refl _) (W8 _ _ x (by simp) (K02 u1)) (W8 _ _ y (by simp) (K02 w1)) (u2.trans w2.symm)
  subst e
  exact ⟨h1,h2,u,u1,w1⟩
theorem F82:∀(ls:List PatchLine),ls.all A73=true→(ls.map szL).sum≤64*((F6 ls 43).length+(F6 ls 45).length)+((F6 ls 43).flatten.length+(F6 ls 45).flatten.length)
 | [],_=>by simp
 | q::ls,h=>by
  rw [List.all_cons,J90] at h
  have ih:=F82 ls h.2
  have hk:q.Kind=32∨q.Kind=45∨q.Kind=43:=by
   have hg:=h.1
   unfold A73 at hg
   have hg:=A0 hg
   by_cases h1:q.Kind=32
   ·exact .inl h1
   by_cases h2:q.Kind=45
   ·exact .inr (.inl h2)
   by_cases h3:q.Kind=43
   ·exact .inr (.inr h3)
   exact absurd (.inl ⟨⟨h1,h2⟩,h3⟩) hg
  have hd:∀k:UInt8,F6 (q::ls) k=if q.Kind≠k then q.Text::F6 ls k else F6 ls k:=by
   intro k
   unfold F6
   by_cases e:q.Kind=k
   ·rw [if_neg (by simpa using e),List.filter_cons_of_neg (by simpa using e)]
   ·rw [if_pos e,List.filter_cons_of_pos (by simpa using e)];rfl
  rw [hd 43,hd 45,J95,K11]
  have hz:szL q=q.Text.length+64:=rfl
  rcases hk with e | e | e<;>rw [e]<;>simp (decide:=true) only [if_true,if_false,ne_eq,not_true_eq_false,not_false_eq_true,J87,J99,J86]<;>omega
theorem D23:∀(hs:List PatchHunk) (i j:Int),A43 i j hs=true→szP hs≤128*((J0 hs 43).length+(J0 hs 45).length)+((J0 hs 43).flatten.length+(J0 hs 45).flatten.length)
 | [],_,_,_=>by simp [szP]
 | h :: hs,i,j,hg=>by
  simp only [A43,J90,decide_eq_true_eq] at hg
  obtain ⟨h1,h2,h3,h4⟩:=hg
  have ih:=D23 hs _ _ h4
  have hl:=F82 h.Lines h1
  have hne:1≤h.Lines.length:=by
   cases hq:h.Lines with
   | nil=>exact absurd (.inl (.inl (.inl (.inl (.inl (by rw [hq];rfl)))))) h2
   | cons a b=>simp
  have hcnt:h.Lines.length≤(F6 h.Lines 43).length+(F6 h.Lines 45).length:=by
   have:64*h.Lines.length≤(h.Lines.map szL).sum:=A53 h.Lines
   have key:∀ls:List PatchLine,ls.length≤(F6 ls 43).length+(F6 ls 45).length:=by
    intro ls
    induction ls with
    | nil=>simp
    | cons q ls ih =>
     have hd:∀k:UInt8,(F6 (q::ls) k).length=if q.Kind≠k then (F6 ls k).length+1 else (F6 ls k).length:=by
      intro k
      unfold F6
      by_cases e:q.Kind=k
      ·rw [if_neg (by simpa using e),List.filter_cons_of_neg (by simpa using e)]
      ·rw [if_pos e,List.filter_cons_of_pos (by simpa using e)];simp
     rw [hd 43,hd 45,J87]
     by_cases e:q.Kind=43
     ·have e2:q.Kind≠45:=by rw [e];decide
      rw [if_pos e2];split<;>omega
     ·rw [if_pos e];split<;>omega
   exact key h.Lines
  have hsz:szP (h::hs)=szH h+szP hs:=by simp [szP]
  have hszh:szH h=64+(h.Lines.map szL).sum:=rfl
  have hs1:∀k,J0 (h::hs) k=F6 h.Lines k++J0 hs k:=by intro k;simp [J0]
  rw [hsz,hszh,hs1 43,hs1 45]
  simp only [J86,K04]
  omega
theorem D95:∀{s z:List Str},s.Sublist z→s.flatten.length≤z.flatten.length:=by
 intro s z hs
 induction hs with
 | slnil=>exact Nat.le_refl _
 | cons a _ ih=>simp only [J99,J86];omega
 | cons_cons a _ ih=>simp only [J99,J86];omega
theorem ScFit.size {x y:List Str} {l:List Change} (h:ScFit x y l) {ctx:Int} (hc:0≤ctx) (hx:∀s∈x,I6 s=true) (hy:∀s∈y,I6 s=true):szP (Q6 l x y ctx)≤128*(x.length+y.length)+(x.flatten.length+y.flatten.length):=by
 obtain ⟨h1,h2,h3,_⟩:=h.hunks hc hx hy _ 0 (B45 l x.length ctx l.length) 0 0 0 rfl rfl (Int.le_refl _) hc (fun _=>rfl)
 have h4:=D23 _ _ _ h1
 have e:Q6 l x y ctx=(H5 l x.length ctx l.length).map (K1 l x y):=rfl
 rw [←e] at h2 h3 h4
 have h2':(J0 (Q6 l x y ctx) 43).Sublist x:=by simpa using h2
 have h3':(J0 (Q6 l x y ctx) 45).Sublist y:=by simpa using h3
 have:=h2'.length_le
 have:=h3'.length_le
 have:=D95 h2'
 have:=D95 h3'
 omega
theorem E93 (s:Str):∀cur:Str,(H0 cur s).flatten=cur++s:=by
 induction s with
 | nil=>intro cur;unfold H0;split<;>simp [*]
 | cons c r ih=>intro cur;rw [X3];split<;>simp [ih]
theorem A16 (a:Str):(D5 a).flatten.length=a.length∧(D5 a).length≤a.length:=⟨by unfold D5;rw [E93];rfl,V0 a⟩
end Go.AL
namespace Go.AL
open Go
end Go.AL
namespace Go.AL
open Go
abbrev C77:Int→Nat→Cell:=fun x _=>.v (.int .u16 x)
abbrev pU16s (l:List Int):PV:=.one (.list Int 1 C77 l)
theorem H80 (n:Int) (h:0≤n∧n < 65536):IntKind.u16.wrap n=n:=by
 simp [IntKind.wrap,IntKind.signed,IntKind.bits];omega
def flat (a b:List Int) (done:Nat→Nat→Bool):List Int :=
 (List.range ((a.length+1)*(b.length+1))).map fun p=>if done (p / (b.length+1)) (p % (b.length+1))=true then (dist (a.drop (p / (b.length+1))) (b.drop (p % (b.length+1))):Int) else 0
theorem D96 (a b:List Int) (done:Nat→Nat→Bool):(flat a b done).length=(a.length+1)*(b.length+1):=by simp [flat]
theorem E22 {a b:List Int} {i j:Nat} (hi:i≤a.length) (hj:j≤b.length):i*(b.length+1)+j < (a.length+1)*(b.length+1)∧(i*(b.length+1)+j) / (b.length+1)=i∧(i*(b.length+1)+j) % (b.length+1)=j:=by
 refine ⟨?_,?_,?_⟩
 ·have:(i+1)*(b.length+1)≤(a.length+1)*(b.length+1):=K07 _ (by omega)
  rw [K14,Nat.one_mul] at this;omega
 ·rw [Nat.mul_comm,Nat.mul_add_div (by omega),Nat.div_eq_of_lt (by omega),Nat.add_zero]
 ·rw [Nat.mul_comm,Nat.mul_add_mod,Nat.mod_eq_of_lt (by omega)]
theorem E94 {a b:List Int} {done:Nat→Nat→Bool} {i j:Nat} (hi:i≤a.length) (hj:j≤b.length):(flat a b done)[i*(b.length+1)+j]?=some (if done i j=true then (dist (a.drop i) (b.drop j):Int) else 0):=by
 obtain ⟨h1,h2,h3⟩:=E22 hi hj
 unfold flat
 rw [C19 _ _ _ h1,h2,h3]
theorem H19 {a b:List Int} {done done':Nat→Nat→Bool} {i j:Nat} {v:Int} (hi:i≤a.length) (hj:j≤b.length) (hv:v=(dist (a.drop i) (b.drop j):Int)) (hd:done' i j=true)
  (ho:∀r q,r≤a.length→q≤b.length→¬(r=i∧q=j)→done' r q=done r q):(flat a b done).set (i*(b.length+1)+j) v=flat a b done':=by
 obtain ⟨h1,h2,h3⟩:=E22 hi hj
 unfold flat
 refine B15 _ _ _ _ _ (fun _=>?_) (fun q hq hne=>?_)
 ·rw [h2,h3,if_pos hd,hv]
 ·have hW:0 < b.length+1:=by omega
  have e:=Nat.div_add_mod q (b.length+1)
  have hr:q / (b.length+1)≤a.length:=by
   have:=(Nat.div_lt_iff_lt_mul hW).2 hq
   omega
  have hm:=Nat.mod_lt q hW
  rw [ho _ _ hr (by omega) (fun ⟨e1,e2⟩=>hne (by rw [e1,e2,Nat.mul_comm] at e;exact e.symm))]
theorem I99 (a b:List Int):List.replicate ((a.length+1)*(b.length+1)) 0=flat a b (fun _ _=>false):=by
 unfold flat
 simp only [Bool.false_eq_true,if_false]
 rw [List.map_const',K36]
theorem B51 {a b:List Int} {done done':Nat→Nat→Bool} (h:∀r q,r≤a.length→q≤b.length→(done r q=done' r q∨dist (a.drop r) (b.drop q)=0)):flat a b done=flat a b done':=by
 unfold flat
 apply List.map_congr_left
 intro p hp
 have hp:=List.mem_range.1 hp
 have hW:0 < b.length+1:=by omega
 have hr:p / (b.length+1)≤a.length:=by have:=(Nat.div_lt_iff_lt_mul hW).2 hp;omega
 have hm:=Nat.mod_lt p hW
 rcases h (p / (b.length+1)) (p % (b.length+1)) hr (by omega) with e | e
 ·rw [e]
 ·rw [e];simp
def Y8:List Int→List Int→Nat
 | x::a,y::b=>if x=y then Y8 a b+1 else 0
 | _,_=>0
theorem H20:∀(a b:List Int),Y8 a b≤a.length∧Y8 a b≤b.length
 | [],_=>by simp [Y8]
 | _::_,[]=>by simp [Y8]
 | x::a,y::b=>by
  have:=H20 a b
  unfold Y8
  simp only [J87]
  split<;>omega
theorem E95 (a b:List Int) (k:Nat) (hk:k < a.length) (hk':k < b.length):Y8 (a.drop k) (b.drop k)=if a[k]=b[k] then Y8 (a.drop (k+1)) (b.drop (k+1))+1 else 0:=by
 rw [J92 hk,J92 hk'];rfl
theorem J00 (a b:List Int) (k:Nat) (h:¬(k < a.length∧k < b.length)):Y8 (a.drop k) (b.drop k)=0:=by
 by_cases h1:k < a.length
 ·rw [J94 (as:=b) (by omega)]
  cases a.drop k<;>rfl
 ·rw [J94 (as:=a) (by omega)];rfl
theorem E96:∀(a b:List Int) (p q:Int),H1 p q a b=M5 p q (Y8 a b)++H1 (p+Y8 a b) (q+Y8 a b) (a.drop (Y8 a b)) (b.drop (Y8 a b))
 | [],b,p,q=>by simp [Y8,n8]
 | x::a,[],p,q=>by simp [Y8,n8]
 | x::a,y::b,p,q=>by
  unfold Y8
  by_cases h:x=y
  ·rw [if_pos h]
   conv=>lhs;unfold H1
   rw [if_pos h,E96 a b (p+1) (q+1),B34]
   simp only [List.drop_succ_cons,K19]
   rw [show p+1+(Y8 a b:Int)=p+((Y8 a b+1:Nat):Int) by omega,show q+1+(Y8 a b:Int)=q+((Y8 a b+1:Nat):Int) by omega]
  ·rw [if_neg h]
   simp [n8]
end Go.AL
namespace Go.AL
open Go
end Go.AL
namespace Go.AL
open Go
end Go.AL
namespace Go.AL
open Go
def GrX (l:List Change) (m ctx:Int):Nat→List Hunk→Nat→Prop
 | a,[],k=>a=k
 | a,h::r,k=>∃b,a < b∧opens l ctx a∧(∀c,a < c→c < b→¬opens l ctx c)∧h=mkH l m ctx a b∧GrX l m ctx b r k
theorem GrX.le {l:List Change} {m ctx:Int}:∀{hs:List Hunk} {a k:Nat},GrX l m ctx a hs k→a≤k
 | [],a,k,h=>Nat.le_of_eq h
 | _::_,a,k,⟨b,h1,_,_,_,h2⟩=>by have:=GrX.le h2;omega
theorem GrX.unique {l:List Change} {m ctx:Int}:∀{hs hs':List Hunk} {a k:Nat},GrX l m ctx a hs k→GrX l m ctx a hs' k→hs=hs'
 | [],[],_,_,_,_=>rfl
 | [],_::_,a,k,h,⟨b,h1,_,_,_,h2⟩=>by have:=h2.le;have:a=k:=h;omega
 | _::_,[],a,k,⟨b,h1,_,_,_,h2⟩,h=>by have:=h2.le;have:a=k:=h;omega
 | x::r,x'::r',a,k,⟨b,h1,h2,h3,h4,h5⟩,⟨b',h1',h2',h3',h4',h5'⟩=>by
  have hopen:∀{r:List Hunk} {b:Nat},GrX l m ctx b r k→b < k→opens l ctx b:=by
   intro r b h hlt
   cases r with
   | nil=>have:b=k:=h;omega
   | cons y r=>obtain ⟨_,_,ho,_⟩:=h;exact ho
  have hb:b=b':=by
   have l1:=h5.le
   have l2:=h5'.le
   rcases Nat.lt_trichotomy b b' with hlt | rfl | hlt
   ·exact absurd (hopen h5 (by omega)) (h3' b h1 hlt)
   ·rfl
   ·exact absurd (hopen h5' (by omega)) (h3 b' h1' hlt)
  subst hb
  rw [h4,h4',GrX.unique h5 h5']
theorem GrX.snoc {l:List Change} {m ctx:Int} {k n:Nat} (ho:opens l ctx k) (hk:k < n) (hno:∀c,k < c→c < n→¬opens l ctx c):∀{hs:List Hunk} {a:Nat},GrX l m ctx a hs k→GrX l m ctx a (hs++[mkH l m ctx k n]) n
 | [],a,h=>by
  obtain rfl:a=k:=h
  exact ⟨n,hk,ho,hno,rfl,rfl⟩
 | _::_,a,⟨b,h1,h2,h3,h4,h5⟩=>⟨b,h1,h2,h3,h4,GrX.snoc ho hk hno h5⟩
theorem GrX.last {l:List Change} {m ctx:Int} {k:Nat} (hno:¬opens l ctx k):∀{hs:List Hunk} {a:Nat},GrX l m ctx a hs k→hs≠[]→GrX l m ctx a (hs.set (hs.length - 1) (A52 l m ctx k (hs.getD (hs.length - 1) D16))) (k+1)
 | [],_,_,h0=>absurd rfl h0
 | [h],a,⟨b,h1,h2,h3,h4,h5⟩,_=>by
  obtain rfl:b=k:=h5
  subst h4
  refine ⟨b+1,by omega,h2,fun c hc1 hc2=>?_,rfl,rfl⟩
  by_cases hcb:c=b
  ·rw [hcb];exact hno
  ·exact h3 c hc1 (by omega)
 | h::h'::r,a,⟨b,h1,h2,h3,h4,h5⟩,_=>by
  have ih:=GrX.last hno h5 (by simp)
  refine ⟨b,h1,h2,h3,h4,?_⟩
  simpa using ih
theorem D97 (l:List Change) (m ctx:Int):∀k,GrX l m ctx 0 (H5 l m ctx k) k
 | 0=>rfl
 | k+1=>by
  have ih:=D97 l m ctx k
  have hne:=(m6 l m ctx k).2
  simp only [H5,T3]
  by_cases ho:opens l ctx k
  ·rw [if_pos ho]
   have e:(H5 l m ctx k++[V2 l ctx k]).set ((H5 l m ctx k++[V2 l ctx k]).length - 1) (A52 l m ctx k ((H5 l m ctx k++[V2 l ctx k]).getD ((H5 l m ctx k++[V2 l ctx k]).length - 1) D16))=H5 l m ctx k++[mkH l m ctx k (k+1)]:=by
    simp [mkH]
   rw [e]
   exact ih.snoc ho (by omega) (fun c h1 h2=>by omega)
  ·rw [if_neg ho]
   refine ih.last ho ?_
   have:k≠0:=fun e=>ho (.inl e)
   have:=hne (by omega)
   intro e;rw [e] at this;simp at this
theorem GrX.len {l:List Change} {m ctx:Int}:∀{hs:List Hunk} {a k:Nat},GrX l m ctx a hs k→hs.length≤k - a
 | [],_,_,_=>Nat.zero_le _
 | _::_,a,k,⟨b,h1,_,_,_,h2⟩=>by have:=GrX.len h2;have:=h2.le;simp only [J87];omega
end Go.AL
namespace Go.AL
open Go
def A55:List Str→Int→List (Str × Cell)
 | [],_=>[]
 | s::r,i=>(s,.v (.int .i64 i))::A55 r (i+1)
theorem F83 (s:Str):∀(l:List Str) (i:Int),A55 (l++[s]) i=A55 l i++[(s,.v (.int .i64 (i+l.length)))]
 | [],i=>by simp [A55]
 | x::r,i=>by
  simp only [K19,A55,F83 s r,J87]
  rw [show i+1+(r.length:Int)=i+((r.length+1:Nat):Int) by omega]
theorem F84 (s:Str):∀(l:List Str) (i:Int),s∈l→A38 (A55 l i) s=some (.v (.int .i64 (J6 l s i)))
 | [],_,h=>by simp at h
 | x::r,i,h=>by
  simp only [A55,A38,J6]
  by_cases he:x=s
  ·rw [if_pos he,if_pos he]
  ·rw [if_neg he,if_neg he]
   exact F84 s r (i+1) ((List.mem_cons.1 h).resolve_left (fun q=>he q.symm))
theorem E97 (s:Str):∀(l:List Str) (i:Int),s∉l→A38 (A55 l i) s=none
 | [],_,_=>rfl
 | x::r,i,h=>by
  simp only [A55,A38]
  rw [if_neg (fun q=>h (by simp [q]))]
  exact E97 s r (i+1) (fun q=>h (by simp [q]))
theorem C03 (s:Str) (r:List Str):∀(l:List Str) (i:Int),s∈l→J6 (l++r) s i=J6 l s i
 | [],_,h=>by simp at h
 | x::l,i,h=>by
  simp only [K19,J6]
  by_cases he:x=s
  ·rw [if_pos he,if_pos he]
  ·rw [if_neg he,if_neg he]
   exact C03 s r l (i+1) ((List.mem_cons.1 h).resolve_left (fun q=>he q.symm))
theorem D98 (s:Str):∀(l:List Str) (i:Int),s∉l→J6 (l++[s]) s i=i+l.length
 | [],i,_=>by simp [J6]
 | x::l,i,h=>by
  simp only [K19,J6,J87]
  rw [if_neg (fun q=>h (by simp [q])),D98 s l (i+1) (fun q=>h (by simp [q]))]
  omega
theorem D24:∀(l out:List Str),∃r,l.foldl I4 out=out++r
 | [],out=>⟨[],by simp⟩
 | s::l,out=>by
  obtain ⟨r,hr⟩:=D24 l (I4 out s)
  rw [K23,hr]
  unfold I4
  split
  ·exact ⟨r,rfl⟩
  ·exact ⟨s::r,by simp⟩
def O6 (files:List (List Str)) (k j:Nat):List Str:=((files.take k).flatten++(files.getD k []).take j).foldl I4 []
theorem H21 (files:List (List Str)) (k:Nat):O6 files (k+1) 0=O6 files k (files.getD k []).length:=by
 unfold O6
 rw [List.take_zero,K06,J98]
 by_cases h:k < files.length
 ·rw [S9 files k h]
  congr 2
  simp [h]
 ·rw [K25 (by omega),K25 (by omega)]
  have:files.getD k []=[]:=by simp [show files.length≤k by omega]
  rw [this,K06]
theorem G33 (files:List (List Str)) (k j:Nat) (s:Str) (h:(files.getD k [])[j]?=some s):O6 files k (j+1)=I4 (O6 files k j) s:=by
 unfold O6
 have hj:j < (files.getD k []).length:=(List.getElem?_eq_some_iff.1 h).1
 have he:=(List.getElem?_eq_some_iff.1 h).2
 rw [J93 hj,he,←K01,K26]
 rfl
theorem H22 (files:List (List Str)):O6 files files.length 0=D2 files:=by
 unfold O6 D2
 rw [J98];simp
theorem D99 (files:List (List Str)) (k j:Nat):∃r,D2 files=O6 files k j++r:=by
 have h:∃m,files.flatten=((files.take k).flatten++(files.getD k []).take j)++m:=by
  refine ⟨(files.getD k []).drop j++(files.drop (k+1)).flatten,?_⟩
  by_cases hk:k < files.length
  ·have e:files=files.take k++files.getD k []::files.drop (k+1):=by
    have:files.getD k []=files[k]:=by simp [hk]
    rw [this,List.getElem_cons_drop,K21]
   conv=>lhs;rw [e]
   rw [K04,J99,K01]
   congr 1
   rw [←K01,K21]
  ·have:files.getD k []=[]:=by simp [show files.length≤k by omega]
   rw [this,K25 (by omega:files.length≤k),J94 (by omega:files.length≤k+1)]
   simp
 obtain ⟨m,hm⟩:=h
 unfold D2 O6
 rw [hm,K26]
 obtain ⟨r,hr⟩:=D24 m (((files.take k).flatten++(files.getD k []).take j).foldl I4 [])
 exact ⟨r,hr⟩
theorem E98 (files:List (List Str)) (k j:Nat):(O6 files k j).length≤files.flatten.length:=by
 obtain ⟨r,hr⟩:=D99 files k j
 have:=B92 files
 rw [hr,J86] at this;omega
def Q4 (files:List (List Str)) (k:Nat):List TC:=(List.range files.length).map fun r=>if r < k then .p (.list Int 1 H4 (F0 (D2 files) (files.getD r []))) else .p (.v (.slice none 0 0))
theorem J01 {files:List (List Str)} {k:Nat} (h:k < files.length):(Q4 files k)[k]?=some (.p (.v (.slice none 0 0))):=by
 simp [Q4,h]
theorem G34 (files:List (List Str)) (k m:Nat) (_h:k < files.length):((Q4 files k).set k (.buf m Int 1 H4 (F0 (D2 files) (files.getD k [])))).map (TC.forget m)=Q4 files (k+1):=by
 have e1:(Q4 files k).map (TC.forget m)=Q4 files k:=by
  unfold Q4
  rw [K27]
  apply List.map_congr_left
  intro r _
  simp only [Function.comp]
  split<;>rfl
 rw [List.map_set,e1]
 have e2:(TC.buf m Int 1 H4 (F0 (D2 files) (files.getD k []))).forget m=.p (.list Int 1 H4 (F0 (D2 files) (files.getD k []))):=by simp [TC.forget]
 rw [e2]
 unfold Q4
 refine B15 _ _ _ _ _ (fun _=>by simp) (fun q hq hne=>?_)
 simp only [show (q < k+1)=(q < k) from propext ⟨fun h=>by omega,fun h=>by omega⟩]
theorem H81 (files:List (List Str)):List.replicate files.length (TC.p (.v (.slice none 0 0)))=Q4 files 0:=by
 unfold Q4
 simp only [Nat.not_lt_zero,if_false,List.map_const',K36]
theorem H82 (files:List (List Str)):Q4 files files.length=(files.map (F0 (D2 files))).map fun x=>TC.p (intsC x 0):=by
 unfold Q4
 apply List.ext_getElem
 ·simp
 ·intro i h1 h2
  have hi:i < files.length:=by simpa using h1
  simp [hi,intsC]
end Go.AL
namespace Go.AL
open Go
theorem I28 (m n:Int):∀(l:List Change) (k0:Nat) (i j:Int),(∀k,k < l.length→H7 (cAt l k).Old∧H7 (cAt l k).OldLen∧H7 (cAt l k).New∧H7 (cAt l k).NewLen∧(cAt l k).OldLen+(cAt l k).NewLen≠0∧(cAt l k).Old - eoI i l k=(cAt l k).New - enI j l k∧eoI i l k≤(cAt l k).Old∧(0 < k0+k→eoI i l k < (cAt l k).Old)) →
  (m - eoI i l l.length=n - enI j l l.length∧eoI i l l.length≤m)→K0 k0 i j l m n=true
 | [],k0,i,j,_,h=>by
  have h1:m - i=n - j∧i≤m:=h
  simp only [K0,decide_eq_true_eq];omega
 | c::r,k0,i,j,h,he=>by
  simp only [K0,J90,decide_eq_true_eq]
  refine ⟨?_,I28 m n r (k0+1) _ _ (fun k hk=>?_) ?_⟩
  ·obtain ⟨h1,h2,h3,h4,h5,h6,h7,h8⟩:=h 0 (by simp)
   have h1:H7 c.Old:=h1
   have h2:H7 c.OldLen:=h2
   have h3:H7 c.New:=h3
   have h4:H7 c.NewLen:=h4
   have h5:c.OldLen+c.NewLen≠0:=h5
   have h6:c.Old - i=c.New - j:=h6
   have h7:i≤c.Old:=h7
   have h8:0 < k0+0→i < c.Old:=h8
   unfold D15
   rintro (((((((q | q) | q) | q) | q) | q) | q) | ⟨q,q2⟩)
   ·exact q h1
   ·exact q h2
   ·exact q h3
   ·exact q h4
   ·exact h5 q
   ·exact q h6
   ·omega
   ·have:=h8 (by omega);omega
  ·have:=h (k+1) (by simpa using hk)
   rw [D21,A36,A37] at this
   obtain ⟨e1,e2,e3,e4,e5,e6,e7,e8⟩:=this
   exact ⟨e1,e2,e3,e4,e5,e6,e7,fun h0=>e8 (by omega)⟩
  ·rw [J87,A36,A37] at he;exact he
theorem I29 (x y:List Str):∀(l:List Change) (i j:Int),(∀k,k < l.length→sub x (eoI i l k) (cAt l k).Old=sub y (enI j l k) (cAt l k).New)→sub x (eoI i l l.length) x.length=sub y (enI j l l.length) y.length→B99 x y i j l
 | [],_,_,_,h=>h
 | c::r,i,j,h,he=>by
  refine ⟨h 0 (by simp),I29 x y r _ _ (fun k hk=>?_) ?_⟩
  ·have:=h (k+1) (by simpa using hk)
   rw [D21,A36,A37] at this;exact this
  ·rw [J87,A36,A37] at he;exact he
theorem I30 {x:List Str} {p q:Int} {t:Nat} (h0:0≤p) (h:p+t < q):(sub x p q)[t]?=x[(p+t).toNat]?:=by
 unfold sub
 rw [List.getElem?_take,if_pos (by omega),K12]
 congr 1;omega
theorem G35 {x y:List Str} {p q p' q':Int} (h:sub x p q=sub y p' q') (h0:0≤p) (h0':0≤p') (hq:q≤x.length) (he:q - p=q' - p') {t:Nat} (ht:p+t < q):∃v,x[(p+t).toNat]?=some v∧y[(p'+t).toNat]?=some v:=by
 have h1:x[(p+t).toNat]?=some x[(p+t).toNat]:=J88 (by omega)
 refine ⟨_,h1,?_⟩
 rw [←I30 (q:=q') h0' (by omega),←h,I30 h0 ht];exact h1
theorem E00 {i j:Int} {n:Nat} {p:Span} (h:p∈M5 i j n):∃t:Nat,t < n∧p=⟨i+t,j+t⟩:=by
 unfold M5 at h
 obtain ⟨t,h1,h2⟩:=List.mem_map.1 h
 exact ⟨t,List.mem_range.1 h1,h2.symm⟩
theorem E99 {x y:List Str}:∀(l:List Change) (k0:Nat) (i j:Int),K0 k0 i j l x.length y.length=true→B99 x y i j l→0≤i→0≤j→∀p∈K2 i j l x.length,EqAt x y p
 | [],k0,i,j,hs,he,hi,hj,p,hp=>by
  simp only [K0,decide_eq_true_eq] at hs
  unfold K2 at hp
  obtain ⟨t,ht,rfl⟩:=E00 hp
  have he:sub x i x.length=sub y j y.length:=he
  exact ⟨by dsimp only;omega,by dsimp only;omega,G35 he hi hj (by omega) (by omega) (by omega)⟩
 | c::r,k0,i,j,hs,he,hi,hj,p,hp=>by
  have hok:=u9 _ _ _ _ _ _ hs
  have g:=A15 x.length y.length (c::r) k0 i j hs 0 (by simp)
  obtain ⟨g1,g2,g3,g4,g5,g6,g7,_⟩:=g
  have g1:H7 c.Old:=g1
  have g2:H7 c.OldLen:=g2
  have g3:H7 c.New:=g3
  have g4:H7 c.NewLen:=g4
  have g6:c.Old - i=c.New - j:=g6
  have g7:i≤c.Old:=g7
  simp only [K0,J90,decide_eq_true_eq] at hs
  unfold K2 at hp
  unfold H7 at g1 g2 g3 g4
  have hm:=hok.2.2.2.2.2.2.end_le
  rcases List.mem_append.1 hp with hp | hp
  ·obtain ⟨t,ht,rfl⟩:=E00 hp
   exact ⟨by dsimp only;omega,by dsimp only;omega,G35 he.1 hi hj (by omega) (by omega) (by omega)⟩
  ·rw [show max i c.Old+c.OldLen=c.Old+c.OldLen by omega,show j+((c.Old - i).toNat:Int)+c.NewLen=c.New+c.NewLen by omega] at hp
   exact E99 r (k0+1) _ _ hs.2 he.2 (by omega) (by omega) p hp
theorem ScFit.pairs {x y:List Str} {l:List Change} (h:ScFit x y l):∀p∈M8 l x.length,EqAt x y p:=E99 l 0 0 0 h.sc h.eq (Int.le_refl _) (Int.le_refl _)
def B03 (c:Change):Change:=⟨c.Old+1,c.OldLen,c.New+1,c.NewLen⟩
def P8 (l:List Change) (k:Nat):List Change:=l.set k (B03 (cAt l k))
def atI (t:List Int) (i:Int):Int:=t.getD i.toNat 0
def B62 (l:List Change) (k:Nat) (t:List Int) (f n:Int):Prop:=(f+n < t.length∧atI t f=atI t (f+n))∧(k+1=l.length∨(cAt l k).Old+(cAt l k).OldLen+1 < (cAt l (k+1)).Old)
instance (l:List Change) (k:Nat) (t:List Int) (f n:Int):Decidable (B62 l k t f n):=by unfold B62;exact inferInstance
def P9 (l:List Change) (a b:List Int) (k:Nat):Bool :=
 if (cAt l k).NewLen=0 then decide (B62 l k a (cAt l k).Old (cAt l k).OldLen) else if (cAt l k).OldLen=0 then decide (B62 l k b (cAt l k).New (cAt l k).NewLen) else false
theorem O2 (l:List Change) (k:Nat):(P8 l k).length=l.length:=by simp [P8]
theorem B18 (l:List Change) {k:Nat} (hk:k < l.length) (q:Nat):cAt (P8 l k) q=if q=k then B03 (cAt l k) else cAt l q:=by
 unfold P8
 by_cases h:q=k
 ·subst h
  have:∀z,cAt (l.set q z) q=z:=fun z=>by unfold cAt;simp [hk]
  rw [if_pos rfl,this]
 ·rw [if_neg h];unfold cAt
  simp only [J91]
  rw [List.getElem?_set_ne (Ne.symm h)]
theorem D25 (l:List Change) {k:Nat} (hk:k < l.length) (q:Nat):eoI 0 (P8 l k) q=eoI 0 l q+(if q=k+1 then 1 else 0):=by
 cases q with
 | zero=>simp [eoI]
 | succ q =>
  rw [A74,A74,B18 l hk]
  by_cases h:q=k
  ·subst h;rw [if_pos rfl,if_pos rfl];simp only [Z5,B03];omega
  ·rw [if_neg h,if_neg (by omega)];omega
theorem D26 (l:List Change) {k:Nat} (hk:k < l.length) (q:Nat):enI 0 (P8 l k) q=enI 0 l q+(if q=k+1 then 1 else 0):=by
 cases q with
 | zero=>simp [enI]
 | succ q =>
  rw [A75,A75,B18 l hk]
  by_cases h:q=k
  ·subst h;rw [if_pos rfl,if_pos rfl];simp only [E85,B03];omega
  ·rw [if_neg h,if_neg (by omega)];omega
structure IdsOf (x:List Str) (a:List Int):Prop where
 len:a.length=x.length
 inj:∀(i j:Nat) (u v:Str) (z:Int),x[i]?=some u→x[j]?=some v→a[i]?=some z→a[j]?=some z→u=v
theorem ScFit.down {x y:List Str} {l:List Change} {a b:List Int} (h:ScFit x y l) (ha:IdsOf x a) (hb:IdsOf y b) {k:Nat} (hk:k < l.length) (hd:P9 l a b k=true):ScFit x y (P8 l k):=by
 have hlx:=h.lx
 have hly:=h.ly
 have hg:=A15 _ _ _ 0 0 0 h.sc
 have hge:=E86 _ _ _ 0 0 0 h.sc
 have hq:=E87 _ _ _ _ _ h.eq
 have hqe:=G31 _ _ _ _ _ h.eq
 have hok:=h.ok
 obtain ⟨c,hc⟩:∃c,c=cAt l k:=⟨_,rfl⟩
 obtain ⟨g1,g2,g3,g4,g5,g6,g7,g8⟩:=hg k hk
 have hb4:=hok.get k hk
 rw [←hc] at g1 g2 g3 g4 g5 g6 g7 g8 hb4
 unfold H7 at g1 g2 g3 g4
 have eo1:eoI 0 l (k+1)=c.Old+c.OldLen:=by rw [A74,←hc];rfl
 have en1:enI 0 l (k+1)=c.New+c.NewLen:=by rw [A75,←hc];rfl
 obtain ⟨E,E',hE1,hE2,hE3,hE4,hE5,hEn⟩:∃E E':Int,sub x (c.Old+c.OldLen) E=sub y (c.New+c.NewLen) E'∧E - (c.Old+c.OldLen)=E' - (c.New+c.NewLen)∧E≤x.length∧E'≤y.length∧(c.Old+c.OldLen < E)∧(k+1 < l.length→E=(cAt l (k+1)).Old∧E'=(cAt l (k+1)).New∧c.Old+c.OldLen+1 < E):=by
  by_cases hl:k+1=l.length
  ·rw [←hl,eo1,en1] at hge hqe
   refine ⟨x.length,y.length,hqe,by omega,by omega,by omega,?_,fun q=>absurd hl (by omega)⟩
   unfold P9 at hd
   rw [←hc] at hd
   split at hd
   ·have:=(A0 hd).1.1;rw [ha.len] at this;omega
   ·split at hd
    ·have:=(A0 hd).1.1;rw [hb.len] at this;omega
    ·cases hd
  ·have hl:k+1 < l.length:=by omega
   obtain ⟨f1,f2,f3,f4,f5,f6,f7,f8⟩:=hg (k+1) hl
   have f9:=hq (k+1) hl
   have f10:=hok.get (k+1) hl
   rw [eo1,en1] at f6 f9
   rw [eo1] at f7
   unfold H7 at f2 f4
   have hroom:c.Old+c.OldLen+1 < (cAt l (k+1)).Old:=by
    unfold P9 at hd
    rw [←hc] at hd
    split at hd
    ·have:=(A0 hd).2;rw [←hc] at this;omega
    ·split at hd
     ·have:=(A0 hd).2;rw [←hc] at this;omega
     ·cases hd
   exact ⟨_,_,f9,by omega,by omega,by omega,by omega,fun _=>⟨rfl,rfl,hroom⟩⟩
 have hv:∃v,x[c.Old.toNat]?=some v∧y[c.New.toNat]?=some v:=by
  obtain ⟨v,v1,v2⟩:=G35 (t:=0) hE1 (by omega) (by omega) (by omega) hE2 (by omega)
  simp only [Int.natCast_zero,Int.add_zero] at v1 v2
  unfold P9 at hd
  rw [←hc] at hd
  split at hd
  ·rename_i hn
   have:=(A0 hd).1.2
   rw [hn,Int.add_zero] at v2
   refine ⟨v,?_,v2⟩
   have l1:c.Old.toNat < a.length:=by rw [ha.len];omega
   have l2:(c.Old+c.OldLen).toNat < a.length:=by rw [ha.len];omega
   have hx:x[c.Old.toNat]?=some x[c.Old.toNat]:=J88 (by omega)
   have ea:a[c.Old.toNat]?=some (atI a c.Old):=by unfold atI;rw [J91,J88 l1];rfl
   have eb:a[(c.Old+c.OldLen).toNat]?=some (atI a (c.Old+c.OldLen)):=by unfold atI;rw [J91,J88 l2];rfl
   rw [←this] at eb
   have:=ha.inj _ _ _ _ _ hx v1 ea eb
   rw [hx,this]
  ·split at hd
   ·rename_i _ hn
    have:=(A0 hd).1.2
    rw [hn,Int.add_zero] at v1
    refine ⟨v,v1,?_⟩
    have l1:c.New.toNat < b.length:=by rw [hb.len];omega
    have l2:(c.New+c.NewLen).toNat < b.length:=by rw [hb.len];omega
    have hx:y[c.New.toNat]?=some y[c.New.toNat]:=J88 (by omega)
    have ea:b[c.New.toNat]?=some (atI b c.New):=by unfold atI;rw [J91,J88 l1];rfl
    have eb:b[(c.New+c.NewLen).toNat]?=some (atI b (c.New+c.NewLen)):=by unfold atI;rw [J91,J88 l2];rfl
    rw [←this] at eb
    have:=hb.inj _ _ _ _ _ hx v2 ea eb
    rw [hx,this]
   ·cases hd
 obtain ⟨v,v1,v2⟩:=hv
 have hen0:0≤eoI 0 l k∧0≤enI 0 l k:=by
  cases k with
  | zero=>simp [eoI,enI]
  | succ k =>
   obtain ⟨f1,f2,f3,f4,_⟩:=hg k (by omega)
   unfold H7 at f1 f2 f3 f4
   rw [A74,A75];unfold Z5 E85;omega
 have htail:sub x (c.Old+c.OldLen+1) E=sub y (c.New+c.NewLen+1) E':=by
  have:=C00 (e:=E - (c.Old+c.OldLen) - 1) hE1 (by omega) (by omega) (by omega) (by omega) hE2
  rw [show E - (E - (c.Old+c.OldLen) - 1)=c.Old+c.OldLen+1 by omega,show E' - (E - (c.Old+c.OldLen) - 1)=c.New+c.NewLen+1 by omega] at this
  exact this
 refine ⟨hlx,hly,I28 _ _ _ 0 0 0 (fun q hql=>?_) ?_,I29 _ _ _ 0 0 (fun q hql=>?_) ?_⟩
 ·rw [O2] at hql
  rw [B18 l hk,D25 l hk,D26 l hk]
  by_cases e:q=k
  ·rw [if_pos e,if_neg (show ¬q=k+1 by omega),e,←hc]
   unfold H7
   simp only [B03]
   refine ⟨by omega,g2,by omega,g4,g5,by omega,by omega,fun _=>by omega⟩
  ·rw [if_neg e]
   obtain ⟨f1,f2,f3,f4,f5,f6,f7,f8⟩:=hg q hql
   refine ⟨f1,f2,f3,f4,f5,?_,?_,?_⟩
   ·by_cases e2:q=k+1
    ·rw [if_pos e2];omega
    ·rw [if_neg e2];omega
   ·by_cases e2:q=k+1
    ·rw [if_pos e2];have:=f8 (by omega);omega
    ·rw [if_neg e2];omega
   ·intro h0
    by_cases e2:q=k+1
    ·rw [if_pos e2,e2,eo1]
     have:=(hEn (by omega))
     omega
    ·rw [if_neg e2];have:=f8 h0;omega
 ·rw [O2,D25 l hk,D26 l hk]
  by_cases e2:l.length=k+1
  ·rw [if_pos e2,e2,eo1,en1]
   rw [e2,eo1,en1] at hge
   have h1:E≤x.length:=hE3
   omega
  ·rw [if_neg e2];omega
 ·rw [O2] at hql
  rw [B18 l hk,D25 l hk,D26 l hk]
  by_cases e:q=k
  ·rw [if_pos e,if_neg (show ¬q=k+1 by omega),e,←hc]
   simp only [B03,Int.add_zero]
   have:=hq k hk
   rw [←hc] at this
   rw [B17 hen0.1 g7 v1,B17 hen0.2 (by omega) v2,this]
  ·rw [if_neg e]
   by_cases e2:q=k+1
   ·rw [if_pos e2]
    subst e2
    obtain ⟨q1,q2,_⟩:=hEn hql
    rw [eo1,en1,←q1,←q2];exact htail
   ·rw [if_neg e2,Int.add_zero,Int.add_zero]
    exact hq q hql
 ·rw [O2,D25 l hk,D26 l hk]
  by_cases e2:l.length=k+1
  ·rw [if_pos e2]
   rw [e2,eo1,en1] at hqe hge ⊢
   have:=C00 (e:=x.length - (c.Old+c.OldLen) - 1) hqe (by omega) (by omega) (by omega) (by omega) (by omega)
   rw [show (x.length:Int) - (x.length - (c.Old+c.OldLen) - 1)=c.Old+c.OldLen+1 by omega,show (y.length:Int) - (x.length - (c.Old+c.OldLen) - 1)=c.New+c.NewLen+1 by omega] at this
   exact this
  ·rw [if_neg e2,Int.add_zero,Int.add_zero];exact hqe
def A76 (l:List Change) (a b:List Int) (k:Nat):Nat:=((a.length:Int) - (cAt l k).Old).toNat+((b.length:Int) - (cAt l k).New).toNat
def A44 (a b:List Int) (k:Nat):Nat→List Change→List Change
 | 0,l=>l
 | f+1,l=>if P9 l a b k=true then A44 a b k f (P8 l k) else l
def U1 (a b:List Int) (l:List Change) (k:Nat):List Change:=A44 a b k (A76 l a b k) l
def y8 (a b:List Int):Nat→List Change→List Change
 | 0,l=>l
 | k+1,l=>y8 a b k (U1 a b l k)
def y9 (l:List Change):List (Int × Int):=l.map fun c=>(c.OldLen,c.NewLen)
theorem H83 {l:List Change} {k:Nat} (hk:k < l.length):y9 (P8 l k)=y9 l:=by
 unfold y9 P8
 rw [List.map_set]
 have e:(B03 (cAt l k)).OldLen=l[k].OldLen∧(B03 (cAt l k)).NewLen=l[k].NewLen:=by unfold cAt B03;simp [hk]
 apply List.ext_getElem
 ·simp
 ·intro i h1 h2
  by_cases hi:k=i
  ·subst hi;simp [e.1,e.2]
  ·simp [hi]
section
variable {x y:List Str} {a b:List Int} (ha:IdsOf x a) (hb:IdsOf y b)
include ha hb
theorem A60 {l:List Change} {k:Nat} (h:ScFit x y l) (hk:k < l.length) (hd:P9 l a b k=true):A76 (P8 l k) a b k < A76 l a b k:=by
 have h':=(h.down ha hb hk hd).ok.get k (by rw [O2];exact hk)
 unfold A76
 rw [B18 l hk,if_pos rfl] at h' ⊢
 obtain ⟨⟨h1,_⟩,⟨h2,_⟩,⟨h3,_⟩,⟨h4,_⟩,h5,h6⟩:=h'
 have e1:=ha.len
 have e2:=hb.len
 simp only [B03] at h1 h2 h3 h4 h5 h6 ⊢
 omega
theorem C46 {k:Nat}:∀(f g:Nat) (l:List Change),ScFit x y l→k < l.length→A76 l a b k≤f→A76 l a b k≤g→A44 a b k f l=A44 a b k g l
 | 0,0,l,_,_,_,_=>rfl
 | 0,g+1,l,h,hk,h1,_=>by
  unfold A44
  by_cases hd:P9 l a b k=true
  ·have:=A60 ha hb h hk hd;omega
  ·rw [if_neg hd]
 | f+1,0,l,h,hk,_,h1=>by
  unfold A44
  by_cases hd:P9 l a b k=true
  ·have:=A60 ha hb h hk hd;omega
  ·rw [if_neg hd]
 | f+1,g+1,l,h,hk,h1,h2=>by
  unfold A44
  by_cases hd:P9 l a b k=true
  ·have:=A60 ha hb h hk hd
   rw [if_pos hd,if_pos hd]
   exact C46 f g _ (h.down ha hb hk hd) (by rw [O2];exact hk) (by omega) (by omega)
  ·rw [if_neg hd,if_neg hd]
theorem C47 {l:List Change} {k:Nat} (h:ScFit x y l) (hk:k < l.length) (hd:P9 l a b k=true):U1 a b l k=U1 a b (P8 l k) k:=by
 have hm:=A60 ha hb h hk hd
 unfold U1
 obtain ⟨g,hg⟩:∃g,A76 l a b k=g+1:=⟨A76 l a b k - 1,by omega⟩
 rw [hg]
 conv=>lhs;unfold A44
 rw [if_pos hd]
 exact C46 ha hb _ _ _ (h.down ha hb hk hd) (by rw [O2];exact hk) (by omega) (Nat.le_refl _)
omit ha hb in
theorem C48 {l:List Change} {k:Nat} (hd:P9 l a b k=false):U1 a b l k=l:=by
 unfold U1
 cases A76 l a b k with
 | zero=>rfl
 | succ n=>unfold A44;rw [hd];rfl
theorem F00 {k:Nat}:∀(f:Nat) (l:List Change),ScFit x y l→k < l.length→ScFit x y (A44 a b k f l)∧y9 (A44 a b k f l)=y9 l
 | 0,l,h,_=>⟨h,rfl⟩
 | f+1,l,h,hk=>by
  unfold A44
  by_cases hd:P9 l a b k=true
  ·rw [if_pos hd]
   have:=F00 f _ (h.down ha hb hk hd) (by rw [O2];exact hk)
   rw [H83 hk] at this;exact this
  ·rw [if_neg hd];exact ⟨h,rfl⟩
theorem D27 {l:List Change} {k:Nat} (h:ScFit x y l) (hk:k < l.length):ScFit x y (U1 a b l k)∧y9 (U1 a b l k)=y9 l:=F00 ha hb _ l h hk
omit ha hb in
theorem F01 {l l':List Change} (h:y9 l=y9 l'):l.length=l'.length:=by
 have:=congrArg List.length h
 simpa [y9] using this
theorem D28:∀(k:Nat) (l:List Change),ScFit x y l→k≤l.length→ScFit x y (y8 a b k l)∧y9 (y8 a b k l)=y9 l
 | 0,l,h,_=>⟨h,rfl⟩
 | k+1,l,h,hk=>by
  unfold y8
  obtain ⟨h1,h2⟩:=D27 ha hb h (k:=k) (by omega)
  have h3:=D28 k _ h1 (by rw [F01 h2];omega)
  rw [h2] at h3;exact h3
end
theorem A61 {names x:List Str} (h:∀s∈x,s∈names):IdsOf x (F0 names x):=by
 refine ⟨by simp [F0],fun i j u v z h1 h2 h3 h4=>?_⟩
 obtain ⟨s,s1,s2⟩:=C24 h3
 obtain ⟨t,t1,t2⟩:=C24 h4
 rw [h1] at s1;cases s1
 rw [h2] at t1;cases t1
 exact C02 names u v 0 (Int.le_refl _) (h u (K02 h1)) (h v (K02 h2)) (s2.trans t2.symm)
def B52 (l:List Change) (a b:List Int):List Change:=y8 a b l.length l
end Go.AL
namespace Go.AL
open Go
def B53 (x y:List Str) (d:Bool):List Change:=if d=true then B52 (Q8 x y) (F0 (D2 [x,y]) x) (F0 (D2 [x,y]) y) else Q8 x y
def A77 (on nn a b:Str) (ctx:Int) (d:Bool):Patch × Int :=
 if J1 on=false∨J1 nn=false then (O7,120)
 else if ctx < 0∨1048576 < ctx then (O7,3)
 else (⟨on,nn,Q6 (B53 (D5 a) (D5 b) d) (D5 a) (D5 b) ctx⟩,0)
theorem A91 (x y:List Str) (d:Bool) (hx:x.length≤4096) (hy:y.length≤4096):ScFit x y (B53 x y d)∧y9 (B53 x y d)=y9 (Q8 x y):=by
 have h:=C76 x y hx hy
 unfold B53
 cases d
 ·exact ⟨h,rfl⟩
 ·rw [if_pos rfl]
  exact D28 (A61 fun s hs=>W8 _ _ x (by simp) hs) (A61 fun s hs=>W8 _ _ y (by simp) hs) _ _ h (Nat.le_refl _)
theorem E01 (x y:List Str) (d:Bool) (hx:x.length≤4096) (hy:y.length≤4096):(B53 x y d).length≤x.length+1:=by
 rw [F01 (A91 x y d hx hy).2];exact B44 x y
theorem F85 {l:List Change} {m n ctx:Int} (h:ctx < 0∨1048576 < ctx):r8 l m n ctx=([],3):=by unfold r8;rw [if_pos h]
theorem F86 {x y:List Str} {l:List Change} (h:ScFit x y l) {ctx:Int} (hc:¬(ctx < 0∨1048576 < ctx)):r8 l x.length y.length ctx=(H5 l x.length ctx l.length,0):=by
 unfold r8
 rw [if_neg hc,h.check,if_neg (by simp)]
structure Made12 (on nn a b:Str) (l:List Change) (ctx:Int):Prop where
 chk:y6 ⟨on,nn,Q6 l (D5 a) (D5 b) ctx⟩=0
 wr:(j1 ⟨on,nn,Q6 l (D5 a) (D5 b) ctx⟩).length≤16777216
 fit:PFit ⟨on,nn,Q6 l (D5 a) (D5 b) ctx⟩
 rg:∀h∈Q6 l (D5 a) (D5 b) ctx,(-4611686018427387904≤h.Old∧h.Old≤4611686018427387904)∧(-4611686018427387904≤h.New∧h.New≤4611686018427387904)
 sz:szP (Q6 l (D5 a) (D5 b) ctx)≤268435456
def Few (a:Str):Prop:=a.length≤1048576∧(D5 a).length≤4096
theorem few_of {a:Str} (h:a.length≤4096):Few a:=⟨by omega,Nat.le_trans (V0 a) h⟩
theorem A92 {a:Str} (h:Few a):A21 a=(D5 a,0):=by
 obtain ⟨h1,h2⟩:=h
 unfold A21;rw [if_neg (by omega)]
theorem C78 (on nn a b:Str) (l:List Change) (ctx:Int) (hn:J1 on=true) (hn':J1 nn=true) (hc:¬(ctx < 0∨1048576 < ctx)) (ha:Few a) (hb:Few b) (hfit:ScFit (D5 a) (D5 b) l):Made12 on nn a b l ctx:=by
 obtain ⟨ha,ha2⟩:=ha
 obtain ⟨hb,hb2⟩:=hb
 obtain ⟨f1,f2⟩:=A16 a
 obtain ⟨f3,f4⟩:=A16 b
 obtain ⟨a1,a2⟩:=E92 a
 obtain ⟨b1,b2⟩:=E92 b
 have hc0:0≤ctx:=by omega
 have hg:=hfit.good hc0 a1 b1 a2 b2
 have hz:=hfit.size hc0 a1 b1
 have ht:=hfit.texts hc0 a1 b1
 have hxl:=hfit.lx
 have hyl:=hfit.ly
 obtain ⟨hs,hhs⟩:∃hs,hs=Q6 l (D5 a) (D5 b) ctx:=⟨_,rfl⟩
 rw [←hhs] at hg hz ht
 have hon:=hn
 have hnn:=hn'
 unfold J1 at hon hnn
 have o1:=A0 hon
 have o2:=A0 hnn
 have hw:(j1 ⟨on,nn,hs⟩).length≤16777216:=by
  have h1:(j1 ⟨on,nn,hs⟩).length≤(y5 ⟨on,nn,hs⟩).flatten.length+szP hs:=by
   unfold j1 D17
   rw [K04,J86]
   have:=A54 hs
   show _+((hs).map Z4).flatten.flatten.length≤_
   omega
  have h2:=A89 ⟨on,nn,hs⟩
  have h3:(y5 ⟨on,nn,hs⟩).flatten.length≤4*on.length+4*nn.length+14:=h2
  omega
 refine ⟨?_,by rw [←hhs];exact hw,⟨by dsimp only;omega,by dsimp only;omega,by rw [←hhs];dsimp only;omega⟩,fun h hm=>?_,by rw [←hhs];omega⟩
 ·rw [←hhs]
  unfold y6
  rw [if_neg (by rw [show (Patch.mk on nn hs).OldName=on from rfl,show (Patch.mk on nn hs).NewName=nn from rfl,hn,hn'];simp)]
  rw [if_neg (by rw [hg];simp),if_neg (by omega)]
 ·rw [←hhs] at hm
  obtain ⟨⟨q1,q2,q3,q4⟩,_⟩:=ht h hm
  unfold c8 at q1
  unfold j4 at q2
  omega
end Go.AL
namespace Go.AL
open Go
section
variable {x y:List Str} {l:List Change}
end
end Go.AL
namespace Go.AL
open Go
def ChainH (x y:List Str) (i j:Int):List PatchHunk→Prop
 | []=>sub x i x.length=sub y j y.length∧0≤i∧0≤j∧i≤x.length∧j≤y.length
 | h::r=>(sub x i h.Old=sub y j h.New∧F6 h.Lines 43=sub x h.Old (h.Old+c8 h)∧F6 h.Lines 45=sub y h.New (h.New+j4 h))∧(0≤i∧0≤j∧i≤h.Old∧j≤h.New∧h.Old+c8 h≤x.length∧h.New+j4 h≤y.length)∧ChainH x y (h.Old+c8 h) (h.New+j4 h) r
theorem ScFit.chain {x y:List Str} {l:List Change} (h:ScFit x y l) {ctx:Int} (hc:0≤ctx):∀(hs:List Hunk) (a:Nat),GrOk l x.length ctx a hs l.length →
  ∀(i j e:Int),i=eoI 0 l a+e→j=enI 0 l a+e→0≤e→e≤ctx→(a=0→e=0)→i≤x.length→j≤y.length→ChainH x y i j (hs.map (K1 l x y))
 | [],a,hr,i,j,e,hi,hj,he,_,_,hix,hjy=>by
  have hr:a=l.length:=hr
  have hq:=G31 _ _ _ _ _ h.eq
  have hge:=E86 _ _ _ 0 0 0 h.sc
  obtain ⟨r1,r2,r3,r4⟩:=h.nn a (by omega)
  rw [←hr] at hq hge
  refine ⟨?_,by omega,by omega,hix,hjy⟩
  have:=C00 (e:=x.length - i) hq r1 r2 (by omega) (by omega) (by omega)
  rw [show (x.length:Int) - (x.length - i)=i by omega,show (y.length:Int) - (x.length - i)=j by omega] at this
  exact this
 | hk::hs,a,⟨b,hab,ho,hE,hr⟩,i,j,e,hi,hj,he,hec,he0,hix,hjy=>by
  have hb:=hr.le
  have hob:b < l.length→opens l ctx b:=by
   intro hlt
   cases hs with
   | nil=>exact absurd hr (by show ¬b=l.length;omega)
   | cons h2 hs2=>obtain ⟨_,_,ho2,_⟩:=hr;exact ho2
  obtain ⟨w1,w2,w3,w4,w5⟩:=h.after hc hb hob (by omega)
  obtain ⟨q1,q2,q3⟩:=h.before hc (show a < l.length by omega) ho
  have H:=h.hunk hc hab hb ho hob
  rw [←hE] at H
  obtain ⟨P,hP⟩:∃P,P=K1 l x y hk:=⟨_,rfl⟩
  rw [←hP] at H
  have ih:=ScFit.chain h hc hs b hr (P.Old+c8 P) (P.New+j4 P) (eB l x.length ctx b) H.oe H.ne w1 w2 (by omega) H.ox H.ny
  obtain ⟨k1,⟨k2,k2'⟩,k3,⟨k4,k4'⟩,k5,k6,k7,k8⟩:=A15 _ _ _ _ _ _ h.sc a (show a < l.length by omega)
  have h1:=H.old
  have h2:=H.new
  have h3:=H.o0
  have h4:=H.n0
  have hgap:e+eA l ctx a≤(cAt l a).Old - eoI 0 l a:=by
   by_cases h0:a=0
   ·have:=he0 h0;omega
   ·have:=C23 ho h0;omega
  obtain ⟨r1,r2,r3,r4⟩:=h.nn a (by omega)
  have hij:i≤P.Old∧j≤P.New∧P.Old - i=P.New - j∧0≤i∧0≤j:=by omega
  have hrun:=E87 _ _ _ _ _ h.eq a (show a < l.length by omega)
  have t1:=C00 (e:=(cAt l a).Old - i) hrun r1 r2 (by omega) (by omega) (by omega)
  rw [show (cAt l a).Old - ((cAt l a).Old - i)=i by omega,show (cAt l a).New - ((cAt l a).Old - i)=j by omega] at t1
  have t2:=E88 (e:=P.Old - i) t1 (by omega) (by omega) (by omega) (by omega) (by omega)
  rw [show i+(P.Old - i)=P.Old by omega,show j+(P.Old - i)=P.New by omega] at t2
  rw [J95,←hP]
  exact ⟨⟨t2,H.ol,H.nl⟩,⟨by omega,by omega,hij.1,hij.2.1,H.ox,H.ny⟩,ih⟩
end Go.AL
namespace Go.AL
open Go
end Go.AL
namespace Go.AL
open Go
theorem check12_good {p:Patch} (h:y6 p=0):s8 p.Hunks=true:=by
 unfold y6 at h
 split at h
 ·cases h
 ·split at h
  ·cases h
  ·rename_i h1;simpa using h1
end Go.AL
namespace Go.AL
open Go
structure CHunk where
 At:List Int
 Rows:List Row
 deriving DecidableEq
structure Comb where
 Path:Str
 Dense:Bool
 Parents:Int
 Hunks:List CHunk
 deriving DecidableEq
def S4:CHunk→Nat→Cell:=fun h j=>match j with
 | 0=>.list Int 1 H4 h.At
 | _=>.list Row 3 rowC h.Rows
abbrev B54 (h:CHunk):PV:=.agg [.list Int 1 H4 h.At,.list Row 3 rowC h.Rows]
abbrev S5 (c:Comb):PV:=.agg [.v (.string ⟨c.Path.toArray⟩),.v (.bool c.Dense),.v (.int .i64 c.Parents),.list CHunk 2 S4 c.Hunks]
def comb0:Comb:=⟨[],false,0,[]⟩
def V9 (n k:Nat):Int:=if k=n then -1 else k
def U2 (rows:List Row) (n k:Nat):Int:=(H3 rows (V9 n k)).length
def j2 (rows:List Row) (n:Nat):List Int:=(List.range (n+1)).map (U2 rows n)
def atS (n:Nat):Str:=List.replicate n 64
def G36 (n k:Nat):UInt8:=if k=n then 43 else 45
def E02 (n:Nat) (h:CHunk) (k:Nat):Str:=[32,G36 n k]++P5 (h.At.getD k 0) (U2 h.Rows n k)
def Y2 (n:Nat) (h:CHunk) (k:Nat):Str:=((List.range k).map (E02 n h)).flatten
def C04 (n:Nat) (h:CHunk):Str:=atS (n+1)++Y2 n h (n+1)++[32]++atS (n+1)
def E03 (r:Row) (p:Nat):UInt8:=if C41 r.Marks p=false then 32 else if r.Lost then 45 else 43
def A17 (n:Nat) (r:Row):Str:=(List.range n).map (E03 r)
def j3 (n:Nat) (r:Row):List Str:=if ended r.Text=true then [A17 n r++r.Text] else [A17 n r++r.Text,markS]
def T4 (n:Nat) (h:CHunk):List Str:=(C04 n h++[10])::(h.Rows.map (j3 n)).flatten
def ccS:Str:=[100,105,102,102,32,45,45,99,99,32]
def combS:Str:=[100,105,102,102,32,45,45,99,111,109,98,105,110,101,100,32]
def parS:Str:=[112,97,114,101,110,116,115,32]
def B63 (d:Bool):Str:=if d=true then ccS else combS
def H84 (c:Comb):List Str:=(B63 c.Dense++Z3 c.Path++[10])::(parS++p5 c.Parents++[10])::(c.Hunks.map (T4 c.Parents.toNat)).flatten
def C79 (c:Comb):Str:=(H84 c).flatten
def B04 (n:Nat) (ends:List Int) (h:CHunk):Bool:=decide (h.At.length=n+1∧h.Rows≠[])&&(List.range (n+1)).all fun k=>decide ((ends.getD k 0≤h.At.getD k 0∧h.At.getD k 0≤4096)∧h.At.getD k 0+U2 h.Rows n k≤4096)
def Y3 (n:Nat) (h:CHunk):List Int:=(List.range (n+1)).map fun k=>h.At.getD k 0+U2 h.Rows n k
def X0 (n:Nat) (ends:List Int):List CHunk→Bool
 | []=>true
 | h::r=>B04 n ends h&&X0 n (Y3 n h) r
def G6 (hs:List CHunk):List Row:=(hs.map (·.Rows)).flatten
def X1 (n:Nat) (hs:List CHunk):Bool:=X0 n (List.replicate (n+1) 0) hs&&p8 (G6 hs) n
def Z6 (n:Nat) (hs:List CHunk):Bool:=hs.all fun h=>N5 h.Rows n
def J2 (c:Comb):Int:=if J1 c.Path=false then 120 else if c.Parents < 1∨32 < c.Parents then 2 else if Z6 c.Parents.toNat c.Hunks=false then 180 else if X1 c.Parents.toNat c.Hunks=false then 121 else if 16777216 < (C79 c).length then 1 else 0
theorem D29 {n:Nat} {r:Row} (h:i7 n r=true):0≤r.Marks∧r.Marks < 2 ^ n∧(r.Lost=true→r.Marks≠0):=by
 unfold i7 at h
 simp only [J90,beq_iff_eq,Bool.not_eq_true',Bool.and_eq_false_iff,beq_eq_false_iff_ne] at h
 obtain ⟨h1,h2⟩:=h
 have hp:(0:Int) < 2 ^ n:=Int.pow_pos (by decide)
 have h3:=Int.emod_add_mul_ediv r.Marks (2 ^ n)
 have h4:=Int.emod_nonneg r.Marks (Int.ne_of_gt hp)
 have h5:=Int.emod_lt_of_pos r.Marks hp
 rw [h1,Int.mul_zero,Int.add_zero] at h3
 rw [h3] at h4 h5
 refine ⟨h4,h5,fun hl=>?_⟩
 rcases h2 with h2 | h2
 ·rw [hl] at h2;cases h2
 ·exact h2
theorem pow32 {n:Nat} (h:n≤32):(2:Int) ^ n≤4294967296:=by
 have h1:(2:Nat) ^ n≤2 ^ 32:=Nat.pow_le_pow_right (by omega) h
 have h2:((2 ^ n:Nat):Int)=2 ^ n:=by simp
 have h3:(2:Nat) ^ 32=4294967296:=rfl
 omega
theorem J46 {n:Nat} (hn:n≤32) {rows:List Row} (h:N5 rows n=true):I2 rows:=by
 intro r hr
 have h1:=D29 (List.all_eq_true.1 h r hr)
 have:=pow32 hn
 omega
def m7 (n:Nat) (ends:List Int) (h:CHunk):Bool:=decide (h.At.length=n+1∧h.Rows≠[])&&(List.range (n+1)).all fun k=>decide (ends.getD k 0≤h.At.getD k 0∧h.At.getD k 0≤4096)
def A00 (res:Bool) (rows:List Row):Bool:=rows.foldl B97 res
def A01 (par:Int) (rows:List Row):Int:=rows.foldl B98 par
def A02 (n:Nat) (ends:List Int) (res:Bool) (par:Int):List CHunk→Bool
 | []=>decide (∀e∈ends,e≤4096)
 | h::r=>m7 n ends h&&(U4 res par h.Rows&&A02 n (Y3 n h) (A00 res h.Rows) (A01 par h.Rows) r)
theorem F02:∀(a b:List Row) (res:Bool) (par:Int),U4 res par (a++b)=(U4 res par a&&U4 (A00 res a) (A01 par a) b)
 | [],b,res,par=>by simp [U4,A00,A01]
 | x::a,b,res,par=>by
  rw [K19,U4,U4,F02 a b]
  simp only [A00,A01,K23,Bool.and_assoc]
theorem C05 (f:Nat→Int) (n k:Nat) (h:k < n):((List.range n).map f).getD k 0=f k:=by
 rw [J91,K15,K22 h];rfl
theorem F03 {n:Nat} {ends:List Int} (hl:ends.length=n+1):(∀e∈ends,e≤4096)↔∀k,k < n+1→ends.getD k 0≤4096:=by
 constructor
 ·intro h k hk
  rw [J91,J88 (by omega)]
  exact h _ (J96 _)
 ·intro h e he
  obtain ⟨k,hk,rfl⟩:=List.getElem_of_mem he
  have:=h k (by omega)
  rwa [J91,J88 hk] at this
theorem B55 (n:Nat) (h:CHunk):(Y3 n h).length=n+1:=by unfold Y3;simp
theorem E04 (n:Nat):∀(hs:List CHunk) (ends:List Int) (res:Bool) (par:Int),ends.length=n+1 →
  A02 n ends res par hs=(decide (∀e∈ends,e≤4096)&&X0 n ends hs&&U4 res par (G6 hs))
 | [],ends,res,par,_=>by simp [A02,X0,G6,U4]
 | h::r,ends,res,par,hl=>by
  have ih:=E04 n r (Y3 n h) (A00 res h.Rows) (A01 par h.Rows) (B55 n h)
  have e1:G6 (h::r)=h.Rows++G6 r:=by simp [G6]
  rw [A02,ih,X0,e1,F02]
  have e2:(m7 n ends h&&decide (∀e∈Y3 n h,e≤4096))=(decide (∀e∈ends,e≤4096)&&B04 n ends h):=by
   rw [Bool.eq_iff_iff]
   unfold m7 B04
   simp only [J90,decide_eq_true_eq,List.all_eq_true,List.mem_range]
   rw [F03 hl,F03 (B55 n h)]
   have e3:∀k,k < n+1→(Y3 n h).getD k 0=h.At.getD k 0+U2 h.Rows n k:=fun k hk=>C05 _ _ _ hk
   constructor
   ·rintro ⟨⟨h1,h2⟩,h3⟩
    exact ⟨fun k hk=>by have:=h2 k hk;omega,h1,fun k hk=>⟨h2 k hk,by have:=h3 k hk;rwa [e3 k hk] at this⟩⟩
   ·rintro ⟨_,h2,h3⟩
    exact ⟨⟨h2,fun k hk=>(h3 k hk).1⟩,fun k hk=>by rw [e3 k hk];exact (h3 k hk).2⟩
  generalize m7 n ends h=A at e2 ⊢
  generalize decide (∀e∈Y3 n h,e≤4096)=B at e2 ⊢
  generalize decide (∀e∈ends,e≤4096)=C at e2 ⊢
  generalize B04 n ends h=D at e2 ⊢
  generalize U4 res par h.Rows=E
  generalize X0 n (Y3 n h) r=F
  generalize U4 (A00 res h.Rows) (A01 par h.Rows) (G6 r)=G
  cases A<;>cases B<;>cases C<;>cases D<;>first | (cases e2;done) | (cases E<;>cases F<;>cases G<;>rfl)
theorem F87 {n:Nat} {hs:List CHunk} (h:Z6 n hs=true):N5 (G6 hs) n=true:=by
 unfold N5 G6
 rw [List.all_eq_true]
 intro r hr
 obtain ⟨l,h1,h2⟩:=List.mem_flatten.1 hr
 obtain ⟨x,hx,rfl⟩:=List.mem_map.1 h1
 exact List.all_eq_true.1 (List.all_eq_true.1 h x hx) r h2
theorem H23 {n:Nat} (hn:n≤32) {hs:List CHunk} (h:Z6 n hs=true):A02 n (List.replicate (n+1) 0) false 0 hs=X1 n hs:=by
 rw [E04 n hs _ _ _ (List.length_replicate ..),E80 _ n hn (F87 h) (J46 hn (F87 h))]
 have:∀L:List Int,(∀e∈L,e≤4096)→decide (∀e∈L,e≤4096)=true:=fun L h=>decide_eq_true h
 rw [this _ (fun e he=>by have:=(List.mem_replicate.1 he).2;omega)];rfl
theorem D59 {n:Nat}:∀(hs:List CHunk) (ends:List Int),(∀k,k < n+1→0≤ends.getD k 0)→X0 n ends hs=true→∀h∈hs,h.At.length=n+1∧h.Rows≠[]∧∀k,k < n+1→0≤h.At.getD k 0∧h.At.getD k 0+U2 h.Rows n k≤4096
 | [],_,_,_,h,hm=>by cases hm
 | x::r,ends,he,hg,h,hm=>by
  rw [X0,J90] at hg
  obtain ⟨h1,h2⟩:=hg
  unfold B04 at h1
  simp only [J90,decide_eq_true_eq,List.all_eq_true,List.mem_range] at h1
  obtain ⟨⟨h3,h4⟩,h5⟩:=h1
  have hx:∀k,k < n+1→0≤x.At.getD k 0∧x.At.getD k 0+U2 x.Rows n k≤4096:=fun k hk=>by have:=h5 k hk;have:=he k hk;omega
  rcases List.mem_cons.1 hm with rfl | hm
  ·exact ⟨h3,h4,hx⟩
  ·refine D59 r _ (fun k hk=>?_) h2 h hm
   rw [show (Y3 n x).getD k 0=x.At.getD k 0+U2 x.Rows n k from C05 _ _ _ hk]
   have:=hx k hk
   have:0≤U2 x.Rows n k:=by unfold U2;omega
   omega
structure CRead (n:Nat) (h:CHunk):Prop where
 len:h.At.length=n+1
 ne:h.Rows≠[]
 at0:∀k,k < n+1→0≤h.At.getD k 0∧h.At.getD k 0+U2 h.Rows n k≤4096
 rows:∀r∈h.Rows,i7 n r=true∧I6 r.Text=true
theorem C25 (n:Nat) (r:Row):(A17 n r).length=n:=by simp [A17]
theorem E23 (n:Nat):(atS n).length=n:=by simp [atS]
end Go.AL
namespace Go.AL
open Go
end Go.AL
namespace Go.AL
open Go
def T5 (r:Row):Nat:=r.Text.length+96
def A56 (h:CHunk):Nat:=2048+h.At.length+(h.Rows.map T5).sum
def szC (hs:List CHunk):Nat:=(hs.map A56).sum
theorem W3 (rows:List Row):rows.length*96≤(rows.map T5).sum:=by
 induction rows with
 | nil=>simp
 | cons x r ih=>simp only [J95,K11,J87,T5] at ih ⊢;omega
theorem B56 (rows:List Row):N7 rows≤(rows.map T5).sum:=by
 unfold N7
 induction rows with
 | nil=>simp
 | cons x r ih=>simp only [J95,J99,J86,K11,T5] at ih ⊢;omega
theorem F88 {rows:List Row} {r:Row} (h:r∈rows):T5 r≤(rows.map T5).sum:=by
 induction rows with
 | nil=>cases h
 | cons x l ih =>
  simp only [J95,K11]
  rcases List.mem_cons.1 h with rfl | h
  ·omega
  ·have:=ih h;omega
theorem C26 {hs:List CHunk} {h:CHunk} (hm:h∈hs):A56 h≤szC hs:=by
 unfold szC
 induction hs with
 | nil=>cases hm
 | cons x l ih =>
  simp only [J95,K11]
  rcases List.mem_cons.1 hm with rfl | hm
  ·omega
  ·have:=ih hm;omega
theorem C27 (hs:List CHunk):hs.length*2048≤szC hs:=by
 unfold szC
 induction hs with
 | nil=>simp
 | cons x l ih =>
  have h2:2048≤A56 x:=by unfold A56;exact Nat.le_trans (Nat.le_add_right _ _) (Nat.le_add_right _ _)
  rw [J95,K11,J87,K14,Nat.one_mul,Nat.add_comm]
  exact Nat.add_le_add h2 ih
theorem F04 (rows:List Row) (k:Nat):((rows.take k).map T5).sum≤(rows.map T5).sum:=by
 conv=>rhs;rw [←K21 k rows,K00,K31]
 omega
theorem F05 (hs:List CHunk) (k:Nat):szC (hs.take k)≤szC hs:=by
 unfold szC
 conv=>rhs;rw [←K21 k hs,K00,K31]
 omega
theorem F43 {l:List Int} {i:Nat} (h:i < l.length):l[i]?=some (l.getD i 0):=by simp [h]
theorem C80 (rows:List Row) (n k:Nat):0≤U2 rows n k∧U2 rows n k≤rows.length:=by
 have:=C21 rows (V9 n k)
 unfold U2;omega
theorem J47 (rows:List Row) (n k i:Nat) (h:i < rows.length):U2 (rows.take (i+1)) n k=U2 (rows.take i) n k+if i6 rows[i] (V9 n k)=true then 1 else 0:=by
 unfold U2 H3
 rw [J93 h,K34,K00,J86]
 by_cases hv:i6 rows[i] (V9 n k)=true<;>simp [hv]
def A04 (rows:List Row) (n i p:Nat):List Int:=(List.range (n+1)).map fun k=>U2 (rows.take (if k < p then i+1 else i)) n k
theorem J02 (rows:List Row) (n i p:Nat):(A04 rows n i p).length=n+1:=by unfold A04;simp
theorem H85 (rows:List Row) (n:Nat):A04 rows n 0 0=List.replicate (n+1) 0:=by
 unfold A04
 refine List.ext_getElem (by simp) fun k h1 h2=>?_
 simp [U2,H3]
theorem J03 (rows:List Row) (n i p:Nat) (hp:p≤n):(A04 rows n i p)[p]?=some (U2 (rows.take i) n p):=by
 unfold A04
 rw [K15,K22 (by omega)];simp
theorem C81 (f:Nat→Int) (n p:Nat) (v:Int):((List.range n).map f).set p v=(List.range n).map (fun k=>if k=p then v else f k):=by
 refine List.ext_getElem (by simp) fun k h1 h2=>?_
 rw [List.getElem_set,List.getElem_map,List.getElem_map,List.getElem_range]
 by_cases e:p=k
 ·rw [if_pos e,if_pos e.symm]
 ·rw [if_neg e,if_neg (fun h=>e h.symm)]
theorem H86 (rows:List Row) (n i p:Nat) (hi:i < rows.length) (hp:p≤n):A04 rows n i (p+1)=if i6 rows[i] (V9 n p)=true then (A04 rows n i p).set p (U2 (rows.take i) n p+1) else A04 rows n i p:=by
 have hs:=J47 rows n p i hi
 by_cases hv:i6 rows[i] (V9 n p)=true
 ·rw [if_pos hv] at hs ⊢
  unfold A04
  rw [C81]
  refine List.map_congr_left fun k hk=>?_
  by_cases e:k=p
  ·subst e;rw [if_pos rfl,if_pos (by omega),hs]
  ·rw [if_neg e]
   by_cases h3:k < p
   ·rw [if_pos (by omega),if_pos h3]
   ·rw [if_neg (by omega),if_neg h3]
 ·rw [if_neg hv] at hs ⊢
  unfold A04
  refine List.map_congr_left fun k hk=>?_
  by_cases e:k=p
  ·subst e;rw [if_pos (by omega),if_neg (by omega),hs];omega
  ·by_cases h3:k < p
   ·rw [if_pos (by omega),if_pos h3]
   ·rw [if_neg (by omega),if_neg h3]
theorem H87 (rows:List Row) (n i:Nat):A04 rows n i (n+1)=A04 rows n (i+1) 0:=by
 unfold A04
 refine List.map_congr_left fun k hk=>?_
 rw [if_pos (List.mem_range.1 hk),if_neg (by omega)]
theorem H88 (rows:List Row) (n:Nat):A04 rows n rows.length 0=j2 rows n:=by
 unfold A04 j2
 refine List.map_congr_left fun k hk=>?_
 rw [if_neg (by omega),J98]
theorem H89 (rows:List Row) (n:Nat):(j2 rows n).length=n+1:=by unfold j2;simp
theorem H90 (rows:List Row) (n k:Nat) (h:k < n+1):(j2 rows n)[k]?=some (U2 rows n k):=by
 unfold j2
 rw [K15,K22 h];rfl
def A45 (n:Nat) (h:CHunk) (k:Nat):List Int:=(List.range (n+1)).map fun j=>if j < k then h.At.getD j 0+U2 h.Rows n j else U2 h.Rows n j
theorem H91 (n:Nat) (h:CHunk) (k:Nat):(A45 n h k).length=n+1:=by unfold A45;simp
theorem H24 (n:Nat) (h:CHunk):A45 n h 0=j2 h.Rows n:=by
 unfold A45 j2
 refine List.map_congr_left fun k hk=>?_
 rw [if_neg (by omega)]
theorem H92 (n:Nat) (h:CHunk) (k:Nat) (hk:k < n+1):(A45 n h k)[k]?=some (U2 h.Rows n k):=by
 unfold A45
 rw [K15,K22 hk];simp
theorem H93 (n:Nat) (h:CHunk) (k:Nat):(A45 n h k).set k (U2 h.Rows n k+h.At.getD k 0)=A45 n h (k+1):=by
 unfold A45
 rw [C81]
 refine List.map_congr_left fun j hj=>?_
 by_cases e:j=k
 ·subst e;rw [if_pos rfl,if_pos (by omega)];omega
 ·rw [if_neg e]
  by_cases h3:j < k
  ·rw [if_pos h3,if_pos (by omega)]
  ·rw [if_neg h3,if_neg (by omega)]
theorem H25 (n:Nat) (h:CHunk):A45 n h (n+1)=Y3 n h:=by
 unfold A45 Y3
 refine List.map_congr_left fun k hk=>?_
 rw [if_pos (List.mem_range.1 hk)]
theorem E05 (n:Nat) (ends:List Int) (h:CHunk):m7 n ends h=true↔(h.At.length=n+1∧h.Rows≠[])∧∀k,k < n+1→ends.getD k 0≤h.At.getD k 0∧h.At.getD k 0≤4096:=by
 unfold m7
 simp only [J90,decide_eq_true_eq,List.all_eq_true,List.mem_range]
theorem J04 (n:Nat) (h:CHunk) (k:Nat):(E02 n h k).length≤26:=by
 have:=U6 (h.At.getD k 0) (U2 h.Rows n k)
 unfold E02;simp only [J86,J87,J89];omega
theorem A93 (n:Nat) (h:CHunk) (k:Nat):Y2 n h (k+1)=Y2 n h k++E02 n h k:=by
 unfold Y2
 rw [K30,K00,K04];simp
theorem B57 (n:Nat) (h:CHunk):∀k,(Y2 n h k).length≤26*k
 | 0=>by simp [Y2]
 | k+1=>by
  have:=B57 n h k
  have:=J04 n h k
  rw [A93,J86];omega
theorem D60 {n:Nat} (hn:n≤32) (h:CHunk):(C04 n h).length≤925:=by
 have:=B57 n h (n+1)
 unfold C04
 simp only [J86,E23,J87,J89];omega
theorem J05 {n:Nat} (hn:n≤32) (r:Row):(j3 n r).flatten.length≤T5 r:=by
 have hm:markS.length=29:=rfl
 unfold j3 T5
 split<;>simp only [J99,K24,J86,C25,J89]<;>omega
theorem F06 {n:Nat} (hn:n≤32) (rs:List Row):((rs.map (j3 n)).flatten).flatten.length≤(rs.map T5).sum:=by
 induction rs with
 | nil=>simp
 | cons x r ih =>
  have:=J05 hn x
  simp only [J95,J99,K04,J86,K11];omega
theorem H26 {n:Nat} (hn:n≤32) (h:CHunk):(T4 n h).flatten.length≤A56 h:=by
 have h1:=D60 hn h
 have h2:=F06 hn h.Rows
 unfold T4 A56
 simp only [J99,J86,J87,J89];omega
theorem G37 {n:Nat} (hn:n≤32) (hs:List CHunk):((hs.map (T4 n)).flatten).flatten.length≤szC hs:=by
 unfold szC
 induction hs with
 | nil=>simp
 | cons x r ih =>
  have:=H26 hn x
  simp only [J95,J99,K04,J86,K11];omega
def C06 (c:Comb):Str:=B63 c.Dense++Z3 c.Path++[10]++(parS++p5 c.Parents++[10])
def cTo (c:Comb) (k:Nat):Str:=C06 c++(((c.Hunks.take k).map (T4 c.Parents.toNat)).flatten).flatten
theorem J48 (c:Comb):cTo c 0=C06 c:=by simp [cTo]
theorem J49 (c:Comb) (k:Nat) (h:k < c.Hunks.length):cTo c (k+1)=cTo c k++(T4 c.Parents.toNat c.Hunks[k]).flatten:=by
 unfold cTo
 rw [J93 h];simp only [K00,J95,K17,K04,J99,K24,K06,K01]
theorem H27 (c:Comb):cTo c c.Hunks.length=C79 c:=by
 unfold cTo C06 C79 H84
 rw [J98];simp
def rTo (n:Nat) (rs:List Row) (k:Nat):Str:=(((rs.take k).map (j3 n)).flatten).flatten
theorem J50 (n:Nat) (rs:List Row):rTo n rs 0=[]:=by simp [rTo]
theorem J51 (n:Nat) (rs:List Row) (k:Nat) (h:k < rs.length):rTo n rs (k+1)=rTo n rs k++(j3 n rs[k]).flatten:=by
 unfold rTo
 rw [J93 h];simp only [K00,J95,K17,K04,J99,K24,K06,K01]
theorem rTo_len {n:Nat} (hn:n≤32) (rs:List Row) (k:Nat):(rTo n rs k).length≤(rs.map T5).sum:=by
 have:=F06 hn (rs.take k)
 have:=F04 rs k
 unfold rTo;omega
theorem J06 (n:Nat) (h:CHunk):(T4 n h).flatten=C04 n h++[10]++rTo n h.Rows h.Rows.length:=by
 unfold T4 rTo
 rw [J98];simp
theorem C82 (p:Str):(Z3 p).length≤4*p.length+2:=l8 p
theorem G38 (n:Int):(p5 n).length≤10:=Y1 n
theorem H94 (c:Comb):(C06 c).length≤4*c.Path.length+48:=by
 have h1:=C82 c.Path
 have h2:=G38 c.Parents
 have h3:(B63 c.Dense).length≤16:=by cases c.Dense<;>decide
 have h4:parS.length=8:=rfl
 unfold C06
 simp only [J86,J87,J89];omega
theorem I31 (c:Comb) (hn:c.Parents.toNat≤32) (k:Nat):(cTo c k).length≤4*c.Path.length+48+szC c.Hunks:=by
 have h1:=H94 c
 have h2:=G37 hn (c.Hunks.take k)
 have h3:=F05 c.Hunks k
 unfold cTo
 rw [J86];omega
theorem H28 (n:Nat) (r:Row):A17 (n+1) r=A17 n r++[E03 r n]:=by
 unfold A17
 rw [K30,K00];rfl
theorem H95 (n:Nat) (r:Row):(j3 n r).flatten=A17 n r++r.Text++(if ended r.Text=true then [] else markS):=by
 unfold j3
 split<;>simp
end Go.AL
namespace Go.AL
open Go
end Go.AL
namespace Go.AL
open Go
abbrev E06:Bool→Nat→Cell:=fun b _=>.v (.bool b)
abbrev pBools (l:List Bool):PV:=.one (.list Bool 1 E06 l)
def A48 (n:Nat) (rows:List Row):Int→List CHunk→List Span→Option (List CHunk)
 | _,hs,[]=>some hs
 | e,hs,s::r=>if s.From < e∨s.To≤s.From∨(rows.length:Int) < s.To then none else A48 n rows s.To (hs++[⟨j2 (rows.take s.From.toNat) n,(rows.drop s.From.toNat).take (s.To.toNat - s.From.toNat)⟩]) r
def A78 (path:Str) (t:Table) (sp:List Span) (d:Bool):Comb × Int :=
 if J1 path=false then (comb0,120) else if M6 t≠0 then (comb0,M6 t) else match A48 t.Parents.toNat t.Rows 0 [] sp with
  | none=>(comb0,3)
  | some hs=>if J2 ⟨path,d,t.Parents,hs⟩≠0 then (comb0,J2 ⟨path,d,t.Parents,hs⟩) else (⟨path,d,t.Parents,hs⟩,0)
theorem I32 (f:Row→Nat) (c n:Nat) (rows:List Row):∀(sp:List Span) (e:Int) (hs hs':List CHunk),0≤e→A48 n rows e hs sp=some hs'→(hs.map fun h=>c+(h.Rows.map f).sum).sum≤c*hs.length+((rows.take e.toNat).map f).sum→hs.length≤e.toNat →
  (hs'.map fun h=>c+(h.Rows.map f).sum).sum≤c*hs'.length+(rows.map f).sum∧hs'.length≤max rows.length hs.length
 | [],e,hs,hs',he,h,hw,hl=>by
  cases h
  refine ⟨?_,by omega⟩
  have:((rows.take e.toNat).map f).sum≤(rows.map f).sum:=by
   conv=>rhs;rw [←K21 e.toNat rows,K00,K31]
   omega
  omega
 | s :: r,e,hs,hs',he,h,hw,hl=>by
  rw [A48] at h
  split at h
  ·cases h
  ·rename_i hc
   simp only [not_or,Int.not_lt,Int.not_le] at hc
   obtain ⟨c1,c2,c3⟩:=hc
   have ih:=I32 f c n rows r s.To _ hs' (by omega) h
   have hsum:((rows.take e.toNat).map f).sum+(((rows.drop s.From.toNat).take (s.To.toNat - s.From.toNat)).map f).sum≤((rows.take s.To.toNat).map f).sum:=by
    have e1:rows.take s.To.toNat=rows.take s.From.toNat++(rows.drop s.From.toNat).take (s.To.toNat - s.From.toNat):=by
     have:=List.take_add (l:=rows) (i:=s.From.toNat) (j:=s.To.toNat - s.From.toNat)
     rw [show s.From.toNat+(s.To.toNat - s.From.toNat)=s.To.toNat by omega] at this
     exact this
    have e2:rows.take s.From.toNat=rows.take e.toNat++(rows.drop e.toNat).take (s.From.toNat - e.toNat):=by
     have:=List.take_add (l:=rows) (i:=e.toNat) (j:=s.From.toNat - e.toNat)
     rw [show e.toNat+(s.From.toNat - e.toNat)=s.From.toNat by omega] at this
     exact this
    rw [e1,K00,K31]
    conv=>rhs;rw [e2,K00,K31]
    omega
   have hih:=ih (by
    rw [K00,K31,J86]
    simp only [J95,K17,K11,List.sum_nil,J87,J89,Nat.mul_add,Nat.mul_one,Nat.mul_zero]
    omega) (by rw [J86];simp;omega)
   refine ⟨hih.1,?_⟩
   have:=hih.2
   rw [J86] at this
   simp only [J87,J89] at this
   have h3:hs.length+1≤rows.length:=by omega
   omega
def CInvA (n:Nat) (hs:List CHunk):Prop:=∀h∈hs,h.At.length=n+1∧I2 h.Rows
theorem F07 {n:Nat} {rows:List Row} (hr:I2 rows):∀(sp:List Span) (e:Int) (hs hs':List CHunk),A48 n rows e hs sp=some hs'→CInvA n hs→CInvA n hs'
 | [],e,hs,hs',h,hi=>by cases h;exact hi
 | s::r,e,hs,hs',h,hi=>by
  rw [A48] at h
  split at h
  ·cases h
  ·refine F07 hr r _ _ hs' h ?_
   intro x hx
   rcases List.mem_append.1 hx with hx | hx
   ·exact hi x hx
   ·simp only [K28,K33,or_false] at hx
    rw [hx]
    exact ⟨H89 _ _,fun y hy=>hr y (List.mem_of_mem_drop (List.mem_of_mem_take hy))⟩
def wRow (n:Nat) (r:Row):Nat:=r.Text.length+n+29
theorem B58:∀(s cur:Str),(H0 cur s).length≤s.count 10+1
 | [],cur=>by unfold H0;split<;>simp
 | c::r,cur=>by
  rw [X3]
  split
  ·rename_i h
   have:=B58 r []
   rw [J87,List.count_cons,h];simp;omega
  ·have:=B58 r (cur++[c])
   rw [List.count_cons];omega
theorem E07 (s:Str):(D5 s).length≤s.count 10+1:=B58 s []
theorem G39 (result:Str) (parents:List Str) (L B:Nat) (h0:(D5 result).length≤L∧result.length≤B) (h1:∀b∈parents,(D5 b).length≤L∧b.length≤B) :
  I2 (M7 result parents).1.Rows∧(M7 result parents).1.Rows.length≤(L+1)*(parents.length*L+1)∧∀r∈(M7 result parents).1.Rows,r.Text.length≤B:=by
 have hnil:I2 []∧([]:List Row).length≤(L+1)*(parents.length*L+1)∧∀r∈([]:List Row),r.Text.length≤B:=⟨fun r hr=>(by cases hr),(by simp),fun r hr=>(by cases hr)⟩
 by_cases hn:parents.length < 1∨32 < parents.length
 ·rw [M7,if_pos hn];exact hnil
 obtain ⟨fs,hfs⟩:∃fs,fs=D5 result::parents.map D5:=⟨_,rfl⟩
 obtain ⟨names,hnames⟩:∃names,names=D2 fs:=⟨_,rfl⟩
 obtain ⟨s,hs⟩:∃s,s=B01 (fs.map (F0 names)) (D5 result).length parents.length parents.length:=⟨_,rfl⟩
 have hm:M7 result parents=if ∃k,k < (D5 result).length+1∧(L3 (s.2 k)).2≠0 then (⟨0,[]⟩,1) else (⟨parents.length,A42 names (D5 result) s ((D5 result).length+1)⟩,0):=by
  rw [M7,if_neg hn,hs,hnames,hfs]
 rw [hm]
 split
 ·exact hnil
 have hfB:∀f∈fs,f.length≤L∧∀t∈f,t.length≤B:=by
  intro f hf
  rw [hfs] at hf
  rcases List.mem_cons.1 hf with rfl | hf
  ·exact ⟨h0.1,fun t ht=>by have:=H18 _ _ ht;omega⟩
  ·obtain ⟨b,hb,rfl⟩:=List.mem_map.1 hf
   have:=h1 b hb
   exact ⟨this.1,fun t ht=>by have:=H18 _ _ ht;omega⟩
 have hnB:∀t∈names,t.length≤B:=by
  intro t ht
  rw [hnames] at ht
  obtain ⟨f,hf,h2⟩:=List.mem_flatten.1 (H03 fs t ht)
  exact (hfB f hf).2 t h2
 have hid:∀x∈fs.map (F0 names),x.length≤L∧∀v∈x,(fun _:Int=>True) v:=by
  intro x hx
  obtain ⟨f,hf,rfl⟩:=List.mem_map.1 hx
  exact ⟨by rw [F0,K13];exact (hfB f hf).1,fun _ _=>trivial⟩
 have hok:LoomOk (fun _=>True) L (D5 result).length parents.length s:=by rw [hs];exact D52 hid _
 have hL:(D5 result).length≤L:=h0.1
 have hcs:∀k,(L3 (s.2 k)).1.length≤parents.length*L∧∀m∈(L3 (s.2 k)).1,0≤m.Parents∧m.Parents < 4294967296:=fun k=>by
  have h2:=hok.gaps k
  have h3:=C42 (fun _=>True) L (s.2 k) h2.2
  rw [h2.1] at h3
  exact ⟨h3.1,fun m hmem=>(h3.2 m hmem).1⟩
 have hgetD:∀(l:List Str) (k:Nat),(∀t∈l,t.length≤B)→(l.getD k []).length≤B:=by
  intro l k hl
  rw [J91]
  cases h:l[k]? with
  | none=>simp
  | some t=>exact hl t (K02 h)
 have key:∀k,k≤(D5 result).length+1→I2 (A42 names (D5 result) s k)∧(A42 names (D5 result) s k).length≤k*(parents.length*L+1)∧∀r∈A42 names (D5 result) s k,r.Text.length≤B:=by
  intro k
  induction k with
  | zero=>intro _;simp only [A42,List.range_zero,K17,K24];exact ⟨fun r hr=>(by cases hr),by simp,fun r hr=>(by cases hr)⟩
  | succ k ih =>
   intro hk
   obtain ⟨i1,i2,i3⟩:=ih (by omega)
   have hc:=hcs k
   have hgap:∀r∈A13 names (D5 result) s k,(0≤r.Marks∧r.Marks < 4294967296)∧r.Text.length≤B:=by
    intro r hr
    unfold A13 at hr
    rcases List.mem_append.1 hr with h | h
    ·obtain ⟨m,hmem,rfl⟩:=List.mem_map.1 h
     exact ⟨hc.2 m hmem,hgetD _ _ hnB⟩
    ·split at h
     ·rename_i hkl
      simp only [List.mem_singleton] at h
      subst h
      refine ⟨?_,hgetD _ _ (hfB _ (by rw [hfs];simp)).2⟩
      have:k < s.1.length:=by rw [hok.len];exact hkl
      show 0≤s.1.getD k 0∧s.1.getD k 0 < 4294967296
      rw [J91,J88 this]
      exact hok.marks _ (J96 this)
     ·cases h
   have hgl:(A13 names (D5 result) s k).length≤parents.length*L+1:=by
    unfold A13
    rw [J86,K13]
    have:=hc.1
    split<;>simp<;>omega
   rw [D85]
   refine ⟨fun r hr=>?_,by rw [J86,K14,Nat.one_mul];omega,fun r hr=>?_⟩
   ·rcases List.mem_append.1 hr with h | h
    ·exact i1 r h
    ·exact (hgap r h).1
   ·rcases List.mem_append.1 hr with h | h
    ·exact i3 r h
    ·exact (hgap r h).2
 obtain ⟨k1,k2,k3⟩:=key _ (Nat.le_refl _)
 have:((D5 result).length+1)*(parents.length*L+1)≤(L+1)*(parents.length*L+1):=K07 _ (by omega)
 exact ⟨k1,by simp only;omega,k3⟩
end Go.AL
namespace Go.AL
open Go
def A18 (r:Row):Bool:=!r.Lost&&decide (r.Marks=0)
def B64 (out:List Span) (v:Int):List Span:=match out.getLast? with
 | some s=>out.dropLast++[⟨s.From,v⟩]
 | none=>out
def spGo:List Bool→Nat→Bool→List Span→List Span
 | [],_,_,out=>out
 | b::r,i,p,out=>spGo r (i+1) b (if b=true then B64 (if p=true then out else out++[⟨i,i⟩]) ((i:Int)+1) else out)
def C28 (l:List Bool):List Span:=spGo l 0 false []
def C83 (n:Nat) (out:List Span):Prop:=out.length≤n∧∀s∈out,(0≤s.From∧s.From≤n)∧(0≤s.To∧s.To≤n)
theorem F89 {n:Nat} {out:List Span} (h:C83 n out):C83 (n+1) out:=⟨by have:=h.1;omega,fun s hs=>by have:=h.2 s hs;omega⟩
theorem J52 {n:Nat} {out:List Span} (h:C83 n out):C83 (n+1) (out++[⟨n,n⟩]):=by
 refine ⟨by rw [J86];have:=h.1;simp;omega,fun x hx=>?_⟩
 rcases List.mem_append.1 hx with hx | hx
 ·have:=h.2 x hx;omega
 ·simp only [K28,K33,or_false] at hx
  rw [hx];dsimp only;omega
theorem F08 {n:Nat} {out:List Span} {v:Int} (h:C83 n out) (hv:0≤v∧v≤(n:Int)):C83 n (B64 out v):=by
 unfold B64
 cases hl:out.getLast? with
 | none=>dsimp only;exact h
 | some s =>
  dsimp only
  have hm:=h.2 s (List.mem_of_getLast? hl)
  have hne:out≠[]:=fun e=>by rw [e] at hl;cases hl
  have hp:=List.length_pos_iff.2 hne
  refine ⟨by rw [J86,List.length_dropLast];have:=h.1;simp;omega,fun x hx=>?_⟩
  rcases List.mem_append.1 hx with hx | hx
  ·exact h.2 x ((List.dropLast_sublist _).subset hx)
  ·simp only [K28,K33,or_false] at hx
   rw [hx];dsimp only;omega
theorem I33 {i:Nat} {out:List Span} (b p:Bool) (h:C83 i out):C83 (i+1) (if b=true then B64 (if p=true then out else out++[⟨i,i⟩]) ((i:Int)+1) else out):=by
 split
 ·split
  ·exact F08 (F89 h) (by omega)
  ·exact F08 (J52 h) (by omega)
 ·exact F89 h
theorem I34:∀(l:List Bool) (i:Nat) (p:Bool) (out:List Span),C83 i out→C83 (i+l.length) (spGo l i p out)
 | [],i,p,out,h=>h
 | b::r,i,p,out,h=>by
  rw [spGo,J87,show i+(r.length+1)=(i+1)+r.length by omega]
  exact I34 r (i+1) b _ (I33 b p h)
theorem H29 (l:List Bool):C83 l.length (C28 l):=by
 have:=I34 l 0 false [] ⟨Nat.le_refl _,fun s hs=>by cases hs⟩
 rwa [Nat.zero_add] at this
def s9 (t:Table):List Span × Int:=if M6 t≠0 then ([],M6 t) else (C28 (t.Rows.map fun r=>!A18 r),0)
def D30 (rows:List Row):Int:=rows.foldl (fun a r=>l6 a r.Marks) 0
def A94 (t:Table) (s:Span):Bool:=(List.range t.Parents.toNat).all fun p=>!decide (D30 ((t.Rows.drop s.From.toNat).take (s.To.toNat - s.From.toNat)) / 2 ^ p % 2=0)
def M4 (t:Table) (d:Bool):List Span × Int:=if (s9 t).2≠0 then ([],(s9 t).2) else ((s9 t).1.filter fun s=>!d||A94 t s,0)
def t6 (l:List Span) (ctx:Int) (k:Nat):Bool:=l.any fun s=>decide (s.From - ctx≤k∧(k:Int) < s.To+ctx)
def Z7 (t:Table) (ctx:Int) (d:Bool):List Span × Int :=
 if (M4 t d).2≠0 then ([],(M4 t d).2) else if ctx < 0∨1048576 < ctx then ([],3)
 else (C28 ((List.range t.Rows.length).map (t6 (M4 t d).1 ctx)),0)
theorem I35 (t:Table):C83 t.Rows.length (s9 t).1:=by
 unfold s9
 split
 ·exact ⟨Nat.zero_le _,fun s hs=>by cases hs⟩
 ·have:=H29 (t.Rows.map fun r=>!A18 r)
  rwa [K13] at this
theorem F09 (t:Table) (d:Bool):C83 t.Rows.length (M4 t d).1:=by
 have h:=I35 t
 unfold M4
 split
 ·exact ⟨Nat.zero_le _,fun s hs=>by cases hs⟩
 ·refine ⟨?_,fun s hs=>h.2 s (List.mem_filter.1 hs).1⟩
  have:=List.length_filter_le (fun s=>!d||A94 t s) (s9 t).1
  have:=h.1
  dsimp only;omega
theorem J53 (t:Table) (ctx:Int) (d:Bool):C83 t.Rows.length (Z7 t ctx d).1:=by
 unfold Z7
 split
 ·exact ⟨Nat.zero_le _,fun s hs=>by cases hs⟩
 ·split
  ·exact ⟨Nat.zero_le _,fun s hs=>by cases hs⟩
  ·have:=H29 ((List.range t.Rows.length).map (t6 (M4 t d).1 ctx))
   rwa [K13,K36] at this
def E08 (l:List Bool) (i:Nat):Bool:=if i=0 then false else l.getD (i - 1) false
theorem J07 {l:List Bool} {i:Nat} {p:Bool} {out:List Span} (h:i < l.length):spGo (l.drop i) i p out=spGo (l.drop (i+1)) (i+1) (l.getD i false) (if l.getD i false=true then B64 (if p=true then out else out++[⟨i,i⟩]) ((i:Int)+1) else out):=by
 rw [J92 h,spGo,J91,J88 h];rfl
end Go.AL
namespace Go.AL
open Go
end Go.AL
namespace Go.AL
open Go
def LowP (p:Nat) (l:List Merged):Prop:=∀m∈l,0 < m.Parents∧m.Parents < ((2 ^ p:Nat):Int)
theorem LowP.sub {p:Nat} {l l':List Merged} (h:LowP p l) (hs:∀m∈l',m∈l):LowP p l':=fun m hm=>h m (hs m hm)
theorem LowP.up {p:Nat} {l:List Merged} (h:LowP p l):LowP (p+1) l:=fun m hm=>by
 have:=h m hm
 have:2 ^ p≤2 ^ (p+1):=Nat.pow_le_pow_right (by decide) (by omega)
 omega
end Go.AL
namespace Go.AL
open Go
def piece (file:List Int) (c:Change):List Int:=(file.drop c.Old.toNat).take ((c.Old+c.OldLen).toNat - c.Old.toNat)
end Go.AL
namespace Go.AL
open Go
theorem J54 (w:Row) {q:Nat} (hq:q < 32):i6 w q=(C41 w.Marks q == w.Lost):=by
 rw [i6,if_neg (by omega),if_neg (by omega),J97]
structure Made16 (x:Str) (r:List Str) (rows:List Row):Prop where
 res:H3 rows (-1)=D5 x
 par:∀q,q < r.length→H3 rows q=D5 (r.getD q [])
 marks:N5 rows r.length=true
 texts:∀w∈rows,I6 w.Text=true
end Go.AL
namespace Go.AL
open Go
def CutSp (m:Nat):Int→List Span→Prop
 | _,[]=>True
 | e,s::r=>e≤s.From∧s.From < s.To∧s.To≤m∧CutSp m s.To r
def endOf (e:Int):List Span→Int
 | []=>e
 | s::r=>endOf s.To r
theorem CutSp.mono {m m':Nat} (hm:m≤m'):∀{sp:List Span} {e:Int},CutSp m e sp→CutSp m' e sp
 | [],_,_=>trivial
 | s::r,e,h=>⟨h.1,h.2.1,by have:=h.2.2.1;omega,CutSp.mono hm h.2.2.2⟩
theorem CutSp.end_le {m:Nat}:∀{sp:List Span} {e:Int},CutSp m e sp→e≤m→endOf e sp≤m
 | [],_,_,he=>he
 | s::r,_,h,_=>CutSp.end_le (sp:=r) (e:=s.To) h.2.2.2 h.2.2.1
end Go.AL
namespace Go.AL
open Go
def G9 (c:Comb):Table × Int :=
 if J2 c≠0 then (⟨0,[]⟩,J2 c) else match c.Hunks with
  | []=>(⟨c.Parents,[]⟩,0)
  | h::r=>if r≠[]∨∃v∈h.At,v≠0 then (⟨0,[]⟩,121) else (⟨c.Parents,h.Rows⟩,0)
end Go.AL
namespace Go.AL
open Go
theorem G40 (h:CHunk) (hs:List CHunk):G6 (h::hs)=h.Rows++G6 hs:=by simp [G6]
def B19 (f:Nat→Nat):Nat→Nat
 | 0=>0
 | m+1=>B19 f m+f m
theorem F10 {f g:Nat→Nat}:∀{m:Nat},(∀k,f k≤g k)→B19 f m≤B19 g m
 | 0,_=>Nat.le_refl _
 | m+1,h=>by
  have h1:=F10 (f:=f) (g:=g) (m:=m) h
  have h2:=h m
  show B19 f m+f m≤B19 g m+g m
  omega
theorem F90 {f g:Nat→Nat} {k0:Nat} (h:∀k,f k≤g k) (h0:f k0+1≤g k0):∀{m:Nat},k0 < m→B19 f m+1≤B19 g m
 | 0,hm=>absurd hm (Nat.not_lt_zero _)
 | m+1,hm=>by
  show B19 f m+f m+1≤B19 g m+g m
  by_cases hk:k0=m
  ·subst hk
   have:=F10 (f:=f) (g:=g) (m:=k0) h
   omega
  ·have h1:=F90 h h0 (m:=m) (by omega)
   have h2:=h m
   omega
theorem J08 {n:Nat} (hn:n≤32) {r:Row} (h:i7 n r=true):∃k,k < n+1∧i6 r ((k:Int) - 1)=true:=by
 obtain ⟨h1,h2,h3⟩:=D29 h
 cases hl:r.Lost
 ·exact ⟨0,by omega,by rw [show ((0:Nat):Int) - 1 = -1 from rfl,i6,if_pos rfl,hl];rfl⟩
 ·have h4:=h3 hl
  obtain ⟨m,hm⟩:∃m:Nat,r.Marks=m:=⟨r.Marks.toNat,by omega⟩
  have h5:((2 ^ n:Nat):Int)=2 ^ n:=by simp
  have hm0:m≠0:=by omega
  obtain ⟨q,hq⟩:=Nat.exists_testBit_of_ne_zero hm0
  have hqn:q < n:=by
   refine Classical.byContradiction fun hc=>?_
   have:m < 2 ^ n:=by omega
   rw [Nat.testBit_lt_two_pow (Nat.lt_of_lt_of_le this (Nat.pow_le_pow_right (by decide) (by omega)))] at hq
   cases hq
  refine ⟨q+1,by omega,?_⟩
  rw [show ((q+1:Nat):Int) - 1=(q:Int) by omega,J54 _ (by omega),hm,D53,hq,hl];rfl
theorem F91 {f:Nat→Nat} {B:Nat}:∀{m:Nat},(∀k,k < m→f k≤B)→B19 f m≤m*B
 | 0,_=>by simp [B19]
 | m+1,h=>by
  have h1:=F91 (f:=f) (B:=B) (m:=m) fun k hk=>h k (by omega)
  have h2:=h m (by omega)
  show B19 f m+f m≤(m+1)*B
  rw [K14,Nat.one_mul];omega
theorem H30 {n:Nat} (hn:n≤32):∀{rows:List Row},(∀r∈rows,i7 n r=true)→rows.length≤B19 (fun k=>(H3 rows ((k:Int) - 1)).length) (n+1)
 | [],_=>Nat.zero_le _
 | r::rs,h=>by
  have ih:=H30 hn (rows:=rs) fun x hx=>h x (by simp [hx])
  obtain ⟨k,hk,hv⟩:=J08 hn (h r (by simp))
  have:=F90 (f:=fun k=>(H3 rs ((k:Int) - 1)).length) (g:=fun k=>(H3 (r::rs) ((k:Int) - 1)).length) (k0:=k) (fun q=>by
   unfold H3
   simp only [K13,List.filter_cons]
   split
   ·rw [J87];omega
   ·exact Nat.le_refl _) (by
   unfold H3
   simp only [K13,List.filter_cons]
   rw [hv,if_pos rfl,J87]
   exact Nat.le_refl _) hk
  rw [J87];omega
theorem Made16.few {x:Str} {r:List Str} {rows:List Row} (h:Made16 x r rows) (hn:r.length≤32) {L:Nat} (hx:(D5 x).length≤L) (hr:∀b∈r,(D5 b).length≤L):rows.length≤(r.length+1)*L:=by
 refine Nat.le_trans (H30 hn (List.all_eq_true.1 h.marks)) (F91 fun k hk=>?_)
 cases k with
 | zero=>rw [show ((0:Nat):Int) - 1 = -1 from rfl,h.res];exact hx
 | succ q =>
  rw [show ((q+1:Nat):Int) - 1=(q:Int) by omega,h.par q (by omega)]
  refine hr _ ?_
  rw [J91,J88 (by omega)]
  exact J96 _
end Go.AL
namespace Go.AL
open Go
theorem G41 (a cur:Str) (h:(10:UInt8)∉a) (hne:cur++a≠[]):H0 cur a=[cur++a]:=by
 induction a generalizing cur with
 | nil=>simp only [K06] at hne ⊢;exact D07 cur hne
 | cons c r ih =>
  simp only [K28,not_or] at h
  rw [X3,if_neg (fun e=>h.1 e.symm),ih _ h.2 (by simp)];simp
theorem F44 (a b cur:Str) (h:(10:UInt8)∉a):H0 cur (a++10::b)=(cur++a++[10])::H0 [] b:=by
 induction a generalizing cur with
 | nil=>simp [H0]
 | cons c r ih =>
  simp only [K28,not_or] at h
  rw [K19,X3,if_neg (fun e=>h.1 e.symm),ih _ h.2];simp
theorem D31:∀(l:List Str),T8 l=true→D5 l.flatten=l
 | [],_=>rfl
 | s :: r,h=>by
  rw [B96] at h
  simp only [J90,K18] at h
  obtain ⟨⟨h1,h2⟩,h3⟩:=h
  have ih:=D31 r h3
  unfold I6 at h1
  simp only [J90] at h1
  have hd:(10:UInt8)∉s.dropLast:=fun hm=>by have:=List.all_eq_true.1 h1.1 _ hm;simp at this
  have hne:s≠[]:=by simpa using h1.2
  have hs:=List.dropLast_concat_getLast hne
  unfold D5 at ih ⊢
  by_cases hl:s.getLast hne=10
  ·rw [hl] at hs
   rw [J99,←hs,show s.dropLast++[10]++r.flatten=s.dropLast++10::r.flatten by simp,F44 _ _ _ hd,ih];simp
  ·have he:ended s=false:=by
    unfold ended
    rw [List.getLast?_eq_some_getLast hne]
    simpa using hl
   rcases h2 with h2 | h2
   ·have hr:r=[]:=by simpa using h2
    subst hr
    have hm:(10:UInt8)∉s:=by
     rw [←hs]
     simp only [List.mem_append,K28,K33,or_false,not_or]
     exact ⟨hd,fun e=>hl e.symm⟩
    simp only [J99,K24,K06]
    rw [G41 s [] hm (by simpa using hne)];simp
   ·rw [he] at h2;cases h2
theorem H96 {l:List Str}:Few (L9 l).1:=by
 unfold L9
 by_cases h:T8 l=false
 ·rw [if_pos h];exact few_of (by simp)
 ·rw [if_neg h]
  by_cases h2:l.flatten.length > 1048576∨l.length > 4096
  ·rw [if_pos h2];exact few_of (by simp)
  ·rw [if_neg h2]
   refine ⟨by dsimp only;omega,?_⟩
   dsimp only
   rw [D31 l (by simpa using h)];omega
end Go.AL
