/- Plain facts about data; no project text. -/
import Derived.Test.YtbiadkkamhpdnaaGreatDoorD
import Derived.Lib.Strings
import Derived.Lib.Bytealg
import Derived.Lib.Join
import Derived.Lib.ItoaNum
import Derived.Test.YtbiadkkamhpdnaaGreatDoorAn
set_option linter.unusedSimpArgs false
namespace Go.AL
open Go
theorem D32 (c:UInt8):((c.toNat:Int)=10)↔c=10:=by
 constructor
 ·intro h
  have:c.toNat=10:=by omega
  exact UInt8.toNat_inj.1 (by simpa using this)
 ·rintro rfl;rfl
def F1 (cur:Str):Str→List Str
 | []=>if cur=[] then [] else [cur]
 | c::r=>if c=10 then (cur++[c])::F1 [] r else F1 (cur++[c]) r
def B6 (b:Str):List Str:=F1 [] b
theorem A45 (cur:Str) (s:Str):(F1 cur s).length≤s.length+1:=by
 induction s generalizing cur with
 | nil=>unfold F1;split<;>simp
 | cons c r ih=>unfold F1;split<;>simp<;>(have:=ih [];have:=ih (cur++[c]);omega)
theorem A91 (s:Str):(F1 [] s).length≤s.length:=by
 have key:∀(s cur:Str),cur≠[]→(F1 cur s).length≤s.length+1:=fun s cur _=>A45 cur s
 induction s with
 | nil=>simp [F1]
 | cons c r ih=>unfold F1;split<;>simp<;>(have:=A45 ([]++[c]) r;simp at this;omega)
theorem O9 (b:Str):(B6 b).length≤b.length:=A91 b
theorem j3 (cur r:Str) (c:UInt8):F1 cur (c::r)=if c=10 then (cur++[c])::F1 [] r else F1 (cur++[c]) r:=rfl
theorem D68 (cur:Str) (h:cur≠[]):F1 cur []=[cur]:=by simp [F1,h]
theorem or_pick {p q:Prop} [Decidable p] [Decidable q]:(if decide p=true then true else decide q)=decide (p∨q):=by by_cases p<;>simp [*]
theorem J6 {p q:Prop} [Decidable p] [Decidable q]:(if decide p=true then decide q else false)=decide (p∧q):=by by_cases p<;>simp [*]
theorem Q0 {α:Type} (l:List (List α)) (i:Nat) (h:i < l.length):(l.take (i+1)).flatten=(l.take i).flatten++l[i]:=by
 rw [List.take_add_one,G09 h,Option.toList_some,G20];simp
theorem N5 {α:Type} (l:List (List α)) (i:Nat):(l.take i).flatten.length≤l.flatten.length:=by
 conv=>rhs;rw [←G40 i l,G20,G07]
 omega
theorem E80 (i:Nat):((i:Int)+1).toNat=i+1:=by omega
theorem D33 {α:Type} (b:List α) (f i:Nat) (hf:f≤i) (hi:i < b.length):(b.drop f).take (i - f)++[b[i]]=(b.drop f).take (i+1 - f):=by
 rw [show i+1 - f=(i - f)+1 by omega,List.take_add_one,G26,show f+(i - f)=i by omega,G09 hi]
 rfl
def ended (s:Str):Bool:=s.getLast? == some 10
theorem F70 (s:Str):ended s=(if decide (s≠[])=true then decide (((s.getLastD 0).toNat:Int)=10) else false):=by
 unfold ended
 by_cases h:s=[]
 ·simp [h]
 ·rw [List.getLast?_eq_some_getLast h,List.getLastD_eq_getLast?,List.getLast?_eq_some_getLast h]
  simp only [ne_eq,h,not_false_eq_true,decide_true,if_true,Option.getD_some,D32]
  rfl
def N0:List Str→Str→Int→Int
 | [],_,_ => -1
 | x::r,s,i=>if x=s then i else N0 r s (i+1)
theorem D69 (l:List Str) (s:Str) (k:Nat) (h:k < l.length):N0 (l.drop k) s k=if l[k]=s then (k:Int) else N0 (l.drop (k+1)) s ((k:Int)+1):=by
 rw [G12 h]
 simp [N0]
theorem E32 (l:List Str) (s:Str):∀(k:Int),0≤k→((N0 l s k < 0)↔s∉l):=by
 induction l with
 | nil=>intro k _;simp [N0]
 | cons x r ih =>
  intro k hk
  unfold N0
  by_cases h:x=s
  ·simp [h];omega
  ·have:=ih (k+1) (by omega)
   simp [h,this,Ne.symm h]
def I2 (s:Str):Bool:=s.dropLast.all (·≠10)&&s != []
def P5:List Str→Bool
 | []=>true
 | s::r=>I2 s&&(r.isEmpty||ended s)&&P5 r
def S5 (b:Str):Int:=if b.length > 1048576∨(B6 b).length > 4096 then 1 else 0
def S6 (l:List Str):Str × Int:=if P5 l=false then ([],2) else if l.flatten.length > 1048576∨l.length > 4096 then ([],1) else (l.flatten,0)
def J8 (out:List Str) (s:Str):List Str:=if s∈out then out else out++[s]
def D6 (files:List (List Str)):List Str:=files.flatten.foldl J8 []
def H3 (names:List Str) (file:List Str):List Int:=file.map (fun s=>N0 names s 0)
theorem B73 (out:List Str) (s:Str):(J8 out s).length≤out.length+1:=by unfold J8;split<;>simp
theorem u5 (l out:List Str):(l.foldl J8 out).length≤out.length+l.length:=by
 induction l generalizing out with
 | nil=>simp
 | cons s r ih=>have h1:=ih (J8 out s);have h2:=B73 out s;simp only [G37,G10];omega
theorem C57 (fs:List (List Str)):(D6 fs).length≤fs.flatten.length:=by have:=u5 fs.flatten [];simpa [D6] using this
end Go.AL
namespace Go.AL
open Go
def Q9 (i j:Int):List Span→Int→Int→List Change
 | [],m,n=>if m > i∨n > j then [⟨i,m - i,j,n - j⟩] else []
 | x::r,m,n=>(if x.From > i∨x.To > j then [⟨i,x.From - i,j,x.To - j⟩] else [])++Q9 (x.From+1) (x.To+1) r m n
def A23 (p:List Span) (m n:Int):List Change:=Q9 0 0 p m n
theorem C91 (p:List Span) (i j m n:Int):(Q9 i j p m n).length≤p.length+1:=by
 induction p generalizing i j with
 | nil=>unfold Q9;split<;>simp
 | cons x r ih=>unfold Q9;have:=ih (x.From+1) (x.To+1);split<;>simp<;>omega
def C12 (i j:Int) (n:Nat):List Span:=(List.range n).map fun (t:Nat)=>⟨i+(t:Int),j+(t:Int)⟩
def A07 (i j:Int):List Change→Int→List Span
 | [],m=>C12 i j (m - i).toNat
 | c::r,m=>C12 i j (c.Old - i).toNat++A07 (max i c.Old+c.OldLen) (j+(c.Old - i).toNat+c.NewLen) r m
def F40 (l:List Change) (m:Int):List Span:=A07 0 0 l m
def dist:List Int→List Int→Nat
 | [],b=>b.length
 | x::a,[]=>(x::a).length
 | x::a,y::b=>if x=y then dist a b else 1+min (dist a (y::b)) (dist (x::a) b)
theorem C58 (a:List Int):dist a []=a.length:=by cases a<;>simp [dist]
theorem D70 (a b:List Int):dist a b≤a.length+b.length:=by
 induction a generalizing b with
 | nil=>simp [dist]
 | cons x a iha =>
  induction b with
  | nil=>simp [dist]
  | cons y b ihb =>
   unfold dist
   split
   ·have:=iha b;simp;omega
   ·have:=iha (y::b);have:=ihb;simp only [G10] at *;omega
def I7 (i j:Int):List Int→List Int→List Span
 | [],_=>[]
 | _::_,[]=>[]
 | x::a,y::b=>if x=y then ⟨i,j⟩::I7 (i+1) (j+1) a b else if dist a (y::b)+1=dist (x::a) (y::b) then I7 (i+1) j a (y::b) else I7 i (j+1) (x::a) b
def A24 (a b:List Int):List Change:=A23 (I7 0 0 a b) a.length b.length
theorem F41 (a b:List Int) (i j:Nat) (hi:i < a.length) (hj:j < b.length) :
  dist (a.drop i) (b.drop j)=if a[i]=b[j] then dist (a.drop (i+1)) (b.drop (j+1)) else 1+min (dist (a.drop (i+1)) (b.drop j)) (dist (a.drop i) (b.drop (j+1))):=by
 rw [G12 hi,G12 hj]
 conv=>lhs;rw [dist]
theorem A62 (a b:List Int) (i j:Nat) (hi:i < a.length) (hj:j < b.length) (p q:Int) :
  I7 p q (a.drop i) (b.drop j)=if a[i]=b[j] then ⟨p,q⟩::I7 (p+1) (q+1) (a.drop (i+1)) (b.drop (j+1)) else
   if dist (a.drop (i+1)) (b.drop j)+1=dist (a.drop i) (b.drop j) then I7 (p+1) q (a.drop (i+1)) (b.drop j) else I7 p (q+1) (a.drop i) (b.drop (j+1)):=by
 rw [G12 hi,G12 hj]
 conv=>lhs;rw [I7]
theorem A46 (p q:Int) (b:List Int):I7 p q [] b=[]:=by simp [I7]
theorem A08 (p q:Int) (a:List Int):I7 p q a []=[]:=by cases a<;>simp [I7]
theorem C92 (p q:Int) (a b:List Int):(I7 p q a b).length≤a.length:=by
 induction a generalizing p q b with
 | nil=>simp [I7]
 | cons x a iha =>
  induction b generalizing p q with
  | nil=>simp [I7]
  | cons y b ihb =>
   unfold I7
   split
   ·have:=iha (p+1) (q+1) b;simp;omega
   ·split
    ·have:=iha (p+1) q (y::b);simp;omega
    ·exact ihb p (q+1)
universe u
theorem D34 {α:Type u} (n k:Nat) (f g:Nat→α) (v:α) (hv:k < n→g k=v) (h:∀q,q < n→q≠k→g q=f q):((List.range n).map f).set k v=(List.range n).map g:=by
 refine List.ext_getElem (by simp) fun q h1 h2=>?_
 have hq:q < n:=by simpa using h2
 rw [List.getElem_set]
 by_cases he:k=q
 ·subst he;simp [hv hq]
 ·rw [if_neg he];simp [h q hq (Ne.symm he)]
theorem D35 {α:Type u} (n k:Nat) (f:Nat→α) (h:k < n):((List.range n).map f)[k]?=some (f k):=by simp [h]
def N1 (a b:List Int) (i q:Nat):List Int:=(List.range (b.length+1)).map fun j=>if q≤j then (dist (a.drop i) (b.drop j):Int) else 0
def L3 (a b:List Int) (i:Nat):List (List Int):=(List.range (a.length+1)).map fun r=>if i≤r then N1 a b r 0 else []
def A83 (a b:List Int):List (List Int):=L3 a b 0
theorem C59 (a b:List Int) (i q:Nat):(N1 a b i q).length=b.length+1:=by simp [N1]
theorem n5 (a b:List Int) (i:Nat):(L3 a b i).length=a.length+1:=by simp [L3]
theorem D71 (a b:List Int) (i:Nat):List.replicate (b.length+1) 0=N1 a b i (b.length+1):=by
 refine List.ext_getElem (by simp [N1]) fun q h1 h2=>?_
 have:¬(b.length+1≤q):=by simp at h1;omega
 simp [N1,this]
theorem C93 (a b:List Int):List.replicate (a.length+1) []=L3 a b (a.length+1):=by
 refine List.ext_getElem (by simp [L3]) fun q h1 h2=>?_
 have:¬(a.length+1≤q):=by simp at h1;omega
 simp [L3,this]
theorem E33 (a b:List Int) (i j:Nat):(N1 a b i (j+1)).set j (dist (a.drop i) (b.drop j):Int)=N1 a b i j:=by
 unfold N1
 refine D34 _ _ _ _ _ (fun _=>by simp) fun q hq hne=>?_
 by_cases h:j≤q
 ·rw [if_pos h,if_pos (by omega)]
 ·rw [if_neg h,if_neg (by omega)]
theorem m6 (a b:List Int) (i q j:Nat) (h:q≤j) (hj:j≤b.length):(N1 a b i q)[j]?=some (dist (a.drop i) (b.drop j):Int):=by
 unfold N1
 rw [D35 _ _ _ (by omega),if_pos h]
theorem D72 (a b:List Int) (i:Nat):(L3 a b (i+1)).set i (N1 a b i 0)=L3 a b i:=by
 unfold L3
 refine D34 _ _ _ _ _ (fun _=>by simp) fun q hq hne=>?_
 by_cases h:i≤q
 ·rw [if_pos h,if_pos (by omega)]
 ·rw [if_neg h,if_neg (by omega)]
theorem A25 (a b:List Int) (i r:Nat) (h:i≤r) (hr:r≤a.length):(L3 a b i)[r]?=some (N1 a b r 0):=by
 unfold L3
 rw [D35 _ _ _ (by omega),if_pos h]
def Asc (m n:Int):Int→Int→List Span→Prop
 | i,j,[]=>i≤m∧j≤n
 | i,j,x::r=>i≤x.From∧j≤x.To∧Asc m n (x.From+1) (x.To+1) r
theorem Asc.le {m n:Int}:∀{p:List Span} {i j:Int},Asc m n i j p→i≤m∧j≤n
 | [],i,j,h=>h
 | x::r,i,j,h=>by have:=Asc.le h.2.2;have:=h.1;have:=h.2.1;omega
theorem Asc.weaken {m n:Int} {p:List Span} {i j i' j':Int} (h:Asc m n i j p) (hi:i'≤i) (hj:j'≤j):Asc m n i' j' p:=by
 cases p with
 | nil=>exact ⟨by have:=h.1;omega,by have:=h.2;omega⟩
 | cons x r=>exact ⟨by have:=h.1;omega,by have:=h.2.1;omega,h.2.2⟩
theorem E81 (a b:List Int):∀(p q:Int),Asc (p+a.length) (q+b.length) p q (I7 p q a b):=by
 induction a generalizing b with
 | nil=>intro p q;rw [A46];simp only [Asc,G11];omega
 | cons x a iha =>
  induction b with
  | nil=>intro p q;rw [A08];simp only [Asc,G11];omega
  | cons y b ihb =>
   intro p q
   rw [I7]
   split
   ·have:=iha b (p+1) (q+1)
    refine ⟨Int.le_refl _,Int.le_refl _,?_⟩
    simp only [G10]
    rwa [show p+((a.length+1:Nat):Int)=p+1+a.length by omega,show q+((b.length+1:Nat):Int)=q+1+b.length by omega]
   ·split
    ·have:=(iha (y::b) (p+1) q).weaken (i':=p) (j':=q) (by omega) (Int.le_refl _)
     rwa [show p+((x::a).length:Int)=p+1+a.length by simp;omega]
    ·have:=(ihb p (q+1)).weaken (i':=p) (j':=q) (Int.le_refl _) (by omega)
     rwa [show q+((y::b).length:Int)=q+1+b.length by simp;omega]
theorem Asc.made {m n:Int}:∀{p:List Span} {i j:Int},Asc m n i j p→∀c∈Q9 i j p m n,i≤c.Old∧j≤c.New∧0≤c.OldLen∧0≤c.NewLen∧c.Old+c.OldLen≤m∧c.New+c.NewLen≤n
 | [],i,j,h,c,hc=>by
  unfold Q9 at hc
  split at hc
  ·simp only [List.mem_singleton] at hc;subst hc
   have:=h.1;have:=h.2
   simp only;omega
  ·cases hc
 | x::r,i,j,h,c,hc=>by
  unfold Q9 at hc
  obtain ⟨h1,h2,h3⟩:=h
  have h4:=h3.le
  rcases List.mem_append.1 hc with hc | hc
  ·split at hc
   ·simp only [List.mem_singleton] at hc;subst hc
    simp only;omega
   ·cases hc
  ·have:=Asc.made h3 c hc;omega
end Go.AL
namespace Go.AL
open Go
def bitAt (m:Int) (c:Nat):Bool:=m / 2 ^ c % 2 == 1
def visB (r:Row) (c:Int):Bool:=if c = -1 then !r.Lost else if c < -1∨32≤c then false else bitAt r.Marks c.toNat == r.Lost
def colOf (rows:List Row) (c:Int):List Str:=(rows.filter (visB · c)).map (·.Text)
def markOk (n:Nat) (r:Row):Bool:=r.Marks / 2 ^ n == 0&&!(r.Lost&&r.Marks == 0)
theorem shr_eq (m c:Int) (b:Nat) (hc:0≤c∧c≤b):m.fdiv (2 ^ (min c.toNat b))=m / 2 ^ c.toNat:=by
 rw [show min c.toNat b=c.toNat by omega,Int.fdiv_eq_ediv_of_nonneg _ (Int.pow_nonneg (by decide))]
end Go.AL
namespace Go.AL
open Go
abbrev Loom:=List Int × (Nat→List (List Int))
structure LoomOk (Q:Int→Prop) (B lines n:Nat) (s:Loom):Prop where
 len:s.1.length=lines
 marks:∀m∈s.1,0≤m∧m < 4294967296
 gaps:∀k,(s.2 k).length=n∧∀x∈s.2 k,x.length≤B∧∀v∈x,Q v
theorem C60 (l:List Str) (s:Str):∀k:Int,0≤k→s∈l→k≤N0 l s k∧N0 l s k < k+l.length:=by
 induction l with
 | nil=>intro k _ h;cases h
 | cons x r ih =>
  intro k hk h
  unfold N0
  by_cases hx:x=s
  ·rw [if_pos hx];simp;omega
  ·rw [if_neg hx]
   have:=ih (k+1) (by omega) (by rcases List.mem_cons.1 h with rfl | h;exact absurd rfl hx;exact h)
   simp only [G10];omega
theorem C07 (l:List Str):∀(out:List Str) (s:Str),s∈out∨s∈l→s∈l.foldl J8 out:=by
 induction l with
 | nil=>intro out s h;rcases h with h | h;exact h;cases h
 | cons x r ih =>
  intro out s h
  apply ih
  rcases h with h | h
  ·left;unfold J8;split;exact h;exact List.mem_append_left _ h
  ·rcases List.mem_cons.1 h with rfl | h
   ·left;unfold J8;split;assumption;simp
   ·exact .inr h
theorem Z0 (fs:List (List Str)) (s:Str) (f:List Str) (hf:f∈fs) (hs:s∈f):s∈D6 fs:=C07 _ _ _ (.inr (List.mem_flatten.2 ⟨f,hf,hs⟩))
end Go.AL
namespace Go.AL
open Go
theorem B45 (s:Str):Lib.hasSuffix s [10]=ended s:=by
 unfold Lib.hasSuffix ended
 rw [Bool.eq_iff_iff,List.isSuffixOf_iff_suffix,beq_iff_eq]
 constructor
 ·rintro ⟨t,rfl⟩;simp
 ·intro h
  obtain ⟨hne,h2⟩:=List.getLast?_eq_some_iff.1 h
  exact ⟨hne,h2.symm⟩
def A63 (s:Str):Str:=if ended s then s.dropLast else s
theorem C94 (s:Str):Lib.trimSuffix s [10]=A63 s:=by
 unfold Lib.trimSuffix A63
 rw [B45,List.dropLast_eq_take];rfl
theorem X6 (c:UInt8):∀l:Str,(c∉l∧Lib.indexByte l c = -1)∨∃a b,l=a++c::b∧c∉a∧Lib.indexByte l c=a.length
 | []=>.inl ⟨by simp,rfl⟩
 | x::l=>by
  unfold Lib.indexByte
  by_cases hx:x=c
  ·exact .inr ⟨[],l,by rw [hx];rfl,by simp,by simp [hx]⟩
  ·rcases X6 c l with ⟨h1,h2⟩ | ⟨a,b,h1,h2,h3⟩
   ·exact .inl ⟨by simp [h1,Ne.symm hx],by simp [hx,h2]⟩
   ·refine .inr ⟨x::a,b,by rw [h1];rfl,by simp [h2,Ne.symm hx],?_⟩
    have h4:¬((a.length:Int) = -1):=by omega
    simp [hx,h3,h4]
theorem A99 (c:UInt8) (l:Str):0≤Lib.indexByte l c↔c∈l:=by
 rcases X6 c l with ⟨h1,h2⟩ | ⟨a,b,h1,h2,h3⟩
 ·rw [h2];simp [h1]
 ·rw [h3,h1];simp
theorem D73 (a b:Str) (c:UInt8) (h:b≠[]):c∈(a++c::b).dropLast:=by
 rw [List.dropLast_append_of_ne_nil (by simp),List.dropLast_cons_of_ne_nil h];simp
theorem C08 (l:Str):(0≤Lib.indexByte l 10∧Lib.indexByte l 10 < (l.length:Int) - 1)↔10∈l.dropLast:=by
 rcases X6 10 l with ⟨h1,h2⟩ | ⟨a,b,h1,h2,h3⟩
 ·rw [h2]
  have:10∉l.dropLast:=fun h=>h1 (List.dropLast_subset l h)
  simp [this]
 ·rw [h3]
  by_cases hb:b=[]
  ·subst hb
   have e:l.dropLast=a:=by rw [h1];simp
   rw [e,h1];simp [h2]
  ·have h4:=D73 a b 10 hb
   rw [←h1] at h4
   have h5:0 < b.length:=List.length_pos_iff.2 hb
   simp only [h4,iff_true]
   rw [h1];simp only [G07,G10];omega
theorem A26 (s:Str):I2 s=true↔s≠[]∧10∉s.dropLast:=by
 unfold I2
 rw [G08,List.all_eq_true]
 constructor
 ·rintro ⟨h1,h2⟩
  exact ⟨by simpa using h2,fun h=>by have:=h1 10 h;simp at this⟩
 ·rintro ⟨h1,h2⟩
  exact ⟨fun x hx=>by simpa using fun e:x=10=>h2 (e ▸ hx),by simpa using h1⟩
theorem F71 (s:Str):10∈A63 s↔10∈s.dropLast:=by
 unfold A63
 split
 ·exact Iff.rfl
 ·rename_i h
  by_cases hs:s=[]
  ·subst hs;simp
  ·constructor
   ·intro h2
    have e:=(List.dropLast_concat_getLast hs).symm
    rw [e] at h2
    rcases List.mem_append.1 h2 with h3 | h3
    ·exact h3
    ·exfalso
     refine h ?_
     unfold ended
     rw [List.getLast?_eq_some_getLast hs]
     simp at h3;simp [←h3]
   ·exact fun h2=>List.dropLast_subset s h2
theorem F42 (s:Str):(if decide (s≠[])=true then !decide (0≤Lib.indexByte (A63 s) 10) else false)=I2 s:=by
 rw [Bool.eq_iff_iff,A26]
 have h:=F71 s
 have h2:=A99 10 (A63 s)
 by_cases hs:s=[]
 ·simp [hs]
 ·simp [hs,h2,h]
theorem F43 (s:Str) (h:I2 s=true):ended s=true↔0≤Lib.indexByte s 10:=by
 obtain ⟨h1,h2⟩:=(A26 s).1 h
 rw [A99]
 have e:=(List.dropLast_concat_getLast h1).symm
 unfold ended
 rw [List.getLast?_eq_some_getLast h1]
 constructor
 ·intro h3
  have:s.getLast h1=10:=by simpa using h3
  rw [←this];exact List.getLast_mem h1
 ·intro h3
  rw [e] at h3
  rcases List.mem_append.1 h3 with h3 | h3
  ·exact absurd h3 h2
  ·simp at h3;simp [←h3]
def D74 (l:Str) (last:Bool):Prop:=l=[]∨(0≤Lib.indexByte l 10∧Lib.indexByte l 10 < (l.length:Int) - 1)∨(Lib.indexByte l 10 < 0∧last=false)
theorem E34 (l:Str) (r:List Str):D74 l r.isEmpty↔(I2 l&&(r.isEmpty||ended l))=false:=by
 unfold D74
 rw [C08]
 by_cases hl:I2 l=true
 ·obtain ⟨h1,h2⟩:=(A26 l).1 hl
  have h3:=F43 l hl
  cases hr:r.isEmpty
  ·cases he:ended l
   ·have:¬0≤Lib.indexByte l 10:=fun h=>by rw [h3.2 h] at he;cases he
    simp [hl,h1,h2];omega
   ·have:=h3.1 he
    simp [hl,h1,h2];omega
  ·simp [hl,h1,h2]
 ·have:l=[]∨10∈l.dropLast:=by
   by_cases h1:l=[]
   ·exact .inl h1
   ·exact .inr (Classical.byContradiction fun h2=>hl ((A26 l).2 ⟨h1,h2⟩))
  have hf:I2 l=false:=by simpa using hl
  rw [hf]
  constructor
  ·intro _;rfl
  ·intro _;rcases this with h | h
   ·exact .inl h
   ·exact .inr (.inl h)
theorem E35 (s:Str) (r:List Str):P5 (s::r)=(I2 s&&(r.isEmpty||ended s)&&P5 r):=rfl
theorem E36 (l:List Str):Lib.join l []=l.flatten:=by
 induction l with
 | nil=>rfl
 | cons s r ih =>
  cases r with
  | nil=>simp [Lib.join]
  | cons t r =>
   have e:List.intersperse ([]:Str) (s::t::r)=s::[]::List.intersperse [] (t::r):=rfl
   simp only [Lib.join,List.intercalate,e,G29,G36] at ih ⊢
   rw [ih]
structure EndsAt (res:Bool) (par:Int) (bad:Int→Bool):Prop where
 res:res=bad (-1)
 par:∃p:Nat,p < 4294967296∧par=p∧∀c:Nat,c < 32→p.testBit c=bad c
end Go.AL
namespace Go.AL
open Go
def A27 (c:UInt8):Bool:=decide (33≤c.toNat∧c.toNat≤126∧c.toNat≠34∧c.toNat≠92)
def digs8:Str:=[48,49,50,51,52,53,54,55]
def digs10:Str:=[48,49,50,51,52,53,54,55,56,57]
def B93 (c:UInt8):Str:=(digs8.drop (c.toNat / 64)).take 1++(digs8.drop (c.toNat / 8 % 8)).take 1++(digs8.drop (c.toNat % 8)).take 1
def V1 (c:UInt8):Str:=if c.toNat=34∨c.toNat=92 then [92,c] else if c.toNat=10 then [92,110] else if c.toNat=9 then [92,116] else if c.toNat < 32∨126 < c.toNat then 92::B93 c else [c]
def c4 (s:Str):Str:=if s≠[]∧s.all A27=true then s else 34::((s.map V1).flatten++[34])
theorem D36 (c:UInt8):(B93 c).length≤3:=by unfold B93;simp only [G07,G17];omega
theorem D37 (c:UInt8):(V1 c).length≤4:=by
 have:=D36 c
 unfold V1;split
 ·simp
 ·split
  ·simp
  ·split
   ·simp
   ·split
    ·simp only [G10];omega
    ·simp
theorem B46 (s:Str):((s.map V1).flatten).length≤4*s.length:=by
 induction s with
 | nil=>simp
 | cons c r ih=>have:=D37 c;simp only [G15,G29,G07,G10];omega
theorem Z1 (s:Str):(c4 s).length≤4*s.length+2:=by
 unfold c4;have:=B46 s
 split
 ·omega
 ·simp only [G10,G07,G11];omega
def m7 (n:Int):Str:=if n < 0∨2147483647 < n then [] else Lib.itoa n
def Q7 (a n:Int):Str:=if a < 0∨n < 0∨2147483647 < a∨2147483647 - a < n then [] else if n=0 then m7 a++[44,48] else if n=1 then m7 (a+1) else m7 (a+1)++[44]++m7 n
theorem B00:∀(k u:Nat),u < 10 ^ (k+1)→(Lib.decDigits u).length≤k+1
 | 0,u,h=>by rw [Lib.decDigits,dif_pos (by omega)];simp
 | k+1,u,h=>by
  rw [Lib.decDigits]
  split
  ·simp
  ·have:=B00 k (u / 10) (by rw [Nat.div_lt_iff_lt_mul (by omega)];rw [Nat.pow_succ] at h;omega)
   simp only [G07,G10,G11];omega
theorem T5 (n:Int):(m7 n).length≤10:=by
 unfold m7;split
 ·simp
 ·unfold Lib.itoa
  rw [if_neg (by omega)]
  exact B00 9 n.toNat (by omega)
theorem Z2 (a n:Int):(Q7 a n).length≤21:=by
 have:=T5 a;have:=T5 (a+1);have:=T5 n
 unfold Q7
 split
 ·simp
 ·split
  ·simp only [G07,G10,G11];omega
  ·split
   ·omega
   ·simp only [G07,G10,G11];omega
theorem dig10 (k:Nat) (h:k < 10):(digs10.drop k).take 1=[UInt8.ofNat (48+k)]:=by
 have:∀k:Fin 10,(digs10.drop k.1).take 1=[UInt8.ofNat (48+k.1)]:=by decide
 exact this ⟨k,h⟩
theorem F44 (n:Int) (h0:0≤n) (h:n < 10):m7 n=(digs10.drop n.toNat).take 1:=by
 unfold m7 Lib.itoa
 rw [if_neg (by omega),if_neg (by omega),dig10 _ (by omega),Lib.decDigits,dif_pos (by omega)]
theorem fmt_big (n:Int) (h0:10≤n) (h:n≤2147483647):m7 n=m7 (n / 10)++(digs10.drop (n % 10).toNat).take 1:=by
 unfold m7 Lib.itoa
 rw [if_neg (by omega),if_neg (by omega),if_neg (by omega),if_neg (by omega),dig10 _ (by omega),Lib.decDigits,dif_neg (by omega)]
 have e1:n.toNat / 10=(n / 10).toNat:=by omega
 have e2:n.toNat % 10=(n % 10).toNat:=by omega
 rw [e1,e2]
theorem dig8 (k:Nat) (h:k < 8):(digs8.drop k).take 1=[UInt8.ofNat (48+k)]:=by
 have:∀k:Fin 8,(digs8.drop k.1).take 1=[UInt8.ofNat (48+k.1)]:=by decide
 exact this ⟨k,h⟩
theorem E37 (c:UInt8):B93 c=[UInt8.ofNat (48+c.toNat / 64),UInt8.ofNat (48+c.toNat / 8 % 8),UInt8.ofNat (48+c.toNat % 8)]:=by
 have:=c.toNat_lt
 unfold B93
 rw [dig8 _ (by omega),dig8 _ (by omega),dig8 _ (by omega)];rfl
def escs (s:Str) (i:Nat):Str:=((s.take i).map V1).flatten
theorem F45 (s:Str):escs s 0=[]:=rfl
theorem D38 (s:Str) (i:Nat) (h:i < s.length):escs s (i+1)=escs s i++V1 s[i]:=by
 unfold escs;rw [G14 h,G27,G20];simp only [G15,G42,G29,G48,G38]
theorem E38 (s:Str) (i:Nat) (h:i≤s.length):(escs s i).length≤4*i:=by
 have:=B46 (s.take i);unfold escs;rw [G17] at this;omega
def plains (s:Str) (i:Nat):Bool:=decide (s≠[])&&(s.take i).all A27
theorem B94 (s:Str):plains s 0=decide (s≠[]):=by simp [plains]
theorem B95 (s:Str) (i:Nat) (h:i < s.length):plains s (i+1)=(plains s i&&A27 s[i]):=by
 unfold plains;rw [G14 h,List.all_append];simp only [List.all_cons,List.all_nil,Bool.and_true,Bool.and_assoc]
theorem A28 (s:Str):c4 s=if plains s s.length=true then s else (34::escs s s.length)++[34]:=by
 unfold c4 plains escs
 rw [G23]
 simp only [G08,decide_eq_true_eq,G39]
end Go.AL
namespace Go.AL
open Go
def L4 (cur:Str):Str→List Str
 | []=>[cur]
 | c::r=>if c=10 then (cur++[c])::L4 [] r else L4 (cur++[c]) r
def N9 (b:Str):List Str:=L4 [] b
theorem C95 (a cur:Str) (h:(10:UInt8)∉a):L4 cur a=[cur++a]:=by
 induction a generalizing cur with
 | nil=>simp [L4]
 | cons c r ih =>
  simp only [List.mem_cons,not_or] at h
  rw [L4,if_neg (fun e=>h.1 e.symm),ih _ h.2];simp
theorem D75 (a b cur:Str) (h:(10:UInt8)∉a):L4 cur (a++10::b)=(cur++a++[10])::L4 [] b:=by
 induction a generalizing cur with
 | nil=>simp [L4]
 | cons c r ih =>
  simp only [List.mem_cons,not_or] at h
  rw [G39,L4,if_neg (fun e=>h.1 e.symm),ih _ h.2];simp
theorem V2 (s cur:Str):(L4 cur s).length=s.count 10+1:=by
 induction s generalizing cur with
 | nil=>rfl
 | cons c r ih =>
  by_cases hc:c=10
  ·subst hc;rw [L4,if_pos rfl,G10,ih,List.count_cons_self]
  ·rw [L4,if_neg hc,ih,List.count_cons_of_ne hc]
theorem E39 (s cur:Str):F1 cur s=if (L4 cur s).getLastD []=[] then (L4 cur s).dropLast else L4 cur s:=by
 induction s generalizing cur with
 | nil=>by_cases h:cur=[]<;>simp [F1,L4,h]
 | cons c r ih =>
  rw [F1,L4]
  by_cases hc:c=10
  ·rw [if_pos hc,if_pos hc,ih]
   have hn:L4 [] r≠[]:=fun e=>by have:=V2 r [];rw [e] at this;simp at this
   obtain ⟨x,y,hxy⟩:=List.exists_cons_of_ne_nil hn
   rw [hxy]
   have e1:((cur++[c])::x::y).getLastD []=(x::y).getLastD []:=by cases y<;>simp [List.getLastD]
   rw [e1]
   split
   ·rfl
   ·rfl
  ·rw [if_neg hc,if_neg hc,ih]
theorem C61 (s cur:Str):(F1 cur s).length=s.count 10+if s=[] then (if cur=[] then 0 else 1) else if ended s=true then 0 else 1:=by
 induction s generalizing cur with
 | nil=>by_cases h:cur=[]<;>simp [F1,h]
 | cons c r ih =>
  have he:ended (c::r)=if r=[] then c == 10 else ended r:=by
   cases r with
   | nil=>simp [ended]
   | cons d t=>simp [ended,List.getLast?_cons_cons]
  rw [F1,if_neg (List.cons_ne_nil _ _),he]
  by_cases hc:c=10
  ·subst hc
   rw [if_pos rfl,G10,ih,List.count_cons_self]
   by_cases hr:r=[]<;>simp [hr]
   omega
  ·rw [if_neg hc,ih,List.count_cons_of_ne hc]
   by_cases hr:r=[]<;>simp [hr,hc]
theorem C96 (s:Str):(B6 s).length=s.count 10+if s≠[]∧ended s=false then 1 else 0:=by
 unfold B6
 rw [C61]
 by_cases hs:s=[]<;>simp [hs]
 cases ended s<;>simp
theorem E82 {P:List Str} {i:Nat} {r a b:Str} (h:P.drop i=N9 r) (hr:r=a++10::b) (ha:(10:UInt8)∉a):P[i]?=some (a++[10])∧P.drop (i+1)=N9 b:=by
 have e:N9 r=(a++[10])::N9 b:=by rw [hr];unfold N9;rw [D75 _ _ _ ha];rfl
 rw [e] at h
 refine ⟨by rw [←List.head?_drop,h];rfl,?_⟩
 rw [←List.tail_drop,h];rfl
theorem D39 {α:Type} (P:List α) (z x:α) (i:Nat) (h:P[i]?=some x):(P.take i++List.replicate (P.length - i) z).set i x=P.take (i+1)++List.replicate (P.length - (i+1)) z:=by
 obtain ⟨hi,hx⟩:=List.getElem?_eq_some_iff.1 h
 have hl:(P.take i).length=i:=by rw [G17];omega
 rw [List.set_append_right _ _ (by omega),hl,Nat.sub_self,show P.length - i=(P.length - (i+1))+1 by omega,List.replicate_succ,List.set_cons_zero,G14 hi,hx,G28]
 rfl
def D4 (b:Str):List Str × Int:=if b.length > 1048576∨(B6 b).length > 4096 then ([],1) else (B6 b,0)
theorem x6 (b:Str):(D4 b).1.length≤4096:=by
 unfold D4;split
 ·simp
 ·dsimp only;omega
end Go.AL
namespace Go.AL
open Go
def G9 (n:Int):Prop:=0≤n∧n≤4096
instance (n:Int):Decidable (G9 n):=by unfold G9;exact inferInstance
def C62 (k:Nat) (i j:Int) (c:Change):Prop:=((((((¬G9 c.Old∨¬G9 c.OldLen)∨¬G9 c.New)∨¬G9 c.NewLen)∨c.OldLen+c.NewLen=0)∨c.Old - i≠c.New - j)∨c.Old < i)∨(0 < (k:Int)∧c.Old=i)
instance (k:Nat) (i j:Int) (c:Change):Decidable (C62 k i j c):=by unfold C62;exact inferInstance
def I3 (k:Nat) (i j:Int):List Change→Int→Int→Bool
 | [],m,n=>decide (¬(m - i≠n - j∨m < i))
 | c::r,m,n=>decide (¬C62 k i j c)&&I3 (k+1) (c.Old+c.OldLen) (c.New+c.NewLen) r m n
def Y0 (l:List Change) (m n:Int):Int:=if ¬G9 m∨¬G9 n then 80 else if I3 0 0 0 l m n=true then 0 else 80
def ScOk (i j:Int):List Change→Int→Int→Prop
 | [],m,n=>i≤m∧j≤n
 | c::r,m,n=>G9 c.Old∧G9 c.OldLen∧G9 c.New∧G9 c.NewLen∧i≤c.Old∧j≤c.New∧ScOk (c.Old+c.OldLen) (c.New+c.NewLen) r m n
theorem x7:∀(l:List Change) (k:Nat) (i j m n:Int),I3 k i j l m n=true→ScOk i j l m n
 | [],k,i,j,m,n,h=>by simp only [I3,decide_eq_true_eq] at h;simp only [ScOk];omega
 | c::r,k,i,j,m,n,h=>by
  simp only [I3,G08,decide_eq_true_eq] at h
  obtain ⟨h1,h2⟩:=h
  unfold C62 at h1
  refine ⟨?_,?_,?_,?_,?_,?_,x7 r _ _ _ m n h2⟩
  all_goals (by_cases a1:G9 c.Old<;>by_cases a2:G9 c.OldLen<;>by_cases a3:G9 c.New<;>by_cases a4:G9 c.NewLen<;>simp [a1,a2,a3,a4] at h1 ⊢<;>omega)
theorem B74 {l:List Change} {m n:Int} (h:Y0 l m n=0):G9 m∧G9 n∧ScOk 0 0 l m n:=by
 unfold Y0 at h
 split at h
 ·omega
 ·rename_i h1
  split at h
  ·rename_i h2
   by_cases a1:G9 m<;>by_cases a2:G9 n<;>simp [a1,a2] at h1
   exact ⟨a1,a2,x7 _ _ _ _ _ _ h2⟩
  ·omega
def cAt (l:List Change) (k:Nat):Change:=l.getD k ⟨0,0,0,0⟩
theorem C13 {l:List Change} {k:Nat} (h:k < l.length):l[k]?=some (cAt l k):=by
 unfold cAt;rw [G13,G09 h];rfl
theorem ScOk.end_le:∀{l:List Change} {i j m n:Int},ScOk i j l m n→i≤m∧j≤n
 | [],_,_,_,_,h=>h
 | c::r,i,j,m,n,⟨h1,h2,h3,h4,h5,h6,h7⟩=>by have:=h7.end_le;unfold G9 at *;omega
theorem ScOk.get:∀{l:List Change} {i j m n:Int} (k:Nat),ScOk i j l m n→k < l.length→G9 (cAt l k).Old∧G9 (cAt l k).OldLen∧G9 (cAt l k).New∧G9 (cAt l k).NewLen∧(cAt l k).Old+(cAt l k).OldLen≤m∧(cAt l k).New+(cAt l k).NewLen≤n
 | c::r,i,j,m,n,0,⟨h1,h2,h3,h4,h5,h6,h7⟩,_=>by have:=h7.end_le;exact ⟨h1,h2,h3,h4,this.1,this.2⟩
 | c::r,i,j,m,n,k+1,⟨h1,h2,h3,h4,h5,h6,h7⟩,hk=>by
  have:=h7.get k (by simpa using hk)
  simpa [cAt] using this
theorem ScOk.next:∀{l:List Change} {i j m n:Int} (k:Nat),ScOk i j l m n→k+1 < l.length→(cAt l k).Old+(cAt l k).OldLen≤(cAt l (k+1)).Old
 | [c],_,_,_,_,_,_,hk=>by simp at hk
 | c::c2::r,i,j,m,n,0,⟨_,_,_,_,_,_,h7⟩,_=>by simpa [cAt] using h7.2.2.2.2.1
 | c::c2::r,i,j,m,n,k+1,⟨_,_,_,_,_,_,h7⟩,hk=>by
  have:=h7.next k (by simpa using hk)
  simpa [cAt] using this
theorem ScOk.mono {l:List Change} {m n:Int} (h:ScOk 0 0 l m n):∀(a b:Nat),a≤b→b < l.length→(cAt l a).Old≤(cAt l b).Old∧(cAt l a).Old+(cAt l a).OldLen≤(cAt l b).Old+(cAt l b).OldLen
 | a,0,h1,h2=>by rw [show a=0 by omega];omega
 | a,b+1,h1,h2=>by
  by_cases hab:a=b+1
  ·subst hab;omega
  ·have h3:=h.mono a b (by omega) (by omega)
   have h4:=h.next b h2
   have h5:=h.get b (by omega)
   have h6:=h.get (b+1) h2
   unfold G9 at *;omega
def Z5 (a b:Int):Int:=if b < a then b else a
def opens (l:List Change) (ctx:Int) (k:Nat):Prop:=k=0∨2*ctx < (cAt l k).Old - (cAt l (k - 1)).Old - (cAt l (k - 1)).OldLen
instance (l:List Change) (ctx:Int) (k:Nat):Decidable (opens l ctx k):=by unfold opens;exact inferInstance
def B96:Hunk:=⟨0,0,⟨0,0⟩,⟨0,0⟩⟩
def W9 (l:List Change) (ctx:Int) (k:Nat):Hunk:=⟨k,0,⟨(cAt l k).Old - Z5 ctx (cAt l k).Old,0⟩,⟨(cAt l k).New - Z5 ctx (cAt l k).Old,0⟩⟩
def A29 (l:List Change) (m ctx:Int) (k:Nat) (h:Hunk):Hunk :=
 let c:=cAt l k
 let a:=Z5 ctx (m - (c.Old+c.OldLen))
 ⟨h.First,k+1,⟨h.Old.From,c.Old+c.OldLen+a⟩,⟨h.New.From,c.New+c.NewLen+a⟩⟩
def O5 (l:List Change) (ctx:Int) (k:Nat) (out:List Hunk):List Hunk:=if opens l ctx k then out++[W9 l ctx k] else out
def F8 (l:List Change) (m ctx:Int):Nat→List Hunk
 | 0=>[]
 | k+1=>let out:=O5 l ctx k (F8 l m ctx k);out.set (out.length - 1) (A29 l m ctx k (out.getD (out.length - 1) B96))
def K7 (l:List Change) (m n ctx:Int):List Hunk × Int:=if ctx < 0∨1048576 < ctx then ([],3) else if Y0 l m n≠0 then ([],Y0 l m n) else (F8 l m ctx l.length,0)
theorem V3 (l:List Change) (m ctx:Int):∀k,(F8 l m ctx k).length≤k∧(0 < k→0 < (F8 l m ctx k).length)
 | 0=>by simp [F8]
 | k+1=>by
  have h:=V3 l m ctx k
  simp only [F8,List.length_set,O5]
  split
  ·simp only [G07,G10,G11];omega
  ·rename_i ho
   have:k≠0:=fun e=>ho (.inl e)
   omega
def E83 (l:List Change) (m:Int) (k:Nat) (h:Hunk):Prop :=
 ∃a b:Nat,h.First=a∧h.Last=(b:Int)+1∧a≤b∧b < k∧0≤h.Old.From∧h.Old.From≤(cAt l a).Old∧(cAt l b).Old+(cAt l b).OldLen≤h.Old.To∧h.Old.To≤m ∧ -4096≤h.New.From∧h.New.From≤4096
theorem A30 {l:List Change} {m n ctx:Int} (hs:ScOk 0 0 l m n) (hc:0≤ctx):∀k,k≤l.length→∀h∈F8 l m ctx k,E83 l m k h
 | 0,_,h,hm=>by simp [F8] at hm
 | k + 1,hk,h,hm=>by
  have ih:=A30 hs hc k (by omega)
  have hg:=hs.get k (by omega)
  have hlen:=V3 l m ctx k
  simp only [F8] at hm
  obtain ⟨out,hout⟩:∃out,out=O5 l ctx k (F8 l m ctx k):=⟨_,rfl⟩
  rw [←hout] at hm
  have hmin:∀x,0≤x→0≤Z5 ctx x∧Z5 ctx x≤x:=fun x hx=>by unfold Z5;split<;>omega
  have h1:=hmin (cAt l k).Old hg.1.1
  have h2:=hmin (m - ((cAt l k).Old+(cAt l k).OldLen)) (by omega)
  obtain ⟨⟨g1,g2⟩,⟨g3,g4⟩,⟨g5,g6⟩,⟨g7,g8⟩,g9,g10⟩:=hg
  have hend:∀h0:Hunk,(∃a:Nat,h0.First=a∧a≤k∧0≤h0.Old.From∧h0.Old.From≤(cAt l a).Old ∧ -4096≤h0.New.From∧h0.New.From≤4096)→E83 l m (k+1) (A29 l m ctx k h0):=by
   rintro h0 ⟨a,e1,e2,e3,e4,e5,e6⟩
   refine ⟨a,k,e1,rfl,e2,by omega,e3,e4,?_,?_,e5,e6⟩
   ·show _≤(cAt l k).Old+(cAt l k).OldLen+Z5 ctx (m - ((cAt l k).Old+(cAt l k).OldLen));omega
   ·show (cAt l k).Old+(cAt l k).OldLen+Z5 ctx (m - ((cAt l k).Old+(cAt l k).OldLen))≤m;omega
  obtain ⟨p,hp,rfl⟩:=List.getElem_of_mem hm
  rw [List.length_set] at hp
  rw [List.getElem_set]
  split
  ·rename_i hq
   refine hend _ ?_
   by_cases ho:opens l ctx k
   ·have e:out=F8 l m ctx k++[W9 l ctx k]:=by rw [hout,O5,if_pos ho]
    have e2:out.getD (out.length - 1) B96=W9 l ctx k:=by rw [e];simp
    rw [e2]
    refine ⟨k,rfl,Nat.le_refl _,?_,?_,?_,?_⟩
    ·show 0≤(cAt l k).Old - Z5 ctx (cAt l k).Old;omega
    ·show (cAt l k).Old - Z5 ctx (cAt l k).Old≤_;omega
    ·show -4096≤(cAt l k).New - Z5 ctx (cAt l k).Old;omega
    ·show (cAt l k).New - Z5 ctx (cAt l k).Old≤_;omega
   ·have e:out=F8 l m ctx k:=by rw [hout,O5,if_neg ho]
    have hlt:out.length - 1 < (F8 l m ctx k).length:=by rw [e] at hp ⊢;omega
    have e2:out.getD (out.length - 1) B96∈F8 l m ctx k:=by
     rw [e] at hlt ⊢
     rw [G13,G09 hlt]
     exact G22 hlt
    obtain ⟨a,b,e3,e4,e5,e6,e7,e8,e9,e10,e11,e12⟩:=ih _ e2
    exact ⟨a,e3,by omega,e7,e8,e11,e12⟩
  ·rename_i hq
   have hin:out[p]∈F8 l m ctx k:=by
    by_cases ho:opens l ctx k
    ·have e:out=F8 l m ctx k++[W9 l ctx k]:=by rw [hout,O5,if_pos ho]
     have hlt:p < (F8 l m ctx k).length:=by
      have:out.length=(F8 l m ctx k).length+1:=by rw [e];simp
      omega
     have:out[p]=(F8 l m ctx k)[p]:=by simp only [e];rw [G44 hlt]
     rw [this];exact G22 hlt
    ·have e:out=F8 l m ctx k:=by rw [hout,O5,if_neg ho]
     have:out[p]∈out:=G22 hp
     rw [←e];exact this
   obtain ⟨a,b,e3,e4,e5,e6,e7⟩:=ih _ hin
   exact ⟨a,b,e3,e4,e5,by omega,e7⟩
end Go.AL
namespace Go.AL
open Go
def J0 (s:Str):Bool:=decide (1≤s.length∧s.length≤200)
def B9 (ls:List PatchLine) (k:UInt8):List Str:=(ls.filter (fun x=>decide (x.Kind≠k))).map (·.Text)
def C63 (x:PatchLine):Prop:=((x.Kind≠32∧x.Kind≠45)∧x.Kind≠43)∨I2 x.Text=false
instance (x:PatchLine):Decidable (C63 x):=by unfold C63;exact inferInstance
def S7 (x:PatchLine):Bool:=decide (¬C63 x)
def Q6 (ls:List PatchLine):Bool:=ls.any (fun x=>decide (x.Kind≠32))
def N7 (some:Bool) (i j:Int) (h:PatchHunk):Prop:=((((some=false∨h.Old < i)∨h.New < j)∨4096 < h.Old)∨4096 < h.New)∨h.Old - i≠h.New - j
instance (s:Bool) (i j:Int) (h:PatchHunk):Decidable (N7 s i j h):=by unfold N7;exact inferInstance
def H9 (h:PatchHunk):Int:=(B9 h.Lines 43).length
def M3 (h:PatchHunk):Int:=(B9 h.Lines 45).length
def S8 (i j:Int):List PatchHunk→Bool
 | []=>true
 | h::r=>h.Lines.all S7&&(decide (¬N7 (Q6 h.Lines) i j h)&&(decide (¬(4096 < h.Old+H9 h∨4096 < h.New+M3 h))&&S8 (h.Old+H9 h) (h.New+M3 h) r))
def E8 (hs:List PatchHunk) (k:UInt8):List Str:=(hs.map (fun h=>B9 h.Lines k)).flatten
def L5:List Str→Bool
 | []=>true
 | x::r=>(r.isEmpty||ended x)&&L5 r
def B75 (hs:List PatchHunk) (k:UInt8):Bool:=L5 (E8 hs k)
def M5 (hs:List PatchHunk):Bool:=S8 0 0 hs&&(B75 hs 43&&B75 hs 45)
def markS:Str:=[10,92,32,78,111,32,110,101,119,108,105,110,101,32,97,116,32,101,110,100,32,111,102,32,102,105,108,101,10]
def P0 (x:PatchLine):List Str:=if ended x.Text then [[x.Kind]++x.Text] else [[x.Kind]++x.Text,markS]
def R9 (h:PatchHunk):Str:=[64,64,32,45]++Q7 h.Old (H9 h)++[32,43]++Q7 h.New (M3 h)++[32,64,64,10]
def R3 (h:PatchHunk):List Str:=R9 h::(h.Lines.map P0).flatten
def W5 (p:Patch):List Str:=[[45,45,45,32]++c4 p.OldName++[10],[43,43,43,32]++c4 p.NewName++[10]]
def A31 (p:Patch):List Str:=W5 p++(p.Hunks.map R3).flatten
def O0 (p:Patch):Str:=(A31 p).flatten
def D9 (p:Patch):Int:=if J0 p.OldName=false∨J0 p.NewName=false then 120 else if M5 p.Hunks=false then 121 else if 16777216 < (O0 p).length then 1 else 0
def szL (x:PatchLine):Nat:=x.Text.length+64
def szH (h:PatchHunk):Nat:=64+(h.Lines.map szL).sum
def szP (hs:List PatchHunk):Nat:=(hs.map szH).sum
structure PFit (p:Patch):Prop where
 old:p.OldName.length≤4194304
 new:p.NewName.length≤4194304
 hunks:szP p.Hunks≤268435456
theorem E40 (ls:List PatchLine) (i:Nat):((ls.take i).map szL).sum≤(ls.map szL).sum:=by
 conv=>rhs;rw [←G40 i ls,G27,List.sum_append]
 omega
theorem P1 (ls:List PatchLine):64*ls.length≤(ls.map szL).sum:=by
 induction ls with
 | nil=>simp
 | cons x r ih=>simp only [G15,G34,G10,szL];omega
theorem x8 {ls:List PatchLine} {x:PatchLine} (h:x∈ls):x.Text.length+64≤(ls.map szL).sum:=by
 induction ls with
 | nil=>simp at h
 | cons y r ih =>
  simp only [G15,G34]
  rcases List.mem_cons.1 h with rfl | h
  ·unfold szL;omega
  ·have:=ih h;omega
theorem U3 {hs:List PatchHunk} {h:PatchHunk} (hm:h∈hs):szH h≤szP hs:=by
 unfold szP
 induction hs with
 | nil=>simp at hm
 | cons y r ih =>
  simp only [G15,G34]
  rcases List.mem_cons.1 hm with rfl | hm
  ·omega
  ·have:=ih hm;omega
theorem U4 (hs:List PatchHunk):64*hs.length≤szP hs:=by
 unfold szP
 induction hs with
 | nil=>simp
 | cons x r ih=>simp only [G15,G34,G10,szH];omega
theorem A09 (hs:List PatchHunk) (i:Nat):szP (hs.take i)≤szP hs:=by
 unfold szP
 conv=>rhs;rw [←G40 i hs,G27,List.sum_append]
 omega
theorem F0 (ls:List PatchLine) (k:UInt8):(B9 ls k).length≤ls.length:=by unfold B9;rw [G35];exact List.length_filter_le _ _
theorem X0 (ls:List PatchLine) (k:UInt8) (i:Nat) (h:i < ls.length):B9 (ls.take (i+1)) k=if ls[i].Kind≠k then B9 (ls.take i) k++[ls[i].Text] else B9 (ls.take i) k:=by
 unfold B9
 rw [G14 h,List.filter_append,G27]
 by_cases hk:ls[i].Kind=k
 ·rw [if_neg (by simp [hk])];simp [hk]
 ·rw [if_pos hk];simp [hk]
theorem C64 (hs:List PatchHunk) (k:UInt8) (i:Nat) (h:i < hs.length):E8 (hs.take (i+1)) k=E8 (hs.take i) k++B9 hs[i].Lines k:=by
 unfold E8
 rw [G14 h,G27,G20];simp only [G15,G42,G29,G48,G38]
theorem C97 (hs:List PatchHunk) (k:UInt8):64*(E8 hs k).length≤szP hs:=by
 induction hs with
 | nil=>simp [E8]
 | cons h r ih =>
  have h1:=F0 h.Lines k
  have h2:=P1 h.Lines
  simp only [E8,G15,G29,G07,szP,G34,szH] at ih ⊢
  omega
theorem C98 {hs:List PatchHunk} {k:UInt8} {s:Str} (h:s∈E8 hs k):s.length≤szP hs:=by
 unfold E8 at h
 obtain ⟨l,hl,hs'⟩:=List.mem_flatten.1 h
 obtain ⟨hk,hhk,rfl⟩:=List.mem_map.1 hl
 unfold B9 at hs'
 obtain ⟨x,hx,rfl⟩:=List.mem_map.1 hs'
 have h1:=x8 (List.mem_filter.1 hx).1
 have h2:=U3 hhk
 unfold szH at h2
 omega
theorem C99 (l:List Str) (i:Nat) (h:i+1 < l.length):L5 (l.drop i)=(ended l[i]&&L5 (l.drop (i+1))):=by
 rw [G12 (by omega),L5]
 have:(l.drop (i+1)).isEmpty=false:=by
  rw [List.isEmpty_eq_false_iff];intro e
  have:=congrArg List.length e
  simp at this;omega
 rw [this];rfl
theorem D00 (l:List Str) (i:Nat) (h:l.length≤i+1):L5 (l.drop i)=true:=by
 rcases Nat.lt_or_ge i l.length with h' | h'
 ·rw [G12 h',G18 h];rfl
 ·rw [G18 h'];rfl
theorem E84 (x:PatchLine):(P0 x).length≤2∧1≤(P0 x).length:=by unfold P0;split<;>simp
theorem E41 (x:PatchLine):(P0 x).flatten.length≤szL x:=by
 unfold P0 szL markS;split<;>simp<;>omega
theorem A32 (ls:List PatchLine):(ls.map P0).flatten.flatten.length≤(ls.map szL).sum:=by
 induction ls with
 | nil=>simp
 | cons x r ih=>have:=E41 x;simp only [G15,G29,G20,G07,G34];omega
theorem B97 (ls:List PatchLine):(ls.map P0).flatten.length≤2*ls.length:=by
 induction ls with
 | nil=>simp
 | cons x r ih=>have:=E84 x;simp only [G15,G29,G07,G10];omega
theorem B76 (h:PatchHunk):(R9 h).length≤52:=by
 have h1:=Z2 h.Old (H9 h)
 have h2:=Z2 h.New (M3 h)
 unfold R9
 simp only [G07,G10,G11];omega
theorem E42 (h:PatchHunk):(R3 h).flatten.length≤szH h:=by
 have h1:=B76 h
 have h2:=A32 h.Lines
 unfold R3 szH
 simp only [G29,G07];omega
theorem W2 (hs:List PatchHunk):(hs.map R3).flatten.flatten.length≤szP hs:=by
 unfold szP
 induction hs with
 | nil=>simp
 | cons x r ih=>have:=E42 x;simp only [G15,G29,G20,G07,G34];omega
theorem E85 (h:PatchHunk):(R3 h).length≤szH h:=by
 have h1:=B97 h.Lines
 have h2:=P1 h.Lines
 unfold R3 szH
 simp only [G10];omega
theorem E43 (hs:List PatchHunk):(hs.map R3).flatten.length≤szP hs:=by
 unfold szP
 induction hs with
 | nil=>simp
 | cons x r ih=>have:=E85 x;simp only [G15,G29,G07,G34];omega
theorem Z3 (p:Patch):(W5 p).flatten.length≤4*p.OldName.length+4*p.NewName.length+14:=by
 have h1:=Z1 p.OldName
 have h2:=Z1 p.NewName
 unfold W5
 simp only [G29,G48,G07,G10,G11];omega
theorem B98 (hs:List PatchHunk) (k:Nat) (h:k < hs.length):((hs.take (k+1)).map R3).flatten=((hs.take k).map R3).flatten++R3 hs[k]:=by
 rw [G14 h,G27,G20];simp only [G15,G42,G29,G48,G38]
theorem B99 (ls:List PatchLine) (k:Nat) (h:k < ls.length):((ls.take (k+1)).map P0).flatten=((ls.take k).map P0).flatten++P0 ls[k]:=by
 rw [G14 h,G27,G20];simp only [G15,G42,G29,G48,G38]
theorem B47:∀(hs:List PatchHunk) (i j:Int),S8 i j hs=true→0≤i→0≤j→∀h∈hs,(0≤h.Old∧h.Old≤4096)∧(0≤h.New∧h.New≤4096)
 | [],_,_,_,_,_,h,hm=>by simp at hm
 | x::r,i,j,hg,hi,hj,h,hm=>by
  simp only [S8,G08,decide_eq_true_eq] at hg
  obtain ⟨_,h1,h2,h3⟩:=hg
  unfold N7 at h1
  have hx:(0≤x.Old∧x.Old≤4096)∧(0≤x.New∧x.New≤4096):=by omega
  rcases List.mem_cons.1 hm with rfl | hm
  ·exact hx
  ·exact B47 r _ _ h3 (by unfold H9;omega) (by unfold M3;omega) h hm
theorem W3 {hs:List PatchHunk} (h:M5 hs=true):∀x∈hs,(0≤x.Old∧x.Old≤4096)∧(0≤x.New∧x.New≤4096):=by
 unfold M5 at h
 rw [G08] at h
 exact B47 hs 0 0 h.1 (by omega) (by omega)
end Go.AL
namespace Go.AL
open Go
def J3 (k:UInt8) (ts:List Str):List PatchLine:=ts.map fun t=>⟨k,t⟩
theorem C65 (k:UInt8) (ts:List Str) (i:Nat) (h:i < ts.length):J3 k (ts.take (i+1))=J3 k (ts.take i)++[⟨k,ts[i]⟩]:=by
 unfold J3;rw [G14 h,G27];rfl
theorem Z4 (k:UInt8) (ts:List Str):(J3 k ts).length=ts.length:=by simp [J3]
def sub (x:List Str) (a b:Int):List Str:=(x.drop a.toNat).take (b.toNat - a.toNat)
theorem U5 (x:List Str) (a b:Int):(sub x a b).length≤x.length:=by unfold sub;rw [G17,G25];omega
def T8 (c:Change):Int:=c.Old+c.OldLen
def P4 (l:List Change) (i0:Int) (a t:Nat):Int:=if t=0 then i0 else T8 (cAt l (a+t - 1))
theorem B17 (l:List Change) (i0:Int) (a t:Nat):P4 l i0 a (t+1)=T8 (cAt l (a+t)):=by
 unfold P4;rw [if_neg (by omega)];congr 2
def L6 (l:List Change) (x y:List Str) (i0:Int) (a:Nat):Nat→List PatchLine
 | 0=>[]
 | t+1=>L6 l x y i0 a t++J3 32 (sub x (P4 l i0 a t) (cAt l (a+t)).Old)++J3 45 (sub x (cAt l (a+t)).Old (T8 (cAt l (a+t))))++J3 43 (sub y (cAt l (a+t)).New ((cAt l (a+t)).New+(cAt l (a+t)).NewLen))
def F6 (l:List Change) (x y:List Str) (h:Hunk):PatchHunk :=
 ⟨h.Old.From,h.New.From,L6 l x y h.Old.From h.First.toNat (h.Last.toNat - h.First.toNat)++J3 32 (sub x (P4 l h.Old.From h.First.toNat (h.Last.toNat - h.First.toNat)) h.Old.To)⟩
theorem B18 (l:List Change) (x y:List Str) (i0:Int) (a t:Nat):(L6 l x y i0 a t).length≤t*(2*x.length+y.length):=by
 induction t with
 | zero=>simp [L6]
 | succ t ih =>
  have h1:=U5 x (P4 l i0 a t) (cAt l (a+t)).Old
  have h2:=U5 x (cAt l (a+t)).Old (T8 (cAt l (a+t)))
  have h3:=U5 y (cAt l (a+t)).New ((cAt l (a+t)).New+(cAt l (a+t)).NewLen)
  simp only [L6,G07,Z4]
  rw [Nat.succ_mul];omega
def O1:Patch:=⟨[],[],[]⟩
def E7 (x y:List Str):List Change:=A24 (H3 (D6 [x,y]) x) (H3 (D6 [x,y]) y)
def G6 (x y:List Str) (ctx:Int):List PatchHunk:=(K7 (E7 x y) x.length y.length ctx).1.map (F6 (E7 x y) x y)
def A33 (on nn a b:Str) (ctx:Int):Patch × Int :=
 if J0 on=false∨J0 nn=false then (O1,120)
 else if (D4 a).2≠0 then (O1,(D4 a).2)
 else if (D4 b).2≠0 then (O1,(D4 b).2)
 else if (K7 (E7 (D4 a).1 (D4 b).1) (D4 a).1.length (D4 b).1.length ctx).2≠0 then (O1,(K7 (E7 (D4 a).1 (D4 b).1) (D4 a).1.length (D4 b).1.length ctx).2)
 else if D9 ⟨on,nn,G6 (D4 a).1 (D4 b).1 ctx⟩≠0 then (O1,D9 ⟨on,nn,G6 (D4 a).1 (D4 b).1 ctx⟩)
 else (⟨on,nn,G6 (D4 a).1 (D4 b).1 ctx⟩,0)
theorem o8 (x y:List Str):(E7 x y).length≤x.length+1:=by
 unfold E7 A24 A23
 have h1:=C91 (I7 0 0 (H3 (D6 [x,y]) x) (H3 (D6 [x,y]) y)) 0 0 ((H3 (D6 [x,y]) x).length) ((H3 (D6 [x,y]) y).length)
 have h2:=C92 0 0 (H3 (D6 [x,y]) x) (H3 (D6 [x,y]) y)
 have h3:(H3 (D6 [x,y]) x).length=x.length:=by simp [H3]
 omega
end Go.AL
namespace Go.AL
open Go
def V4 (h:PatchHunk) (lines:List Str):Bool:=if (lines.length:Int) < h.Old+H9 h then false else decide ((lines.drop h.Old.toNat).take (B9 h.Lines 43).length=B9 h.Lines 43)
theorem eqAt (x old:List Str) (o i:Nat) (hi:i < old.length) (hx:o+old.length≤x.length) :
  ((x.drop (o+i)).take (old.length - i)=old.drop i)↔(x[o+i]'(by omega)=old[i]∧(x.drop (o+(i+1))).take (old.length - (i+1))=old.drop (i+1)):=by
 rw [G12 (show o+i < x.length by omega),G12 hi,show old.length - i=(old.length - (i+1))+1 by omega,List.take_succ_cons,List.cons.injEq]
 rfl
def A34:List PatchHunk→List Str→Nat
 | [],_=>0
 | h::r,x=>if V4 h x=true then A34 r x+1 else 0
theorem fitN_le (hs:List PatchHunk) (x:List Str):A34 hs x≤hs.length:=by
 induction hs with
 | nil=>simp [A34]
 | cons h r ih=>simp only [A34];split<;>simp<;>omega
def W6 (p:Patch) (blob:Str):Int × Int:=if D9 p≠0 then (0,D9 p) else if (D4 blob).2≠0 then (0,(D4 blob).2) else (A34 p.Hunks (D4 blob).1,0)
def hAt (hs:List PatchHunk) (k:Nat):PatchHunk:=hs.getD k ⟨0,0,[]⟩
theorem C14 {hs:List PatchHunk} {k:Nat} (h:k < hs.length):hs[k]?=some (hAt hs k):=by
 unfold hAt;rw [G13,G09 h];rfl
theorem B48 {hs:List PatchHunk} {k:Nat} (h:k < hs.length):hAt hs k∈hs:=G30 (C14 h)
def M6 (hs:List PatchHunk) (k:Nat):Int:=if k=0 then 0 else (hAt hs (k - 1)).Old+H9 (hAt hs (k - 1))
def S0 (hs:List PatchHunk) (x:List Str):Nat→List Str
 | 0=>[]
 | k+1=>S0 hs x k++sub x (M6 hs k) (hAt hs k).Old++B9 (hAt hs k).Lines 45
def B49 (hs:List PatchHunk) (x:List Str):Str × Int :=
 let out:=S0 hs x hs.length++x.drop (M6 hs hs.length).toNat
 if P5 out=false then ([],140) else S6 out
def S9 (p:Patch) (blob:Str):Str × Int:=if (W6 p blob).2≠0 then ([],(W6 p blob).2) else if (W6 p blob).1 < p.Hunks.length then ([],140) else B49 p.Hunks (B6 blob)
theorem E44:∀(hs:List PatchHunk) (x:List Str),A34 hs x=hs.length→∀h∈hs,V4 h x=true
 | [],_,_,h,hm=>by simp at hm
 | y::r,x,he,h,hm=>by
  simp only [A34] at he
  split at he
  ·rename_i hy
   rcases List.mem_cons.1 hm with rfl | hm
   ·exact hy
   ·exact E44 r x (by simpa using he) h hm
  ·simp at he
theorem A84 {h:PatchHunk} {x:List Str} (hf:V4 h x=true):h.Old+H9 h≤x.length:=by
 unfold V4 at hf
 split at hf
 ·cases hf
 ·omega
theorem o9:∀(hs:List PatchHunk) (i j:Int),S8 i j hs=true→∀k,k < hs.length→(if k=0 then i else (hAt hs (k - 1)).Old+H9 (hAt hs (k - 1)))≤(hAt hs k).Old
 | [],_,_,_,k,hk=>by simp at hk
 | y::r,i,j,hg,k,hk=>by
  simp only [S8,G08,decide_eq_true_eq] at hg
  obtain ⟨_,h1,_,h3⟩:=hg
  unfold N7 at h1
  match k with
  | 0=>simp only [if_pos];show i≤y.Old;omega
  | 1 =>
   have:=o9 r _ _ h3 0 (by simpa using hk)
   simpa [hAt] using this
  | k+2 =>
   have:=o9 r _ _ h3 (k+1) (by simp only [G10] at hk;omega)
   simpa [hAt] using this
theorem p6 (h:PatchHunk):0≤H9 h:=by unfold H9;omega
theorem B50 (x:List Str) (a b:Int) (_h0:0≤a) (h1:a≤b):(x.take a.toNat).flatten.length+(sub x a b).flatten.length=(x.take b.toNat).flatten.length:=by
 have e:x.take b.toNat=x.take a.toNat++sub x a b:=by
  unfold sub
  rw [show b.toNat=a.toNat+(b.toNat - a.toNat) by omega,List.take_add];congr 2;omega
 rw [e,G20,G07]
theorem E45 (hs:List PatchHunk) (k:Nat) (h:k < hs.length):szP (hs.take (k+1))=szP (hs.take k)+szH (hAt hs k):=by
 have e:hs[k]=hAt hs k:=by have:=C14 h;rw [G09 h] at this;exact Option.some.inj this
 unfold szP
 rw [G14 h,G27,List.sum_append,e];simp
theorem B01 (ls:List PatchLine) (k:UInt8):(B9 ls k).flatten.length+(B9 ls k).length≤(ls.map szL).sum:=by
 unfold B9
 induction ls with
 | nil=>simp
 | cons x r ih =>
  by_cases hx:x.Kind=k
  ·simp [hx,szL] at ih ⊢;omega
  ·simp [hx,szL] at ih ⊢;omega
theorem D40 {hs:List PatchHunk} {x:List Str} (ho:∀k,k < hs.length→0≤M6 hs k∧M6 hs k≤(hAt hs k).Old∧(hAt hs k).Old+H9 (hAt hs k)≤x.length) :
  ∀k,k≤hs.length→(S0 hs x k).length≤(M6 hs k).toNat+szP (hs.take k)∧(S0 hs x k).flatten.length≤(x.take (M6 hs k).toNat).flatten.length+szP (hs.take k)
 | 0,_=>by simp [S0]
 | k+1,hk=>by
  obtain ⟨h1,h2⟩:=D40 ho k (by omega)
  obtain ⟨h3,h4,h5⟩:=ho k (by omega)
  have h6:=p6 (hAt hs k)
  have e:M6 hs (k+1)=(hAt hs k).Old+H9 (hAt hs k):=by unfold M6;rw [if_neg (by omega)];rfl
  have h7:=B50 x (M6 hs k) (hAt hs k).Old h3 h4
  have h8:=E45 hs k (by omega)
  have h9:=B01 (hAt hs k).Lines 45
  have h10:=B50 x (hAt hs k).Old ((hAt hs k).Old+H9 (hAt hs k)) (by omega) (by omega)
  have h11:(sub x (M6 hs k) (hAt hs k).Old).length≤(hAt hs k).Old.toNat - (M6 hs k).toNat:=by unfold sub;rw [G17];omega
  unfold szH at h8
  simp only [S0,G07,G20,e]
  constructor<;>omega
end Go.AL
namespace Go.AL
open Go
def c5 (o n:Bool):List PatchLine→Option (Bool × Bool)
 | []=>some (o,n)
 | x::r =>
  if x.Kind≠43∧o=true then none
  else if x.Kind≠45∧n=true then none
  else c5 (if x.Kind≠43 then !ended x.Text else o) (if x.Kind≠45 then !ended x.Text else n) r
def O2:Bool→List Str→Bool
 | _,[]=>true
 | o,s::r=>!o&&O2 (!ended s) r
def X1 (o:Bool):List Str→Bool
 | []=>o
 | s::r=>X1 (!ended s) r
theorem u6:∀(a b:List Str) (o:Bool),O2 o (a++b)=(O2 o a&&O2 (X1 o a) b)
 | [],b,o=>by simp [O2,X1]
 | s::r,b,o=>by simp only [G39,O2,X1,u6 r b];cases o<;>simp
theorem y8:∀(l:List Str),O2 false l=L5 l
 | []=>rfl
 | s::r=>by
  have ih:=y8 r
  simp only [O2,L5]
  cases he:ended s
  ·cases r with
   | nil=>rfl
   | cons t u=>simp [O2]
  ·rw [←ih];cases r<;>simp [O2]
theorem B51:∀(ls:List PatchLine) (o n:Bool),c5 o n ls=if O2 o (B9 ls 43)&&O2 n (B9 ls 45) then some (X1 o (B9 ls 43),X1 n (B9 ls 45)) else none
 | [],o,n=>by simp [c5,B9,O2,X1]
 | x::r,o,n=>by
  have c1:B9 (x::r) 43=if x.Kind≠43 then x.Text::B9 r 43 else B9 r 43:=by
   unfold B9;by_cases h:x.Kind=43<;>simp [h]
  have c2:B9 (x::r) 45=if x.Kind≠45 then x.Text::B9 r 45 else B9 r 45:=by
   unfold B9;by_cases h:x.Kind=45<;>simp [h]
  rw [c5,B51 r,c1,c2]
  by_cases h1:x.Kind=43<;>by_cases h2:x.Kind=45<;>cases o<;>cases n<;>simp [h1,h2,O2,X1]
def R4 (i j:Int) (h:PatchHunk):Prop:=((((h.Old < 0∨h.New < 0)∨4096 < h.Old)∨4096 < h.New)∨h.Old < i)∨h.Old - i≠h.New - j
instance (i j:Int) (h:PatchHunk):Decidable (R4 i j h):=by unfold R4;exact inferInstance
def y9 (i j:Int) (o n:Bool):List PatchHunk→Bool
 | []=>true
 | h::r =>
  (h.Lines.all S7&&Q6 h.Lines)&&(decide (¬R4 i j h) &&
   match c5 o n h.Lines with
   | none=>false
   | some (o',n')=>decide (h.Old+H9 h≤4096∧h.New+M3 h≤4096)&&y9 (h.Old+H9 h) (h.New+M3 h) o' n' r)
theorem A64 (h:PatchHunk) (r:List PatchHunk) (k:UInt8):E8 (h::r) k=B9 h.Lines k++E8 r k:=rfl
theorem F18:∀(hs:List PatchHunk) (i j:Int) (o n:Bool),0≤i→0≤j→y9 i j o n hs=(S8 i j hs&&(O2 o (E8 hs 43)&&O2 n (E8 hs 45)))
 | [],i,j,o,n,_,_=>by simp [y9,S8,E8,O2]
 | h::r,i,j,o,n,hi,hj=>by
  rw [y9,S8,A64,A64,u6,u6,B51]
  have a1:=p6 h
  have a2:0≤M3 h:=by unfold M3;omega
  cases e1:h.Lines.all S7
  ·simp
  cases e2:Q6 h.Lines
  ·have:decide (¬N7 false i j h)=false:=decide_eq_false (fun hh=>hh (by unfold N7;simp))
   rw [this];simp
  have e3:decide (¬R4 i j h)=decide (¬N7 true i j h):=by
   apply decide_eq_decide.2
   unfold R4 N7
   constructor<;>intro hh<;>simp only [not_or,Bool.true_eq_false,not_false_eq_true,true_and] at hh ⊢<;>omega
  rw [e3]
  by_cases hp:N7 true i j h
  ·rw [decide_eq_false (fun hh=>hh hp)];simp
  rw [decide_eq_true hp]
  have hb:0≤h.Old∧0≤h.New:=by unfold N7 at hp;simp only [not_or] at hp;omega
  have e4:decide (h.Old+H9 h≤4096∧h.New+M3 h≤4096)=decide (¬(4096 < h.Old+H9 h∨4096 < h.New+M3 h)):=decide_eq_decide.2 (by omega)
  have ih:=F18 r (h.Old+H9 h) (h.New+M3 h) (X1 o (B9 h.Lines 43)) (X1 n (B9 h.Lines 45)) (by omega) (by omega)
  cases e5:O2 o (B9 h.Lines 43)<;>cases e6:O2 n (B9 h.Lines 45)<;>simp [e4,ih,Bool.and_assoc]
theorem F46 (hs:List PatchHunk):y9 0 0 false false hs=M5 hs:=by
 rw [F18 hs 0 0 false false (by omega) (by omega),y8,y8];rfl
end Go.AL
namespace Go.AL
open Go
theorem F72 (b s:Str) (h:s∈B6 b):s.length≤b.length:=by
 have h1:(B6 b).flatten=b:=by
  have key:∀(s cur:Str),(F1 cur s).flatten=cur++s:=by
   intro s
   induction s with
   | nil=>intro cur;unfold F1;split<;>simp [*]
   | cons c r ih=>intro cur;unfold F1;split<;>simp [ih]
  exact key b []
 have h2:∀(l:List Str),s∈l→s.length≤l.flatten.length:=by
  intro l
  induction l with
  | nil=>intro h;cases h
  | cons x r ih =>
   intro h
   rcases List.mem_cons.1 h with rfl | h
   ·simp
   ·have:=ih h;simp only [G29,G07];omega
 have:=h2 _ h;rw [h1] at this;exact this
end Go.AL
namespace Go.AL
open Go
theorem C66 {hs:List PatchHunk} {x:List Str} :
  ∀k,k≤hs.length→(∀j,j < k→0≤M6 hs j∧M6 hs j≤(hAt hs j).Old∧(hAt hs j).Old+H9 (hAt hs j)≤x.length)→(S0 hs x k).length≤(M6 hs k).toNat+szP (hs.take k)∧(S0 hs x k).flatten.length≤(x.take (M6 hs k).toNat).flatten.length+szP (hs.take k)
 | 0,_,_=>by simp [S0]
 | k+1,hk,ho=>by
  obtain ⟨h1,h2⟩:=C66 k (by omega) (fun j hj=>ho j (by omega))
  obtain ⟨h3,h4,h5⟩:=ho k (by omega)
  have h6:=p6 (hAt hs k)
  have e:M6 hs (k+1)=(hAt hs k).Old+H9 (hAt hs k):=by unfold M6;rw [if_neg (by omega)];rfl
  have h7:=B50 x (M6 hs k) (hAt hs k).Old h3 h4
  have h8:=E45 hs k (by omega)
  have h9:=B01 (hAt hs k).Lines 45
  have h10:=B50 x (hAt hs k).Old ((hAt hs k).Old+H9 (hAt hs k)) (by omega) (by omega)
  have h11:(sub x (M6 hs k) (hAt hs k).Old).length≤(hAt hs k).Old.toNat - (M6 hs k).toNat:=by unfold sub;rw [G17];omega
  unfold szH at h8
  simp only [S0,G07,G20,e]
  constructor<;>omega
theorem szL_le (ls:List PatchLine) (L:Nat) (h:∀x∈ls,x.Text.length≤L):(ls.map szL).sum≤ls.length*(L+64):=by
 induction ls with
 | nil=>simp
 | cons x r ih =>
  have h1:=ih (fun y hy=>h y (by simp [hy]))
  have h2:=h x (by simp)
  simp only [G15,G34,G10,Nat.succ_mul]
  unfold szL at *;omega
theorem szP_le (hs:List PatchHunk) (B:Nat) (h:∀x∈hs,szH x≤B):szP hs≤hs.length*B:=by
 induction hs with
 | nil=>simp [szP]
 | cons x r ih =>
  have h1:=ih (fun y hy=>h y (by simp [hy]))
  have h2:=h x (by simp)
  simp only [szP,G15,G34,G10,Nat.succ_mul] at *
  omega
theorem x9 {x:List Str} {a b:Int} {s:Str} (h:s∈sub x a b):s∈x:=by
 unfold sub at h
 exact List.mem_of_mem_drop (List.mem_of_mem_take h)
theorem A85 {k:UInt8} {ts:List Str} {q:PatchLine} (h:q∈J3 k ts):q.Text∈ts:=by
 unfold J3 at h
 obtain ⟨t,ht,rfl⟩:=List.mem_map.1 h
 exact ht
theorem C67 (l:List Change) (x y:List Str) (i0:Int) (a:Nat):∀(t:Nat) (q:PatchLine),q∈L6 l x y i0 a t→q.Text∈x∨q.Text∈y
 | 0,q,h=>by simp [L6] at h
 | t+1,q,h=>by
  simp only [L6,G50] at h
  rcases h with ((h | h) | h) | h
  ·exact C67 l x y i0 a t q h
  ·exact .inl (x9 (A85 h))
  ·exact .inl (x9 (A85 h))
  ·exact .inr (x9 (A85 h))
theorem E86 (l:List Change) (x y:List Str) (h:Hunk) (L T:Nat) (hx:∀s∈x,s.length≤L) (hy:∀s∈y,s.length≤L) (ht:h.Last.toNat - h.First.toNat≤T) :
  szH (F6 l x y h)≤64+(T*(2*x.length+y.length)+x.length)*(L+64):=by
 unfold szH
 have h1:∀q∈(F6 l x y h).Lines,q.Text.length≤L:=by
  intro q hq
  simp only [F6,G50] at hq
  rcases hq with hq | hq
  ·rcases C67 _ _ _ _ _ _ _ hq with h | h
   ·exact hx _ h
   ·exact hy _ h
  ·exact hx _ (x9 (A85 hq))
 have h2:=szL_le _ L h1
 have h3:(F6 l x y h).Lines.length≤T*(2*x.length+y.length)+x.length:=by
  simp only [F6,G07,Z4]
  have h4:=B18 l x y h.Old.From h.First.toNat (h.Last.toNat - h.First.toNat)
  have h5:=U5 x (P4 l h.Old.From h.First.toNat (h.Last.toNat - h.First.toNat)) h.Old.To
  have h6:(h.Last.toNat - h.First.toNat)*(2*x.length+y.length)≤T*(2*x.length+y.length):=G19 _ ht
  omega
 have h4:(F6 l x y h).Lines.length*(L+64)≤(T*(2*x.length+y.length)+x.length)*(L+64):=G19 _ h3
 omega
theorem E46 (l:List Change) (m n ctx:Int):(K7 l m n ctx).1.length≤l.length∧∀h∈(K7 l m n ctx).1,h.Last.toNat - h.First.toNat≤l.length:=by
 unfold K7
 by_cases c1:ctx < 0∨1048576 < ctx
 ·rw [if_pos c1];simp
 rw [if_neg c1]
 by_cases c2:Y0 l m n≠0
 ·rw [if_pos c2];simp
 rw [if_neg c2]
 obtain ⟨_,_,c3⟩:=B74 (Decidable.not_not.1 c2)
 refine ⟨(V3 l m ctx l.length).1,fun h hh=>?_⟩
 have:=A30 c3 (show 0≤ctx by omega) l.length (Nat.le_refl _) h hh
 obtain ⟨a,b,e1,e2,e3,e4,_⟩:=this
 omega
theorem D76 (x y:List Str) (ctx:Int) (L:Nat) (hx:∀s∈x,s.length≤L) (hy:∀s∈y,s.length≤L) :
  szP (G6 x y ctx)≤(x.length+1)*(64+((x.length+1)*(2*x.length+y.length)+x.length)*(L+64)):=by
 have h0:=o8 x y
 obtain ⟨h1,h2⟩:=E46 (E7 x y) x.length y.length ctx
 have h3:∀q∈G6 x y ctx,szH q≤64+((x.length+1)*(2*x.length+y.length)+x.length)*(L+64):=by
  intro q hq
  unfold G6 at hq
  obtain ⟨h,hh,rfl⟩:=List.mem_map.1 hq
  exact E86 _ _ _ _ L (x.length+1) hx hy (by have:=h2 h hh;omega)
 have h4:=szP_le _ _ h3
 have h5:(G6 x y ctx).length≤x.length+1:=by unfold G6;rw [G35];omega
 exact Nat.le_trans h4 (G19 _ h5)
theorem A47 (a b:Str) (ctx:Int) (ha:a.length≤36) (hb:b.length≤216):szP (G6 (D4 a).1 (D4 b).1 ctx)≤134217728:=by
 have hm:∀(s:Str),(D4 s).1.length≤s.length∧∀t∈(D4 s).1,t.length≤s.length:=by
  intro s
  unfold D4
  split
  ·simp
  ·refine ⟨O9 s,fun t ht=>F72 s t ht⟩
 obtain ⟨ha1,ha2⟩:=hm a
 obtain ⟨hb1,hb2⟩:=hm b
 have h:=D76 (D4 a).1 (D4 b).1 ctx 216 (fun s hs=>by have:=ha2 s hs;omega) (fun s hs=>by have:=hb2 s hs;omega)
 refine Nat.le_trans h ?_
 have e1:(D4 a).1.length≤36:=by omega
 have e2:(D4 b).1.length≤216:=by omega
 refine Nat.le_trans (Nat.mul_le_mul (Nat.add_le_add_right e1 1) (Nat.add_le_add_left (G19 _ (Nat.add_le_add (Nat.mul_le_mul (Nat.add_le_add_right e1 1) (Nat.add_le_add (Nat.mul_le_mul_left 2 e1) e2)) e1)) 64)) ?_
 decide
end Go.AL
namespace Go.AL
open Go
def awakeP:Patch:=⟨[120],[120],[⟨0,0,[⟨32,[97,10]⟩,⟨45,[98]⟩,⟨43,[99,10]⟩]⟩]⟩
theorem B52:E7 [[97,10],[98]] [[97,10],[99,10]]=[⟨1,1,1,1⟩]:=by
 have e:D6 [[[97,10],[98]],[[97,10],[99,10]]]=[[97,10],[98],[99,10]]:=by decide
 have e1:H3 [[97,10],[98],[99,10]] [[97,10],[98]]=[0,1]:=by decide
 have e2:H3 [[97,10],[98],[99,10]] [[97,10],[99,10]]=[0,2]:=by decide
 unfold E7
 rw [e,e1,e2]
 simp [A24,I7,dist,A23,Q9]
theorem E87 (p:Patch):(O0 p).length≤4*p.OldName.length+4*p.NewName.length+14+szP p.Hunks:=by
 have h1:=Z3 p
 have h2:=W2 p.Hunks
 unfold O0 A31
 rw [G20,G07];omega
theorem C00:D9 awakeP=0:=by
 have h1:=E87 awakeP
 have h2:4*awakeP.OldName.length+4*awakeP.NewName.length+14+szP awakeP.Hunks≤1000:=by decide
 unfold D9
 rw [if_neg (by decide),if_neg (by decide),if_neg (by omega)]
theorem E88:A33 [120] [120] [97,10,98] [97,10,99,10] 1=(awakeP,0):=by
 have e1:D4 [97,10,98]=([[97,10],[98]],0):=by decide
 have e2:D4 [97,10,99,10]=([[97,10],[99,10]],0):=by decide
 have e3:K7 [⟨1,1,1,1⟩] 2 2 1=([⟨0,1,⟨0,2⟩,⟨0,2⟩⟩],0):=by decide
 have e4:G6 [[97,10],[98]] [[97,10],[99,10]] 1=awakeP.Hunks:=by
  unfold G6
  rw [B52]
  show (K7 [⟨1,1,1,1⟩] 2 2 1).1.map _=_
  rw [e3];decide
 have e5:D9 ⟨[120],[120],awakeP.Hunks⟩=0:=C00
 unfold A33
 rw [if_neg (by decide),e1,e2]
 dsimp only
 rw [B52,e4,e5]
 show (if (0:Int)≠0 then _ else if (0:Int)≠0 then _ else if (K7 [⟨1,1,1,1⟩] 2 2 1).2≠0 then _ else _)=_
 rw [e3];rfl
theorem awake_apply:S9 awakeP [97,10,98]=([97,10,99,10],0)∧(S9 awakeP [97,10,98,10])=([],140):=by
 unfold S9 W6
 rw [C00]
 constructor<;>decide
end Go.AL
namespace Go.AL
open Go
def D77 (c:Change):Int:=c.New+c.NewLen
def eoI (i:Int) (l:List Change) (k:Nat):Int:=if k=0 then i else T8 (cAt l (k - 1))
def enI (j:Int) (l:List Change) (k:Nat):Int:=if k=0 then j else D77 (cAt l (k - 1))
theorem m8 (i:Int) (c:Change) (r:List Change) (k:Nat):eoI i (c::r) (k+1)=eoI (T8 c) r k:=by
 cases k<;>rfl
theorem m9 (j:Int) (c:Change) (r:List Change) (k:Nat):enI j (c::r) (k+1)=enI (D77 c) r k:=by
 cases k<;>rfl
theorem A65 (i:Int) (l:List Change) (k:Nat):eoI i l (k+1)=T8 (cAt l k):=rfl
theorem A66 (j:Int) (l:List Change) (k:Nat):enI j l (k+1)=D77 (cAt l k):=rfl
theorem B53 (c:Change) (r:List Change) (k:Nat):cAt (c::r) (k+1)=cAt r k:=rfl
def A67 (x y:List Str) (i j:Int):List Change→Prop
 | []=>sub x i x.length=sub y j y.length
 | c::r=>sub x i c.Old=sub y j c.New∧A67 x y (T8 c) (D77 c) r
theorem n6 (m n:Int):∀(l:List Change) (k0:Nat) (i j:Int),I3 k0 i j l m n=true→∀k,k < l.length →
  G9 (cAt l k).Old∧G9 (cAt l k).OldLen∧G9 (cAt l k).New∧G9 (cAt l k).NewLen∧(cAt l k).OldLen+(cAt l k).NewLen≠0∧(cAt l k).Old - eoI i l k=(cAt l k).New - enI j l k∧eoI i l k≤(cAt l k).Old∧(0 < k0+k→eoI i l k < (cAt l k).Old)
 | [],_,_,_,_,k,hk=>by simp at hk
 | c :: r,k0,i,j,h,k,hk=>by
  simp only [I3,G08,decide_eq_true_eq] at h
  obtain ⟨h1,h2⟩:=h
  cases k with
  | zero =>
   unfold C62 at h1
   show G9 c.Old∧G9 c.OldLen∧G9 c.New∧G9 c.NewLen∧c.OldLen+c.NewLen≠0∧c.Old - i=c.New - j∧i≤c.Old∧(0 < k0+0→i < c.Old)
   have d1:G9 c.Old:=by by_cases q:G9 c.Old;exact q;exact absurd (.inl (.inl (.inl (.inl (.inl (.inl (.inl q))))))) h1
   have d2:G9 c.OldLen:=by by_cases q:G9 c.OldLen;exact q;exact absurd (.inl (.inl (.inl (.inl (.inl (.inl (.inr q))))))) h1
   have d3:G9 c.New:=by by_cases q:G9 c.New;exact q;exact absurd (.inl (.inl (.inl (.inl (.inl (.inr q)))))) h1
   have d4:G9 c.NewLen:=by by_cases q:G9 c.NewLen;exact q;exact absurd (.inl (.inl (.inl (.inl (.inr q))))) h1
   refine ⟨d1,d2,d3,d4,fun q=>h1 (.inl (.inl (.inl (.inr q)))),?_,?_,fun h0=>?_⟩
   ·by_cases q:c.Old - i=c.New - j
    ·exact q
    ·exact absurd (.inl (.inl (.inr q))) h1
   ·by_cases q:c.Old < i
    ·exact absurd (.inl (.inr q)) h1
    ·omega
   ·by_cases q:c.Old < i
    ·exact absurd (.inl (.inr q)) h1
    ·by_cases q2:c.Old=i
     ·exact absurd (.inr ⟨by omega,q2⟩) h1
     ·omega
  | succ k =>
   have:=n6 m n r (k0+1) _ _ h2 k (by simpa using hk)
   rw [B53,m8,m9]
   obtain ⟨e1,e2,e3,e4,e5,e6,e7,e8⟩:=this
   exact ⟨e1,e2,e3,e4,e5,e6,e7,fun h0=>e8 (by omega)⟩
theorem D78 (m n:Int):∀(l:List Change) (k0:Nat) (i j:Int),I3 k0 i j l m n=true→m - eoI i l l.length=n - enI j l l.length∧eoI i l l.length≤m
 | [],_,i,j,h=>by
  simp only [I3,decide_eq_true_eq] at h
  show m - i=n - j∧i≤m
  omega
 | c::r,k0,i,j,h=>by
  simp only [I3,G08,decide_eq_true_eq] at h
  rw [G10,m8,m9]
  exact D78 m n r _ _ _ h.2
theorem C68 (x y:List Str):∀(l:List Change) (i j:Int),A67 x y i j l→∀k,k < l.length→sub x (eoI i l k) (cAt l k).Old=sub y (enI j l k) (cAt l k).New
 | [],_,_,_,k,hk=>by simp at hk
 | c::r,i,j,h,k,hk=>by
  cases k with
  | zero=>exact h.1
  | succ k=>rw [m8,m9,B53];exact C68 x y r _ _ h.2 k (by simpa using hk)
theorem D79 (x y:List Str):∀(l:List Change) (i j:Int),A67 x y i j l→sub x (eoI i l l.length) x.length=sub y (enI j l l.length) y.length
 | [],_,_,h=>h
 | c::r,i,j,h=>by rw [G10,m8,m9];exact D79 x y r _ _ h.2
def mkH (l:List Change) (m ctx:Int) (a b:Nat):Hunk:=A29 l m ctx (b - 1) (W9 l ctx a)
def GrOk (l:List Change) (m ctx:Int):Nat→List Hunk→Nat→Prop
 | a,[],k=>a=k
 | a,h::r,k=>∃b,a < b∧opens l ctx a∧h=mkH l m ctx a b∧GrOk l m ctx b r k
theorem GrOk.le {l:List Change} {m ctx:Int}:∀{hs:List Hunk} {a k:Nat},GrOk l m ctx a hs k→a≤k
 | [],a,k,h=>Nat.le_of_eq h
 | _::_,a,k,⟨b,h1,_,_,h2⟩=>by have:=GrOk.le h2;omega
theorem GrOk.snoc {l:List Change} {m ctx:Int} {k:Nat} (ho:opens l ctx k):∀{hs:List Hunk} {a:Nat},GrOk l m ctx a hs k→GrOk l m ctx a (hs++[mkH l m ctx k (k+1)]) (k+1)
 | [],a,h=>by
  obtain rfl:a=k:=h
  exact ⟨a+1,by omega,ho,rfl,rfl⟩
 | _::_,a,⟨b,h1,h2,h3,h4⟩=>⟨b,h1,h2,h3,GrOk.snoc ho h4⟩
theorem GrOk.last {l:List Change} {m ctx:Int} {k:Nat}:∀{hs:List Hunk} {a:Nat},GrOk l m ctx a hs k→hs≠[]→GrOk l m ctx a (hs.set (hs.length - 1) (A29 l m ctx k (hs.getD (hs.length - 1) B96))) (k+1)
 | [],_,_,h0=>absurd rfl h0
 | [h],a,⟨b,h1,h2,h3,h4⟩,_=>by
  obtain rfl:b=k:=h4
  subst h3
  exact ⟨b+1,by omega,h2,rfl,rfl⟩
 | h::h'::r,a,⟨b,h1,h2,h3,h4⟩,_=>by
  have ih:=GrOk.last h4 (by simp)
  refine ⟨b,h1,h2,h3,?_⟩
  simpa using ih
theorem A35 (l:List Change) (m ctx:Int):∀k,GrOk l m ctx 0 (F8 l m ctx k) k
 | 0=>rfl
 | k+1=>by
  have ih:=A35 l m ctx k
  have hne:=(V3 l m ctx k).2
  simp only [F8,O5]
  by_cases ho:opens l ctx k
  ·rw [if_pos ho]
   have e:(F8 l m ctx k++[W9 l ctx k]).set ((F8 l m ctx k++[W9 l ctx k]).length - 1) (A29 l m ctx k ((F8 l m ctx k++[W9 l ctx k]).getD ((F8 l m ctx k++[W9 l ctx k]).length - 1) B96))=F8 l m ctx k++[mkH l m ctx k (k+1)]:=by
    simp [mkH]
   rw [e]
   exact ih.snoc ho
  ·rw [if_neg ho]
   refine ih.last ?_
   have:k≠0:=fun e=>ho (.inl e)
   have:=hne (by omega)
   intro e;rw [e] at this;simp at this
theorem A36 (x:List Str) {a b c:Int} (h0:0≤a) (h1:a≤b) (h2:b≤c):sub x a b++sub x b c=sub x a c:=by
 unfold sub
 obtain ⟨u,rfl⟩:∃u:Nat,(u:Int)=a:=⟨a.toNat,by omega⟩
 obtain ⟨v,rfl⟩:∃v:Nat,(v:Int)=b:=⟨b.toNat,by omega⟩
 obtain ⟨w,rfl⟩:∃w:Nat,(w:Int)=c:=⟨c.toNat,by omega⟩
 simp only [G46]
 have h3:x.drop v=(x.drop u).drop (v - u):=by rw [List.drop_drop];congr 1;omega
 rw [h3,show w - u=(v - u)+(w - v) by omega,List.take_add]
theorem y4 (x:List Str) (a:Int):sub x a a=[]:=by simp [sub]
theorem A37 (x:List Str) {a b:Int} (h0:0≤a) (h1:a≤b) (h2:b≤x.length):((sub x a b).length:Int)=b - a:=by
 unfold sub;rw [G17,G25];omega
theorem A68 {x y:List Str} {p q p' q' e:Int} (h:sub x p q=sub y p' q') (h0:0≤p) (h0':0≤p') (he:0≤e) (h1:e≤q - p) (h2:q - p=q' - p'):sub x (q - e) q=sub y (q' - e) q':=by
 have key:∀(z:List Str) (a b:Int),0≤a→e≤b - a→sub z (b - e) b=(sub z a b).drop (b - a - e).toNat:=by
  intro z a b ha hb
  unfold sub
  rw [List.drop_take,List.drop_drop]
  congr 1
  ·omega
  ·congr 1;omega
 rw [key x p q h0 h1,key y p' q' h0' (by omega),h,h2]
theorem C69 {x y:List Str} {p q p' q' e:Int} (h:sub x p q=sub y p' q') (h0:0≤p) (h0':0≤p') (he:0≤e) (h1:e≤q - p) (h2:q - p=q' - p'):sub x p (p+e)=sub y p' (p'+e):=by
 have key:∀(z:List Str) (a b:Int),0≤a→e≤b - a→sub z a (a+e)=(sub z a b).take e.toNat:=by
  intro z a b ha hb
  unfold sub
  rw [List.take_take]
  congr 1
  omega
 rw [key x p q h0 h1,key y p' q' h0' (by omega),h]
theorem A38 (p q:List PatchLine) (k:UInt8):B9 (p++q) k=B9 p k++B9 q k:=by simp [B9]
theorem A39 (k k':UInt8) (ts:List Str):B9 (J3 k ts) k'=if k=k' then [] else ts:=by
 unfold B9 J3
 by_cases h:k=k'
 ·rw [if_pos h];subst h
  simp [List.filter_eq_nil_iff]
 ·rw [if_neg h]
  rw [List.filter_eq_self.2 (by simp [h])]
  simp [Function.comp_def]
structure ScFit (x y:List Str) (l:List Change):Prop where
 lx:(x.length:Int)≤4096
 ly:(y.length:Int)≤4096
 sc:I3 0 0 0 l x.length y.length=true
 eq:A67 x y 0 0 l
section
variable {x y:List Str} {l:List Change}
theorem ScFit.ok (h:ScFit x y l):ScOk 0 0 l x.length y.length:=x7 _ _ _ _ _ _ h.sc
theorem ScFit.check (h:ScFit x y l):Y0 l x.length y.length=0:=by
 have h1:=h.lx
 have h2:=h.ly
 unfold Y0
 rw [if_neg (by unfold G9;omega),if_pos h.sc]
theorem ScFit.nn (h:ScFit x y l) (k:Nat) (hk:k≤l.length):0≤eoI 0 l k∧0≤enI 0 l k∧eoI 0 l k≤x.length∧enI 0 l k≤y.length:=by
 cases k with
 | zero=>exact ⟨Int.le_refl _,Int.le_refl _,Int.natCast_nonneg _,Int.natCast_nonneg _⟩
 | succ k =>
  obtain ⟨⟨a1,a2⟩,⟨b1,b2⟩,⟨c1,c2⟩,⟨d1,d2⟩,h5,h6⟩:=h.ok.get k (by omega)
  rw [A65,A66];unfold T8 D77
  omega
def eA (l:List Change) (ctx:Int) (a:Nat):Int:=Z5 ctx (cAt l a).Old
def eB (l:List Change) (m ctx:Int) (b:Nat):Int:=Z5 ctx (m - eoI 0 l b)
theorem F19 {a b:Int} (h:0≤a) (h':0≤b):0≤Z5 a b∧Z5 a b≤a∧Z5 a b≤b:=by unfold Z5;split<;>omega
theorem A86 {ctx:Int} {a:Nat} (ho:opens l ctx a) (ha:a≠0):2*ctx < (cAt l a).Old - eoI 0 l a:=by
 rcases ho with h | h
 ·exact absurd h ha
 ·unfold eoI;rw [if_neg ha];unfold T8;omega
theorem ScFit.before (h:ScFit x y l) {ctx:Int} (hc:0≤ctx) {a:Nat} (ha:a < l.length) (ho:opens l ctx a) :
  0≤eA l ctx a∧eA l ctx a≤ctx∧eA l ctx a≤(cAt l a).Old - eoI 0 l a:=by
 obtain ⟨⟨a1,a2⟩,_⟩:=h.ok.get a ha
 have h3:=F19 hc a1
 unfold eA
 by_cases h0:a=0
 ·subst h0
  show _∧_∧_≤(cAt l 0).Old - 0
  omega
 ·have:=A86 ho h0;omega
theorem ScFit.after (h:ScFit x y l) {ctx:Int} (hc:0≤ctx) {b:Nat} (hb:b≤l.length) (ho:b < l.length→opens l ctx b) (hb0:b≠0) :
  0≤eB l x.length ctx b∧eB l x.length ctx b≤ctx∧eoI 0 l b+eB l x.length ctx b≤x.length∧enI 0 l b+eB l x.length ctx b≤y.length ∧
   sub x (eoI 0 l b) (eoI 0 l b+eB l x.length ctx b)=sub y (enI 0 l b) (enI 0 l b+eB l x.length ctx b):=by
 obtain ⟨h1,h2,h3,h4⟩:=h.nn b hb
 have h5:=F19 hc (show 0≤(x.length:Int) - eoI 0 l b by omega)
 unfold eB
 rcases Nat.lt_or_ge b l.length with hlt | hge
 ·obtain ⟨g1,g2,g3,g4,g5,g6,g7,g8⟩:=n6 _ _ _ _ _ _ h.sc b hlt
  obtain ⟨⟨a1,a2⟩,⟨b1,b2⟩,⟨c1,c2⟩,⟨d1,d2⟩,k5,k6⟩:=h.ok.get b hlt
  have hg:=A86 (ho hlt) hb0
  refine ⟨h5.1,h5.2.1,by omega,by omega,C69 (C68 x y l 0 0 h.eq b hlt) h1 h2 h5.1 (by omega) (by omega)⟩
 ·have e:b=l.length:=by omega
  subst e
  obtain ⟨g1,g2⟩:=D78 _ _ _ _ _ _ h.sc
  refine ⟨h5.1,h5.2.1,by omega,by omega,C69 (D79 x y l 0 0 h.eq) h1 h2 h5.1 (by omega) (by omega)⟩
def D80 (l:List Change) (j0:Int) (a t:Nat):Int:=if t=0 then j0 else D77 (cAt l (a+t - 1))
theorem C70 (i0:Int) (a t:Nat) (ht:t≠0):P4 l i0 a t=eoI 0 l (a+t):=by
 unfold P4 eoI;rw [if_neg ht,if_neg (by omega)]
theorem F20 (j0:Int) (a t:Nat) (ht:t≠0):D80 l j0 a t=enI 0 l (a+t):=by
 unfold D80 enI;rw [if_neg ht,if_neg (by omega)]
theorem ScFit.made (h:ScFit x y l) {ctx:Int} (hc:0≤ctx) {a:Nat} (ho:opens l ctx a):∀t,a+t≤l.length→(t=0→a < l.length) →
  B9 (L6 l x y ((cAt l a).Old - eA l ctx a) a t) 43=sub x ((cAt l a).Old - eA l ctx a) (P4 l ((cAt l a).Old - eA l ctx a) a t) ∧
  B9 (L6 l x y ((cAt l a).Old - eA l ctx a) a t) 45=sub y ((cAt l a).New - eA l ctx a) (D80 l ((cAt l a).New - eA l ctx a) a t)
 | 0,_,_=>by
  unfold P4 D80
  rw [if_pos rfl,if_pos rfl,y4,y4]
  exact ⟨rfl,rfl⟩
 | t + 1,hl,_=>by
  have hlt:a+t < l.length:=by omega
  have hla:a < l.length:=by omega
  obtain ⟨ih1,ih2⟩:=ScFit.made h hc ho t (by omega) (fun _=>hla)
  obtain ⟨q1,q2,q3⟩:=h.before hc hla ho
  obtain ⟨p1,p2,p3,p4⟩:=h.nn (a+t) (by omega)
  obtain ⟨r1,r2,r3,r4⟩:=h.nn a (by omega)
  obtain ⟨g1,g2,g3,g4,g5,g6,g7,g8⟩:=n6 _ _ _ _ _ _ h.sc (a+t) hlt
  obtain ⟨k1,⟨k2,k2'⟩,k3,⟨k4,k4'⟩,k5,k6,k7,k8⟩:=n6 _ _ _ _ _ _ h.sc a hla
  obtain ⟨⟨a1,a2⟩,⟨b1,b2⟩,⟨c1,c2⟩,⟨d1,d2⟩,w5,w6⟩:=h.ok.get (a+t) hlt
  have hrun:sub x (P4 l ((cAt l a).Old - eA l ctx a) a t) (cAt l (a+t)).Old=sub y (D80 l ((cAt l a).New - eA l ctx a) a t) (cAt l (a+t)).New ∧
    (cAt l a).Old - eA l ctx a≤P4 l ((cAt l a).Old - eA l ctx a) a t∧P4 l ((cAt l a).Old - eA l ctx a) a t≤(cAt l (a+t)).Old ∧
    (cAt l a).New - eA l ctx a≤D80 l ((cAt l a).New - eA l ctx a) a t∧D80 l ((cAt l a).New - eA l ctx a) a t≤(cAt l (a+t)).New:=by
   have hrun:=C68 x y l 0 0 h.eq (a+t) hlt
   by_cases ht:t=0
   ·subst ht
    unfold P4 D80
    rw [if_pos rfl,if_pos rfl]
    rw [show a+0=a from rfl] at *
    exact ⟨A68 hrun r1 r2 q1 (by omega) (by omega),by omega,by omega,by omega,by omega⟩
   ·rw [C70 _ _ _ ht,F20 _ _ _ ht]
    have m1:=h.ok.mono a (a+t - 1) (by omega) (by omega)
    have m2:eoI 0 l (a+t)=(cAt l (a+t - 1)).Old+(cAt l (a+t - 1)).OldLen:=by unfold eoI;rw [if_neg (by omega)];rfl
    have m4:∀u,u≤t→(cAt l a).New≤enI 0 l (a+u)∨u=0:=by
     intro u
     induction u with
     | zero=>exact fun _=>.inr rfl
     | succ u ihu =>
      intro hu
      obtain ⟨e1,e2,⟨e3,e3'⟩,⟨e4,e4'⟩,e5,e6,e7,e8⟩:=n6 _ _ _ _ _ _ h.sc (a+u) (by omega)
      have e9:enI 0 l (a+(u+1))=(cAt l (a+u)).New+(cAt l (a+u)).NewLen:=rfl
      rcases ihu (by omega) with h' | h'
      ·left;omega
      ·left;subst h';rw [e9];show (cAt l a).New≤(cAt l a).New+(cAt l a).NewLen;exact Int.le_add_of_nonneg_right e4
    have m5:=(m4 t (Nat.le_refl _)).resolve_right ht
    refine ⟨hrun,by omega,by omega,by omega,by omega⟩
  obtain ⟨hr1,hr2,hr3,hr4,hr5⟩:=hrun
  simp (decide:=true) only [L6,A38,A39,ih1,ih2,if_true,if_false,G38]
  have e1:P4 l ((cAt l a).Old - eA l ctx a) a (t+1)=T8 (cAt l (a+t)):=B17 _ _ _ _
  have e2:D80 l ((cAt l a).New - eA l ctx a) a (t+1)=D77 (cAt l (a+t)):=rfl
  rw [e1,e2]
  have s0:0≤(cAt l a).Old - eA l ctx a:=by omega
  have s1:0≤(cAt l a).New - eA l ctx a:=by omega
  refine ⟨?_,?_⟩
  ·rw [A36 x s0 hr2 hr3,A36 x s0 (by omega) (by unfold T8;omega)]
  ·rw [hr1,A36 y s1 hr4 hr5]
   exact A36 y s1 (by omega) (by omega)
end
end Go.AL
namespace Go.AL
open Go
section
variable {x y:List Str} {l:List Change}
structure HunkIs (x y:List Str) (l:List Change) (ctx:Int) (a b:Nat) (h:PatchHunk):Prop where
 old:h.Old=(cAt l a).Old - eA l ctx a
 new:h.New=(cAt l a).New - eA l ctx a
 o0:0≤h.Old
 n0:0≤h.New
 oe:h.Old+H9 h=eoI 0 l b+eB l x.length ctx b
 ne:h.New+M3 h=enI 0 l b+eB l x.length ctx b
 ox:h.Old+H9 h≤x.length
 ny:h.New+M3 h≤y.length
 ol:B9 h.Lines 43=sub x h.Old (h.Old+H9 h)
 nl:B9 h.Lines 45=sub y h.New (h.New+M3 h)
 ch:Q6 h.Lines=true
 gl:(∀s∈x,I2 s=true)→(∀s∈y,I2 s=true)→h.Lines.all S7=true
theorem C71 (p q:List PatchLine):Q6 (p++q)=(Q6 p||Q6 q):=by simp [Q6]
theorem C72 {k:UInt8} {ts:List Str} (hk:k≠32) (h:ts≠[]):Q6 (J3 k ts)=true:=by
 cases ts with
 | nil=>exact absurd rfl h
 | cons t ts=>simp [Q6,J3,hk]
theorem A40 {k:UInt8} {ts:List Str} (hk:k=32∨k=45∨k=43) (h:∀t∈ts,I2 t=true):(J3 k ts).all S7=true:=by
 rw [List.all_eq_true]
 intro q hq
 unfold J3 at hq
 obtain ⟨t,ht,rfl⟩:=List.mem_map.1 hq
 unfold S7
 refine decide_eq_true ?_
 rintro (⟨⟨h1,h2⟩,h3⟩ | h1)
 ·rcases hk with e | e | e
  ·exact h1 e
  ·exact h2 e
  ·exact h3 e
 ·rw [show (PatchLine.mk k t).Text=t from rfl,h t ht] at h1;cases h1
theorem C01 (hx:∀s∈x,I2 s=true) (hy:∀s∈y,I2 s=true) (i0:Int) (a:Nat):∀t,(L6 l x y i0 a t).all S7=true
 | 0=>rfl
 | t+1=>by
  simp only [L6,List.all_append,C01 hx hy i0 a t,Bool.true_and,G08]
  exact ⟨⟨A40 (.inl rfl) (fun s hs=>hx s (x9 hs)),A40 (.inr (.inl rfl)) (fun s hs=>hx s (x9 hs))⟩,A40 (.inr (.inr rfl)) (fun s hs=>hy s (x9 hs))⟩
theorem ScFit.hunk (h:ScFit x y l) {ctx:Int} (hc:0≤ctx) {a b:Nat} (hab:a < b) (hb:b≤l.length) (ho:opens l ctx a) (hob:b < l.length→opens l ctx b) :
  HunkIs x y l ctx a b (F6 l x y (mkH l x.length ctx a b)):=by
 have hla:a < l.length:=by omega
 obtain ⟨q1,q2,q3⟩:=h.before hc hla ho
 obtain ⟨w1,w2,w3,w4,w5⟩:=h.after hc hb hob (by omega)
 obtain ⟨m1,m2⟩:=h.made hc ho (b - a) (by omega) (fun e=>by omega)
 rw [C70 _ _ _ (by omega)] at m1
 rw [F20 _ _ _ (by omega)] at m2
 rw [show a+(b - a)=b by omega] at m1 m2
 obtain ⟨r1,r2,r3,r4⟩:=h.nn a (by omega)
 obtain ⟨s1,s2,s3,s4⟩:=h.nn b hb
 obtain ⟨k1,⟨k2,k2'⟩,k3,⟨k4,k4'⟩,k5,k6,k7,k8⟩:=n6 _ _ _ _ _ _ h.sc a hla
 have hlb:b - 1 < l.length:=by omega
 obtain ⟨g1,⟨g2,g2'⟩,g3,⟨g4,g4'⟩,g5,g6,g7,g8⟩:=n6 _ _ _ _ _ _ h.sc (b - 1) hlb
 have eo:eoI 0 l b=(cAt l (b - 1)).Old+(cAt l (b - 1)).OldLen:=by unfold eoI;rw [if_neg (by omega)];rfl
 have en:enI 0 l b=(cAt l (b - 1)).New+(cAt l (b - 1)).NewLen:=by unfold enI;rw [if_neg (by omega)];rfl
 have mo:=h.ok.mono a (b - 1) (by omega) (by omega)
 have mn:(cAt l a).New≤enI 0 l b:=by
  have m4:∀u,a+u≤l.length→(cAt l a).New≤enI 0 l (a+u)∨u=0:=by
   intro u
   induction u with
   | zero=>exact fun _=>.inr rfl
   | succ u ihu =>
    intro hu
    obtain ⟨e1,e2,⟨e3,e3'⟩,⟨e4,e4'⟩,e5,e6,e7,e8⟩:=n6 _ _ _ _ _ _ h.sc (a+u) (by omega)
    have e9:enI 0 l (a+(u+1))=(cAt l (a+u)).New+(cAt l (a+u)).NewLen:=rfl
    rcases ihu (by omega) with h' | h'
    ·left;omega
    ·left;subst h';rw [e9];show (cAt l a).New≤(cAt l a).New+(cAt l a).NewLen;exact Int.le_add_of_nonneg_right e4
  have:=(m4 (b - a) (by omega)).resolve_right (by omega)
  rwa [show a+(b - a)=b by omega] at this
 have hF:(mkH l x.length ctx a b).First.toNat=a:=by show ((a:Int)).toNat=a;omega
 have hL:(mkH l x.length ctx a b).Last.toNat - (mkH l x.length ctx a b).First.toNat=b - a:=by
  show (((b - 1:Nat):Int)+1).toNat - ((a:Int)).toNat=b - a;omega
 have hOF:(mkH l x.length ctx a b).Old.From=(cAt l a).Old - eA l ctx a:=rfl
 have hNF:(mkH l x.length ctx a b).New.From=(cAt l a).New - eA l ctx a:=rfl
 have hOT:(mkH l x.length ctx a b).Old.To=eoI 0 l b+eB l x.length ctx b:=by
  unfold eB;rw [eo];rfl
 obtain ⟨P,hP⟩:∃P,P=F6 l x y (mkH l x.length ctx a b):=⟨_,rfl⟩
 have hPl:P.Lines=L6 l x y ((cAt l a).Old - eA l ctx a) a (b - a)++J3 32 (sub x (eoI 0 l b) (eoI 0 l b+eB l x.length ctx b)):=by
  rw [hP];unfold F6
  show L6 l x y _ (mkH l x.length ctx a b).First.toNat ((mkH l x.length ctx a b).Last.toNat - (mkH l x.length ctx a b).First.toNat)++J3 32 (sub x (P4 l _ (mkH l x.length ctx a b).First.toNat ((mkH l x.length ctx a b).Last.toNat - (mkH l x.length ctx a b).First.toNat)) _)=_
  rw [hL,hF,hOF,hOT,C70 _ _ _ (by omega),show a+(b - a)=b by omega]
 have hPO:P.Old=(cAt l a).Old - eA l ctx a:=by rw [hP];rfl
 have hPN:P.New=(cAt l a).New - eA l ctx a:=by rw [hP];rfl
 have h43:B9 P.Lines 43=sub x ((cAt l a).Old - eA l ctx a) (eoI 0 l b+eB l x.length ctx b):=by
  rw [hPl,A38,A39,if_neg (by decide),m1]
  exact A36 x (by omega) (by omega) (by omega)
 have h45:B9 P.Lines 45=sub y ((cAt l a).New - eA l ctx a) (enI 0 l b+eB l x.length ctx b):=by
  rw [hPl,A38,A39,if_neg (by decide),m2,w5]
  exact A36 y (by omega) (by omega) (by omega)
 have hon:H9 P=eoI 0 l b+eB l x.length ctx b - ((cAt l a).Old - eA l ctx a):=by
  unfold H9;rw [h43];exact A37 x (by omega) (by omega) (by omega)
 have hnn:M3 P=enI 0 l b+eB l x.length ctx b - ((cAt l a).New - eA l ctx a):=by
  unfold M3;rw [h45];exact A37 y (by omega) (by omega) (by omega)
 rw [←hP]
 refine ⟨hPO,hPN,by omega,by omega,by omega,by omega,by omega,by omega,?_,?_,?_,?_⟩
 ·rw [h43];congr 1
  ·exact hPO.symm
  ·omega
 ·rw [h45];congr 1
  ·exact hPN.symm
  ·omega
 ·rw [hPl,C71]
  have e:L6 l x y ((cAt l a).Old - eA l ctx a) a (b - a)=L6 l x y ((cAt l a).Old - eA l ctx a) a (b - 1 - a+1):=by congr 1;omega
  rw [e]
  simp only [L6,C71]
  rw [show a+(b - 1 - a)=b - 1 by omega]
  have key:Q6 (J3 45 (sub x (cAt l (b - 1)).Old (T8 (cAt l (b - 1)))))=true∨Q6 (J3 43 (sub y (cAt l (b - 1)).New ((cAt l (b - 1)).New+(cAt l (b - 1)).NewLen)))=true:=by
   obtain ⟨g3a,g3b⟩:=g3
   obtain ⟨g1a,g1b⟩:=g1
   by_cases h0:(cAt l (b - 1)).OldLen=0
   ·right
    refine C72 (by decide) fun e0=>?_
    have:=A37 y (a:=(cAt l (b - 1)).New) (b:=(cAt l (b - 1)).New+(cAt l (b - 1)).NewLen) g3a (by omega) (by omega)
    rw [e0] at this;simp at this;omega
   ·left
    refine C72 (by decide) fun e0=>?_
    have:=A37 x (a:=(cAt l (b - 1)).Old) (b:=T8 (cAt l (b - 1))) g1a (by unfold T8;omega) (by unfold T8;omega)
    rw [e0] at this;unfold T8 at this;simp at this;omega
  rcases key with e1 | e1<;>rw [e1]<;>simp
 ·intro hx hy
  rw [hPl,List.all_append,C01 hx hy,Bool.true_and]
  exact A40 (.inl rfl) (fun s hs=>hx s (x9 hs))
theorem ScFit.hunks (h:ScFit x y l) {ctx:Int} (hc:0≤ctx) (hx:∀s∈x,I2 s=true) (hy:∀s∈y,I2 s=true):∀(hs:List Hunk) (a:Nat),GrOk l x.length ctx a hs l.length →
  ∀(i j e:Int),i=eoI 0 l a+e→j=enI 0 l a+e→0≤e→e≤ctx→(a=0→e=0) →
  S8 i j (hs.map (F6 l x y))=true∧(E8 (hs.map (F6 l x y)) 43).Sublist (x.drop i.toNat)∧(E8 (hs.map (F6 l x y)) 45).Sublist (y.drop j.toNat) ∧
   ∀p∈hs.map (F6 l x y),(p.Old+H9 p≤x.length∧p.New+M3 p≤y.length∧0≤p.Old∧0≤p.New)∧B9 p.Lines 43=sub x p.Old (p.Old+H9 p)∧B9 p.Lines 45=sub y p.New (p.New+M3 p)
 | [],a,_,i,j,e,_,_,_,_,_=>⟨rfl,by simp [E8],by simp [E8],by simp⟩
 | hk::hs,a,⟨b,hab,ho,hE,hr⟩,i,j,e,hi,hj,he,hec,he0=>by
  have hb:=hr.le
  have hob:b < l.length→opens l ctx b:=by
   intro hlt
   cases hs with
   | nil=>exact absurd hr (by show ¬b=l.length;omega)
   | cons h2 hs2=>obtain ⟨_,_,ho2,_⟩:=hr;exact ho2
  obtain ⟨w1,w2,w3,w4,w5⟩:=h.after hc hb hob (by omega)
  obtain ⟨q1,q2,q3⟩:=h.before hc (show a < l.length by omega) ho
  have H:=h.hunk hc hab hb ho hob
  rw [←hE] at H
  obtain ⟨P,hP⟩:∃P,P=F6 l x y hk:=⟨_,rfl⟩
  rw [←hP] at H
  obtain ⟨i1,i2,i3,i4⟩:=ScFit.hunks h hc hx hy hs b hr (P.Old+H9 P) (P.New+M3 P) (eB l x.length ctx b) H.oe H.ne w1 w2 (by omega)
  obtain ⟨k1,⟨k2,k2'⟩,k3,⟨k4,k4'⟩,k5,k6,k7,k8⟩:=n6 _ _ _ _ _ _ h.sc a (show a < l.length by omega)
  have h1:=H.old
  have h2:=H.new
  have h3:=H.o0
  have h4:=H.n0
  have h5:=H.ox
  have h6:=H.ny
  have h7:=h.lx
  have h8:=h.ly
  have n1:0≤H9 P:=by unfold H9;omega
  have n2:0≤M3 P:=by unfold M3;omega
  have hgap:e+eA l ctx a≤(cAt l a).Old - eoI 0 l a:=by
   by_cases h0:a=0
   ·have:=he0 h0;omega
   ·have:=A86 ho h0;omega
  obtain ⟨r1,r2,r3,r4⟩:=h.nn a (by omega)
  have hij:i≤P.Old∧j≤P.New∧P.Old - i=P.New - j∧0≤i∧0≤j:=by omega
  have hsub:∀(z:List Str) (i f t:Int),0≤i→i≤f→f≤t→∀r:List Str,r.Sublist (z.drop t.toNat)→(sub z f t++r).Sublist (z.drop i.toNat):=by
   intro z i f t h0 h1 h2 r hr
   have e1:z.drop f.toNat=sub z f t++z.drop t.toNat:=by
    unfold sub
    rw [show t.toNat=f.toNat+(t.toNat - f.toNat) by omega,←List.drop_drop,show f.toNat+(t.toNat - f.toNat) - f.toNat=t.toNat - f.toNat by omega,G40]
   have e2:z.drop f.toNat=(z.drop i.toNat).drop (f.toNat - i.toNat):=by rw [List.drop_drop];congr 1;omega
   refine List.Sublist.trans ?_ (List.drop_sublist (f.toNat - i.toNat) (z.drop i.toNat))
   rw [←e2,e1]
   exact List.Sublist.append_left hr _
  have key:∀(k:UInt8),E8 ((hk::hs).map (F6 l x y)) k=B9 P.Lines k++E8 (hs.map (F6 l x y)) k:=by
   intro k;rw [hP];simp [E8]
  refine ⟨?_,?_,?_,?_⟩
  ·rw [G15,←hP]
   simp only [S8,H.gl hx hy,i1,Bool.and_true,Bool.true_and,G08,decide_eq_true_eq]
   refine ⟨?_,by omega⟩
   unfold N7
   rw [H.ch]
   rintro (((((e0 | e0) | e0) | e0) | e0) | e0)
   ·cases e0
   all_goals omega
  ·rw [key,H.ol]
   exact hsub x i P.Old (P.Old+H9 P) hij.2.2.2.1 hij.1 (by omega) _ i2
  ·rw [key,H.nl]
   exact hsub y j P.New (P.New+M3 P) hij.2.2.2.2 hij.2.1 (by omega) _ i3
  ·rw [G15,←hP]
   intro p hp
   rcases List.mem_cons.1 hp with rfl | hp
   ·exact ⟨⟨h5,h6,h3,h4⟩,H.ol,H.nl⟩
   ·exact i4 p hp
theorem B54:∀{s z:List Str},s.Sublist z→L5 z=true→L5 s=true:=by
 intro s z hs
 induction hs with
 | slnil=>exact fun h=>h
 | cons a _ ih =>
  intro h
  simp only [L5,G08] at h
  exact ih h.2
 | cons_cons a hs2 ih =>
  intro h
  simp only [L5,G08,G32] at h ⊢
  refine ⟨?_,ih h.2⟩
  rcases h.1 with h1 | h1
  ·left
   rw [List.isEmpty_iff] at h1 ⊢
   rw [h1] at hs2
   exact List.sublist_nil.1 hs2
  ·exact .inr h1
def G2 (l:List Change) (x y:List Str) (ctx:Int):List PatchHunk:=(F8 l x.length ctx l.length).map (F6 l x y)
theorem ScFit.good (h:ScFit x y l) {ctx:Int} (hc:0≤ctx) (hx:∀s∈x,I2 s=true) (hy:∀s∈y,I2 s=true) (ex:L5 x=true) (ey:L5 y=true):M5 (G2 l x y ctx)=true:=by
 obtain ⟨h1,h2,h3,_⟩:=h.hunks hc hx hy _ 0 (A35 l x.length ctx l.length) 0 0 0 rfl rfl (Int.le_refl _) hc (fun _=>rfl)
 unfold M5 B75 G2
 rw [h1,B54 h2 (by simpa using ex),B54 h3 (by simpa using ey)]
 rfl
theorem ScFit.texts (h:ScFit x y l) {ctx:Int} (hc:0≤ctx) (hx:∀s∈x,I2 s=true) (hy:∀s∈y,I2 s=true):∀p∈G2 l x y ctx,(p.Old+H9 p≤x.length∧p.New+M3 p≤y.length∧0≤p.Old∧0≤p.New)∧B9 p.Lines 43=sub x p.Old (p.Old+H9 p)∧B9 p.Lines 45=sub y p.New (p.New+M3 p) :=
 (h.hunks hc hx hy _ 0 (A35 l x.length ctx l.length) 0 0 0 rfl rfl (Int.le_refl _) hc (fun _=>rfl)).2.2.2
end
theorem C02 (cur:Str) (c:UInt8) (h:∀z∈cur,z≠10):I2 (cur++[c])=true:=by
 unfold I2
 simp only [List.dropLast_concat,G08]
 refine ⟨List.all_eq_true.2 fun z hz=>by simpa using h z hz,by simp⟩
theorem A69:∀(s cur:Str),(∀z∈cur,z≠10)→(∀t∈F1 cur s,I2 t=true)∧L5 (F1 cur s)=true
 | [],cur,hc=>by
  unfold F1
  split
  ·exact ⟨by simp,rfl⟩
  ·rename_i h
   refine ⟨fun t ht=>?_,rfl⟩
   obtain rfl:t=cur:=by simpa using ht
   obtain ⟨d,r,e⟩:∃d r,t=r++[d]:=⟨t.getLast h,t.dropLast,(List.dropLast_concat_getLast h).symm⟩
   rw [e]
   exact C02 r d fun z hz=>hc z (by rw [e];simp [hz])
 | c::r,cur,hc=>by
  rw [j3]
  by_cases h:c=10
  ·rw [if_pos h]
   obtain ⟨h1,h2⟩:=A69 r [] (by simp)
   refine ⟨fun t ht=>?_,?_⟩
   ·rcases List.mem_cons.1 ht with rfl | ht
    ·exact C02 cur c hc
    ·exact h1 t ht
   ·simp only [L5,h2,Bool.and_true,G32]
    right;unfold ended;subst h;simp
  ·rw [if_neg h]
   refine A69 r (cur++[c]) fun z hz=>?_
   rcases List.mem_append.1 hz with hz | hz
   ·exact hc z hz
   ·simp at hz;subst hz;exact h
theorem d9 (b:Str):(∀t∈B6 b,I2 t=true)∧L5 (B6 b)=true:=A69 b [] (by simp)
end Go.AL
namespace Go.AL
open Go
theorem B77 {m n:Int} (hm:G9 m) (hn:G9 n):∀(p:List Span) (i j i0 j0:Int) (k0:Nat),Asc m n i j p→0≤i0→0≤j0→i0≤i→i - i0=j - j0→(0 < k0→i0 < i)→I3 k0 i0 j0 (Q9 i j p m n) m n=true
 | [],i,j,i0,j0,k0,ha,h1,h2,h3,h4,h5=>by
  obtain ⟨a1,a2⟩:i≤m∧j≤n:=ha
  obtain ⟨m1,m2⟩:=hm
  obtain ⟨n1,n2⟩:=hn
  unfold Q9
  split
  ·rename_i hc
   simp only [I3,G08,decide_eq_true_eq]
   refine ⟨?_,by omega⟩
   unfold C62 G9
   show ¬(((((((¬(0≤i∧i≤4096)∨¬(0≤m - i∧m - i≤4096))∨¬(0≤j∧j≤4096))∨¬(0≤n - j∧n - j≤4096))∨m - i+(n - j)=0)∨i - i0≠j - j0)∨i < i0)∨(0 < (k0:Int)∧i=i0))
   omega
  ·simp only [I3,decide_eq_true_eq];omega
 | x::r,i,j,i0,j0,k0,ha,h1,h2,h3,h4,h5=>by
  obtain ⟨a1,a2,a3⟩:=ha
  have hle:=a3.le
  unfold Q9
  split
  ·rename_i hc
   simp only [G39,G36,I3,G08,decide_eq_true_eq]
   refine ⟨?_,?_⟩
   ·obtain ⟨m1,m2⟩:=hm
    obtain ⟨n1,n2⟩:=hn
    unfold C62 G9
    show ¬(((((((¬(0≤i∧i≤4096)∨¬(0≤x.From - i∧x.From - i≤4096))∨¬(0≤j∧j≤4096))∨¬(0≤x.To - j∧x.To - j≤4096))∨x.From - i+(x.To - j)=0)∨i - i0≠j - j0)∨i < i0)∨(0 < (k0:Int)∧i=i0))
    omega
   ·exact B77 hm hn r _ _ _ _ _ a3 (by omega) (by omega) (by omega) (by omega) (fun _=>by omega)
  ·rw [G36]
   exact B77 hm hn r _ _ _ _ _ a3 h1 h2 (by omega) (by omega) (fun h=>by omega)
def EqAt (X Y:List Str) (s:Span):Prop:=0≤s.From∧0≤s.To∧∃v,X[s.From.toNat]?=some v∧Y[s.To.toNat]?=some v
theorem A10 {X:List Str} {a b:Int} {v:Str} (h0:0≤a) (h1:a≤b) (hv:X[b.toNat]?=some v):sub X a (b+1)=sub X a b++[v]:=by
 rw [←A36 X h0 h1 (by omega:b≤b+1)]
 congr 1
 unfold sub
 obtain ⟨hl,e⟩:=List.getElem?_eq_some_iff.1 hv
 rw [G12 hl,e,show (b+1).toNat - b.toNat=1 by omega]
 rfl
theorem B78 {X Y:List Str}:∀(p:List Span) (i j i0 j0:Int),Asc X.length Y.length i j p→0≤i0→0≤j0→i0≤i→j0≤j→(∀s∈p,EqAt X Y s)→sub X i0 i=sub Y j0 j→A67 X Y i0 j0 (Q9 i j p X.length Y.length)
 | [],i,j,i0,j0,ha,h1,h2,h3,h4,he,hs=>by
  obtain ⟨a1,a2⟩:i≤(X.length:Int)∧j≤(Y.length:Int):=ha
  unfold Q9
  split
  ·refine ⟨hs,?_⟩
   show sub X (i+(X.length - i)) X.length=sub Y (j+(Y.length - j)) Y.length
   rw [show i+((X.length:Int) - i)=X.length by omega,show j+((Y.length:Int) - j)=Y.length by omega,y4,y4]
  ·have e1:(X.length:Int)=i:=by omega
   have e2:(Y.length:Int)=j:=by omega
   show sub X i0 X.length=sub Y j0 Y.length
   rw [e1,e2];exact hs
 | x::r,i,j,i0,j0,ha,h1,h2,h3,h4,he,hs=>by
  obtain ⟨a1,a2,a3⟩:=ha
  obtain ⟨_,_,v,v1,v2⟩:=he x (by simp)
  have hr:∀s∈r,EqAt X Y s:=fun s hs=>he s (by simp [hs])
  unfold Q9
  split
  ·refine ⟨hs,?_⟩
   show A67 X Y (i+(x.From - i)) (j+(x.To - j)) (Q9 (x.From+1) (x.To+1) r X.length Y.length)
   rw [show i+(x.From - i)=x.From by omega,show j+(x.To - j)=x.To by omega]
   refine B78 r _ _ _ _ a3 (by omega) (by omega) (by omega) (by omega) hr ?_
   rw [A10 (by omega) (Int.le_refl _) v1,A10 (by omega) (Int.le_refl _) v2,y4,y4]
  ·have e1:x.From=i:=by omega
   have e2:x.To=j:=by omega
   rw [G36]
   refine B78 r _ _ _ _ a3 h1 h2 (by omega) (by omega) hr ?_
   rw [A10 h1 (by omega) v1,A10 h2 (by omega) v2,e1,e2,hs]
theorem F47:∀(a b:List Int) (p q:Int),∀s∈I7 p q a b,p≤s.From∧q≤s.To∧∃v,a[(s.From - p).toNat]?=some v∧b[(s.To - q).toNat]?=some v:=by
 intro a
 induction a with
 | nil=>intro b p q s hs;simp [I7] at hs
 | cons x a iha =>
  intro b
  induction b with
  | nil=>intro p q s hs;simp [I7] at hs
  | cons y b ihb =>
   intro p q s hs
   unfold I7 at hs
   split at hs
   ·rename_i e
    rcases List.mem_cons.1 hs with rfl | hs
    ·exact ⟨Int.le_refl _,Int.le_refl _,x,by simp,by simp [e]⟩
    ·obtain ⟨h1,h2,v,h3,h4⟩:=iha b (p+1) (q+1) s hs
     refine ⟨by omega,by omega,v,?_,?_⟩
     ·rw [show (s.From - p).toNat=(s.From - (p+1)).toNat+1 by omega];simpa using h3
     ·rw [show (s.To - q).toNat=(s.To - (q+1)).toNat+1 by omega];simpa using h4
   ·split at hs
    ·obtain ⟨h1,h2,v,h3,h4⟩:=iha (y::b) (p+1) q s hs
     refine ⟨by omega,by omega,v,?_,h4⟩
     rw [show (s.From - p).toNat=(s.From - (p+1)).toNat+1 by omega];simpa using h3
    ·obtain ⟨h1,h2,v,h3,h4⟩:=ihb p (q+1) s hs
     refine ⟨by omega,by omega,v,h3,?_⟩
     rw [show (s.To - q).toNat=(s.To - (q+1)).toNat+1 by omega];simpa using h4
theorem A70:∀(l:List Str) (s t:Str) (k:Int),0≤k→s∈l→t∈l→N0 l s k=N0 l t k→s=t
 | [],_,_,_,_,h,_,_=>by simp at h
 | x::r,s,t,k,hk,hs,ht,e=>by
  unfold N0 at e
  by_cases h1:x=s
  ·by_cases h2:x=t
   ·exact h1.symm.trans h2
   ·rw [if_pos h1,if_neg h2] at e
    have ht':t∈r:=(List.mem_cons.1 ht).resolve_left (fun q=>h2 q.symm)
    have:=C60 r t (k+1) (by omega) ht'
    omega
  ·have hs':s∈r:=(List.mem_cons.1 hs).resolve_left (fun q=>h1 q.symm)
   by_cases h2:x=t
   ·rw [if_neg h1,if_pos h2] at e
    have:=C60 r s (k+1) (by omega) hs'
    omega
   ·rw [if_neg h1,if_neg h2] at e
    exact A70 r s t (k+1) (by omega) hs' ((List.mem_cons.1 ht).resolve_left (fun q=>h2 q.symm)) e
theorem A87 {names f:List Str} {i:Nat} {v:Int} (h:(H3 names f)[i]?=some v):∃s,f[i]?=some s∧N0 names s 0=v:=by
 unfold H3 at h
 rw [G41] at h
 cases hf:f[i]? with
 | none=>rw [hf] at h;cases h
 | some s=>rw [hf] at h;exact ⟨s,rfl,Option.some.inj h⟩
theorem B19 (x y:List Str) (hx:x.length≤4096) (hy:y.length≤4096):ScFit x y (E7 x y):=by
 have l1:(H3 (D6 [x,y]) x).length=x.length:=by simp [H3]
 have l2:(H3 (D6 [x,y]) y).length=y.length:=by simp [H3]
 have hA:=E81 (H3 (D6 [x,y]) x) (H3 (D6 [x,y]) y) 0 0
 rw [l1,l2,Int.zero_add,Int.zero_add] at hA
 refine ⟨by omega,by omega,?_,?_⟩
 ·unfold E7 A24 A23
  rw [l1,l2]
  exact B77 ⟨by omega,by omega⟩ ⟨by omega,by omega⟩ _ _ _ _ _ _ hA (Int.le_refl _) (Int.le_refl _) (Int.le_refl _) rfl (fun h=>absurd h (by omega))
 ·unfold E7 A24 A23
  rw [l1,l2]
  refine B78 _ _ _ _ _ hA (Int.le_refl _) (Int.le_refl _) (Int.le_refl _) (Int.le_refl _) ?_ (by rw [y4,y4])
  intro s hs
  obtain ⟨h1,h2,v,h3,h4⟩:=F47 _ _ _ _ s hs
  rw [Int.sub_zero] at h3 h4
  obtain ⟨u,u1,u2⟩:=A87 h3
  obtain ⟨w,w1,w2⟩:=A87 h4
  have e:u=w:=A70 (D6 [x,y]) u w 0 (Int.le_refl _) (Z0 _ _ x (by simp) (G30 u1)) (Z0 _ _ y (by simp) (G30 w1)) (u2.trans w2.symm)
  subst e
  exact ⟨h1,h2,u,u1,w1⟩
theorem D41:∀(ls:List PatchLine),ls.all S7=true→(ls.map szL).sum≤64*((B9 ls 43).length+(B9 ls 45).length)+((B9 ls 43).flatten.length+(B9 ls 45).flatten.length)
 | [],_=>by simp
 | q::ls,h=>by
  rw [List.all_cons,G08] at h
  have ih:=D41 ls h.2
  have hk:q.Kind=32∨q.Kind=45∨q.Kind=43:=by
   have hg:=h.1
   unfold S7 at hg
   have hg:=A0 hg
   by_cases h1:q.Kind=32
   ·exact .inl h1
   by_cases h2:q.Kind=45
   ·exact .inr (.inl h2)
   by_cases h3:q.Kind=43
   ·exact .inr (.inr h3)
   exact absurd (.inl ⟨⟨h1,h2⟩,h3⟩) hg
  have hd:∀k:UInt8,B9 (q::ls) k=if q.Kind≠k then q.Text::B9 ls k else B9 ls k:=by
   intro k
   unfold B9
   by_cases e:q.Kind=k
   ·rw [if_neg (by simpa using e),List.filter_cons_of_neg (by simpa using e)]
   ·rw [if_pos e,List.filter_cons_of_pos (by simpa using e)];rfl
  rw [hd 43,hd 45,G15,G34]
  have hz:szL q=q.Text.length+64:=rfl
  rcases hk with e | e | e<;>rw [e]<;>simp (decide:=true) only [if_true,if_false,ne_eq,not_true_eq_false,not_false_eq_true,G10,G29,G07]<;>omega
theorem B55:∀(hs:List PatchHunk) (i j:Int),S8 i j hs=true→szP hs≤128*((E8 hs 43).length+(E8 hs 45).length)+((E8 hs 43).flatten.length+(E8 hs 45).flatten.length)
 | [],_,_,_=>by simp [szP]
 | h :: hs,i,j,hg=>by
  simp only [S8,G08,decide_eq_true_eq] at hg
  obtain ⟨h1,h2,h3,h4⟩:=hg
  have ih:=B55 hs _ _ h4
  have hl:=D41 h.Lines h1
  have hne:1≤h.Lines.length:=by
   cases hq:h.Lines with
   | nil=>exact absurd (.inl (.inl (.inl (.inl (.inl (by rw [hq];rfl)))))) h2
   | cons a b=>simp
  have hcnt:h.Lines.length≤(B9 h.Lines 43).length+(B9 h.Lines 45).length:=by
   have:64*h.Lines.length≤(h.Lines.map szL).sum:=P1 h.Lines
   have key:∀ls:List PatchLine,ls.length≤(B9 ls 43).length+(B9 ls 45).length:=by
    intro ls
    induction ls with
    | nil=>simp
    | cons q ls ih =>
     have hd:∀k:UInt8,(B9 (q::ls) k).length=if q.Kind≠k then (B9 ls k).length+1 else (B9 ls k).length:=by
      intro k
      unfold B9
      by_cases e:q.Kind=k
      ·rw [if_neg (by simpa using e),List.filter_cons_of_neg (by simpa using e)]
      ·rw [if_pos e,List.filter_cons_of_pos (by simpa using e)];simp
     rw [hd 43,hd 45,G10]
     by_cases e:q.Kind=43
     ·have e2:q.Kind≠45:=by rw [e];decide
      rw [if_pos e2];split<;>omega
     ·rw [if_pos e];split<;>omega
   exact key h.Lines
  have hsz:szP (h::hs)=szH h+szP hs:=by simp [szP]
  have hszh:szH h=64+(h.Lines.map szL).sum:=rfl
  have hs1:∀k,E8 (h::hs) k=B9 h.Lines k++E8 hs k:=by intro k;simp [E8]
  rw [hsz,hszh,hs1 43,hs1 45]
  simp only [G07,G20]
  omega
theorem C03:∀{s z:List Str},s.Sublist z→s.flatten.length≤z.flatten.length:=by
 intro s z hs
 induction hs with
 | slnil=>exact Nat.le_refl _
 | cons a _ ih=>simp only [G29,G07];omega
 | cons_cons a _ ih=>simp only [G29,G07];omega
theorem ScFit.size {x y:List Str} {l:List Change} (h:ScFit x y l) {ctx:Int} (hc:0≤ctx) (hx:∀s∈x,I2 s=true) (hy:∀s∈y,I2 s=true):szP (G2 l x y ctx)≤128*(x.length+y.length)+(x.flatten.length+y.flatten.length):=by
 obtain ⟨h1,h2,h3,_⟩:=h.hunks hc hx hy _ 0 (A35 l x.length ctx l.length) 0 0 0 rfl rfl (Int.le_refl _) hc (fun _=>rfl)
 have h4:=B55 _ _ _ h1
 have e:G2 l x y ctx=(F8 l x.length ctx l.length).map (F6 l x y):=rfl
 rw [←e] at h2 h3 h4
 have h2':(E8 (G2 l x y ctx) 43).Sublist x:=by simpa using h2
 have h3':(E8 (G2 l x y ctx) 45).Sublist y:=by simpa using h3
 have:=h2'.length_le
 have:=h3'.length_le
 have:=C03 h2'
 have:=C03 h3'
 omega
theorem C73 (s:Str):∀cur:Str,(F1 cur s).flatten=cur++s:=by
 induction s with
 | nil=>intro cur;unfold F1;split<;>simp [*]
 | cons c r ih=>intro cur;rw [j3];split<;>simp [ih]
theorem V5 (a:Str):(B6 a).flatten.length=a.length∧(B6 a).length≤a.length:=⟨by unfold B6;rw [C73];rfl,O9 a⟩
theorem j4 {a:Str} (h:a.length≤4096):D4 a=(B6 a,0):=by
 have:=O9 a
 unfold D4;rw [if_neg (by omega)]
theorem E47 (on nn a b:Str) (ctx:Int) (hn:J0 on=true) (hn':J0 nn=true) (hc:0≤ctx) (hc':ctx≤1048576) (ha:a.length≤4096) (hb:b.length≤4096) :
  A33 on nn a b ctx=(⟨on,nn,G2 (E7 (B6 a) (B6 b)) (B6 a) (B6 b) ctx⟩,0)∧D9 ⟨on,nn,G2 (E7 (B6 a) (B6 b)) (B6 a) (B6 b) ctx⟩=0∧ScFit (B6 a) (B6 b) (E7 (B6 a) (B6 b)):=by
 obtain ⟨f1,f2⟩:=V5 a
 obtain ⟨f3,f4⟩:=V5 b
 have hfit:=B19 (B6 a) (B6 b) (by omega) (by omega)
 obtain ⟨a1,a2⟩:=d9 a
 obtain ⟨b1,b2⟩:=d9 b
 have hg:=hfit.good hc a1 b1 a2 b2
 have hz:=hfit.size hc a1 b1
 have hgr:K7 (E7 (B6 a) (B6 b)) (B6 a).length (B6 b).length ctx=(F8 (E7 (B6 a) (B6 b)) (B6 a).length ctx (E7 (B6 a) (B6 b)).length,0):=by
  unfold K7
  rw [if_neg (by omega),hfit.check,if_neg (by simp)]
 have hm:G6 (B6 a) (B6 b) ctx=G2 (E7 (B6 a) (B6 b)) (B6 a) (B6 b) ctx:=by
  unfold G6 G2;rw [hgr]
 have hch:D9 ⟨on,nn,G2 (E7 (B6 a) (B6 b)) (B6 a) (B6 b) ctx⟩=0:=by
  unfold D9
  have hw:(O0 ⟨on,nn,G2 (E7 (B6 a) (B6 b)) (B6 a) (B6 b) ctx⟩).length≤16777216:=by
   have h1:(O0 ⟨on,nn,G2 (E7 (B6 a) (B6 b)) (B6 a) (B6 b) ctx⟩).length≤(W5 ⟨on,nn,G2 (E7 (B6 a) (B6 b)) (B6 a) (B6 b) ctx⟩).flatten.length+szP (G2 (E7 (B6 a) (B6 b)) (B6 a) (B6 b) ctx):=by
    unfold O0 A31
    rw [G20,G07]
    have:=W2 (G2 (E7 (B6 a) (B6 b)) (B6 a) (B6 b) ctx)
    show _+((G2 (E7 (B6 a) (B6 b)) (B6 a) (B6 b) ctx).map R3).flatten.flatten.length≤_
    omega
   have h2:=Z3 ⟨on,nn,G2 (E7 (B6 a) (B6 b)) (B6 a) (B6 b) ctx⟩
   have h3:(W5 ⟨on,nn,G2 (E7 (B6 a) (B6 b)) (B6 a) (B6 b) ctx⟩).flatten.length≤4*on.length+4*nn.length+14:=h2
   unfold J0 at hn hn'
   have:=A0 hn
   have:=A0 hn'
   omega
  rw [if_neg (by rw [show (Patch.mk on nn (G2 (E7 (B6 a) (B6 b)) (B6 a) (B6 b) ctx)).OldName=on from rfl,show (Patch.mk on nn (G2 (E7 (B6 a) (B6 b)) (B6 a) (B6 b) ctx)).NewName=nn from rfl,hn,hn'];simp)]
  rw [if_neg (by rw [hg];simp),if_neg (by omega)]
 refine ⟨?_,hch,hfit⟩
 unfold A33
 rw [j4 ha,j4 hb]
 rw [if_neg (by rw [hn,hn'];simp),if_neg (by simp),if_neg (by simp),hgr,if_neg (by simp),hm,hch,if_neg (by simp)]
end Go.AL
namespace Go.AL
open Go
def C04 (c:UInt8):UInt8:=if c=45 then 43 else if c=43 then 45 else c
def n7 (q:PatchLine):PatchLine:=⟨C04 q.Kind,q.Text⟩
def z6 (h:PatchHunk):PatchHunk:=⟨h.New,h.Old,h.Lines.map n7⟩
def revP (p:Patch):Patch:=⟨p.NewName,p.OldName,p.Hunks.map z6⟩
def L7 (p:Patch):Patch × Int:=if D9 p≠0 then (O1,D9 p) else (revP p,0)
theorem szP_rev (hs:List PatchHunk):szP (hs.map z6)=szP hs:=by
 unfold szP
 rw [G43]
 congr 1
 apply List.map_congr_left
 intro h _
 show 64+((h.Lines.map n7).map szL).sum=64+(h.Lines.map szL).sum
 rw [G43];rfl
theorem B56 (p:Patch):szP (L7 p).1.Hunks≤szP p.Hunks:=by
 unfold L7
 split
 ·show szP []≤_;simp [szP]
 ·show szP (p.Hunks.map z6)≤_;rw [szP_rev];exact Nat.le_refl _
end Go.AL
namespace Go.AL
open Go
def flat (a b:List Int) (done:Nat→Nat→Bool):List Int :=
 (List.range ((a.length+1)*(b.length+1))).map fun p=>if done (p / (b.length+1)) (p % (b.length+1))=true then (dist (a.drop (p / (b.length+1))) (b.drop (p % (b.length+1))):Int) else 0
end Go.AL
namespace Go.AL
open Go
def GrX (l:List Change) (m ctx:Int):Nat→List Hunk→Nat→Prop
 | a,[],k=>a=k
 | a,h::r,k=>∃b,a < b∧opens l ctx a∧(∀c,a < c→c < b→¬opens l ctx c)∧h=mkH l m ctx a b∧GrX l m ctx b r k
theorem GrX.le {l:List Change} {m ctx:Int}:∀{hs:List Hunk} {a k:Nat},GrX l m ctx a hs k→a≤k
 | [],a,k,h=>Nat.le_of_eq h
 | _::_,a,k,⟨b,h1,_,_,_,h2⟩=>by have:=GrX.le h2;omega
theorem GrX.snoc {l:List Change} {m ctx:Int} {k n:Nat} (ho:opens l ctx k) (hk:k < n) (hno:∀c,k < c→c < n→¬opens l ctx c):∀{hs:List Hunk} {a:Nat},GrX l m ctx a hs k→GrX l m ctx a (hs++[mkH l m ctx k n]) n
 | [],a,h=>by
  obtain rfl:a=k:=h
  exact ⟨n,hk,ho,hno,rfl,rfl⟩
 | _::_,a,⟨b,h1,h2,h3,h4,h5⟩=>⟨b,h1,h2,h3,h4,GrX.snoc ho hk hno h5⟩
theorem GrX.last {l:List Change} {m ctx:Int} {k:Nat} (hno:¬opens l ctx k):∀{hs:List Hunk} {a:Nat},GrX l m ctx a hs k→hs≠[]→GrX l m ctx a (hs.set (hs.length - 1) (A29 l m ctx k (hs.getD (hs.length - 1) B96))) (k+1)
 | [],_,_,h0=>absurd rfl h0
 | [h],a,⟨b,h1,h2,h3,h4,h5⟩,_=>by
  obtain rfl:b=k:=h5
  subst h4
  refine ⟨b+1,by omega,h2,fun c hc1 hc2=>?_,rfl,rfl⟩
  by_cases hcb:c=b
  ·rw [hcb];exact hno
  ·exact h3 c hc1 (by omega)
 | h::h'::r,a,⟨b,h1,h2,h3,h4,h5⟩,_=>by
  have ih:=GrX.last hno h5 (by simp)
  refine ⟨b,h1,h2,h3,h4,?_⟩
  simpa using ih
theorem GrX.len {l:List Change} {m ctx:Int}:∀{hs:List Hunk} {a k:Nat},GrX l m ctx a hs k→hs.length≤k - a
 | [],_,_,_=>Nat.zero_le _
 | _::_,a,k,⟨b,h1,_,_,_,h2⟩=>by have:=GrX.len h2;have:=h2.le;simp only [G10];omega
end Go.AL
namespace Go.AL
open Go
end Go.AL
namespace Go.AL
open Go
theorem F21 (m n:Int):∀(l:List Change) (k0:Nat) (i j:Int),(∀k,k < l.length→G9 (cAt l k).Old∧G9 (cAt l k).OldLen∧G9 (cAt l k).New∧G9 (cAt l k).NewLen∧(cAt l k).OldLen+(cAt l k).NewLen≠0∧(cAt l k).Old - eoI i l k=(cAt l k).New - enI j l k∧eoI i l k≤(cAt l k).Old∧(0 < k0+k→eoI i l k < (cAt l k).Old)) →
  (m - eoI i l l.length=n - enI j l l.length∧eoI i l l.length≤m)→I3 k0 i j l m n=true
 | [],k0,i,j,_,h=>by
  have h1:m - i=n - j∧i≤m:=h
  simp only [I3,decide_eq_true_eq];omega
 | c::r,k0,i,j,h,he=>by
  simp only [I3,G08,decide_eq_true_eq]
  refine ⟨?_,F21 m n r (k0+1) _ _ (fun k hk=>?_) ?_⟩
  ·obtain ⟨h1,h2,h3,h4,h5,h6,h7,h8⟩:=h 0 (by simp)
   have h1:G9 c.Old:=h1
   have h2:G9 c.OldLen:=h2
   have h3:G9 c.New:=h3
   have h4:G9 c.NewLen:=h4
   have h5:c.OldLen+c.NewLen≠0:=h5
   have h6:c.Old - i=c.New - j:=h6
   have h7:i≤c.Old:=h7
   have h8:0 < k0+0→i < c.Old:=h8
   unfold C62
   rintro (((((((q | q) | q) | q) | q) | q) | q) | ⟨q,q2⟩)
   ·exact q h1
   ·exact q h2
   ·exact q h3
   ·exact q h4
   ·exact h5 q
   ·exact q h6
   ·omega
   ·have:=h8 (by omega);omega
  ·have:=h (k+1) (by simpa using hk)
   rw [B53,m8,m9] at this
   obtain ⟨e1,e2,e3,e4,e5,e6,e7,e8⟩:=this
   exact ⟨e1,e2,e3,e4,e5,e6,e7,fun h0=>e8 (by omega)⟩
  ·rw [G10,m8,m9] at he;exact he
theorem F22 (x y:List Str):∀(l:List Change) (i j:Int),(∀k,k < l.length→sub x (eoI i l k) (cAt l k).Old=sub y (enI j l k) (cAt l k).New)→sub x (eoI i l l.length) x.length=sub y (enI j l l.length) y.length→A67 x y i j l
 | [],_,_,_,h=>h
 | c::r,i,j,h,he=>by
  refine ⟨h 0 (by simp),F22 x y r _ _ (fun k hk=>?_) ?_⟩
  ·have:=h (k+1) (by simpa using hk)
   rw [B53,m8,m9] at this;exact this
  ·rw [G10,m8,m9] at he;exact he
theorem F23 {x:List Str} {p q:Int} {t:Nat} (h0:0≤p) (h:p+t < q):(sub x p q)[t]?=x[(p+t).toNat]?:=by
 unfold sub
 rw [List.getElem?_take,if_pos (by omega),G26]
 congr 1;omega
theorem D81 {x y:List Str} {p q p' q':Int} (h:sub x p q=sub y p' q') (h0:0≤p) (h0':0≤p') (hq:q≤x.length) (he:q - p=q' - p') {t:Nat} (ht:p+t < q):∃v,x[(p+t).toNat]?=some v∧y[(p'+t).toNat]?=some v:=by
 have h1:x[(p+t).toNat]?=some x[(p+t).toNat]:=G09 (by omega)
 refine ⟨_,h1,?_⟩
 rw [←F23 (q:=q') h0' (by omega),←h,F23 h0 ht];exact h1
theorem C05 {i j:Int} {n:Nat} {p:Span} (h:p∈C12 i j n):∃t:Nat,t < n∧p=⟨i+t,j+t⟩:=by
 unfold C12 at h
 obtain ⟨t,h1,h2⟩:=List.mem_map.1 h
 exact ⟨t,List.mem_range.1 h1,h2.symm⟩
theorem C74 {x y:List Str}:∀(l:List Change) (k0:Nat) (i j:Int),I3 k0 i j l x.length y.length=true→A67 x y i j l→0≤i→0≤j→∀p∈A07 i j l x.length,EqAt x y p
 | [],k0,i,j,hs,he,hi,hj,p,hp=>by
  simp only [I3,decide_eq_true_eq] at hs
  unfold A07 at hp
  obtain ⟨t,ht,rfl⟩:=C05 hp
  have he:sub x i x.length=sub y j y.length:=he
  exact ⟨by dsimp only;omega,by dsimp only;omega,D81 he hi hj (by omega) (by omega) (by omega)⟩
 | c::r,k0,i,j,hs,he,hi,hj,p,hp=>by
  have hok:=x7 _ _ _ _ _ _ hs
  have g:=n6 x.length y.length (c::r) k0 i j hs 0 (by simp)
  obtain ⟨g1,g2,g3,g4,g5,g6,g7,_⟩:=g
  have g1:G9 c.Old:=g1
  have g2:G9 c.OldLen:=g2
  have g3:G9 c.New:=g3
  have g4:G9 c.NewLen:=g4
  have g6:c.Old - i=c.New - j:=g6
  have g7:i≤c.Old:=g7
  simp only [I3,G08,decide_eq_true_eq] at hs
  unfold A07 at hp
  unfold G9 at g1 g2 g3 g4
  have hm:=hok.2.2.2.2.2.2.end_le
  rcases List.mem_append.1 hp with hp | hp
  ·obtain ⟨t,ht,rfl⟩:=C05 hp
   exact ⟨by dsimp only;omega,by dsimp only;omega,D81 he.1 hi hj (by omega) (by omega) (by omega)⟩
  ·rw [show max i c.Old+c.OldLen=c.Old+c.OldLen by omega,show j+((c.Old - i).toNat:Int)+c.NewLen=c.New+c.NewLen by omega] at hp
   exact C74 r (k0+1) _ _ hs.2 he.2 (by omega) (by omega) p hp
theorem ScFit.pairs {x y:List Str} {l:List Change} (h:ScFit x y l):∀p∈F40 l x.length,EqAt x y p:=C74 l 0 0 0 h.sc h.eq (Int.le_refl _) (Int.le_refl _)
def A41 (c:Change):Change:=⟨c.Old+1,c.OldLen,c.New+1,c.NewLen⟩
def j5 (l:List Change) (k:Nat):List Change:=l.set k (A41 (cAt l k))
def atI (t:List Int) (i:Int):Int:=t.getD i.toNat 0
def F24 (l:List Change) (k:Nat) (t:List Int) (f n:Int):Prop:=(f+n < t.length∧atI t f=atI t (f+n))∧(k+1=l.length∨(cAt l k).Old+(cAt l k).OldLen+1 < (cAt l (k+1)).Old)
instance (l:List Change) (k:Nat) (t:List Int) (f n:Int):Decidable (F24 l k t f n):=by unfold F24;exact inferInstance
def A88 (l:List Change) (a b:List Int) (k:Nat):Bool :=
 if (cAt l k).NewLen=0 then decide (F24 l k a (cAt l k).Old (cAt l k).OldLen) else if (cAt l k).OldLen=0 then decide (F24 l k b (cAt l k).New (cAt l k).NewLen) else false
theorem V6 (l:List Change) (k:Nat):(j5 l k).length=l.length:=by simp [j5]
theorem A89 (l:List Change) {k:Nat} (hk:k < l.length) (q:Nat):cAt (j5 l k) q=if q=k then A41 (cAt l k) else cAt l q:=by
 unfold j5
 by_cases h:q=k
 ·subst h
  have:∀z,cAt (l.set q z) q=z:=fun z=>by unfold cAt;simp [hk]
  rw [if_pos rfl,this]
 ·rw [if_neg h];unfold cAt
  simp only [G13]
  rw [List.getElem?_set_ne (Ne.symm h)]
theorem B57 (l:List Change) {k:Nat} (hk:k < l.length) (q:Nat):eoI 0 (j5 l k) q=eoI 0 l q+(if q=k+1 then 1 else 0):=by
 cases q with
 | zero=>simp [eoI]
 | succ q =>
  rw [A65,A65,A89 l hk]
  by_cases h:q=k
  ·subst h;rw [if_pos rfl,if_pos rfl];simp only [T8,A41];omega
  ·rw [if_neg h,if_neg (by omega)];omega
theorem B58 (l:List Change) {k:Nat} (hk:k < l.length) (q:Nat):enI 0 (j5 l k) q=enI 0 l q+(if q=k+1 then 1 else 0):=by
 cases q with
 | zero=>simp [enI]
 | succ q =>
  rw [A66,A66,A89 l hk]
  by_cases h:q=k
  ·subst h;rw [if_pos rfl,if_pos rfl];simp only [D77,A41];omega
  ·rw [if_neg h,if_neg (by omega)];omega
structure IdsOf (x:List Str) (a:List Int):Prop where
 len:a.length=x.length
 inj:∀(i j:Nat) (u v:Str) (z:Int),x[i]?=some u→x[j]?=some v→a[i]?=some z→a[j]?=some z→u=v
theorem ScFit.down {x y:List Str} {l:List Change} {a b:List Int} (h:ScFit x y l) (ha:IdsOf x a) (hb:IdsOf y b) {k:Nat} (hk:k < l.length) (hd:A88 l a b k=true):ScFit x y (j5 l k):=by
 have hlx:=h.lx
 have hly:=h.ly
 have hg:=n6 _ _ _ 0 0 0 h.sc
 have hge:=D78 _ _ _ 0 0 0 h.sc
 have hq:=C68 _ _ _ _ _ h.eq
 have hqe:=D79 _ _ _ _ _ h.eq
 have hok:=h.ok
 obtain ⟨c,hc⟩:∃c,c=cAt l k:=⟨_,rfl⟩
 obtain ⟨g1,g2,g3,g4,g5,g6,g7,g8⟩:=hg k hk
 have hb4:=hok.get k hk
 rw [←hc] at g1 g2 g3 g4 g5 g6 g7 g8 hb4
 unfold G9 at g1 g2 g3 g4
 have eo1:eoI 0 l (k+1)=c.Old+c.OldLen:=by rw [A65,←hc];rfl
 have en1:enI 0 l (k+1)=c.New+c.NewLen:=by rw [A66,←hc];rfl
 obtain ⟨E,E',hE1,hE2,hE3,hE4,hE5,hEn⟩:∃E E':Int,sub x (c.Old+c.OldLen) E=sub y (c.New+c.NewLen) E'∧E - (c.Old+c.OldLen)=E' - (c.New+c.NewLen)∧E≤x.length∧E'≤y.length∧(c.Old+c.OldLen < E)∧(k+1 < l.length→E=(cAt l (k+1)).Old∧E'=(cAt l (k+1)).New∧c.Old+c.OldLen+1 < E):=by
  by_cases hl:k+1=l.length
  ·rw [←hl,eo1,en1] at hge hqe
   refine ⟨x.length,y.length,hqe,by omega,by omega,by omega,?_,fun q=>absurd hl (by omega)⟩
   unfold A88 at hd
   rw [←hc] at hd
   split at hd
   ·have:=(A0 hd).1.1;rw [ha.len] at this;omega
   ·split at hd
    ·have:=(A0 hd).1.1;rw [hb.len] at this;omega
    ·cases hd
  ·have hl:k+1 < l.length:=by omega
   obtain ⟨f1,f2,f3,f4,f5,f6,f7,f8⟩:=hg (k+1) hl
   have f9:=hq (k+1) hl
   have f10:=hok.get (k+1) hl
   rw [eo1,en1] at f6 f9
   rw [eo1] at f7
   unfold G9 at f2 f4
   have hroom:c.Old+c.OldLen+1 < (cAt l (k+1)).Old:=by
    unfold A88 at hd
    rw [←hc] at hd
    split at hd
    ·have:=(A0 hd).2;rw [←hc] at this;omega
    ·split at hd
     ·have:=(A0 hd).2;rw [←hc] at this;omega
     ·cases hd
   exact ⟨_,_,f9,by omega,by omega,by omega,by omega,fun _=>⟨rfl,rfl,hroom⟩⟩
 have hv:∃v,x[c.Old.toNat]?=some v∧y[c.New.toNat]?=some v:=by
  obtain ⟨v,v1,v2⟩:=D81 (t:=0) hE1 (by omega) (by omega) (by omega) hE2 (by omega)
  simp only [Int.natCast_zero,Int.add_zero] at v1 v2
  unfold A88 at hd
  rw [←hc] at hd
  split at hd
  ·rename_i hn
   have:=(A0 hd).1.2
   rw [hn,Int.add_zero] at v2
   refine ⟨v,?_,v2⟩
   have l1:c.Old.toNat < a.length:=by rw [ha.len];omega
   have l2:(c.Old+c.OldLen).toNat < a.length:=by rw [ha.len];omega
   have hx:x[c.Old.toNat]?=some x[c.Old.toNat]:=G09 (by omega)
   have ea:a[c.Old.toNat]?=some (atI a c.Old):=by unfold atI;rw [G13,G09 l1];rfl
   have eb:a[(c.Old+c.OldLen).toNat]?=some (atI a (c.Old+c.OldLen)):=by unfold atI;rw [G13,G09 l2];rfl
   rw [←this] at eb
   have:=ha.inj _ _ _ _ _ hx v1 ea eb
   rw [hx,this]
  ·split at hd
   ·rename_i _ hn
    have:=(A0 hd).1.2
    rw [hn,Int.add_zero] at v1
    refine ⟨v,v1,?_⟩
    have l1:c.New.toNat < b.length:=by rw [hb.len];omega
    have l2:(c.New+c.NewLen).toNat < b.length:=by rw [hb.len];omega
    have hx:y[c.New.toNat]?=some y[c.New.toNat]:=G09 (by omega)
    have ea:b[c.New.toNat]?=some (atI b c.New):=by unfold atI;rw [G13,G09 l1];rfl
    have eb:b[(c.New+c.NewLen).toNat]?=some (atI b (c.New+c.NewLen)):=by unfold atI;rw [G13,G09 l2];rfl
    rw [←this] at eb
    have:=hb.inj _ _ _ _ _ hx v2 ea eb
    rw [hx,this]
   ·cases hd
 obtain ⟨v,v1,v2⟩:=hv
 have hen0:0≤eoI 0 l k∧0≤enI 0 l k:=by
  cases k with
  | zero=>simp [eoI,enI]
  | succ k =>
   obtain ⟨f1,f2,f3,f4,_⟩:=hg k (by omega)
   unfold G9 at f1 f2 f3 f4
   rw [A65,A66];unfold T8 D77;omega
 have htail:sub x (c.Old+c.OldLen+1) E=sub y (c.New+c.NewLen+1) E':=by
  have:=A68 (e:=E - (c.Old+c.OldLen) - 1) hE1 (by omega) (by omega) (by omega) (by omega) hE2
  rw [show E - (E - (c.Old+c.OldLen) - 1)=c.Old+c.OldLen+1 by omega,show E' - (E - (c.Old+c.OldLen) - 1)=c.New+c.NewLen+1 by omega] at this
  exact this
 refine ⟨hlx,hly,F21 _ _ _ 0 0 0 (fun q hql=>?_) ?_,F22 _ _ _ 0 0 (fun q hql=>?_) ?_⟩
 ·rw [V6] at hql
  rw [A89 l hk,B57 l hk,B58 l hk]
  by_cases e:q=k
  ·rw [if_pos e,if_neg (show ¬q=k+1 by omega),e,←hc]
   unfold G9
   simp only [A41]
   refine ⟨by omega,g2,by omega,g4,g5,by omega,by omega,fun _=>by omega⟩
  ·rw [if_neg e]
   obtain ⟨f1,f2,f3,f4,f5,f6,f7,f8⟩:=hg q hql
   refine ⟨f1,f2,f3,f4,f5,?_,?_,?_⟩
   ·by_cases e2:q=k+1
    ·rw [if_pos e2];omega
    ·rw [if_neg e2];omega
   ·by_cases e2:q=k+1
    ·rw [if_pos e2];have:=f8 (by omega);omega
    ·rw [if_neg e2];omega
   ·intro h0
    by_cases e2:q=k+1
    ·rw [if_pos e2,e2,eo1]
     have:=(hEn (by omega))
     omega
    ·rw [if_neg e2];have:=f8 h0;omega
 ·rw [V6,B57 l hk,B58 l hk]
  by_cases e2:l.length=k+1
  ·rw [if_pos e2,e2,eo1,en1]
   rw [e2,eo1,en1] at hge
   have h1:E≤x.length:=hE3
   omega
  ·rw [if_neg e2];omega
 ·rw [V6] at hql
  rw [A89 l hk,B57 l hk,B58 l hk]
  by_cases e:q=k
  ·rw [if_pos e,if_neg (show ¬q=k+1 by omega),e,←hc]
   simp only [A41,Int.add_zero]
   have:=hq k hk
   rw [←hc] at this
   rw [A10 hen0.1 g7 v1,A10 hen0.2 (by omega) v2,this]
  ·rw [if_neg e]
   by_cases e2:q=k+1
   ·rw [if_pos e2]
    subst e2
    obtain ⟨q1,q2,_⟩:=hEn hql
    rw [eo1,en1,←q1,←q2];exact htail
   ·rw [if_neg e2,Int.add_zero,Int.add_zero]
    exact hq q hql
 ·rw [V6,B57 l hk,B58 l hk]
  by_cases e2:l.length=k+1
  ·rw [if_pos e2]
   rw [e2,eo1,en1] at hqe hge ⊢
   have:=A68 (e:=x.length - (c.Old+c.OldLen) - 1) hqe (by omega) (by omega) (by omega) (by omega) (by omega)
   rw [show (x.length:Int) - (x.length - (c.Old+c.OldLen) - 1)=c.Old+c.OldLen+1 by omega,show (y.length:Int) - (x.length - (c.Old+c.OldLen) - 1)=c.New+c.NewLen+1 by omega] at this
   exact this
  ·rw [if_neg e2,Int.add_zero,Int.add_zero];exact hqe
def measK (l:List Change) (a b:List Int) (k:Nat):Nat:=((a.length:Int) - (cAt l k).Old).toNat+((b.length:Int) - (cAt l k).New).toNat
def C75 (a b:List Int) (k:Nat):Nat→List Change→List Change
 | 0,l=>l
 | f+1,l=>if A88 l a b k=true then C75 a b k f (j5 l k) else l
def C76 (a b:List Int) (l:List Change) (k:Nat):List Change:=C75 a b k (measK l a b k) l
def A71 (a b:List Int):Nat→List Change→List Change
 | 0,l=>l
 | k+1,l=>A71 a b k (C76 a b l k)
def c6 (l:List Change):List (Int × Int):=l.map fun c=>(c.OldLen,c.NewLen)
theorem E89 {l:List Change} {k:Nat} (hk:k < l.length):c6 (j5 l k)=c6 l:=by
 unfold c6 j5
 rw [List.map_set]
 have e:(A41 (cAt l k)).OldLen=l[k].OldLen∧(A41 (cAt l k)).NewLen=l[k].NewLen:=by unfold cAt A41;simp [hk]
 apply List.ext_getElem
 ·simp
 ·intro i h1 h2
  by_cases hi:k=i
  ·subst hi;simp [e.1,e.2]
  ·simp [hi]
section
variable {x y:List Str} {a b:List Int} (ha:IdsOf x a) (hb:IdsOf y b)
include ha hb
theorem C77 {k:Nat}:∀(f:Nat) (l:List Change),ScFit x y l→k < l.length→ScFit x y (C75 a b k f l)∧c6 (C75 a b k f l)=c6 l
 | 0,l,h,_=>⟨h,rfl⟩
 | f+1,l,h,hk=>by
  unfold C75
  by_cases hd:A88 l a b k=true
  ·rw [if_pos hd]
   have:=C77 f _ (h.down ha hb hk hd) (by rw [V6];exact hk)
   rw [E89 hk] at this;exact this
  ·rw [if_neg hd];exact ⟨h,rfl⟩
theorem D82 {l:List Change} {k:Nat} (h:ScFit x y l) (hk:k < l.length):ScFit x y (C76 a b l k)∧c6 (C76 a b l k)=c6 l:=C77 ha hb _ l h hk
omit ha hb in
theorem E48 {l l':List Change} (h:c6 l=c6 l'):l.length=l'.length:=by
 have:=congrArg List.length h
 simpa [c6] using this
theorem B59:∀(k:Nat) (l:List Change),ScFit x y l→k≤l.length→ScFit x y (A71 a b k l)∧c6 (A71 a b k l)=c6 l
 | 0,l,h,_=>⟨h,rfl⟩
 | k+1,l,h,hk=>by
  unfold A71
  obtain ⟨h1,h2⟩:=D82 ha hb h (k:=k) (by omega)
  have h3:=B59 k _ h1 (by rw [E48 h2];omega)
  rw [h2] at h3;exact h3
end
theorem D42 {names x:List Str} (h:∀s∈x,s∈names):IdsOf x (H3 names x):=by
 refine ⟨by simp [H3],fun i j u v z h1 h2 h3 h4=>?_⟩
 obtain ⟨s,s1,s2⟩:=A87 h3
 obtain ⟨t,t1,t2⟩:=A87 h4
 rw [h1] at s1;cases s1
 rw [h2] at t1;cases t1
 exact A70 names u v 0 (Int.le_refl _) (h u (G30 h1)) (h v (G30 h2)) (s2.trans t2.symm)
def downOf (l:List Change) (a b:List Int):List Change:=A71 a b l.length l
end Go.AL
namespace Go.AL
open Go
def p7 (x y:List Str) (d:Bool):List Change:=if d=true then downOf (E7 x y) (H3 (D6 [x,y]) x) (H3 (D6 [x,y]) y) else E7 x y
def n8 (on nn a b:Str) (ctx:Int) (d:Bool):Patch × Int :=
 if J0 on=false∨J0 nn=false then (O1,120)
 else if ctx < 0∨1048576 < ctx then (O1,3)
 else (⟨on,nn,G2 (p7 (B6 a) (B6 b) d) (B6 a) (B6 b) ctx⟩,0)
theorem A72 (x y:List Str) (d:Bool) (hx:x.length≤4096) (hy:y.length≤4096):ScFit x y (p7 x y d)∧c6 (p7 x y d)=c6 (E7 x y):=by
 have h:=B19 x y hx hy
 unfold p7
 cases d
 ·exact ⟨h,rfl⟩
 ·rw [if_pos rfl]
  exact B59 (D42 fun s hs=>Z0 _ _ x (by simp) hs) (D42 fun s hs=>Z0 _ _ y (by simp) hs) _ _ h (Nat.le_refl _)
theorem E49 (x y:List Str) (d:Bool) (hx:x.length≤4096) (hy:y.length≤4096):(p7 x y d).length≤x.length+1:=by
 rw [E48 (A72 x y d hx hy).2];exact o8 x y
theorem F48 {x y:List Str} {l:List Change} (h:ScFit x y l) {ctx:Int} (hc:¬(ctx < 0∨1048576 < ctx)):K7 l x.length y.length ctx=(F8 l x.length ctx l.length,0):=by
 unfold K7
 rw [if_neg hc,h.check,if_neg (by simp)]
structure Made12 (on nn a b:Str) (l:List Change) (ctx:Int):Prop where
 chk:D9 ⟨on,nn,G2 l (B6 a) (B6 b) ctx⟩=0
 wr:(O0 ⟨on,nn,G2 l (B6 a) (B6 b) ctx⟩).length≤16777216
 fit:PFit ⟨on,nn,G2 l (B6 a) (B6 b) ctx⟩
 rg:∀h∈G2 l (B6 a) (B6 b) ctx,(-4611686018427387904≤h.Old∧h.Old≤4611686018427387904)∧(-4611686018427387904≤h.New∧h.New≤4611686018427387904)
 sz:szP (G2 l (B6 a) (B6 b) ctx)≤268435456
def Few (a:Str):Prop:=a.length≤1048576∧(B6 a).length≤4096
theorem few_of {a:Str} (h:a.length≤4096):Few a:=⟨by omega,Nat.le_trans (O9 a) h⟩
theorem E90 (on nn a b:Str) (l:List Change) (ctx:Int) (hn:J0 on=true) (hn':J0 nn=true) (hc:¬(ctx < 0∨1048576 < ctx)) (ha:Few a) (hb:Few b) (hfit:ScFit (B6 a) (B6 b) l):Made12 on nn a b l ctx:=by
 obtain ⟨ha,ha2⟩:=ha
 obtain ⟨hb,hb2⟩:=hb
 obtain ⟨f1,f2⟩:=V5 a
 obtain ⟨f3,f4⟩:=V5 b
 obtain ⟨a1,a2⟩:=d9 a
 obtain ⟨b1,b2⟩:=d9 b
 have hc0:0≤ctx:=by omega
 have hg:=hfit.good hc0 a1 b1 a2 b2
 have hz:=hfit.size hc0 a1 b1
 have ht:=hfit.texts hc0 a1 b1
 have hxl:=hfit.lx
 have hyl:=hfit.ly
 obtain ⟨hs,hhs⟩:∃hs,hs=G2 l (B6 a) (B6 b) ctx:=⟨_,rfl⟩
 rw [←hhs] at hg hz ht
 have hon:=hn
 have hnn:=hn'
 unfold J0 at hon hnn
 have o1:=A0 hon
 have o2:=A0 hnn
 have hw:(O0 ⟨on,nn,hs⟩).length≤16777216:=by
  have h1:(O0 ⟨on,nn,hs⟩).length≤(W5 ⟨on,nn,hs⟩).flatten.length+szP hs:=by
   unfold O0 A31
   rw [G20,G07]
   have:=W2 hs
   show _+((hs).map R3).flatten.flatten.length≤_
   omega
  have h2:=Z3 ⟨on,nn,hs⟩
  have h3:(W5 ⟨on,nn,hs⟩).flatten.length≤4*on.length+4*nn.length+14:=h2
  omega
 refine ⟨?_,by rw [←hhs];exact hw,⟨by dsimp only;omega,by dsimp only;omega,by rw [←hhs];dsimp only;omega⟩,fun h hm=>?_,by rw [←hhs];omega⟩
 ·rw [←hhs]
  unfold D9
  rw [if_neg (by rw [show (Patch.mk on nn hs).OldName=on from rfl,show (Patch.mk on nn hs).NewName=nn from rfl,hn,hn'];simp)]
  rw [if_neg (by rw [hg];simp),if_neg (by omega)]
 ·rw [←hhs] at hm
  obtain ⟨⟨q1,q2,q3,q4⟩,_⟩:=ht h hm
  unfold H9 at q1
  unfold M3 at q2
  omega
theorem D43 (on nn a b:Str) (l:List Change) (ctx:Int) (hn:J0 on=true) (hn':J0 nn=true) (hc:¬(ctx < 0∨1048576 < ctx)) (ha:a.length≤4096) (hb:b.length≤4096) (hfit:ScFit (B6 a) (B6 b) l):Made12 on nn a b l ctx:=E90 on nn a b l ctx hn hn' hc (few_of ha) (few_of hb) hfit
end Go.AL
namespace Go.AL
open Go
section
variable {x y:List Str} {l:List Change}
end
end Go.AL
namespace Go.AL
open Go
def ChainH (x y:List Str) (i j:Int):List PatchHunk→Prop
 | []=>sub x i x.length=sub y j y.length∧0≤i∧0≤j∧i≤x.length∧j≤y.length
 | h::r=>(sub x i h.Old=sub y j h.New∧B9 h.Lines 43=sub x h.Old (h.Old+H9 h)∧B9 h.Lines 45=sub y h.New (h.New+M3 h))∧(0≤i∧0≤j∧i≤h.Old∧j≤h.New∧h.Old+H9 h≤x.length∧h.New+M3 h≤y.length)∧ChainH x y (h.Old+H9 h) (h.New+M3 h) r
theorem ScFit.chain {x y:List Str} {l:List Change} (h:ScFit x y l) {ctx:Int} (hc:0≤ctx):∀(hs:List Hunk) (a:Nat),GrOk l x.length ctx a hs l.length →
  ∀(i j e:Int),i=eoI 0 l a+e→j=enI 0 l a+e→0≤e→e≤ctx→(a=0→e=0)→i≤x.length→j≤y.length→ChainH x y i j (hs.map (F6 l x y))
 | [],a,hr,i,j,e,hi,hj,he,_,_,hix,hjy=>by
  have hr:a=l.length:=hr
  have hq:=D79 _ _ _ _ _ h.eq
  have hge:=D78 _ _ _ 0 0 0 h.sc
  obtain ⟨r1,r2,r3,r4⟩:=h.nn a (by omega)
  rw [←hr] at hq hge
  refine ⟨?_,by omega,by omega,hix,hjy⟩
  have:=A68 (e:=x.length - i) hq r1 r2 (by omega) (by omega) (by omega)
  rw [show (x.length:Int) - (x.length - i)=i by omega,show (y.length:Int) - (x.length - i)=j by omega] at this
  exact this
 | hk::hs,a,⟨b,hab,ho,hE,hr⟩,i,j,e,hi,hj,he,hec,he0,hix,hjy=>by
  have hb:=hr.le
  have hob:b < l.length→opens l ctx b:=by
   intro hlt
   cases hs with
   | nil=>exact absurd hr (by show ¬b=l.length;omega)
   | cons h2 hs2=>obtain ⟨_,_,ho2,_⟩:=hr;exact ho2
  obtain ⟨w1,w2,w3,w4,w5⟩:=h.after hc hb hob (by omega)
  obtain ⟨q1,q2,q3⟩:=h.before hc (show a < l.length by omega) ho
  have H:=h.hunk hc hab hb ho hob
  rw [←hE] at H
  obtain ⟨P,hP⟩:∃P,P=F6 l x y hk:=⟨_,rfl⟩
  rw [←hP] at H
  have ih:=ScFit.chain h hc hs b hr (P.Old+H9 P) (P.New+M3 P) (eB l x.length ctx b) H.oe H.ne w1 w2 (by omega) H.ox H.ny
  obtain ⟨k1,⟨k2,k2'⟩,k3,⟨k4,k4'⟩,k5,k6,k7,k8⟩:=n6 _ _ _ _ _ _ h.sc a (show a < l.length by omega)
  have h1:=H.old
  have h2:=H.new
  have h3:=H.o0
  have h4:=H.n0
  have hgap:e+eA l ctx a≤(cAt l a).Old - eoI 0 l a:=by
   by_cases h0:a=0
   ·have:=he0 h0;omega
   ·have:=A86 ho h0;omega
  obtain ⟨r1,r2,r3,r4⟩:=h.nn a (by omega)
  have hij:i≤P.Old∧j≤P.New∧P.Old - i=P.New - j∧0≤i∧0≤j:=by omega
  have hrun:=C68 _ _ _ _ _ h.eq a (show a < l.length by omega)
  have t1:=A68 (e:=(cAt l a).Old - i) hrun r1 r2 (by omega) (by omega) (by omega)
  rw [show (cAt l a).Old - ((cAt l a).Old - i)=i by omega,show (cAt l a).New - ((cAt l a).Old - i)=j by omega] at t1
  have t2:=C69 (e:=P.Old - i) t1 (by omega) (by omega) (by omega) (by omega) (by omega)
  rw [show i+(P.Old - i)=P.Old by omega,show j+(P.Old - i)=P.New by omega] at t2
  rw [G15,←hP]
  exact ⟨⟨t2,H.ol,H.nl⟩,⟨by omega,by omega,hij.1,hij.2.1,H.ox,H.ny⟩,ih⟩
end Go.AL
namespace Go.AL
open Go
end Go.AL
namespace Go.AL
open Go
def noNl:Str:=[92,32,78,111,32,110,101,119,108,105,110,101,32,97,116,32,101,110,100,32,111,102,32,102,105,108,101]
def lineLs (x:PatchLine):List Str:=if ended x.Text=true then [x.Kind::x.Text.dropLast] else [x.Kind::x.Text,noNl]
def headLn (h:PatchHunk):Str:=[64,64,32,45]++Q7 h.Old (H9 h)++[32,43]++Q7 h.New (M3 h)++[32,64,64]
def hunkLs (h:PatchHunk):List Str:=headLn h::(h.Lines.map lineLs).flatten
theorem check12_good {p:Patch} (h:D9 p=0):M5 p.Hunks=true:=by
 unfold D9 at h
 split at h
 ·cases h
 ·split at h
  ·cases h
  ·rename_i h1;simpa using h1
end Go.AL
namespace Go.AL
open Go
structure CHunk where
 At:List Int
 Rows:List Row
 deriving DecidableEq
structure Comb where
 Path:Str
 Dense:Bool
 Parents:Int
 Hunks:List CHunk
 deriving DecidableEq
def colNum (n k:Nat):Int:=if k=n then -1 else k
def cntC (rows:List Row) (n k:Nat):Int:=(colOf rows (colNum n k)).length
structure CRead (n:Nat) (h:CHunk):Prop where
 len:h.At.length=n+1
 ne:h.Rows≠[]
 at0:∀k,k < n+1→0≤h.At.getD k 0∧h.At.getD k 0+cntC h.Rows n k≤4096
 rows:∀r∈h.Rows,markOk n r=true∧I2 r.Text=true
end Go.AL
namespace Go.AL
open Go
end Go.AL
namespace Go.AL
open Go
end Go.AL
