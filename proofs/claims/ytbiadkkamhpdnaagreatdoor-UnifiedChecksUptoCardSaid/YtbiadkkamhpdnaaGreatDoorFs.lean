/- Plain facts about data; no project text. -/
import Derived.Test.YtbiadkkamhpdnaaGreatDoorD
import Derived.Lib.Strings
import Derived.Lib.Bytealg
import Derived.Lib.Join
import Derived.Lib.ItoaNum
import Derived.Test.YtbiadkkamhpdnaaGreatDoorAn
set_option linter.unusedSimpArgs false
namespace Go.AL
open Go
theorem F67 (c:UInt8):((c.toNat:Int)=10)↔c=10:=by
 constructor
 ·intro h
  have:c.toNat=10:=by omega
  exact UInt8.toNat_inj.1 (by simpa using this)
 ·rintro rfl;rfl
def H5 (cur:Str):Str→List Str
 | []=>if cur=[] then [] else [cur]
 | c::r=>if c=10 then (cur++[c])::H5 [] r else H5 (cur++[c]) r
def B7 (b:Str):List Str:=H5 [] b
theorem A73 (cur:Str) (s:Str):(H5 cur s).length≤s.length+1:=by
 induction s generalizing cur with
 | nil=>unfold H5;split<;>simp
 | cons c r ih=>unfold H5;split<;>simp<;>(have:=ih [];have:=ih (cur++[c]);omega)
theorem B18 (s:Str):(H5 [] s).length≤s.length:=by
 have key:∀(s cur:Str),cur≠[]→(H5 cur s).length≤s.length+1:=fun s cur _=>A73 cur s
 induction s with
 | nil=>simp [H5]
 | cons c r ih=>unfold H5;split<;>simp<;>(have:=A73 ([]++[c]) r;simp at this;omega)
theorem X0 (b:Str):(B7 b).length≤b.length:=B18 b
theorem n6 (cur r:Str) (c:UInt8):H5 cur (c::r)=if c=10 then (cur++[c])::H5 [] r else H5 (cur++[c]) r:=rfl
theorem E22 (cur:Str) (h:cur≠[]):H5 cur []=[cur]:=by simp [H5,h]
theorem or_pick {p q:Prop} [Decidable p] [Decidable q]:(if decide p=true then true else decide q)=decide (p∨q):=by by_cases p<;>simp [*]
theorem I9 {p q:Prop} [Decidable p] [Decidable q]:(if decide p=true then decide q else false)=decide (p∧q):=by by_cases p<;>simp [*]
theorem S7 {α:Type} (l:List (List α)) (i:Nat) (h:i < l.length):(l.take (i+1)).flatten=(l.take i).flatten++l[i]:=by
 rw [List.take_add_one,G82 h,Option.toList_some,G99];simp
theorem V3 {α:Type} (l:List (List α)) (i:Nat):(l.take i).flatten.length≤l.flatten.length:=by
 conv=>rhs;rw [←H12 i l,G99,G79]
 omega
theorem F31 (i:Nat):((i:Int)+1).toNat=i+1:=by omega
theorem D88 {α:Type} (b:List α) (f i:Nat) (hf:f≤i) (hi:i < b.length):(b.drop f).take (i - f)++[b[i]]=(b.drop f).take (i+1 - f):=by
 rw [show i+1 - f=(i - f)+1 by omega,List.take_add_one,H00,show f+(i - f)=i by omega,G82 hi]
 rfl
def ended (s:Str):Bool:=s.getLast? == some 10
theorem G41 (s:Str):ended s=(if decide (s≠[])=true then decide (((s.getLastD 0).toNat:Int)=10) else false):=by
 unfold ended
 by_cases h:s=[]
 ·simp [h]
 ·rw [List.getLast?_eq_some_getLast h,List.getLastD_eq_getLast?,List.getLast?_eq_some_getLast h]
  simp only [ne_eq,h,not_false_eq_true,decide_true,if_true,Option.getD_some,F67]
  rfl
def H7:List Str→Str→Int→Int
 | [],_,_ => -1
 | x::r,s,i=>if x=s then i else H7 r s (i+1)
theorem E23 (l:List Str) (s:Str) (k:Nat) (h:k < l.length):H7 (l.drop k) s k=if l[k]=s then (k:Int) else H7 (l.drop (k+1)) s ((k:Int)+1):=by
 rw [G86 h]
 simp [H7]
theorem E81 (l:List Str) (s:Str):∀(k:Int),0≤k→((H7 l s k < 0)↔s∉l):=by
 induction l with
 | nil=>intro k _;simp [H7]
 | cons x r ih =>
  intro k hk
  unfold H7
  by_cases h:x=s
  ·simp [h];omega
  ·have:=ih (k+1) (by omega)
   simp [h,this,Ne.symm h]
def O0 (s:Str):Bool:=s.dropLast.all (·≠10)&&s != []
def U8 (b:Str):Int:=if b.length > 1048576∨(B7 b).length > 4096 then 1 else 0
def H3 (out:List Str) (s:Str):List Str:=if s∈out then out else out++[s]
def C3 (files:List (List Str)):List Str:=files.flatten.foldl H3 []
def E2 (names:List Str) (file:List Str):List Int:=file.map (fun s=>H7 names s 0)
theorem C15 (out:List Str) (s:Str):(H3 out s).length≤out.length+1:=by unfold H3;split<;>simp
theorem y7 (l out:List Str):(l.foldl H3 out).length≤out.length+l.length:=by
 induction l generalizing out with
 | nil=>simp
 | cons s r ih=>have h1:=ih (H3 out s);have h2:=C15 out s;simp only [H13,G81];omega
theorem A90 (fs:List (List Str)):(C3 fs).length≤fs.flatten.length:=by have:=y7 fs.flatten [];simpa [C3] using this
end Go.AL
namespace Go.AL
open Go
def Q8 (i j:Int):List Span→Int→Int→List Change
 | [],m,n=>if m > i∨n > j then [⟨i,m - i,j,n - j⟩] else []
 | x::r,m,n=>(if x.From > i∨x.To > j then [⟨i,x.From - i,j,x.To - j⟩] else [])++Q8 (x.From+1) (x.To+1) r m n
def m6 (p:List Span) (m n:Int):List Change:=Q8 0 0 p m n
theorem D50 (p:List Span) (i j m n:Int):(Q8 i j p m n).length≤p.length+1:=by
 induction p generalizing i j with
 | nil=>unfold Q8;split<;>simp
 | cons x r ih=>unfold Q8;have:=ih (x.From+1) (x.To+1);split<;>simp<;>omega
def K7 (i j:Int) (n:Nat):List Span:=(List.range n).map fun (t:Nat)=>⟨i+(t:Int),j+(t:Int)⟩
theorem Q9 (i j:Int) (n:Nat):(K7 i j n).length=n:=by simp [K7]
theorem E24 (i j:Int) (n:Nat):K7 i j (n+1)=⟨i,j⟩::K7 (i+1) (j+1) n:=by
 unfold K7
 rw [List.range_succ_eq_map,G87,H17]
 congr 1
 ·simp
 ·refine List.map_congr_left fun t _=>?_
  simp only [Function.comp,Span.mk.injEq]
  omega
def O7 (i j:Int):List Change→Int→List Span
 | [],m=>K7 i j (m - i).toNat
 | c::r,m=>K7 i j (c.Old - i).toNat++O7 (max i c.Old+c.OldLen) (j+(c.Old - i).toNat+c.NewLen) r m
def N1 (l:List Change) (m:Int):List Span:=O7 0 0 l m
def dist:List Int→List Int→Nat
 | [],b=>b.length
 | x::a,[]=>(x::a).length
 | x::a,y::b=>if x=y then dist a b else 1+min (dist a (y::b)) (dist (x::a) b)
theorem y8 (a:List Int):dist a []=a.length:=by cases a<;>simp [dist]
theorem B09 (a b:List Int):dist a b≤a.length+b.length:=by
 induction a generalizing b with
 | nil=>simp [dist]
 | cons x a iha =>
  induction b with
  | nil=>simp [dist]
  | cons y b ihb =>
   unfold dist
   split
   ·have:=iha b;simp;omega
   ·have:=iha (y::b);have:=ihb;simp only [G81] at *;omega
def H0 (i j:Int):List Int→List Int→List Span
 | [],_=>[]
 | _::_,[]=>[]
 | x::a,y::b=>if x=y then ⟨i,j⟩::H0 (i+1) (j+1) a b else if dist a (y::b)+1=dist (x::a) (y::b) then H0 (i+1) j a (y::b) else H0 i (j+1) (x::a) b
def y9 (a b:List Int):List Change:=m6 (H0 0 0 a b) a.length b.length
theorem D89 (a b:List Int) (i j:Nat) (hi:i < a.length) (hj:j < b.length) :
  dist (a.drop i) (b.drop j)=if a[i]=b[j] then dist (a.drop (i+1)) (b.drop (j+1)) else 1+min (dist (a.drop (i+1)) (b.drop j)) (dist (a.drop i) (b.drop (j+1))):=by
 rw [G86 hi,G86 hj]
 conv=>lhs;rw [dist]
theorem p8 (a b:List Int) (i j:Nat) (hi:i < a.length) (hj:j < b.length) (p q:Int) :
  H0 p q (a.drop i) (b.drop j)=if a[i]=b[j] then ⟨p,q⟩::H0 (p+1) (q+1) (a.drop (i+1)) (b.drop (j+1)) else
   if dist (a.drop (i+1)) (b.drop j)+1=dist (a.drop i) (b.drop j) then H0 (p+1) q (a.drop (i+1)) (b.drop j) else H0 p (q+1) (a.drop i) (b.drop (j+1)):=by
 rw [G86 hi,G86 hj]
 conv=>lhs;rw [H0]
theorem V4 (p q:Int) (b:List Int):H0 p q [] b=[]:=by simp [H0]
theorem X9 (p q:Int) (a:List Int):H0 p q a []=[]:=by cases a<;>simp [H0]
theorem B26 (p q:Int) (a b:List Int):(H0 p q a b).length≤a.length:=by
 induction a generalizing p q b with
 | nil=>simp [H0]
 | cons x a iha =>
  induction b generalizing p q with
  | nil=>simp [H0]
  | cons y b ihb =>
   unfold H0
   split
   ·have:=iha (p+1) (q+1) b;simp;omega
   ·split
    ·have:=iha (p+1) q (y::b);simp;omega
    ·exact ihb p (q+1)
universe u
theorem B10 {α:Type u} (n k:Nat) (f g:Nat→α) (v:α) (hv:k < n→g k=v) (h:∀q,q < n→q≠k→g q=f q):((List.range n).map f).set k v=(List.range n).map g:=by
 refine List.ext_getElem (by simp) fun q h1 h2=>?_
 have hq:q < n:=by simpa using h2
 rw [List.getElem_set]
 by_cases he:k=q
 ·subst he;simp [hv hq]
 ·rw [if_neg he];simp [h q hq (Ne.symm he)]
theorem C16 {α:Type u} (n k:Nat) (f:Nat→α) (h:k < n):((List.range n).map f)[k]?=some (f k):=by simp [h]
def O8 (a b:List Int) (i q:Nat):List Int:=(List.range (b.length+1)).map fun j=>if q≤j then (dist (a.drop i) (b.drop j):Int) else 0
def M6 (a b:List Int) (i:Nat):List (List Int):=(List.range (a.length+1)).map fun r=>if i≤r then O8 a b r 0 else []
def B11 (a b:List Int):List (List Int):=M6 a b 0
theorem D09 (a b:List Int) (i q:Nat):(O8 a b i q).length=b.length+1:=by simp [O8]
theorem s7 (a b:List Int) (i:Nat):(M6 a b i).length=a.length+1:=by simp [M6]
theorem E25 (a b:List Int) (i:Nat):List.replicate (b.length+1) 0=O8 a b i (b.length+1):=by
 refine List.ext_getElem (by simp [O8]) fun q h1 h2=>?_
 have:¬(b.length+1≤q):=by simp at h1;omega
 simp [O8,this]
theorem D51 (a b:List Int):List.replicate (a.length+1) []=M6 a b (a.length+1):=by
 refine List.ext_getElem (by simp [M6]) fun q h1 h2=>?_
 have:¬(a.length+1≤q):=by simp at h1;omega
 simp [M6,this]
theorem E82 (a b:List Int) (i j:Nat):(O8 a b i (j+1)).set j (dist (a.drop i) (b.drop j):Int)=O8 a b i j:=by
 unfold O8
 refine B10 _ _ _ _ _ (fun _=>by simp) fun q hq hne=>?_
 by_cases h:j≤q
 ·rw [if_pos h,if_pos (by omega)]
 ·rw [if_neg h,if_neg (by omega)]
theorem p9 (a b:List Int) (i q j:Nat) (h:q≤j) (hj:j≤b.length):(O8 a b i q)[j]?=some (dist (a.drop i) (b.drop j):Int):=by
 unfold O8
 rw [C16 _ _ _ (by omega),if_pos h]
theorem E26 (a b:List Int) (i:Nat):(M6 a b (i+1)).set i (O8 a b i 0)=M6 a b i:=by
 unfold M6
 refine B10 _ _ _ _ _ (fun _=>by simp) fun q hq hne=>?_
 by_cases h:i≤q
 ·rw [if_pos h,if_pos (by omega)]
 ·rw [if_neg h,if_neg (by omega)]
theorem A55 (a b:List Int) (i r:Nat) (h:i≤r) (hr:r≤a.length):(M6 a b i)[r]?=some (O8 a b r 0):=by
 unfold M6
 rw [C16 _ _ _ (by omega),if_pos h]
theorem C17 (l:List Change) (i j m:Int) (hi:0≤i) (B:Nat) (hm:m≤B) (hl:∀c∈l,c.Old≤B∧0≤c.OldLen):((O7 i j l m).length:Int)≤max 0 (B - i):=by
 induction l generalizing i j with
 | nil=>simp only [O7,Q9];omega
 | cons c r ih =>
  have hc:=hl c (List.mem_cons_self ..)
  have:=ih (max i c.Old+c.OldLen) (j+(c.Old - i).toNat+c.NewLen) (by omega) (fun d hd=>hl d (List.mem_cons_of_mem _ hd))
  simp only [O7,G79,Q9]
  omega
theorem Y0 (i j:Int):K7 i j 0=[]:=rfl
theorem u7 (i j:Int) (n:Nat):K7 i j (n+1)=K7 i j n++[⟨i+n,j+n⟩]:=by simp [K7,List.range_succ]
def Asc (m n:Int):Int→Int→List Span→Prop
 | i,j,[]=>i≤m∧j≤n
 | i,j,x::r=>i≤x.From∧j≤x.To∧Asc m n (x.From+1) (x.To+1) r
theorem Asc.le {m n:Int}:∀{p:List Span} {i j:Int},Asc m n i j p→i≤m∧j≤n
 | [],i,j,h=>h
 | x::r,i,j,h=>by have:=Asc.le h.2.2;have:=h.1;have:=h.2.1;omega
theorem Asc.weaken {m n:Int} {p:List Span} {i j i' j':Int} (h:Asc m n i j p) (hi:i'≤i) (hj:j'≤j):Asc m n i' j' p:=by
 cases p with
 | nil=>exact ⟨by have:=h.1;omega,by have:=h.2;omega⟩
 | cons x r=>exact ⟨by have:=h.1;omega,by have:=h.2.1;omega,h.2.2⟩
theorem D10 (a b:List Int):∀(p q:Int),Asc (p+a.length) (q+b.length) p q (H0 p q a b):=by
 induction a generalizing b with
 | nil=>intro p q;rw [V4];simp only [Asc,G83];omega
 | cons x a iha =>
  induction b with
  | nil=>intro p q;rw [X9];simp only [Asc,G83];omega
  | cons y b ihb =>
   intro p q
   rw [H0]
   split
   ·have:=iha b (p+1) (q+1)
    refine ⟨Int.le_refl _,Int.le_refl _,?_⟩
    simp only [G81]
    rwa [show p+((a.length+1:Nat):Int)=p+1+a.length by omega,show q+((b.length+1:Nat):Int)=q+1+b.length by omega]
   ·split
    ·have:=(iha (y::b) (p+1) q).weaken (i':=p) (j':=q) (by omega) (Int.le_refl _)
     rwa [show p+((x::a).length:Int)=p+1+a.length by simp;omega]
    ·have:=(ihb p (q+1)).weaken (i':=p) (j':=q) (Int.le_refl _) (by omega)
     rwa [show q+((y::b).length:Int)=q+1+b.length by simp;omega]
theorem Asc.made {m n:Int}:∀{p:List Span} {i j:Int},Asc m n i j p→∀c∈Q8 i j p m n,i≤c.Old∧j≤c.New∧0≤c.OldLen∧0≤c.NewLen∧c.Old+c.OldLen≤m∧c.New+c.NewLen≤n
 | [],i,j,h,c,hc=>by
  unfold Q8 at hc
  split at hc
  ·simp only [List.mem_singleton] at hc;subst hc
   have:=h.1;have:=h.2
   simp only;omega
  ·cases hc
 | x::r,i,j,h,c,hc=>by
  unfold Q8 at hc
  obtain ⟨h1,h2,h3⟩:=h
  have h4:=h3.le
  rcases List.mem_append.1 hc with hc | hc
  ·split at hc
   ·simp only [List.mem_singleton] at hc;subst hc
    simp only;omega
   ·cases hc
  ·have:=Asc.made h3 c hc;omega
end Go.AL
namespace Go.AL
open Go
def bitAt (m:Int) (c:Nat):Bool:=m / 2 ^ c % 2 == 1
def visB (r:Row) (c:Int):Bool:=if c = -1 then !r.Lost else if c < -1∨32≤c then false else bitAt r.Marks c.toNat == r.Lost
def colOf (rows:List Row) (c:Int):List Str:=(rows.filter (visB · c)).map (·.Text)
def markOk (n:Nat) (r:Row):Bool:=r.Marks / 2 ^ n == 0&&!(r.Lost&&r.Marks == 0)
theorem shr_eq (m c:Int) (b:Nat) (hc:0≤c∧c≤b):m.fdiv (2 ^ (min c.toNat b))=m / 2 ^ c.toNat:=by
 rw [show min c.toNat b=c.toNat by omega,Int.fdiv_eq_ediv_of_nonneg _ (Int.pow_nonneg (by decide))]
end Go.AL
namespace Go.AL
open Go
abbrev Loom:=List Int × (Nat→List (List Int))
structure LoomOk (Q:Int→Prop) (B lines n:Nat) (s:Loom):Prop where
 len:s.1.length=lines
 marks:∀m∈s.1,0≤m∧m < 4294967296
 gaps:∀k,(s.2 k).length=n∧∀x∈s.2 k,x.length≤B∧∀v∈x,Q v
theorem D11 (l:List Str) (s:Str):∀k:Int,0≤k→s∈l→k≤H7 l s k∧H7 l s k < k+l.length:=by
 induction l with
 | nil=>intro k _ h;cases h
 | cons x r ih =>
  intro k hk h
  unfold H7
  by_cases hx:x=s
  ·rw [if_pos hx];simp;omega
  ·rw [if_neg hx]
   have:=ih (k+1) (by omega) (by rcases List.mem_cons.1 h with rfl | h;exact absurd rfl hx;exact h)
   simp only [G81];omega
theorem C57 (l:List Str):∀(out:List Str) (s:Str),s∈out∨s∈l→s∈l.foldl H3 out:=by
 induction l with
 | nil=>intro out s h;rcases h with h | h;exact h;cases h
 | cons x r ih =>
  intro out s h
  apply ih
  rcases h with h | h
  ·left;unfold H3;split;exact h;exact List.mem_append_left _ h
  ·rcases List.mem_cons.1 h with rfl | h
   ·left;unfold H3;split;assumption;simp
   ·exact .inr h
theorem Q5 (fs:List (List Str)) (s:Str) (f:List Str) (hf:f∈fs) (hs:s∈f):s∈C3 fs:=C57 _ _ _ (.inr (List.mem_flatten.2 ⟨f,hf,hs⟩))
end Go.AL
namespace Go.AL
open Go
theorem B82 (s:Str):Lib.hasSuffix s [10]=ended s:=by
 unfold Lib.hasSuffix ended
 rw [Bool.eq_iff_iff,List.isSuffixOf_iff_suffix,beq_iff_eq]
 constructor
 ·rintro ⟨t,rfl⟩;simp
 ·intro h
  obtain ⟨hne,h2⟩:=List.getLast?_eq_some_iff.1 h
  exact ⟨hne,h2.symm⟩
def A91 (s:Str):Str:=if ended s then s.dropLast else s
theorem D52 (s:Str):Lib.trimSuffix s [10]=A91 s:=by
 unfold Lib.trimSuffix A91
 rw [B82,List.dropLast_eq_take];rfl
theorem s8 (c:UInt8):∀l:Str,(c∉l∧Lib.indexByte l c = -1)∨∃a b,l=a++c::b∧c∉a∧Lib.indexByte l c=a.length
 | []=>.inl ⟨by simp,rfl⟩
 | x::l=>by
  unfold Lib.indexByte
  by_cases hx:x=c
  ·exact .inr ⟨[],l,by rw [hx];rfl,by simp,by simp [hx]⟩
  ·rcases s8 c l with ⟨h1,h2⟩ | ⟨a,b,h1,h2,h3⟩
   ·exact .inl ⟨by simp [h1,Ne.symm hx],by simp [hx,h2]⟩
   ·refine .inr ⟨x::a,b,by rw [h1];rfl,by simp [h2,Ne.symm hx],?_⟩
    have h4:¬((a.length:Int) = -1):=by omega
    simp [hx,h3,h4]
theorem D53 (c:UInt8) (l:Str):0≤Lib.indexByte l c↔c∈l:=by
 rcases s8 c l with ⟨h1,h2⟩ | ⟨a,b,h1,h2,h3⟩
 ·rw [h2];simp [h1]
 ·rw [h3,h1];simp
theorem F32 (s:Str):O0 s=true↔s≠[]∧10∉s.dropLast:=by
 unfold O0
 rw [G80,List.all_eq_true]
 constructor
 ·rintro ⟨h1,h2⟩
  exact ⟨by simpa using h2,fun h=>by have:=h1 10 h;simp at this⟩
 ·rintro ⟨h1,h2⟩
  exact ⟨fun x hx=>by simpa using fun e:x=10=>h2 (e ▸ hx),by simpa using h1⟩
theorem G42 (s:Str):10∈A91 s↔10∈s.dropLast:=by
 unfold A91
 split
 ·exact Iff.rfl
 ·rename_i h
  by_cases hs:s=[]
  ·subst hs;simp
  ·constructor
   ·intro h2
    have e:=(List.dropLast_concat_getLast hs).symm
    rw [e] at h2
    rcases List.mem_append.1 h2 with h3 | h3
    ·exact h3
    ·exfalso
     refine h ?_
     unfold ended
     rw [List.getLast?_eq_some_getLast hs]
     simp at h3;simp [←h3]
   ·exact fun h2=>List.dropLast_subset s h2
theorem G05 (s:Str):(if decide (s≠[])=true then !decide (0≤Lib.indexByte (A91 s) 10) else false)=O0 s:=by
 rw [Bool.eq_iff_iff,F32]
 have h:=G42 s
 have h2:=D53 10 (A91 s)
 by_cases hs:s=[]
 ·simp [hs]
 ·simp [hs,h2,h]
structure EndsAt (res:Bool) (par:Int) (bad:Int→Bool):Prop where
 res:res=bad (-1)
 par:∃p:Nat,p < 4294967296∧par=p∧∀c:Nat,c < 32→p.testBit c=bad c
end Go.AL
namespace Go.AL
open Go
def A56 (c:UInt8):Bool:=decide (33≤c.toNat∧c.toNat≤126∧c.toNat≠34∧c.toNat≠92)
def digs8:Str:=[48,49,50,51,52,53,54,55]
def digs10:Str:=[48,49,50,51,52,53,54,55,56,57]
def C41 (c:UInt8):Str:=(digs8.drop (c.toNat / 64)).take 1++(digs8.drop (c.toNat / 8 % 8)).take 1++(digs8.drop (c.toNat % 8)).take 1
def X1 (c:UInt8):Str:=if c.toNat=34∨c.toNat=92 then [92,c] else if c.toNat=10 then [92,110] else if c.toNat=9 then [92,116] else if c.toNat < 32∨126 < c.toNat then 92::C41 c else [c]
def j5 (s:Str):Str:=if s≠[]∧s.all A56=true then s else 34::((s.map X1).flatten++[34])
theorem D90 (c:UInt8):(C41 c).length≤3:=by unfold C41;simp only [G79,G90];omega
theorem D91 (c:UInt8):(X1 c).length≤4:=by
 have:=D90 c
 unfold X1;split
 ·simp
 ·split
  ·simp
  ·split
   ·simp
   ·split
    ·simp only [G81];omega
    ·simp
theorem B83 (s:Str):((s.map X1).flatten).length≤4*s.length:=by
 induction s with
 | nil=>simp
 | cons c r ih=>have:=D91 c;simp only [G87,H03,G79,G81];omega
theorem d5 (s:Str):(j5 s).length≤4*s.length+2:=by
 unfold j5;have:=B83 s
 split
 ·omega
 ·simp only [G81,G79,G83];omega
def r7 (n:Int):Str:=if n < 0∨2147483647 < n then [] else Lib.itoa n
def R8 (a n:Int):Str:=if a < 0∨n < 0∨2147483647 < a∨2147483647 - a < n then [] else if n=0 then r7 a++[44,48] else if n=1 then r7 (a+1) else r7 (a+1)++[44]++r7 n
theorem B27:∀(k u:Nat),u < 10 ^ (k+1)→(Lib.decDigits u).length≤k+1
 | 0,u,h=>by rw [Lib.decDigits,dif_pos (by omega)];simp
 | k+1,u,h=>by
  rw [Lib.decDigits]
  split
  ·simp
  ·have:=B27 k (u / 10) (by rw [Nat.div_lt_iff_lt_mul (by omega)];rw [Nat.pow_succ] at h;omega)
   simp only [G79,G81,G83];omega
theorem V7 (n:Int):(r7 n).length≤10:=by
 unfold r7;split
 ·simp
 ·unfold Lib.itoa
  rw [if_neg (by omega)]
  exact B27 9 n.toNat (by omega)
theorem d6 (a n:Int):(R8 a n).length≤21:=by
 have:=V7 a;have:=V7 (a+1);have:=V7 n
 unfold R8
 split
 ·simp
 ·split
  ·simp only [G79,G81,G83];omega
  ·split
   ·omega
   ·simp only [G79,G81,G83];omega
theorem dig10 (k:Nat) (h:k < 10):(digs10.drop k).take 1=[UInt8.ofNat (48+k)]:=by
 have:∀k:Fin 10,(digs10.drop k.1).take 1=[UInt8.ofNat (48+k.1)]:=by decide
 exact this ⟨k,h⟩
theorem C18 (n:Int) (h0:0≤n) (h:n < 10):r7 n=(digs10.drop n.toNat).take 1:=by
 unfold r7 Lib.itoa
 rw [if_neg (by omega),if_neg (by omega),dig10 _ (by omega),Lib.decDigits,dif_pos (by omega)]
theorem fmt_big (n:Int) (h0:10≤n) (h:n≤2147483647):r7 n=r7 (n / 10)++(digs10.drop (n % 10).toNat).take 1:=by
 unfold r7 Lib.itoa
 rw [if_neg (by omega),if_neg (by omega),if_neg (by omega),if_neg (by omega),dig10 _ (by omega),Lib.decDigits,dif_neg (by omega)]
 have e1:n.toNat / 10=(n / 10).toNat:=by omega
 have e2:n.toNat % 10=(n % 10).toNat:=by omega
 rw [e1,e2]
theorem dig8 (k:Nat) (h:k < 8):(digs8.drop k).take 1=[UInt8.ofNat (48+k)]:=by
 have:∀k:Fin 8,(digs8.drop k.1).take 1=[UInt8.ofNat (48+k.1)]:=by decide
 exact this ⟨k,h⟩
theorem E83 (c:UInt8):C41 c=[UInt8.ofNat (48+c.toNat / 64),UInt8.ofNat (48+c.toNat / 8 % 8),UInt8.ofNat (48+c.toNat % 8)]:=by
 have:=c.toNat_lt
 unfold C41
 rw [dig8 _ (by omega),dig8 _ (by omega),dig8 _ (by omega)];rfl
def escs (s:Str) (i:Nat):Str:=((s.take i).map X1).flatten
theorem G06 (s:Str):escs s 0=[]:=rfl
theorem D92 (s:Str) (i:Nat) (h:i < s.length):escs s (i+1)=escs s i++X1 s[i]:=by
 unfold escs;rw [G89 h,H02,G99];simp only [G87,H16,H03,H23,H05]
theorem E84 (s:Str) (i:Nat) (h:i≤s.length):(escs s i).length≤4*i:=by
 have:=B83 (s.take i);unfold escs;rw [G90] at this;omega
def plains (s:Str) (i:Nat):Bool:=decide (s≠[])&&(s.take i).all A56
theorem C42 (s:Str):plains s 0=decide (s≠[]):=by simp [plains]
theorem C43 (s:Str) (i:Nat) (h:i < s.length):plains s (i+1)=(plains s i&&A56 s[i]):=by
 unfold plains;rw [G89 h,List.all_append];simp only [List.all_cons,List.all_nil,Bool.and_true,Bool.and_assoc]
theorem A57 (s:Str):j5 s=if plains s s.length=true then s else (34::escs s s.length)++[34]:=by
 unfold j5 plains escs
 rw [G95]
 simp only [G80,decide_eq_true_eq,H09]
end Go.AL
namespace Go.AL
open Go
def M7 (cur:Str):Str→List Str
 | []=>[cur]
 | c::r=>if c=10 then (cur++[c])::M7 [] r else M7 (cur++[c]) r
def P8 (b:Str):List Str:=M7 [] b
theorem D54 (a cur:Str) (h:(10:UInt8)∉a):M7 cur a=[cur++a]:=by
 induction a generalizing cur with
 | nil=>simp [M7]
 | cons c r ih =>
  simp only [List.mem_cons,not_or] at h
  rw [M7,if_neg (fun e=>h.1 e.symm),ih _ h.2];simp
theorem E27 (a b cur:Str) (h:(10:UInt8)∉a):M7 cur (a++10::b)=(cur++a++[10])::M7 [] b:=by
 induction a generalizing cur with
 | nil=>simp [M7]
 | cons c r ih =>
  simp only [List.mem_cons,not_or] at h
  rw [H09,M7,if_neg (fun e=>h.1 e.symm),ih _ h.2];simp
theorem X2 (s cur:Str):(M7 cur s).length=s.count 10+1:=by
 induction s generalizing cur with
 | nil=>rfl
 | cons c r ih =>
  by_cases hc:c=10
  ·subst hc;rw [M7,if_pos rfl,G81,ih,List.count_cons_self]
  ·rw [M7,if_neg hc,ih,List.count_cons_of_ne hc]
theorem E85 (s cur:Str):H5 cur s=if (M7 cur s).getLastD []=[] then (M7 cur s).dropLast else M7 cur s:=by
 induction s generalizing cur with
 | nil=>by_cases h:cur=[]<;>simp [H5,M7,h]
 | cons c r ih =>
  rw [H5,M7]
  by_cases hc:c=10
  ·rw [if_pos hc,if_pos hc,ih]
   have hn:M7 [] r≠[]:=fun e=>by have:=X2 r [];rw [e] at this;simp at this
   obtain ⟨x,y,hxy⟩:=List.exists_cons_of_ne_nil hn
   rw [hxy]
   have e1:((cur++[c])::x::y).getLastD []=(x::y).getLastD []:=by cases y<;>simp [List.getLastD]
   rw [e1]
   split
   ·rfl
   ·rfl
  ·rw [if_neg hc,if_neg hc,ih]
theorem D12 (s cur:Str):(H5 cur s).length=s.count 10+if s=[] then (if cur=[] then 0 else 1) else if ended s=true then 0 else 1:=by
 induction s generalizing cur with
 | nil=>by_cases h:cur=[]<;>simp [H5,h]
 | cons c r ih =>
  have he:ended (c::r)=if r=[] then c == 10 else ended r:=by
   cases r with
   | nil=>simp [ended]
   | cons d t=>simp [ended,List.getLast?_cons_cons]
  rw [H5,if_neg (List.cons_ne_nil _ _),he]
  by_cases hc:c=10
  ·subst hc
   rw [if_pos rfl,G81,ih,List.count_cons_self]
   by_cases hr:r=[]<;>simp [hr]
   omega
  ·rw [if_neg hc,ih,List.count_cons_of_ne hc]
   by_cases hr:r=[]<;>simp [hr,hc]
theorem D55 (s:Str):(B7 s).length=s.count 10+if s≠[]∧ended s=false then 1 else 0:=by
 unfold B7
 rw [D12]
 by_cases hs:s=[]<;>simp [hs]
 cases ended s<;>simp
theorem F33 {P:List Str} {i:Nat} {r a b:Str} (h:P.drop i=P8 r) (hr:r=a++10::b) (ha:(10:UInt8)∉a):P[i]?=some (a++[10])∧P.drop (i+1)=P8 b:=by
 have e:P8 r=(a++[10])::P8 b:=by rw [hr];unfold P8;rw [E27 _ _ _ ha];rfl
 rw [e] at h
 refine ⟨by rw [←List.head?_drop,h];rfl,?_⟩
 rw [←List.tail_drop,h];rfl
theorem D93 {α:Type} (P:List α) (z x:α) (i:Nat) (h:P[i]?=some x):(P.take i++List.replicate (P.length - i) z).set i x=P.take (i+1)++List.replicate (P.length - (i+1)) z:=by
 obtain ⟨hi,hx⟩:=List.getElem?_eq_some_iff.1 h
 have hl:(P.take i).length=i:=by rw [G90];omega
 rw [List.set_append_right _ _ (by omega),hl,Nat.sub_self,show P.length - i=(P.length - (i+1))+1 by omega,List.replicate_succ,List.set_cons_zero,G89 hi,hx,G91]
 rfl
def K0 (b:Str):List Str × Int:=if b.length > 1048576∨(B7 b).length > 4096 then ([],1) else (B7 b,0)
end Go.AL
namespace Go.AL
open Go
def F7 (n:Int):Prop:=0≤n∧n≤4096
instance (n:Int):Decidable (F7 n):=by unfold F7;exact inferInstance
def B84 (k:Nat) (i j:Int) (c:Change):Prop:=((((((¬F7 c.Old∨¬F7 c.OldLen)∨¬F7 c.New)∨¬F7 c.NewLen)∨c.OldLen+c.NewLen=0)∨c.Old - i≠c.New - j)∨c.Old < i)∨(0 < (k:Int)∧c.Old=i)
instance (k:Nat) (i j:Int) (c:Change):Decidable (B84 k i j c):=by unfold B84;exact inferInstance
def I4 (k:Nat) (i j:Int):List Change→Int→Int→Bool
 | [],m,n=>decide (¬(m - i≠n - j∨m < i))
 | c::r,m,n=>decide (¬B84 k i j c)&&I4 (k+1) (c.Old+c.OldLen) (c.New+c.NewLen) r m n
def P4 (l:List Change) (m n:Int):Int:=if ¬F7 m∨¬F7 n then 80 else if I4 0 0 0 l m n=true then 0 else 80
def ScOk (i j:Int):List Change→Int→Int→Prop
 | [],m,n=>i≤m∧j≤n
 | c::r,m,n=>F7 c.Old∧F7 c.OldLen∧F7 c.New∧F7 c.NewLen∧i≤c.Old∧j≤c.New∧ScOk (c.Old+c.OldLen) (c.New+c.NewLen) r m n
theorem d7:∀(l:List Change) (k:Nat) (i j m n:Int),I4 k i j l m n=true→ScOk i j l m n
 | [],k,i,j,m,n,h=>by simp only [I4,decide_eq_true_eq] at h;simp only [ScOk];omega
 | c::r,k,i,j,m,n,h=>by
  simp only [I4,G80,decide_eq_true_eq] at h
  obtain ⟨h1,h2⟩:=h
  unfold B84 at h1
  refine ⟨?_,?_,?_,?_,?_,?_,d7 r _ _ _ m n h2⟩
  all_goals (by_cases a1:F7 c.Old<;>by_cases a2:F7 c.OldLen<;>by_cases a3:F7 c.New<;>by_cases a4:F7 c.NewLen<;>simp [a1,a2,a3,a4] at h1 ⊢<;>omega)
theorem A37 {l:List Change} {m n:Int} (h:P4 l m n=0):F7 m∧F7 n∧ScOk 0 0 l m n:=by
 unfold P4 at h
 split at h
 ·omega
 ·rename_i h1
  split at h
  ·rename_i h2
   by_cases a1:F7 m<;>by_cases a2:F7 n<;>simp [a1,a2] at h1
   exact ⟨a1,a2,d7 _ _ _ _ _ _ h2⟩
  ·omega
def cAt (l:List Change) (k:Nat):Change:=l.getD k ⟨0,0,0,0⟩
theorem S8 {l:List Change} {k:Nat} (h:k < l.length):l[k]?=some (cAt l k):=by
 unfold cAt;rw [G85,G82 h];rfl
theorem ScOk.end_le:∀{l:List Change} {i j m n:Int},ScOk i j l m n→i≤m∧j≤n
 | [],_,_,_,_,h=>h
 | c::r,i,j,m,n,⟨h1,h2,h3,h4,h5,h6,h7⟩=>by have:=h7.end_le;unfold F7 at *;omega
theorem ScOk.get:∀{l:List Change} {i j m n:Int} (k:Nat),ScOk i j l m n→k < l.length→F7 (cAt l k).Old∧F7 (cAt l k).OldLen∧F7 (cAt l k).New∧F7 (cAt l k).NewLen∧(cAt l k).Old+(cAt l k).OldLen≤m∧(cAt l k).New+(cAt l k).NewLen≤n
 | c::r,i,j,m,n,0,⟨h1,h2,h3,h4,h5,h6,h7⟩,_=>by have:=h7.end_le;exact ⟨h1,h2,h3,h4,this.1,this.2⟩
 | c::r,i,j,m,n,k+1,⟨h1,h2,h3,h4,h5,h6,h7⟩,hk=>by
  have:=h7.get k (by simpa using hk)
  simpa [cAt] using this
theorem ScOk.next:∀{l:List Change} {i j m n:Int} (k:Nat),ScOk i j l m n→k+1 < l.length→(cAt l k).Old+(cAt l k).OldLen≤(cAt l (k+1)).Old
 | [c],_,_,_,_,_,_,hk=>by simp at hk
 | c::c2::r,i,j,m,n,0,⟨_,_,_,_,_,_,h7⟩,_=>by simpa [cAt] using h7.2.2.2.2.1
 | c::c2::r,i,j,m,n,k+1,⟨_,_,_,_,_,_,h7⟩,hk=>by
  have:=h7.next k (by simpa using hk)
  simpa [cAt] using this
theorem ScOk.mono {l:List Change} {m n:Int} (h:ScOk 0 0 l m n):∀(a b:Nat),a≤b→b < l.length→(cAt l a).Old≤(cAt l b).Old∧(cAt l a).Old+(cAt l a).OldLen≤(cAt l b).Old+(cAt l b).OldLen
 | a,0,h1,h2=>by rw [show a=0 by omega];omega
 | a,b+1,h1,h2=>by
  by_cases hab:a=b+1
  ·subst hab;omega
  ·have h3:=h.mono a b (by omega) (by omega)
   have h4:=h.next b h2
   have h5:=h.get b (by omega)
   have h6:=h.get (b+1) h2
   unfold F7 at *;omega
def T5 (a b:Int):Int:=if b < a then b else a
def opens (l:List Change) (ctx:Int) (k:Nat):Prop:=k=0∨2*ctx < (cAt l k).Old - (cAt l (k - 1)).Old - (cAt l (k - 1)).OldLen
instance (l:List Change) (ctx:Int) (k:Nat):Decidable (opens l ctx k):=by unfold opens;exact inferInstance
def B85:Hunk:=⟨0,0,⟨0,0⟩,⟨0,0⟩⟩
def R3 (l:List Change) (ctx:Int) (k:Nat):Hunk:=⟨k,0,⟨(cAt l k).Old - T5 ctx (cAt l k).Old,0⟩,⟨(cAt l k).New - T5 ctx (cAt l k).Old,0⟩⟩
def u9 (l:List Change) (m ctx:Int) (k:Nat) (h:Hunk):Hunk :=
 let c:=cAt l k
 let a:=T5 ctx (m - (c.Old+c.OldLen))
 ⟨h.First,k+1,⟨h.Old.From,c.Old+c.OldLen+a⟩,⟨h.New.From,c.New+c.NewLen+a⟩⟩
def O9 (l:List Change) (ctx:Int) (k:Nat) (out:List Hunk):List Hunk:=if opens l ctx k then out++[R3 l ctx k] else out
def F2 (l:List Change) (m ctx:Int):Nat→List Hunk
 | 0=>[]
 | k+1=>let out:=O9 l ctx k (F2 l m ctx k);out.set (out.length - 1) (u9 l m ctx k (out.getD (out.length - 1) B85))
def P0 (l:List Change) (m n ctx:Int):List Hunk × Int:=if ctx < 0∨1048576 < ctx then ([],3) else if P4 l m n≠0 then ([],P4 l m n) else (F2 l m ctx l.length,0)
theorem U3 (l:List Change) (m ctx:Int):∀k,(F2 l m ctx k).length≤k∧(0 < k→0 < (F2 l m ctx k).length)
 | 0=>by simp [F2]
 | k+1=>by
  have h:=U3 l m ctx k
  simp only [F2,List.length_set,O9]
  split
  ·simp only [G79,G81,G83];omega
  ·rename_i ho
   have:k≠0:=fun e=>ho (.inl e)
   omega
def F34 (l:List Change) (m:Int) (k:Nat) (h:Hunk):Prop :=
 ∃a b:Nat,h.First=a∧h.Last=(b:Int)+1∧a≤b∧b < k∧0≤h.Old.From∧h.Old.From≤(cAt l a).Old∧(cAt l b).Old+(cAt l b).OldLen≤h.Old.To∧h.Old.To≤m ∧ -4096≤h.New.From∧h.New.From≤4096
theorem A58 {l:List Change} {m n ctx:Int} (hs:ScOk 0 0 l m n) (hc:0≤ctx):∀k,k≤l.length→∀h∈F2 l m ctx k,F34 l m k h
 | 0,_,h,hm=>by simp [F2] at hm
 | k + 1,hk,h,hm=>by
  have ih:=A58 hs hc k (by omega)
  have hg:=hs.get k (by omega)
  have hlen:=U3 l m ctx k
  simp only [F2] at hm
  obtain ⟨out,hout⟩:∃out,out=O9 l ctx k (F2 l m ctx k):=⟨_,rfl⟩
  rw [←hout] at hm
  have hmin:∀x,0≤x→0≤T5 ctx x∧T5 ctx x≤x:=fun x hx=>by unfold T5;split<;>omega
  have h1:=hmin (cAt l k).Old hg.1.1
  have h2:=hmin (m - ((cAt l k).Old+(cAt l k).OldLen)) (by omega)
  obtain ⟨⟨g1,g2⟩,⟨g3,g4⟩,⟨g5,g6⟩,⟨g7,g8⟩,g9,g10⟩:=hg
  have hend:∀h0:Hunk,(∃a:Nat,h0.First=a∧a≤k∧0≤h0.Old.From∧h0.Old.From≤(cAt l a).Old ∧ -4096≤h0.New.From∧h0.New.From≤4096)→F34 l m (k+1) (u9 l m ctx k h0):=by
   rintro h0 ⟨a,e1,e2,e3,e4,e5,e6⟩
   refine ⟨a,k,e1,rfl,e2,by omega,e3,e4,?_,?_,e5,e6⟩
   ·show _≤(cAt l k).Old+(cAt l k).OldLen+T5 ctx (m - ((cAt l k).Old+(cAt l k).OldLen));omega
   ·show (cAt l k).Old+(cAt l k).OldLen+T5 ctx (m - ((cAt l k).Old+(cAt l k).OldLen))≤m;omega
  obtain ⟨p,hp,rfl⟩:=List.getElem_of_mem hm
  rw [List.length_set] at hp
  rw [List.getElem_set]
  split
  ·rename_i hq
   refine hend _ ?_
   by_cases ho:opens l ctx k
   ·have e:out=F2 l m ctx k++[R3 l ctx k]:=by rw [hout,O9,if_pos ho]
    have e2:out.getD (out.length - 1) B85=R3 l ctx k:=by rw [e];simp
    rw [e2]
    refine ⟨k,rfl,Nat.le_refl _,?_,?_,?_,?_⟩
    ·show 0≤(cAt l k).Old - T5 ctx (cAt l k).Old;omega
    ·show (cAt l k).Old - T5 ctx (cAt l k).Old≤_;omega
    ·show -4096≤(cAt l k).New - T5 ctx (cAt l k).Old;omega
    ·show (cAt l k).New - T5 ctx (cAt l k).Old≤_;omega
   ·have e:out=F2 l m ctx k:=by rw [hout,O9,if_neg ho]
    have hlt:out.length - 1 < (F2 l m ctx k).length:=by rw [e] at hp ⊢;omega
    have e2:out.getD (out.length - 1) B85∈F2 l m ctx k:=by
     rw [e] at hlt ⊢
     rw [G85,G82 hlt]
     exact G97 hlt
    obtain ⟨a,b,e3,e4,e5,e6,e7,e8,e9,e10,e11,e12⟩:=ih _ e2
    exact ⟨a,e3,by omega,e7,e8,e11,e12⟩
  ·rename_i hq
   have hin:out[p]∈F2 l m ctx k:=by
    by_cases ho:opens l ctx k
    ·have e:out=F2 l m ctx k++[R3 l ctx k]:=by rw [hout,O9,if_pos ho]
     have hlt:p < (F2 l m ctx k).length:=by
      have:out.length=(F2 l m ctx k).length+1:=by rw [e];simp
      omega
     have:out[p]=(F2 l m ctx k)[p]:=by simp only [e];rw [H19 hlt]
     rw [this];exact G97 hlt
    ·have e:out=F2 l m ctx k:=by rw [hout,O9,if_neg ho]
     have:out[p]∈out:=G97 hp
     rw [←e];exact this
   obtain ⟨a,b,e3,e4,e5,e6,e7⟩:=ih _ hin
   exact ⟨a,b,e3,e4,e5,by omega,e7⟩
end Go.AL
namespace Go.AL
open Go
def G7 (s:Str):Bool:=decide (1≤s.length∧s.length≤200)
def D2 (ls:List PatchLine) (k:UInt8):List Str:=(ls.filter (fun x=>decide (x.Kind≠k))).map (·.Text)
def D13 (x:PatchLine):Prop:=((x.Kind≠32∧x.Kind≠45)∧x.Kind≠43)∨O0 x.Text=false
instance (x:PatchLine):Decidable (D13 x):=by unfold D13;exact inferInstance
def U9 (x:PatchLine):Bool:=decide (¬D13 x)
def T0 (ls:List PatchLine):Bool:=ls.any (fun x=>decide (x.Kind≠32))
def R4 (some:Bool) (i j:Int) (h:PatchHunk):Prop:=((((some=false∨h.Old < i)∨h.New < j)∨4096 < h.Old)∨4096 < h.New)∨h.Old - i≠h.New - j
instance (s:Bool) (i j:Int) (h:PatchHunk):Decidable (R4 s i j h):=by unfold R4;exact inferInstance
def M4 (h:PatchHunk):Int:=(D2 h.Lines 43).length
def N2 (h:PatchHunk):Int:=(D2 h.Lines 45).length
def X3 (i j:Int):List PatchHunk→Bool
 | []=>true
 | h::r=>h.Lines.all U9&&(decide (¬R4 (T0 h.Lines) i j h)&&(decide (¬(4096 < h.Old+M4 h∨4096 < h.New+N2 h))&&X3 (h.Old+M4 h) (h.New+N2 h) r))
def F8 (hs:List PatchHunk) (k:UInt8):List Str:=(hs.map (fun h=>D2 h.Lines k)).flatten
def M8:List Str→Bool
 | []=>true
 | x::r=>(r.isEmpty||ended x)&&M8 r
def C19 (hs:List PatchHunk) (k:UInt8):Bool:=M8 (F8 hs k)
def T9 (hs:List PatchHunk):Bool:=X3 0 0 hs&&(C19 hs 43&&C19 hs 45)
def markS:Str:=[10,92,32,78,111,32,110,101,119,108,105,110,101,32,97,116,32,101,110,100,32,111,102,32,102,105,108,101,10]
def R5 (x:PatchLine):List Str:=if ended x.Text then [[x.Kind]++x.Text] else [[x.Kind]++x.Text,markS]
def T4 (h:PatchHunk):Str:=[64,64,32,45]++R8 h.Old (M4 h)++[32,43]++R8 h.New (N2 h)++[32,64,64,10]
def T3 (h:PatchHunk):List Str:=T4 h::(h.Lines.map R5).flatten
def Y4 (p:Patch):List Str:=[[45,45,45,32]++j5 p.OldName++[10],[43,43,43,32]++j5 p.NewName++[10]]
def A15 (p:Patch):List Str:=Y4 p++(p.Hunks.map T3).flatten
def M1 (p:Patch):Str:=(A15 p).flatten
def H1 (p:Patch):Int:=if G7 p.OldName=false∨G7 p.NewName=false then 120 else if T9 p.Hunks=false then 121 else if 16777216 < (M1 p).length then 1 else 0
def szL (x:PatchLine):Nat:=x.Text.length+64
def szH (h:PatchHunk):Nat:=64+(h.Lines.map szL).sum
def szP (hs:List PatchHunk):Nat:=(hs.map szH).sum
structure PFit (p:Patch):Prop where
 old:p.OldName.length≤4194304
 new:p.NewName.length≤4194304
 hunks:szP p.Hunks≤268435456
theorem E86 (ls:List PatchLine) (i:Nat):((ls.take i).map szL).sum≤(ls.map szL).sum:=by
 conv=>rhs;rw [←H12 i ls,H02,List.sum_append]
 omega
theorem W3 (ls:List PatchLine):64*ls.length≤(ls.map szL).sum:=by
 induction ls with
 | nil=>simp
 | cons x r ih=>simp only [G87,H08,G81,szL];omega
theorem A16 {ls:List PatchLine} {x:PatchLine} (h:x∈ls):x.Text.length+64≤(ls.map szL).sum:=by
 induction ls with
 | nil=>simp at h
 | cons y r ih =>
  simp only [G87,H08]
  rcases List.mem_cons.1 h with rfl | h
  ·unfold szL;omega
  ·have:=ih h;omega
theorem n7 {hs:List PatchHunk} {h:PatchHunk} (hm:h∈hs):szH h≤szP hs:=by
 unfold szP
 induction hs with
 | nil=>simp at hm
 | cons y r ih =>
  simp only [G87,H08]
  rcases List.mem_cons.1 hm with rfl | hm
  ·omega
  ·have:=ih hm;omega
theorem n8 (hs:List PatchHunk):64*hs.length≤szP hs:=by
 unfold szP
 induction hs with
 | nil=>simp
 | cons x r ih=>simp only [G87,H08,G81,szH];omega
theorem B86 (hs:List PatchHunk) (i:Nat):szP (hs.take i)≤szP hs:=by
 unfold szP
 conv=>rhs;rw [←H12 i hs,H02,List.sum_append]
 omega
theorem L2 (ls:List PatchLine) (k:UInt8):(D2 ls k).length≤ls.length:=by unfold D2;rw [H20];exact List.length_filter_le _ _
theorem A24 (ls:List PatchLine) (k:UInt8) (i:Nat) (h:i < ls.length):D2 (ls.take (i+1)) k=if ls[i].Kind≠k then D2 (ls.take i) k++[ls[i].Text] else D2 (ls.take i) k:=by
 unfold D2
 rw [G89 h,List.filter_append,H02]
 by_cases hk:ls[i].Kind=k
 ·rw [if_neg (by simp [hk])];simp [hk]
 ·rw [if_pos hk];simp [hk]
theorem D14 (hs:List PatchHunk) (k:UInt8) (i:Nat) (h:i < hs.length):F8 (hs.take (i+1)) k=F8 (hs.take i) k++D2 hs[i].Lines k:=by
 unfold F8
 rw [G89 h,H02,G99];simp only [G87,H16,H03,H23,H05]
theorem D56 (hs:List PatchHunk) (k:UInt8):64*(F8 hs k).length≤szP hs:=by
 induction hs with
 | nil=>simp [F8]
 | cons h r ih =>
  have h1:=L2 h.Lines k
  have h2:=W3 h.Lines
  simp only [F8,G87,H03,G79,szP,H08,szH] at ih ⊢
  omega
theorem D57 {hs:List PatchHunk} {k:UInt8} {s:Str} (h:s∈F8 hs k):s.length≤szP hs:=by
 unfold F8 at h
 obtain ⟨l,hl,hs'⟩:=List.mem_flatten.1 h
 obtain ⟨hk,hhk,rfl⟩:=List.mem_map.1 hl
 unfold D2 at hs'
 obtain ⟨x,hx,rfl⟩:=List.mem_map.1 hs'
 have h1:=A16 (List.mem_filter.1 hx).1
 have h2:=n7 hhk
 unfold szH at h2
 omega
theorem D58 (l:List Str) (i:Nat) (h:i+1 < l.length):M8 (l.drop i)=(ended l[i]&&M8 (l.drop (i+1))):=by
 rw [G86 (by omega),M8]
 have:(l.drop (i+1)).isEmpty=false:=by
  rw [List.isEmpty_eq_false_iff];intro e
  have:=congrArg List.length e
  simp at this;omega
 rw [this];rfl
theorem D59 (l:List Str) (i:Nat) (h:l.length≤i+1):M8 (l.drop i)=true:=by
 rcases Nat.lt_or_ge i l.length with h' | h'
 ·rw [G86 h',G84 h];rfl
 ·rw [G84 h'];rfl
theorem F35 (x:PatchLine):(R5 x).length≤2∧1≤(R5 x).length:=by unfold R5;split<;>simp
theorem E87 (x:PatchLine):(R5 x).flatten.length≤szL x:=by
 unfold R5 szL markS;split<;>simp<;>omega
theorem A59 (ls:List PatchLine):(ls.map R5).flatten.flatten.length≤(ls.map szL).sum:=by
 induction ls with
 | nil=>simp
 | cons x r ih=>have:=E87 x;simp only [G87,H03,G99,G79,H08];omega
theorem C44 (ls:List PatchLine):(ls.map R5).flatten.length≤2*ls.length:=by
 induction ls with
 | nil=>simp
 | cons x r ih=>have:=F35 x;simp only [G87,H03,G79,G81];omega
theorem C20 (h:PatchHunk):(T4 h).length≤52:=by
 have h1:=d6 h.Old (M4 h)
 have h2:=d6 h.New (N2 h)
 unfold T4
 simp only [G79,G81,G83];omega
theorem E88 (h:PatchHunk):(T3 h).flatten.length≤szH h:=by
 have h1:=C20 h
 have h2:=A59 h.Lines
 unfold T3 szH
 simp only [H03,G79];omega
theorem Y1 (hs:List PatchHunk):(hs.map T3).flatten.flatten.length≤szP hs:=by
 unfold szP
 induction hs with
 | nil=>simp
 | cons x r ih=>have:=E88 x;simp only [G87,H03,G99,G79,H08];omega
theorem F36 (h:PatchHunk):(T3 h).length≤szH h:=by
 have h1:=C44 h.Lines
 have h2:=W3 h.Lines
 unfold T3 szH
 simp only [G81];omega
theorem E89 (hs:List PatchHunk):(hs.map T3).flatten.length≤szP hs:=by
 unfold szP
 induction hs with
 | nil=>simp
 | cons x r ih=>have:=F36 x;simp only [G87,H03,G79,H08];omega
theorem d8 (p:Patch):(Y4 p).flatten.length≤4*p.OldName.length+4*p.NewName.length+14:=by
 have h1:=d5 p.OldName
 have h2:=d5 p.NewName
 unfold Y4
 simp only [H03,H23,G79,G81,G83];omega
theorem C45 (hs:List PatchHunk) (k:Nat) (h:k < hs.length):((hs.take (k+1)).map T3).flatten=((hs.take k).map T3).flatten++T3 hs[k]:=by
 rw [G89 h,H02,G99];simp only [G87,H16,H03,H23,H05]
theorem C46 (ls:List PatchLine) (k:Nat) (h:k < ls.length):((ls.take (k+1)).map R5).flatten=((ls.take k).map R5).flatten++R5 ls[k]:=by
 rw [G89 h,H02,G99];simp only [G87,H16,H03,H23,H05]
theorem B87:∀(hs:List PatchHunk) (i j:Int),X3 i j hs=true→0≤i→0≤j→∀h∈hs,(0≤h.Old∧h.Old≤4096)∧(0≤h.New∧h.New≤4096)
 | [],_,_,_,_,_,h,hm=>by simp at hm
 | x::r,i,j,hg,hi,hj,h,hm=>by
  simp only [X3,G80,decide_eq_true_eq] at hg
  obtain ⟨_,h1,h2,h3⟩:=hg
  unfold R4 at h1
  have hx:(0≤x.Old∧x.Old≤4096)∧(0≤x.New∧x.New≤4096):=by omega
  rcases List.mem_cons.1 hm with rfl | hm
  ·exact hx
  ·exact B87 r _ _ h3 (by unfold M4;omega) (by unfold N2;omega) h hm
theorem j6 {hs:List PatchHunk} (h:T9 hs=true):∀x∈hs,(0≤x.Old∧x.Old≤4096)∧(0≤x.New∧x.New≤4096):=by
 unfold T9 at h
 rw [G80] at h
 exact B87 hs 0 0 h.1 (by omega) (by omega)
end Go.AL
namespace Go.AL
open Go
def J6 (k:UInt8) (ts:List Str):List PatchLine:=ts.map fun t=>⟨k,t⟩
theorem B49 (k:UInt8) (ts:List Str) (i:Nat) (h:i < ts.length):J6 k (ts.take (i+1))=J6 k (ts.take i)++[⟨k,ts[i]⟩]:=by
 unfold J6;rw [G89 h,H02];rfl
theorem V8 (k:UInt8) (ts:List Str):(J6 k ts).length=ts.length:=by simp [J6]
def sub (x:List Str) (a b:Int):List Str:=(x.drop a.toNat).take (b.toNat - a.toNat)
theorem V0 (x:List Str) (a b:Int):(sub x a b).length≤x.length:=by unfold sub;rw [G90,G92];omega
def Q6 (c:Change):Int:=c.Old+c.OldLen
def O3 (l:List Change) (i0:Int) (a t:Nat):Int:=if t=0 then i0 else Q6 (cAt l (a+t - 1))
theorem A60 (l:List Change) (i0:Int) (a t:Nat):O3 l i0 a (t+1)=Q6 (cAt l (a+t)):=by
 unfold O3;rw [if_neg (by omega)];congr 2
def L8 (l:List Change) (x y:List Str) (i0:Int) (a:Nat):Nat→List PatchLine
 | 0=>[]
 | t+1=>L8 l x y i0 a t++J6 32 (sub x (O3 l i0 a t) (cAt l (a+t)).Old)++J6 45 (sub x (cAt l (a+t)).Old (Q6 (cAt l (a+t))))++J6 43 (sub y (cAt l (a+t)).New ((cAt l (a+t)).New+(cAt l (a+t)).NewLen))
def F6 (l:List Change) (x y:List Str) (h:Hunk):PatchHunk :=
 ⟨h.Old.From,h.New.From,L8 l x y h.Old.From h.First.toNat (h.Last.toNat - h.First.toNat)++J6 32 (sub x (O3 l h.Old.From h.First.toNat (h.Last.toNat - h.First.toNat)) h.Old.To)⟩
theorem B50 (l:List Change) (x y:List Str) (i0:Int) (a t:Nat):(L8 l x y i0 a t).length≤t*(2*x.length+y.length):=by
 induction t with
 | zero=>simp [L8]
 | succ t ih =>
  have h1:=V0 x (O3 l i0 a t) (cAt l (a+t)).Old
  have h2:=V0 x (cAt l (a+t)).Old (Q6 (cAt l (a+t)))
  have h3:=V0 y (cAt l (a+t)).New ((cAt l (a+t)).New+(cAt l (a+t)).NewLen)
  simp only [L8,G79,V8]
  rw [Nat.succ_mul];omega
def X4:Patch:=⟨[],[],[]⟩
def F0 (x y:List Str):List Change:=y9 (E2 (C3 [x,y]) x) (E2 (C3 [x,y]) y)
def m7 (x y:List Str) (ctx:Int):List PatchHunk:=(P0 (F0 x y) x.length y.length ctx).1.map (F6 (F0 x y) x y)
def E28 (on nn a b:Str) (ctx:Int):Patch × Int :=
 if G7 on=false∨G7 nn=false then (X4,120)
 else if (K0 a).2≠0 then (X4,(K0 a).2)
 else if (K0 b).2≠0 then (X4,(K0 b).2)
 else if (P0 (F0 (K0 a).1 (K0 b).1) (K0 a).1.length (K0 b).1.length ctx).2≠0 then (X4,(P0 (F0 (K0 a).1 (K0 b).1) (K0 a).1.length (K0 b).1.length ctx).2)
 else if H1 ⟨on,nn,m7 (K0 a).1 (K0 b).1 ctx⟩≠0 then (X4,H1 ⟨on,nn,m7 (K0 a).1 (K0 b).1 ctx⟩)
 else (⟨on,nn,m7 (K0 a).1 (K0 b).1 ctx⟩,0)
theorem v6 (x y:List Str):(F0 x y).length≤x.length+1:=by
 unfold F0 y9 m6
 have h1:=D50 (H0 0 0 (E2 (C3 [x,y]) x) (E2 (C3 [x,y]) y)) 0 0 ((E2 (C3 [x,y]) x).length) ((E2 (C3 [x,y]) y).length)
 have h2:=B26 0 0 (E2 (C3 [x,y]) x) (E2 (C3 [x,y]) y)
 have h3:(E2 (C3 [x,y]) x).length=x.length:=by simp [E2]
 omega
end Go.AL
namespace Go.AL
open Go
theorem oldN_nn (h:PatchHunk):0≤M4 h:=by unfold M4;omega
end Go.AL
namespace Go.AL
open Go
def j7 (o n:Bool):List PatchLine→Option (Bool × Bool)
 | []=>some (o,n)
 | x::r =>
  if x.Kind≠43∧o=true then none
  else if x.Kind≠45∧n=true then none
  else j7 (if x.Kind≠43 then !ended x.Text else o) (if x.Kind≠45 then !ended x.Text else n) r
def P9:Bool→List Str→Bool
 | _,[]=>true
 | o,s::r=>!o&&P9 (!ended s) r
def Z1 (o:Bool):List Str→Bool
 | []=>o
 | s::r=>Z1 (!ended s) r
theorem A00:∀(a b:List Str) (o:Bool),P9 o (a++b)=(P9 o a&&P9 (Z1 o a) b)
 | [],b,o=>by simp [P9,Z1]
 | s::r,b,o=>by simp only [H09,P9,Z1,A00 r b];cases o<;>simp
theorem A25:∀(l:List Str),P9 false l=M8 l
 | []=>rfl
 | s::r=>by
  have ih:=A25 r
  simp only [P9,M8]
  cases he:ended s
  ·cases r with
   | nil=>rfl
   | cons t u=>simp [P9]
  ·rw [←ih];cases r<;>simp [P9]
theorem B88:∀(ls:List PatchLine) (o n:Bool),j7 o n ls=if P9 o (D2 ls 43)&&P9 n (D2 ls 45) then some (Z1 o (D2 ls 43),Z1 n (D2 ls 45)) else none
 | [],o,n=>by simp [j7,D2,P9,Z1]
 | x::r,o,n=>by
  have c1:D2 (x::r) 43=if x.Kind≠43 then x.Text::D2 r 43 else D2 r 43:=by
   unfold D2;by_cases h:x.Kind=43<;>simp [h]
  have c2:D2 (x::r) 45=if x.Kind≠45 then x.Text::D2 r 45 else D2 r 45:=by
   unfold D2;by_cases h:x.Kind=45<;>simp [h]
  rw [j7,B88 r,c1,c2]
  by_cases h1:x.Kind=43<;>by_cases h2:x.Kind=45<;>cases o<;>cases n<;>simp [h1,h2,P9,Z1]
def U0 (i j:Int) (h:PatchHunk):Prop:=((((h.Old < 0∨h.New < 0)∨4096 < h.Old)∨4096 < h.New)∨h.Old < i)∨h.Old - i≠h.New - j
instance (i j:Int) (h:PatchHunk):Decidable (U0 i j h):=by unfold U0;exact inferInstance
def A26 (i j:Int) (o n:Bool):List PatchHunk→Bool
 | []=>true
 | h::r =>
  (h.Lines.all U9&&T0 h.Lines)&&(decide (¬U0 i j h) &&
   match j7 o n h.Lines with
   | none=>false
   | some (o',n')=>decide (h.Old+M4 h≤4096∧h.New+N2 h≤4096)&&A26 (h.Old+M4 h) (h.New+N2 h) o' n' r)
theorem A92 (h:PatchHunk) (r:List PatchHunk) (k:UInt8):F8 (h::r) k=D2 h.Lines k++F8 r k:=rfl
theorem F68:∀(hs:List PatchHunk) (i j:Int) (o n:Bool),0≤i→0≤j→A26 i j o n hs=(X3 i j hs&&(P9 o (F8 hs 43)&&P9 n (F8 hs 45)))
 | [],i,j,o,n,_,_=>by simp [A26,X3,F8,P9]
 | h::r,i,j,o,n,hi,hj=>by
  rw [A26,X3,A92,A92,A00,A00,B88]
  have a1:=oldN_nn h
  have a2:0≤N2 h:=by unfold N2;omega
  cases e1:h.Lines.all U9
  ·simp
  cases e2:T0 h.Lines
  ·have:decide (¬R4 false i j h)=false:=decide_eq_false (fun hh=>hh (by unfold R4;simp))
   rw [this];simp
  have e3:decide (¬U0 i j h)=decide (¬R4 true i j h):=by
   apply decide_eq_decide.2
   unfold U0 R4
   constructor<;>intro hh<;>simp only [not_or,Bool.true_eq_false,not_false_eq_true,true_and] at hh ⊢<;>omega
  rw [e3]
  by_cases hp:R4 true i j h
  ·rw [decide_eq_false (fun hh=>hh hp)];simp
  rw [decide_eq_true hp]
  have hb:0≤h.Old∧0≤h.New:=by unfold R4 at hp;simp only [not_or] at hp;omega
  have e4:decide (h.Old+M4 h≤4096∧h.New+N2 h≤4096)=decide (¬(4096 < h.Old+M4 h∨4096 < h.New+N2 h)):=decide_eq_decide.2 (by omega)
  have ih:=F68 r (h.Old+M4 h) (h.New+N2 h) (Z1 o (D2 h.Lines 43)) (Z1 n (D2 h.Lines 45)) (by omega) (by omega)
  cases e5:P9 o (D2 h.Lines 43)<;>cases e6:P9 n (D2 h.Lines 45)<;>simp [e4,ih,Bool.and_assoc]
theorem G07 (hs:List PatchHunk):A26 0 0 false false hs=T9 hs:=by
 rw [F68 hs 0 0 false false (by omega) (by omega),A25,A25];rfl
end Go.AL
namespace Go.AL
open Go
end Go.AL
namespace Go.AL
open Go
theorem C65 {x:List Str} {a b:Int} {s:Str} (h:s∈sub x a b):s∈x:=by
 unfold sub at h
 exact List.mem_of_mem_drop (List.mem_of_mem_take h)
end Go.AL
namespace Go.AL
open Go
def awakeP:Patch:=⟨[120],[120],[⟨0,0,[⟨32,[97,10]⟩,⟨45,[98]⟩,⟨43,[99,10]⟩]⟩]⟩
theorem B89:F0 [[97,10],[98]] [[97,10],[99,10]]=[⟨1,1,1,1⟩]:=by
 have e:C3 [[[97,10],[98]],[[97,10],[99,10]]]=[[97,10],[98],[99,10]]:=by decide
 have e1:E2 [[97,10],[98],[99,10]] [[97,10],[98]]=[0,1]:=by decide
 have e2:E2 [[97,10],[98],[99,10]] [[97,10],[99,10]]=[0,2]:=by decide
 unfold F0
 rw [e,e1,e2]
 simp [y9,H0,dist,m6,Q8]
theorem F37 (p:Patch):(M1 p).length≤4*p.OldName.length+4*p.NewName.length+14+szP p.Hunks:=by
 have h1:=d8 p
 have h2:=Y1 p.Hunks
 unfold M1 A15
 rw [G99,G79];omega
theorem C47:H1 awakeP=0:=by
 have h1:=F37 awakeP
 have h2:4*awakeP.OldName.length+4*awakeP.NewName.length+14+szP awakeP.Hunks≤1000:=by decide
 unfold H1
 rw [if_neg (by decide),if_neg (by decide),if_neg (by omega)]
theorem F38:E28 [120] [120] [97,10,98] [97,10,99,10] 1=(awakeP,0):=by
 have e1:K0 [97,10,98]=([[97,10],[98]],0):=by decide
 have e2:K0 [97,10,99,10]=([[97,10],[99,10]],0):=by decide
 have e3:P0 [⟨1,1,1,1⟩] 2 2 1=([⟨0,1,⟨0,2⟩,⟨0,2⟩⟩],0):=by decide
 have e4:m7 [[97,10],[98]] [[97,10],[99,10]] 1=awakeP.Hunks:=by
  unfold m7
  rw [B89]
  show (P0 [⟨1,1,1,1⟩] 2 2 1).1.map _=_
  rw [e3];decide
 have e5:H1 ⟨[120],[120],awakeP.Hunks⟩=0:=C47
 unfold E28
 rw [if_neg (by decide),e1,e2]
 dsimp only
 rw [B89,e4,e5]
 show (if (0:Int)≠0 then _ else if (0:Int)≠0 then _ else if (P0 [⟨1,1,1,1⟩] 2 2 1).2≠0 then _ else _)=_
 rw [e3];rfl
end Go.AL
namespace Go.AL
open Go
def D15 (c:Change):Int:=c.New+c.NewLen
def eoI (i:Int) (l:List Change) (k:Nat):Int:=if k=0 then i else Q6 (cAt l (k - 1))
def enI (j:Int) (l:List Change) (k:Nat):Int:=if k=0 then j else D15 (cAt l (k - 1))
theorem r8 (i:Int) (c:Change) (r:List Change) (k:Nat):eoI i (c::r) (k+1)=eoI (Q6 c) r k:=by
 cases k<;>rfl
theorem r9 (j:Int) (c:Change) (r:List Change) (k:Nat):enI j (c::r) (k+1)=enI (D15 c) r k:=by
 cases k<;>rfl
theorem A01 (i:Int) (l:List Change) (k:Nat):eoI i l (k+1)=Q6 (cAt l k):=rfl
theorem A02 (j:Int) (l:List Change) (k:Nat):enI j l (k+1)=D15 (cAt l k):=rfl
theorem B90 (c:Change) (r:List Change) (k:Nat):cAt (c::r) (k+1)=cAt r k:=rfl
def A93 (x y:List Str) (i j:Int):List Change→Prop
 | []=>sub x i x.length=sub y j y.length
 | c::r=>sub x i c.Old=sub y j c.New∧A93 x y (Q6 c) (D15 c) r
theorem m8 (m n:Int):∀(l:List Change) (k0:Nat) (i j:Int),I4 k0 i j l m n=true→∀k,k < l.length →
  F7 (cAt l k).Old∧F7 (cAt l k).OldLen∧F7 (cAt l k).New∧F7 (cAt l k).NewLen∧(cAt l k).OldLen+(cAt l k).NewLen≠0∧(cAt l k).Old - eoI i l k=(cAt l k).New - enI j l k∧eoI i l k≤(cAt l k).Old∧(0 < k0+k→eoI i l k < (cAt l k).Old)
 | [],_,_,_,_,k,hk=>by simp at hk
 | c :: r,k0,i,j,h,k,hk=>by
  simp only [I4,G80,decide_eq_true_eq] at h
  obtain ⟨h1,h2⟩:=h
  cases k with
  | zero =>
   unfold B84 at h1
   show F7 c.Old∧F7 c.OldLen∧F7 c.New∧F7 c.NewLen∧c.OldLen+c.NewLen≠0∧c.Old - i=c.New - j∧i≤c.Old∧(0 < k0+0→i < c.Old)
   have d1:F7 c.Old:=by by_cases q:F7 c.Old;exact q;exact absurd (.inl (.inl (.inl (.inl (.inl (.inl (.inl q))))))) h1
   have d2:F7 c.OldLen:=by by_cases q:F7 c.OldLen;exact q;exact absurd (.inl (.inl (.inl (.inl (.inl (.inl (.inr q))))))) h1
   have d3:F7 c.New:=by by_cases q:F7 c.New;exact q;exact absurd (.inl (.inl (.inl (.inl (.inl (.inr q)))))) h1
   have d4:F7 c.NewLen:=by by_cases q:F7 c.NewLen;exact q;exact absurd (.inl (.inl (.inl (.inl (.inr q))))) h1
   refine ⟨d1,d2,d3,d4,fun q=>h1 (.inl (.inl (.inl (.inr q)))),?_,?_,fun h0=>?_⟩
   ·by_cases q:c.Old - i=c.New - j
    ·exact q
    ·exact absurd (.inl (.inl (.inr q))) h1
   ·by_cases q:c.Old < i
    ·exact absurd (.inl (.inr q)) h1
    ·omega
   ·by_cases q:c.Old < i
    ·exact absurd (.inl (.inr q)) h1
    ·by_cases q2:c.Old=i
     ·exact absurd (.inr ⟨by omega,q2⟩) h1
     ·omega
  | succ k =>
   have:=m8 m n r (k0+1) _ _ h2 k (by simpa using hk)
   rw [B90,r8,r9]
   obtain ⟨e1,e2,e3,e4,e5,e6,e7,e8⟩:=this
   exact ⟨e1,e2,e3,e4,e5,e6,e7,fun h0=>e8 (by omega)⟩
theorem D16 (m n:Int):∀(l:List Change) (k0:Nat) (i j:Int),I4 k0 i j l m n=true→m - eoI i l l.length=n - enI j l l.length∧eoI i l l.length≤m
 | [],_,i,j,h=>by
  simp only [I4,decide_eq_true_eq] at h
  show m - i=n - j∧i≤m
  omega
 | c::r,k0,i,j,h=>by
  simp only [I4,G80,decide_eq_true_eq] at h
  rw [G81,r8,r9]
  exact D16 m n r _ _ _ h.2
theorem D17 (x y:List Str):∀(l:List Change) (i j:Int),A93 x y i j l→∀k,k < l.length→sub x (eoI i l k) (cAt l k).Old=sub y (enI j l k) (cAt l k).New
 | [],_,_,_,k,hk=>by simp at hk
 | c::r,i,j,h,k,hk=>by
  cases k with
  | zero=>exact h.1
  | succ k=>rw [r8,r9,B90];exact D17 x y r _ _ h.2 k (by simpa using hk)
theorem E29 (x y:List Str):∀(l:List Change) (i j:Int),A93 x y i j l→sub x (eoI i l l.length) x.length=sub y (enI j l l.length) y.length
 | [],_,_,h=>h
 | c::r,i,j,h=>by rw [G81,r8,r9];exact E29 x y r _ _ h.2
def mkH (l:List Change) (m ctx:Int) (a b:Nat):Hunk:=u9 l m ctx (b - 1) (R3 l ctx a)
def GrOk (l:List Change) (m ctx:Int):Nat→List Hunk→Nat→Prop
 | a,[],k=>a=k
 | a,h::r,k=>∃b,a < b∧opens l ctx a∧h=mkH l m ctx a b∧GrOk l m ctx b r k
theorem GrOk.le {l:List Change} {m ctx:Int}:∀{hs:List Hunk} {a k:Nat},GrOk l m ctx a hs k→a≤k
 | [],a,k,h=>Nat.le_of_eq h
 | _::_,a,k,⟨b,h1,_,_,h2⟩=>by have:=GrOk.le h2;omega
theorem GrOk.snoc {l:List Change} {m ctx:Int} {k:Nat} (ho:opens l ctx k):∀{hs:List Hunk} {a:Nat},GrOk l m ctx a hs k→GrOk l m ctx a (hs++[mkH l m ctx k (k+1)]) (k+1)
 | [],a,h=>by
  obtain rfl:a=k:=h
  exact ⟨a+1,by omega,ho,rfl,rfl⟩
 | _::_,a,⟨b,h1,h2,h3,h4⟩=>⟨b,h1,h2,h3,GrOk.snoc ho h4⟩
theorem GrOk.last {l:List Change} {m ctx:Int} {k:Nat}:∀{hs:List Hunk} {a:Nat},GrOk l m ctx a hs k→hs≠[]→GrOk l m ctx a (hs.set (hs.length - 1) (u9 l m ctx k (hs.getD (hs.length - 1) B85))) (k+1)
 | [],_,_,h0=>absurd rfl h0
 | [h],a,⟨b,h1,h2,h3,h4⟩,_=>by
  obtain rfl:b=k:=h4
  subst h3
  exact ⟨b+1,by omega,h2,rfl,rfl⟩
 | h::h'::r,a,⟨b,h1,h2,h3,h4⟩,_=>by
  have ih:=GrOk.last h4 (by simp)
  refine ⟨b,h1,h2,h3,?_⟩
  simpa using ih
theorem A61 (l:List Change) (m ctx:Int):∀k,GrOk l m ctx 0 (F2 l m ctx k) k
 | 0=>rfl
 | k+1=>by
  have ih:=A61 l m ctx k
  have hne:=(U3 l m ctx k).2
  simp only [F2,O9]
  by_cases ho:opens l ctx k
  ·rw [if_pos ho]
   have e:(F2 l m ctx k++[R3 l ctx k]).set ((F2 l m ctx k++[R3 l ctx k]).length - 1) (u9 l m ctx k ((F2 l m ctx k++[R3 l ctx k]).getD ((F2 l m ctx k++[R3 l ctx k]).length - 1) B85))=F2 l m ctx k++[mkH l m ctx k (k+1)]:=by
    simp [mkH]
   rw [e]
   exact ih.snoc ho
  ·rw [if_neg ho]
   refine ih.last ?_
   have:k≠0:=fun e=>ho (.inl e)
   have:=hne (by omega)
   intro e;rw [e] at this;simp at this
theorem A62 (x:List Str) {a b c:Int} (h0:0≤a) (h1:a≤b) (h2:b≤c):sub x a b++sub x b c=sub x a c:=by
 unfold sub
 obtain ⟨u,rfl⟩:∃u:Nat,(u:Int)=a:=⟨a.toNat,by omega⟩
 obtain ⟨v,rfl⟩:∃v:Nat,(v:Int)=b:=⟨b.toNat,by omega⟩
 obtain ⟨w,rfl⟩:∃w:Nat,(w:Int)=c:=⟨c.toNat,by omega⟩
 simp only [H01]
 have h3:x.drop v=(x.drop u).drop (v - u):=by rw [List.drop_drop];congr 1;omega
 rw [h3,show w - u=(v - u)+(w - v) by omega,List.take_add]
theorem A17 (x:List Str) (a:Int):sub x a a=[]:=by simp [sub]
theorem A63 (x:List Str) {a b:Int} (h0:0≤a) (h1:a≤b) (h2:b≤x.length):((sub x a b).length:Int)=b - a:=by
 unfold sub;rw [G90,G92];omega
theorem A94 {x y:List Str} {p q p' q' e:Int} (h:sub x p q=sub y p' q') (h0:0≤p) (h0':0≤p') (he:0≤e) (h1:e≤q - p) (h2:q - p=q' - p'):sub x (q - e) q=sub y (q' - e) q':=by
 have key:∀(z:List Str) (a b:Int),0≤a→e≤b - a→sub z (b - e) b=(sub z a b).drop (b - a - e).toNat:=by
  intro z a b ha hb
  unfold sub
  rw [List.drop_take,List.drop_drop]
  congr 1
  ·omega
  ·congr 1;omega
 rw [key x p q h0 h1,key y p' q' h0' (by omega),h,h2]
theorem D18 {x y:List Str} {p q p' q' e:Int} (h:sub x p q=sub y p' q') (h0:0≤p) (h0':0≤p') (he:0≤e) (h1:e≤q - p) (h2:q - p=q' - p'):sub x p (p+e)=sub y p' (p'+e):=by
 have key:∀(z:List Str) (a b:Int),0≤a→e≤b - a→sub z a (a+e)=(sub z a b).take e.toNat:=by
  intro z a b ha hb
  unfold sub
  rw [List.take_take]
  congr 1
  omega
 rw [key x p q h0 h1,key y p' q' h0' (by omega),h]
theorem A64 (p q:List PatchLine) (k:UInt8):D2 (p++q) k=D2 p k++D2 q k:=by simp [D2]
theorem A65 (k k':UInt8) (ts:List Str):D2 (J6 k ts) k'=if k=k' then [] else ts:=by
 unfold D2 J6
 by_cases h:k=k'
 ·rw [if_pos h];subst h
  simp [List.filter_eq_nil_iff]
 ·rw [if_neg h]
  rw [List.filter_eq_self.2 (by simp [h])]
  simp [Function.comp_def]
structure ScFit (x y:List Str) (l:List Change):Prop where
 lx:(x.length:Int)≤4096
 ly:(y.length:Int)≤4096
 sc:I4 0 0 0 l x.length y.length=true
 eq:A93 x y 0 0 l
section
variable {x y:List Str} {l:List Change}
theorem ScFit.ok (h:ScFit x y l):ScOk 0 0 l x.length y.length:=d7 _ _ _ _ _ _ h.sc
theorem ScFit.check (h:ScFit x y l):P4 l x.length y.length=0:=by
 have h1:=h.lx
 have h2:=h.ly
 unfold P4
 rw [if_neg (by unfold F7;omega),if_pos h.sc]
theorem ScFit.nn (h:ScFit x y l) (k:Nat) (hk:k≤l.length):0≤eoI 0 l k∧0≤enI 0 l k∧eoI 0 l k≤x.length∧enI 0 l k≤y.length:=by
 cases k with
 | zero=>exact ⟨Int.le_refl _,Int.le_refl _,Int.natCast_nonneg _,Int.natCast_nonneg _⟩
 | succ k =>
  obtain ⟨⟨a1,a2⟩,⟨b1,b2⟩,⟨c1,c2⟩,⟨d1,d2⟩,h5,h6⟩:=h.ok.get k (by omega)
  rw [A01,A02];unfold Q6 D15
  omega
def eA (l:List Change) (ctx:Int) (a:Nat):Int:=T5 ctx (cAt l a).Old
def eB (l:List Change) (m ctx:Int) (b:Nat):Int:=T5 ctx (m - eoI 0 l b)
theorem F69 {a b:Int} (h:0≤a) (h':0≤b):0≤T5 a b∧T5 a b≤a∧T5 a b≤b:=by unfold T5;split<;>omega
theorem B12 {ctx:Int} {a:Nat} (ho:opens l ctx a) (ha:a≠0):2*ctx < (cAt l a).Old - eoI 0 l a:=by
 rcases ho with h | h
 ·exact absurd h ha
 ·unfold eoI;rw [if_neg ha];unfold Q6;omega
theorem ScFit.before (h:ScFit x y l) {ctx:Int} (hc:0≤ctx) {a:Nat} (ha:a < l.length) (ho:opens l ctx a) :
  0≤eA l ctx a∧eA l ctx a≤ctx∧eA l ctx a≤(cAt l a).Old - eoI 0 l a:=by
 obtain ⟨⟨a1,a2⟩,_⟩:=h.ok.get a ha
 have h3:=F69 hc a1
 unfold eA
 by_cases h0:a=0
 ·subst h0
  show _∧_∧_≤(cAt l 0).Old - 0
  omega
 ·have:=B12 ho h0;omega
theorem ScFit.after (h:ScFit x y l) {ctx:Int} (hc:0≤ctx) {b:Nat} (hb:b≤l.length) (ho:b < l.length→opens l ctx b) (hb0:b≠0) :
  0≤eB l x.length ctx b∧eB l x.length ctx b≤ctx∧eoI 0 l b+eB l x.length ctx b≤x.length∧enI 0 l b+eB l x.length ctx b≤y.length ∧
   sub x (eoI 0 l b) (eoI 0 l b+eB l x.length ctx b)=sub y (enI 0 l b) (enI 0 l b+eB l x.length ctx b):=by
 obtain ⟨h1,h2,h3,h4⟩:=h.nn b hb
 have h5:=F69 hc (show 0≤(x.length:Int) - eoI 0 l b by omega)
 unfold eB
 rcases Nat.lt_or_ge b l.length with hlt | hge
 ·obtain ⟨g1,g2,g3,g4,g5,g6,g7,g8⟩:=m8 _ _ _ _ _ _ h.sc b hlt
  obtain ⟨⟨a1,a2⟩,⟨b1,b2⟩,⟨c1,c2⟩,⟨d1,d2⟩,k5,k6⟩:=h.ok.get b hlt
  have hg:=B12 (ho hlt) hb0
  refine ⟨h5.1,h5.2.1,by omega,by omega,D18 (D17 x y l 0 0 h.eq b hlt) h1 h2 h5.1 (by omega) (by omega)⟩
 ·have e:b=l.length:=by omega
  subst e
  obtain ⟨g1,g2⟩:=D16 _ _ _ _ _ _ h.sc
  refine ⟨h5.1,h5.2.1,by omega,by omega,D18 (E29 x y l 0 0 h.eq) h1 h2 h5.1 (by omega) (by omega)⟩
def E30 (l:List Change) (j0:Int) (a t:Nat):Int:=if t=0 then j0 else D15 (cAt l (a+t - 1))
theorem D19 (i0:Int) (a t:Nat) (ht:t≠0):O3 l i0 a t=eoI 0 l (a+t):=by
 unfold O3 eoI;rw [if_neg ht,if_neg (by omega)]
theorem F70 (j0:Int) (a t:Nat) (ht:t≠0):E30 l j0 a t=enI 0 l (a+t):=by
 unfold E30 enI;rw [if_neg ht,if_neg (by omega)]
theorem ScFit.made (h:ScFit x y l) {ctx:Int} (hc:0≤ctx) {a:Nat} (ho:opens l ctx a):∀t,a+t≤l.length→(t=0→a < l.length) →
  D2 (L8 l x y ((cAt l a).Old - eA l ctx a) a t) 43=sub x ((cAt l a).Old - eA l ctx a) (O3 l ((cAt l a).Old - eA l ctx a) a t) ∧
  D2 (L8 l x y ((cAt l a).Old - eA l ctx a) a t) 45=sub y ((cAt l a).New - eA l ctx a) (E30 l ((cAt l a).New - eA l ctx a) a t)
 | 0,_,_=>by
  unfold O3 E30
  rw [if_pos rfl,if_pos rfl,A17,A17]
  exact ⟨rfl,rfl⟩
 | t + 1,hl,_=>by
  have hlt:a+t < l.length:=by omega
  have hla:a < l.length:=by omega
  obtain ⟨ih1,ih2⟩:=ScFit.made h hc ho t (by omega) (fun _=>hla)
  obtain ⟨q1,q2,q3⟩:=h.before hc hla ho
  obtain ⟨p1,p2,p3,p4⟩:=h.nn (a+t) (by omega)
  obtain ⟨r1,r2,r3,r4⟩:=h.nn a (by omega)
  obtain ⟨g1,g2,g3,g4,g5,g6,g7,g8⟩:=m8 _ _ _ _ _ _ h.sc (a+t) hlt
  obtain ⟨k1,⟨k2,k2'⟩,k3,⟨k4,k4'⟩,k5,k6,k7,k8⟩:=m8 _ _ _ _ _ _ h.sc a hla
  obtain ⟨⟨a1,a2⟩,⟨b1,b2⟩,⟨c1,c2⟩,⟨d1,d2⟩,w5,w6⟩:=h.ok.get (a+t) hlt
  have hrun:sub x (O3 l ((cAt l a).Old - eA l ctx a) a t) (cAt l (a+t)).Old=sub y (E30 l ((cAt l a).New - eA l ctx a) a t) (cAt l (a+t)).New ∧
    (cAt l a).Old - eA l ctx a≤O3 l ((cAt l a).Old - eA l ctx a) a t∧O3 l ((cAt l a).Old - eA l ctx a) a t≤(cAt l (a+t)).Old ∧
    (cAt l a).New - eA l ctx a≤E30 l ((cAt l a).New - eA l ctx a) a t∧E30 l ((cAt l a).New - eA l ctx a) a t≤(cAt l (a+t)).New:=by
   have hrun:=D17 x y l 0 0 h.eq (a+t) hlt
   by_cases ht:t=0
   ·subst ht
    unfold O3 E30
    rw [if_pos rfl,if_pos rfl]
    rw [show a+0=a from rfl] at *
    exact ⟨A94 hrun r1 r2 q1 (by omega) (by omega),by omega,by omega,by omega,by omega⟩
   ·rw [D19 _ _ _ ht,F70 _ _ _ ht]
    have m1:=h.ok.mono a (a+t - 1) (by omega) (by omega)
    have m2:eoI 0 l (a+t)=(cAt l (a+t - 1)).Old+(cAt l (a+t - 1)).OldLen:=by unfold eoI;rw [if_neg (by omega)];rfl
    have m4:∀u,u≤t→(cAt l a).New≤enI 0 l (a+u)∨u=0:=by
     intro u
     induction u with
     | zero=>exact fun _=>.inr rfl
     | succ u ihu =>
      intro hu
      obtain ⟨e1,e2,⟨e3,e3'⟩,⟨e4,e4'⟩,e5,e6,e7,e8⟩:=m8 _ _ _ _ _ _ h.sc (a+u) (by omega)
      have e9:enI 0 l (a+(u+1))=(cAt l (a+u)).New+(cAt l (a+u)).NewLen:=rfl
      rcases ihu (by omega) with h' | h'
      ·left;omega
      ·left;subst h';rw [e9];show (cAt l a).New≤(cAt l a).New+(cAt l a).NewLen;exact Int.le_add_of_nonneg_right e4
    have m5:=(m4 t (Nat.le_refl _)).resolve_right ht
    refine ⟨hrun,by omega,by omega,by omega,by omega⟩
  obtain ⟨hr1,hr2,hr3,hr4,hr5⟩:=hrun
  simp (decide:=true) only [L8,A64,A65,ih1,ih2,if_true,if_false,H05]
  have e1:O3 l ((cAt l a).Old - eA l ctx a) a (t+1)=Q6 (cAt l (a+t)):=A60 _ _ _ _
  have e2:E30 l ((cAt l a).New - eA l ctx a) a (t+1)=D15 (cAt l (a+t)):=rfl
  rw [e1,e2]
  have s0:0≤(cAt l a).Old - eA l ctx a:=by omega
  have s1:0≤(cAt l a).New - eA l ctx a:=by omega
  refine ⟨?_,?_⟩
  ·rw [A62 x s0 hr2 hr3,A62 x s0 (by omega) (by unfold Q6;omega)]
  ·rw [hr1,A62 y s1 hr4 hr5]
   exact A62 y s1 (by omega) (by omega)
end
end Go.AL
namespace Go.AL
open Go
section
variable {x y:List Str} {l:List Change}
structure HunkIs (x y:List Str) (l:List Change) (ctx:Int) (a b:Nat) (h:PatchHunk):Prop where
 old:h.Old=(cAt l a).Old - eA l ctx a
 new:h.New=(cAt l a).New - eA l ctx a
 o0:0≤h.Old
 n0:0≤h.New
 oe:h.Old+M4 h=eoI 0 l b+eB l x.length ctx b
 ne:h.New+N2 h=enI 0 l b+eB l x.length ctx b
 ox:h.Old+M4 h≤x.length
 ny:h.New+N2 h≤y.length
 ol:D2 h.Lines 43=sub x h.Old (h.Old+M4 h)
 nl:D2 h.Lines 45=sub y h.New (h.New+N2 h)
 ch:T0 h.Lines=true
 gl:(∀s∈x,O0 s=true)→(∀s∈y,O0 s=true)→h.Lines.all U9=true
theorem D20 (p q:List PatchLine):T0 (p++q)=(T0 p||T0 q):=by simp [T0]
theorem D21 {k:UInt8} {ts:List Str} (hk:k≠32) (h:ts≠[]):T0 (J6 k ts)=true:=by
 cases ts with
 | nil=>exact absurd rfl h
 | cons t ts=>simp [T0,J6,hk]
theorem A66 {k:UInt8} {ts:List Str} (hk:k=32∨k=45∨k=43) (h:∀t∈ts,O0 t=true):(J6 k ts).all U9=true:=by
 rw [List.all_eq_true]
 intro q hq
 unfold J6 at hq
 obtain ⟨t,ht,rfl⟩:=List.mem_map.1 hq
 unfold U9
 refine decide_eq_true ?_
 rintro (⟨⟨h1,h2⟩,h3⟩ | h1)
 ·rcases hk with e | e | e
  ·exact h1 e
  ·exact h2 e
  ·exact h3 e
 ·rw [show (PatchLine.mk k t).Text=t from rfl,h t ht] at h1;cases h1
theorem C48 (hx:∀s∈x,O0 s=true) (hy:∀s∈y,O0 s=true) (i0:Int) (a:Nat):∀t,(L8 l x y i0 a t).all U9=true
 | 0=>rfl
 | t+1=>by
  simp only [L8,List.all_append,C48 hx hy i0 a t,Bool.true_and,G80]
  exact ⟨⟨A66 (.inl rfl) (fun s hs=>hx s (C65 hs)),A66 (.inr (.inl rfl)) (fun s hs=>hx s (C65 hs))⟩,A66 (.inr (.inr rfl)) (fun s hs=>hy s (C65 hs))⟩
theorem ScFit.hunk (h:ScFit x y l) {ctx:Int} (hc:0≤ctx) {a b:Nat} (hab:a < b) (hb:b≤l.length) (ho:opens l ctx a) (hob:b < l.length→opens l ctx b) :
  HunkIs x y l ctx a b (F6 l x y (mkH l x.length ctx a b)):=by
 have hla:a < l.length:=by omega
 obtain ⟨q1,q2,q3⟩:=h.before hc hla ho
 obtain ⟨w1,w2,w3,w4,w5⟩:=h.after hc hb hob (by omega)
 obtain ⟨m1,m2⟩:=h.made hc ho (b - a) (by omega) (fun e=>by omega)
 rw [D19 _ _ _ (by omega)] at m1
 rw [F70 _ _ _ (by omega)] at m2
 rw [show a+(b - a)=b by omega] at m1 m2
 obtain ⟨r1,r2,r3,r4⟩:=h.nn a (by omega)
 obtain ⟨s1,s2,s3,s4⟩:=h.nn b hb
 obtain ⟨k1,⟨k2,k2'⟩,k3,⟨k4,k4'⟩,k5,k6,k7,k8⟩:=m8 _ _ _ _ _ _ h.sc a hla
 have hlb:b - 1 < l.length:=by omega
 obtain ⟨g1,⟨g2,g2'⟩,g3,⟨g4,g4'⟩,g5,g6,g7,g8⟩:=m8 _ _ _ _ _ _ h.sc (b - 1) hlb
 have eo:eoI 0 l b=(cAt l (b - 1)).Old+(cAt l (b - 1)).OldLen:=by unfold eoI;rw [if_neg (by omega)];rfl
 have en:enI 0 l b=(cAt l (b - 1)).New+(cAt l (b - 1)).NewLen:=by unfold enI;rw [if_neg (by omega)];rfl
 have mo:=h.ok.mono a (b - 1) (by omega) (by omega)
 have mn:(cAt l a).New≤enI 0 l b:=by
  have m4:∀u,a+u≤l.length→(cAt l a).New≤enI 0 l (a+u)∨u=0:=by
   intro u
   induction u with
   | zero=>exact fun _=>.inr rfl
   | succ u ihu =>
    intro hu
    obtain ⟨e1,e2,⟨e3,e3'⟩,⟨e4,e4'⟩,e5,e6,e7,e8⟩:=m8 _ _ _ _ _ _ h.sc (a+u) (by omega)
    have e9:enI 0 l (a+(u+1))=(cAt l (a+u)).New+(cAt l (a+u)).NewLen:=rfl
    rcases ihu (by omega) with h' | h'
    ·left;omega
    ·left;subst h';rw [e9];show (cAt l a).New≤(cAt l a).New+(cAt l a).NewLen;exact Int.le_add_of_nonneg_right e4
  have:=(m4 (b - a) (by omega)).resolve_right (by omega)
  rwa [show a+(b - a)=b by omega] at this
 have hF:(mkH l x.length ctx a b).First.toNat=a:=by show ((a:Int)).toNat=a;omega
 have hL:(mkH l x.length ctx a b).Last.toNat - (mkH l x.length ctx a b).First.toNat=b - a:=by
  show (((b - 1:Nat):Int)+1).toNat - ((a:Int)).toNat=b - a;omega
 have hOF:(mkH l x.length ctx a b).Old.From=(cAt l a).Old - eA l ctx a:=rfl
 have hNF:(mkH l x.length ctx a b).New.From=(cAt l a).New - eA l ctx a:=rfl
 have hOT:(mkH l x.length ctx a b).Old.To=eoI 0 l b+eB l x.length ctx b:=by
  unfold eB;rw [eo];rfl
 obtain ⟨P,hP⟩:∃P,P=F6 l x y (mkH l x.length ctx a b):=⟨_,rfl⟩
 have hPl:P.Lines=L8 l x y ((cAt l a).Old - eA l ctx a) a (b - a)++J6 32 (sub x (eoI 0 l b) (eoI 0 l b+eB l x.length ctx b)):=by
  rw [hP];unfold F6
  show L8 l x y _ (mkH l x.length ctx a b).First.toNat ((mkH l x.length ctx a b).Last.toNat - (mkH l x.length ctx a b).First.toNat)++J6 32 (sub x (O3 l _ (mkH l x.length ctx a b).First.toNat ((mkH l x.length ctx a b).Last.toNat - (mkH l x.length ctx a b).First.toNat)) _)=_
  rw [hL,hF,hOF,hOT,D19 _ _ _ (by omega),show a+(b - a)=b by omega]
 have hPO:P.Old=(cAt l a).Old - eA l ctx a:=by rw [hP];rfl
 have hPN:P.New=(cAt l a).New - eA l ctx a:=by rw [hP];rfl
 have h43:D2 P.Lines 43=sub x ((cAt l a).Old - eA l ctx a) (eoI 0 l b+eB l x.length ctx b):=by
  rw [hPl,A64,A65,if_neg (by decide),m1]
  exact A62 x (by omega) (by omega) (by omega)
 have h45:D2 P.Lines 45=sub y ((cAt l a).New - eA l ctx a) (enI 0 l b+eB l x.length ctx b):=by
  rw [hPl,A64,A65,if_neg (by decide),m2,w5]
  exact A62 y (by omega) (by omega) (by omega)
 have hon:M4 P=eoI 0 l b+eB l x.length ctx b - ((cAt l a).Old - eA l ctx a):=by
  unfold M4;rw [h43];exact A63 x (by omega) (by omega) (by omega)
 have hnn:N2 P=enI 0 l b+eB l x.length ctx b - ((cAt l a).New - eA l ctx a):=by
  unfold N2;rw [h45];exact A63 y (by omega) (by omega) (by omega)
 rw [←hP]
 refine ⟨hPO,hPN,by omega,by omega,by omega,by omega,by omega,by omega,?_,?_,?_,?_⟩
 ·rw [h43];congr 1
  ·exact hPO.symm
  ·omega
 ·rw [h45];congr 1
  ·exact hPN.symm
  ·omega
 ·rw [hPl,D20]
  have e:L8 l x y ((cAt l a).Old - eA l ctx a) a (b - a)=L8 l x y ((cAt l a).Old - eA l ctx a) a (b - 1 - a+1):=by congr 1;omega
  rw [e]
  simp only [L8,D20]
  rw [show a+(b - 1 - a)=b - 1 by omega]
  have key:T0 (J6 45 (sub x (cAt l (b - 1)).Old (Q6 (cAt l (b - 1)))))=true∨T0 (J6 43 (sub y (cAt l (b - 1)).New ((cAt l (b - 1)).New+(cAt l (b - 1)).NewLen)))=true:=by
   obtain ⟨g3a,g3b⟩:=g3
   obtain ⟨g1a,g1b⟩:=g1
   by_cases h0:(cAt l (b - 1)).OldLen=0
   ·right
    refine D21 (by decide) fun e0=>?_
    have:=A63 y (a:=(cAt l (b - 1)).New) (b:=(cAt l (b - 1)).New+(cAt l (b - 1)).NewLen) g3a (by omega) (by omega)
    rw [e0] at this;simp at this;omega
   ·left
    refine D21 (by decide) fun e0=>?_
    have:=A63 x (a:=(cAt l (b - 1)).Old) (b:=Q6 (cAt l (b - 1))) g1a (by unfold Q6;omega) (by unfold Q6;omega)
    rw [e0] at this;unfold Q6 at this;simp at this;omega
  rcases key with e1 | e1<;>rw [e1]<;>simp
 ·intro hx hy
  rw [hPl,List.all_append,C48 hx hy,Bool.true_and]
  exact A66 (.inl rfl) (fun s hs=>hx s (C65 hs))
theorem ScFit.hunks (h:ScFit x y l) {ctx:Int} (hc:0≤ctx) (hx:∀s∈x,O0 s=true) (hy:∀s∈y,O0 s=true):∀(hs:List Hunk) (a:Nat),GrOk l x.length ctx a hs l.length →
  ∀(i j e:Int),i=eoI 0 l a+e→j=enI 0 l a+e→0≤e→e≤ctx→(a=0→e=0) →
  X3 i j (hs.map (F6 l x y))=true∧(F8 (hs.map (F6 l x y)) 43).Sublist (x.drop i.toNat)∧(F8 (hs.map (F6 l x y)) 45).Sublist (y.drop j.toNat) ∧
   ∀p∈hs.map (F6 l x y),(p.Old+M4 p≤x.length∧p.New+N2 p≤y.length∧0≤p.Old∧0≤p.New)∧D2 p.Lines 43=sub x p.Old (p.Old+M4 p)∧D2 p.Lines 45=sub y p.New (p.New+N2 p)
 | [],a,_,i,j,e,_,_,_,_,_=>⟨rfl,by simp [F8],by simp [F8],by simp⟩
 | hk::hs,a,⟨b,hab,ho,hE,hr⟩,i,j,e,hi,hj,he,hec,he0=>by
  have hb:=hr.le
  have hob:b < l.length→opens l ctx b:=by
   intro hlt
   cases hs with
   | nil=>exact absurd hr (by show ¬b=l.length;omega)
   | cons h2 hs2=>obtain ⟨_,_,ho2,_⟩:=hr;exact ho2
  obtain ⟨w1,w2,w3,w4,w5⟩:=h.after hc hb hob (by omega)
  obtain ⟨q1,q2,q3⟩:=h.before hc (show a < l.length by omega) ho
  have H:=h.hunk hc hab hb ho hob
  rw [←hE] at H
  obtain ⟨P,hP⟩:∃P,P=F6 l x y hk:=⟨_,rfl⟩
  rw [←hP] at H
  obtain ⟨i1,i2,i3,i4⟩:=ScFit.hunks h hc hx hy hs b hr (P.Old+M4 P) (P.New+N2 P) (eB l x.length ctx b) H.oe H.ne w1 w2 (by omega)
  obtain ⟨k1,⟨k2,k2'⟩,k3,⟨k4,k4'⟩,k5,k6,k7,k8⟩:=m8 _ _ _ _ _ _ h.sc a (show a < l.length by omega)
  have h1:=H.old
  have h2:=H.new
  have h3:=H.o0
  have h4:=H.n0
  have h5:=H.ox
  have h6:=H.ny
  have h7:=h.lx
  have h8:=h.ly
  have n1:0≤M4 P:=by unfold M4;omega
  have n2:0≤N2 P:=by unfold N2;omega
  have hgap:e+eA l ctx a≤(cAt l a).Old - eoI 0 l a:=by
   by_cases h0:a=0
   ·have:=he0 h0;omega
   ·have:=B12 ho h0;omega
  obtain ⟨r1,r2,r3,r4⟩:=h.nn a (by omega)
  have hij:i≤P.Old∧j≤P.New∧P.Old - i=P.New - j∧0≤i∧0≤j:=by omega
  have hsub:∀(z:List Str) (i f t:Int),0≤i→i≤f→f≤t→∀r:List Str,r.Sublist (z.drop t.toNat)→(sub z f t++r).Sublist (z.drop i.toNat):=by
   intro z i f t h0 h1 h2 r hr
   have e1:z.drop f.toNat=sub z f t++z.drop t.toNat:=by
    unfold sub
    rw [show t.toNat=f.toNat+(t.toNat - f.toNat) by omega,←List.drop_drop,show f.toNat+(t.toNat - f.toNat) - f.toNat=t.toNat - f.toNat by omega,H12]
   have e2:z.drop f.toNat=(z.drop i.toNat).drop (f.toNat - i.toNat):=by rw [List.drop_drop];congr 1;omega
   refine List.Sublist.trans ?_ (List.drop_sublist (f.toNat - i.toNat) (z.drop i.toNat))
   rw [←e2,e1]
   exact List.Sublist.append_left hr _
  have key:∀(k:UInt8),F8 ((hk::hs).map (F6 l x y)) k=D2 P.Lines k++F8 (hs.map (F6 l x y)) k:=by
   intro k;rw [hP];simp [F8]
  refine ⟨?_,?_,?_,?_⟩
  ·rw [G87,←hP]
   simp only [X3,H.gl hx hy,i1,Bool.and_true,Bool.true_and,G80,decide_eq_true_eq]
   refine ⟨?_,by omega⟩
   unfold R4
   rw [H.ch]
   rintro (((((e0 | e0) | e0) | e0) | e0) | e0)
   ·cases e0
   all_goals omega
  ·rw [key,H.ol]
   exact hsub x i P.Old (P.Old+M4 P) hij.2.2.2.1 hij.1 (by omega) _ i2
  ·rw [key,H.nl]
   exact hsub y j P.New (P.New+N2 P) hij.2.2.2.2 hij.2.1 (by omega) _ i3
  ·rw [G87,←hP]
   intro p hp
   rcases List.mem_cons.1 hp with rfl | hp
   ·exact ⟨⟨h5,h6,h3,h4⟩,H.ol,H.nl⟩
   ·exact i4 p hp
theorem B91:∀{s z:List Str},s.Sublist z→M8 z=true→M8 s=true:=by
 intro s z hs
 induction hs with
 | slnil=>exact fun h=>h
 | cons a _ ih =>
  intro h
  simp only [M8,G80] at h
  exact ih h.2
 | cons_cons a hs2 ih =>
  intro h
  simp only [M8,G80,H07] at h ⊢
  refine ⟨?_,ih h.2⟩
  rcases h.1 with h1 | h1
  ·left
   rw [List.isEmpty_iff] at h1 ⊢
   rw [h1] at hs2
   exact List.sublist_nil.1 hs2
  ·exact .inr h1
def F9 (l:List Change) (x y:List Str) (ctx:Int):List PatchHunk:=(F2 l x.length ctx l.length).map (F6 l x y)
theorem ScFit.good (h:ScFit x y l) {ctx:Int} (hc:0≤ctx) (hx:∀s∈x,O0 s=true) (hy:∀s∈y,O0 s=true) (ex:M8 x=true) (ey:M8 y=true):T9 (F9 l x y ctx)=true:=by
 obtain ⟨h1,h2,h3,_⟩:=h.hunks hc hx hy _ 0 (A61 l x.length ctx l.length) 0 0 0 rfl rfl (Int.le_refl _) hc (fun _=>rfl)
 unfold T9 C19 F9
 rw [h1,B91 h2 (by simpa using ex),B91 h3 (by simpa using ey)]
 rfl
theorem ScFit.texts (h:ScFit x y l) {ctx:Int} (hc:0≤ctx) (hx:∀s∈x,O0 s=true) (hy:∀s∈y,O0 s=true):∀p∈F9 l x y ctx,(p.Old+M4 p≤x.length∧p.New+N2 p≤y.length∧0≤p.Old∧0≤p.New)∧D2 p.Lines 43=sub x p.Old (p.Old+M4 p)∧D2 p.Lines 45=sub y p.New (p.New+N2 p) :=
 (h.hunks hc hx hy _ 0 (A61 l x.length ctx l.length) 0 0 0 rfl rfl (Int.le_refl _) hc (fun _=>rfl)).2.2.2
end
theorem C49 (cur:Str) (c:UInt8) (h:∀z∈cur,z≠10):O0 (cur++[c])=true:=by
 unfold O0
 simp only [List.dropLast_concat,G80]
 refine ⟨List.all_eq_true.2 fun z hz=>by simpa using h z hz,by simp⟩
theorem A95:∀(s cur:Str),(∀z∈cur,z≠10)→(∀t∈H5 cur s,O0 t=true)∧M8 (H5 cur s)=true
 | [],cur,hc=>by
  unfold H5
  split
  ·exact ⟨by simp,rfl⟩
  ·rename_i h
   refine ⟨fun t ht=>?_,rfl⟩
   obtain rfl:t=cur:=by simpa using ht
   obtain ⟨d,r,e⟩:∃d r,t=r++[d]:=⟨t.getLast h,t.dropLast,(List.dropLast_concat_getLast h).symm⟩
   rw [e]
   exact C49 r d fun z hz=>hc z (by rw [e];simp [hz])
 | c::r,cur,hc=>by
  rw [n6]
  by_cases h:c=10
  ·rw [if_pos h]
   obtain ⟨h1,h2⟩:=A95 r [] (by simp)
   refine ⟨fun t ht=>?_,?_⟩
   ·rcases List.mem_cons.1 ht with rfl | ht
    ·exact C49 cur c hc
    ·exact h1 t ht
   ·simp only [M8,h2,Bool.and_true,H07]
    right;unfold ended;subst h;simp
  ·rw [if_neg h]
   refine A95 r (cur++[c]) fun z hz=>?_
   rcases List.mem_append.1 hz with hz | hz
   ·exact hc z hz
   ·simp at hz;subst hz;exact h
theorem m9 (b:Str):(∀t∈B7 b,O0 t=true)∧M8 (B7 b)=true:=A95 b [] (by simp)
end Go.AL
namespace Go.AL
open Go
theorem C21 {m n:Int} (hm:F7 m) (hn:F7 n):∀(p:List Span) (i j i0 j0:Int) (k0:Nat),Asc m n i j p→0≤i0→0≤j0→i0≤i→i - i0=j - j0→(0 < k0→i0 < i)→I4 k0 i0 j0 (Q8 i j p m n) m n=true
 | [],i,j,i0,j0,k0,ha,h1,h2,h3,h4,h5=>by
  obtain ⟨a1,a2⟩:i≤m∧j≤n:=ha
  obtain ⟨m1,m2⟩:=hm
  obtain ⟨n1,n2⟩:=hn
  unfold Q8
  split
  ·rename_i hc
   simp only [I4,G80,decide_eq_true_eq]
   refine ⟨?_,by omega⟩
   unfold B84 F7
   show ¬(((((((¬(0≤i∧i≤4096)∨¬(0≤m - i∧m - i≤4096))∨¬(0≤j∧j≤4096))∨¬(0≤n - j∧n - j≤4096))∨m - i+(n - j)=0)∨i - i0≠j - j0)∨i < i0)∨(0 < (k0:Int)∧i=i0))
   omega
  ·simp only [I4,decide_eq_true_eq];omega
 | x::r,i,j,i0,j0,k0,ha,h1,h2,h3,h4,h5=>by
  obtain ⟨a1,a2,a3⟩:=ha
  have hle:=a3.le
  unfold Q8
  split
  ·rename_i hc
   simp only [H09,H10,I4,G80,decide_eq_true_eq]
   refine ⟨?_,?_⟩
   ·obtain ⟨m1,m2⟩:=hm
    obtain ⟨n1,n2⟩:=hn
    unfold B84 F7
    show ¬(((((((¬(0≤i∧i≤4096)∨¬(0≤x.From - i∧x.From - i≤4096))∨¬(0≤j∧j≤4096))∨¬(0≤x.To - j∧x.To - j≤4096))∨x.From - i+(x.To - j)=0)∨i - i0≠j - j0)∨i < i0)∨(0 < (k0:Int)∧i=i0))
    omega
   ·exact C21 hm hn r _ _ _ _ _ a3 (by omega) (by omega) (by omega) (by omega) (fun _=>by omega)
  ·rw [H10]
   exact C21 hm hn r _ _ _ _ _ a3 h1 h2 (by omega) (by omega) (fun h=>by omega)
def EqAt (X Y:List Str) (s:Span):Prop:=0≤s.From∧0≤s.To∧∃v,X[s.From.toNat]?=some v∧Y[s.To.toNat]?=some v
theorem A38 {X:List Str} {a b:Int} {v:Str} (h0:0≤a) (h1:a≤b) (hv:X[b.toNat]?=some v):sub X a (b+1)=sub X a b++[v]:=by
 rw [←A62 X h0 h1 (by omega:b≤b+1)]
 congr 1
 unfold sub
 obtain ⟨hl,e⟩:=List.getElem?_eq_some_iff.1 hv
 rw [G86 hl,e,show (b+1).toNat - b.toNat=1 by omega]
 rfl
theorem C22 {X Y:List Str}:∀(p:List Span) (i j i0 j0:Int),Asc X.length Y.length i j p→0≤i0→0≤j0→i0≤i→j0≤j→(∀s∈p,EqAt X Y s)→sub X i0 i=sub Y j0 j→A93 X Y i0 j0 (Q8 i j p X.length Y.length)
 | [],i,j,i0,j0,ha,h1,h2,h3,h4,he,hs=>by
  obtain ⟨a1,a2⟩:i≤(X.length:Int)∧j≤(Y.length:Int):=ha
  unfold Q8
  split
  ·refine ⟨hs,?_⟩
   show sub X (i+(X.length - i)) X.length=sub Y (j+(Y.length - j)) Y.length
   rw [show i+((X.length:Int) - i)=X.length by omega,show j+((Y.length:Int) - j)=Y.length by omega,A17,A17]
  ·have e1:(X.length:Int)=i:=by omega
   have e2:(Y.length:Int)=j:=by omega
   show sub X i0 X.length=sub Y j0 Y.length
   rw [e1,e2];exact hs
 | x::r,i,j,i0,j0,ha,h1,h2,h3,h4,he,hs=>by
  obtain ⟨a1,a2,a3⟩:=ha
  obtain ⟨_,_,v,v1,v2⟩:=he x (by simp)
  have hr:∀s∈r,EqAt X Y s:=fun s hs=>he s (by simp [hs])
  unfold Q8
  split
  ·refine ⟨hs,?_⟩
   show A93 X Y (i+(x.From - i)) (j+(x.To - j)) (Q8 (x.From+1) (x.To+1) r X.length Y.length)
   rw [show i+(x.From - i)=x.From by omega,show j+(x.To - j)=x.To by omega]
   refine C22 r _ _ _ _ a3 (by omega) (by omega) (by omega) (by omega) hr ?_
   rw [A38 (by omega) (Int.le_refl _) v1,A38 (by omega) (Int.le_refl _) v2,A17,A17]
  ·have e1:x.From=i:=by omega
   have e2:x.To=j:=by omega
   rw [H10]
   refine C22 r _ _ _ _ a3 h1 h2 (by omega) (by omega) hr ?_
   rw [A38 h1 (by omega) v1,A38 h2 (by omega) v2,e1,e2,hs]
theorem G08:∀(a b:List Int) (p q:Int),∀s∈H0 p q a b,p≤s.From∧q≤s.To∧∃v,a[(s.From - p).toNat]?=some v∧b[(s.To - q).toNat]?=some v:=by
 intro a
 induction a with
 | nil=>intro b p q s hs;simp [H0] at hs
 | cons x a iha =>
  intro b
  induction b with
  | nil=>intro p q s hs;simp [H0] at hs
  | cons y b ihb =>
   intro p q s hs
   unfold H0 at hs
   split at hs
   ·rename_i e
    rcases List.mem_cons.1 hs with rfl | hs
    ·exact ⟨Int.le_refl _,Int.le_refl _,x,by simp,by simp [e]⟩
    ·obtain ⟨h1,h2,v,h3,h4⟩:=iha b (p+1) (q+1) s hs
     refine ⟨by omega,by omega,v,?_,?_⟩
     ·rw [show (s.From - p).toNat=(s.From - (p+1)).toNat+1 by omega];simpa using h3
     ·rw [show (s.To - q).toNat=(s.To - (q+1)).toNat+1 by omega];simpa using h4
   ·split at hs
    ·obtain ⟨h1,h2,v,h3,h4⟩:=iha (y::b) (p+1) q s hs
     refine ⟨by omega,by omega,v,?_,h4⟩
     rw [show (s.From - p).toNat=(s.From - (p+1)).toNat+1 by omega];simpa using h3
    ·obtain ⟨h1,h2,v,h3,h4⟩:=ihb p (q+1) s hs
     refine ⟨by omega,by omega,v,h3,?_⟩
     rw [show (s.To - q).toNat=(s.To - (q+1)).toNat+1 by omega];simpa using h4
theorem A96:∀(l:List Str) (s t:Str) (k:Int),0≤k→s∈l→t∈l→H7 l s k=H7 l t k→s=t
 | [],_,_,_,_,h,_,_=>by simp at h
 | x::r,s,t,k,hk,hs,ht,e=>by
  unfold H7 at e
  by_cases h1:x=s
  ·by_cases h2:x=t
   ·exact h1.symm.trans h2
   ·rw [if_pos h1,if_neg h2] at e
    have ht':t∈r:=(List.mem_cons.1 ht).resolve_left (fun q=>h2 q.symm)
    have:=D11 r t (k+1) (by omega) ht'
    omega
  ·have hs':s∈r:=(List.mem_cons.1 hs).resolve_left (fun q=>h1 q.symm)
   by_cases h2:x=t
   ·rw [if_neg h1,if_pos h2] at e
    have:=D11 r s (k+1) (by omega) hs'
    omega
   ·rw [if_neg h1,if_neg h2] at e
    exact A96 r s t (k+1) (by omega) hs' ((List.mem_cons.1 ht).resolve_left (fun q=>h2 q.symm)) e
theorem B13 {names f:List Str} {i:Nat} {v:Int} (h:(E2 names f)[i]?=some v):∃s,f[i]?=some s∧H7 names s 0=v:=by
 unfold E2 at h
 rw [H14] at h
 cases hf:f[i]? with
 | none=>rw [hf] at h;cases h
 | some s=>rw [hf] at h;exact ⟨s,rfl,Option.some.inj h⟩
theorem A03 (x y:List Str) (hx:x.length≤4096) (hy:y.length≤4096):ScFit x y (F0 x y):=by
 have l1:(E2 (C3 [x,y]) x).length=x.length:=by simp [E2]
 have l2:(E2 (C3 [x,y]) y).length=y.length:=by simp [E2]
 have hA:=D10 (E2 (C3 [x,y]) x) (E2 (C3 [x,y]) y) 0 0
 rw [l1,l2,Int.zero_add,Int.zero_add] at hA
 refine ⟨by omega,by omega,?_,?_⟩
 ·unfold F0 y9 m6
  rw [l1,l2]
  exact C21 ⟨by omega,by omega⟩ ⟨by omega,by omega⟩ _ _ _ _ _ _ hA (Int.le_refl _) (Int.le_refl _) (Int.le_refl _) rfl (fun h=>absurd h (by omega))
 ·unfold F0 y9 m6
  rw [l1,l2]
  refine C22 _ _ _ _ _ hA (Int.le_refl _) (Int.le_refl _) (Int.le_refl _) (Int.le_refl _) ?_ (by rw [A17,A17])
  intro s hs
  obtain ⟨h1,h2,v,h3,h4⟩:=G08 _ _ _ _ s hs
  rw [Int.sub_zero] at h3 h4
  obtain ⟨u,u1,u2⟩:=B13 h3
  obtain ⟨w,w1,w2⟩:=B13 h4
  have e:u=w:=A96 (C3 [x,y]) u w 0 (Int.le_refl _) (Q5 _ _ x (by simp) (G98 u1)) (Q5 _ _ y (by simp) (G98 w1)) (u2.trans w2.symm)
  subst e
  exact ⟨h1,h2,u,u1,w1⟩
theorem D94:∀(ls:List PatchLine),ls.all U9=true→(ls.map szL).sum≤64*((D2 ls 43).length+(D2 ls 45).length)+((D2 ls 43).flatten.length+(D2 ls 45).flatten.length)
 | [],_=>by simp
 | q::ls,h=>by
  rw [List.all_cons,G80] at h
  have ih:=D94 ls h.2
  have hk:q.Kind=32∨q.Kind=45∨q.Kind=43:=by
   have hg:=h.1
   unfold U9 at hg
   have hg:=A0 hg
   by_cases h1:q.Kind=32
   ·exact .inl h1
   by_cases h2:q.Kind=45
   ·exact .inr (.inl h2)
   by_cases h3:q.Kind=43
   ·exact .inr (.inr h3)
   exact absurd (.inl ⟨⟨h1,h2⟩,h3⟩) hg
  have hd:∀k:UInt8,D2 (q::ls) k=if q.Kind≠k then q.Text::D2 ls k else D2 ls k:=by
   intro k
   unfold D2
   by_cases e:q.Kind=k
   ·rw [if_neg (by simpa using e),List.filter_cons_of_neg (by simpa using e)]
   ·rw [if_pos e,List.filter_cons_of_pos (by simpa using e)];rfl
  rw [hd 43,hd 45,G87,H08]
  have hz:szL q=q.Text.length+64:=rfl
  rcases hk with e | e | e<;>rw [e]<;>simp (decide:=true) only [if_true,if_false,ne_eq,not_true_eq_false,not_false_eq_true,G81,H03,G79]<;>omega
theorem B92:∀(hs:List PatchHunk) (i j:Int),X3 i j hs=true→szP hs≤128*((F8 hs 43).length+(F8 hs 45).length)+((F8 hs 43).flatten.length+(F8 hs 45).flatten.length)
 | [],_,_,_=>by simp [szP]
 | h :: hs,i,j,hg=>by
  simp only [X3,G80,decide_eq_true_eq] at hg
  obtain ⟨h1,h2,h3,h4⟩:=hg
  have ih:=B92 hs _ _ h4
  have hl:=D94 h.Lines h1
  have hne:1≤h.Lines.length:=by
   cases hq:h.Lines with
   | nil=>exact absurd (.inl (.inl (.inl (.inl (.inl (by rw [hq];rfl)))))) h2
   | cons a b=>simp
  have hcnt:h.Lines.length≤(D2 h.Lines 43).length+(D2 h.Lines 45).length:=by
   have:64*h.Lines.length≤(h.Lines.map szL).sum:=W3 h.Lines
   have key:∀ls:List PatchLine,ls.length≤(D2 ls 43).length+(D2 ls 45).length:=by
    intro ls
    induction ls with
    | nil=>simp
    | cons q ls ih =>
     have hd:∀k:UInt8,(D2 (q::ls) k).length=if q.Kind≠k then (D2 ls k).length+1 else (D2 ls k).length:=by
      intro k
      unfold D2
      by_cases e:q.Kind=k
      ·rw [if_neg (by simpa using e),List.filter_cons_of_neg (by simpa using e)]
      ·rw [if_pos e,List.filter_cons_of_pos (by simpa using e)];simp
     rw [hd 43,hd 45,G81]
     by_cases e:q.Kind=43
     ·have e2:q.Kind≠45:=by rw [e];decide
      rw [if_pos e2];split<;>omega
     ·rw [if_pos e];split<;>omega
   exact key h.Lines
  have hsz:szP (h::hs)=szH h+szP hs:=by simp [szP]
  have hszh:szH h=64+(h.Lines.map szL).sum:=rfl
  have hs1:∀k,F8 (h::hs) k=D2 h.Lines k++F8 hs k:=by intro k;simp [F8]
  rw [hsz,hszh,hs1 43,hs1 45]
  simp only [G79,G99]
  omega
theorem C50:∀{s z:List Str},s.Sublist z→s.flatten.length≤z.flatten.length:=by
 intro s z hs
 induction hs with
 | slnil=>exact Nat.le_refl _
 | cons a _ ih=>simp only [H03,G79];omega
 | cons_cons a _ ih=>simp only [H03,G79];omega
theorem ScFit.size {x y:List Str} {l:List Change} (h:ScFit x y l) {ctx:Int} (hc:0≤ctx) (hx:∀s∈x,O0 s=true) (hy:∀s∈y,O0 s=true):szP (F9 l x y ctx)≤128*(x.length+y.length)+(x.flatten.length+y.flatten.length):=by
 obtain ⟨h1,h2,h3,_⟩:=h.hunks hc hx hy _ 0 (A61 l x.length ctx l.length) 0 0 0 rfl rfl (Int.le_refl _) hc (fun _=>rfl)
 have h4:=B92 _ _ _ h1
 have e:F9 l x y ctx=(F2 l x.length ctx l.length).map (F6 l x y):=rfl
 rw [←e] at h2 h3 h4
 have h2':(F8 (F9 l x y ctx) 43).Sublist x:=by simpa using h2
 have h3':(F8 (F9 l x y ctx) 45).Sublist y:=by simpa using h3
 have:=h2'.length_le
 have:=h3'.length_le
 have:=C50 h2'
 have:=C50 h3'
 omega
theorem D22 (s:Str):∀cur:Str,(H5 cur s).flatten=cur++s:=by
 induction s with
 | nil=>intro cur;unfold H5;split<;>simp [*]
 | cons c r ih=>intro cur;rw [n6];split<;>simp [ih]
theorem P5 (a:Str):(B7 a).flatten.length=a.length∧(B7 a).length≤a.length:=⟨by unfold B7;rw [D22];rfl,X0 a⟩
theorem n9 {a:Str} (h:a.length≤4096):K0 a=(B7 a,0):=by
 have:=X0 a
 unfold K0;rw [if_neg (by omega)]
theorem E90 (on nn a b:Str) (ctx:Int) (hn:G7 on=true) (hn':G7 nn=true) (hc:0≤ctx) (hc':ctx≤1048576) (ha:a.length≤4096) (hb:b.length≤4096) :
  E28 on nn a b ctx=(⟨on,nn,F9 (F0 (B7 a) (B7 b)) (B7 a) (B7 b) ctx⟩,0)∧H1 ⟨on,nn,F9 (F0 (B7 a) (B7 b)) (B7 a) (B7 b) ctx⟩=0∧ScFit (B7 a) (B7 b) (F0 (B7 a) (B7 b)):=by
 obtain ⟨f1,f2⟩:=P5 a
 obtain ⟨f3,f4⟩:=P5 b
 have hfit:=A03 (B7 a) (B7 b) (by omega) (by omega)
 obtain ⟨a1,a2⟩:=m9 a
 obtain ⟨b1,b2⟩:=m9 b
 have hg:=hfit.good hc a1 b1 a2 b2
 have hz:=hfit.size hc a1 b1
 have hgr:P0 (F0 (B7 a) (B7 b)) (B7 a).length (B7 b).length ctx=(F2 (F0 (B7 a) (B7 b)) (B7 a).length ctx (F0 (B7 a) (B7 b)).length,0):=by
  unfold P0
  rw [if_neg (by omega),hfit.check,if_neg (by simp)]
 have hm:m7 (B7 a) (B7 b) ctx=F9 (F0 (B7 a) (B7 b)) (B7 a) (B7 b) ctx:=by
  unfold m7 F9;rw [hgr]
 have hch:H1 ⟨on,nn,F9 (F0 (B7 a) (B7 b)) (B7 a) (B7 b) ctx⟩=0:=by
  unfold H1
  have hw:(M1 ⟨on,nn,F9 (F0 (B7 a) (B7 b)) (B7 a) (B7 b) ctx⟩).length≤16777216:=by
   have h1:(M1 ⟨on,nn,F9 (F0 (B7 a) (B7 b)) (B7 a) (B7 b) ctx⟩).length≤(Y4 ⟨on,nn,F9 (F0 (B7 a) (B7 b)) (B7 a) (B7 b) ctx⟩).flatten.length+szP (F9 (F0 (B7 a) (B7 b)) (B7 a) (B7 b) ctx):=by
    unfold M1 A15
    rw [G99,G79]
    have:=Y1 (F9 (F0 (B7 a) (B7 b)) (B7 a) (B7 b) ctx)
    show _+((F9 (F0 (B7 a) (B7 b)) (B7 a) (B7 b) ctx).map T3).flatten.flatten.length≤_
    omega
   have h2:=d8 ⟨on,nn,F9 (F0 (B7 a) (B7 b)) (B7 a) (B7 b) ctx⟩
   have h3:(Y4 ⟨on,nn,F9 (F0 (B7 a) (B7 b)) (B7 a) (B7 b) ctx⟩).flatten.length≤4*on.length+4*nn.length+14:=h2
   unfold G7 at hn hn'
   have:=A0 hn
   have:=A0 hn'
   omega
  rw [if_neg (by rw [show (Patch.mk on nn (F9 (F0 (B7 a) (B7 b)) (B7 a) (B7 b) ctx)).OldName=on from rfl,show (Patch.mk on nn (F9 (F0 (B7 a) (B7 b)) (B7 a) (B7 b) ctx)).NewName=nn from rfl,hn,hn'];simp)]
  rw [if_neg (by rw [hg];simp),if_neg (by omega)]
 refine ⟨?_,hch,hfit⟩
 unfold E28
 rw [n9 ha,n9 hb]
 rw [if_neg (by rw [hn,hn'];simp),if_neg (by simp),if_neg (by simp),hgr,if_neg (by simp),hm,hch,if_neg (by simp)]
end Go.AL
namespace Go.AL
open Go
end Go.AL
namespace Go.AL
open Go
abbrev B51:Int→Nat→Cell:=fun x _=>.v (.int .u16 x)
abbrev pU16s (l:List Int):PV:=.one (.list Int 1 B51 l)
theorem F39 (n:Int) (h:0≤n∧n < 65536):IntKind.u16.wrap n=n:=by
 simp [IntKind.wrap,IntKind.signed,IntKind.bits];omega
def flat (a b:List Int) (done:Nat→Nat→Bool):List Int :=
 (List.range ((a.length+1)*(b.length+1))).map fun p=>if done (p / (b.length+1)) (p % (b.length+1))=true then (dist (a.drop (p / (b.length+1))) (b.drop (p % (b.length+1))):Int) else 0
theorem C51 (a b:List Int) (done:Nat→Nat→Bool):(flat a b done).length=(a.length+1)*(b.length+1):=by simp [flat]
theorem C66 {a b:List Int} {i j:Nat} (hi:i≤a.length) (hj:j≤b.length):i*(b.length+1)+j < (a.length+1)*(b.length+1)∧(i*(b.length+1)+j) / (b.length+1)=i∧(i*(b.length+1)+j) % (b.length+1)=j:=by
 refine ⟨?_,?_,?_⟩
 ·have:(i+1)*(b.length+1)≤(a.length+1)*(b.length+1):=G94 _ (by omega)
  rw [H04,Nat.one_mul] at this;omega
 ·rw [Nat.mul_comm,Nat.mul_add_div (by omega),Nat.div_eq_of_lt (by omega),Nat.add_zero]
 ·rw [Nat.mul_comm,Nat.mul_add_mod,Nat.mod_eq_of_lt (by omega)]
theorem D23 {a b:List Int} {done:Nat→Nat→Bool} {i j:Nat} (hi:i≤a.length) (hj:j≤b.length):(flat a b done)[i*(b.length+1)+j]?=some (if done i j=true then (dist (a.drop i) (b.drop j):Int) else 0):=by
 obtain ⟨h1,h2,h3⟩:=C66 hi hj
 unfold flat
 rw [C16 _ _ _ h1,h2,h3]
theorem E91 {a b:List Int} {done done':Nat→Nat→Bool} {i j:Nat} {v:Int} (hi:i≤a.length) (hj:j≤b.length) (hv:v=(dist (a.drop i) (b.drop j):Int)) (hd:done' i j=true)
  (ho:∀r q,r≤a.length→q≤b.length→¬(r=i∧q=j)→done' r q=done r q):(flat a b done).set (i*(b.length+1)+j) v=flat a b done':=by
 obtain ⟨h1,h2,h3⟩:=C66 hi hj
 unfold flat
 refine B10 _ _ _ _ _ (fun _=>?_) (fun q hq hne=>?_)
 ·rw [h2,h3,if_pos hd,hv]
 ·have hW:0 < b.length+1:=by omega
  have e:=Nat.div_add_mod q (b.length+1)
  have hr:q / (b.length+1)≤a.length:=by
   have:=(Nat.div_lt_iff_lt_mul hW).2 hq
   omega
  have hm:=Nat.mod_lt q hW
  rw [ho _ _ hr (by omega) (fun ⟨e1,e2⟩=>hne (by rw [e1,e2,Nat.mul_comm] at e;exact e.symm))]
theorem G09 (a b:List Int):List.replicate ((a.length+1)*(b.length+1)) 0=flat a b (fun _ _=>false):=by
 unfold flat
 simp only [Bool.false_eq_true,if_false]
 rw [List.map_const',H21]
theorem A67 {a b:List Int} {done done':Nat→Nat→Bool} (h:∀r q,r≤a.length→q≤b.length→(done r q=done' r q∨dist (a.drop r) (b.drop q)=0)):flat a b done=flat a b done':=by
 unfold flat
 apply List.map_congr_left
 intro p hp
 have hp:=List.mem_range.1 hp
 have hW:0 < b.length+1:=by omega
 have hr:p / (b.length+1)≤a.length:=by have:=(Nat.div_lt_iff_lt_mul hW).2 hp;omega
 have hm:=Nat.mod_lt p hW
 rcases h (p / (b.length+1)) (p % (b.length+1)) hr (by omega) with e | e
 ·rw [e]
 ·rw [e];simp
def U4:List Int→List Int→Nat
 | x::a,y::b=>if x=y then U4 a b+1 else 0
 | _,_=>0
theorem E92:∀(a b:List Int),U4 a b≤a.length∧U4 a b≤b.length
 | [],_=>by simp [U4]
 | _::_,[]=>by simp [U4]
 | x::a,y::b=>by
  have:=E92 a b
  unfold U4
  simp only [G81]
  split<;>omega
theorem D24 (a b:List Int) (k:Nat) (hk:k < a.length) (hk':k < b.length):U4 (a.drop k) (b.drop k)=if a[k]=b[k] then U4 (a.drop (k+1)) (b.drop (k+1))+1 else 0:=by
 rw [G86 hk,G86 hk'];rfl
theorem G10 (a b:List Int) (k:Nat) (h:¬(k < a.length∧k < b.length)):U4 (a.drop k) (b.drop k)=0:=by
 by_cases h1:k < a.length
 ·rw [G84 (as:=b) (by omega)]
  cases a.drop k<;>rfl
 ·rw [G84 (as:=a) (by omega)];rfl
theorem D25:∀(a b:List Int) (p q:Int),H0 p q a b=K7 p q (U4 a b)++H0 (p+U4 a b) (q+U4 a b) (a.drop (U4 a b)) (b.drop (U4 a b))
 | [],b,p,q=>by simp [U4,Y0]
 | x::a,[],p,q=>by simp [U4,Y0]
 | x::a,y::b,p,q=>by
  unfold U4
  by_cases h:x=y
  ·rw [if_pos h]
   conv=>lhs;unfold H0
   rw [if_pos h,D25 a b (p+1) (q+1),E24]
   simp only [List.drop_succ_cons,H09]
   rw [show p+1+(U4 a b:Int)=p+((U4 a b+1:Nat):Int) by omega,show q+1+(U4 a b:Int)=q+((U4 a b+1:Nat):Int) by omega]
  ·rw [if_neg h]
   simp [Y0]
end Go.AL
namespace Go.AL
open Go
def GrX (l:List Change) (m ctx:Int):Nat→List Hunk→Nat→Prop
 | a,[],k=>a=k
 | a,h::r,k=>∃b,a < b∧opens l ctx a∧(∀c,a < c→c < b→¬opens l ctx c)∧h=mkH l m ctx a b∧GrX l m ctx b r k
theorem GrX.le {l:List Change} {m ctx:Int}:∀{hs:List Hunk} {a k:Nat},GrX l m ctx a hs k→a≤k
 | [],a,k,h=>Nat.le_of_eq h
 | _::_,a,k,⟨b,h1,_,_,_,h2⟩=>by have:=GrX.le h2;omega
theorem GrX.unique {l:List Change} {m ctx:Int}:∀{hs hs':List Hunk} {a k:Nat},GrX l m ctx a hs k→GrX l m ctx a hs' k→hs=hs'
 | [],[],_,_,_,_=>rfl
 | [],_::_,a,k,h,⟨b,h1,_,_,_,h2⟩=>by have:=h2.le;have:a=k:=h;omega
 | _::_,[],a,k,⟨b,h1,_,_,_,h2⟩,h=>by have:=h2.le;have:a=k:=h;omega
 | x::r,x'::r',a,k,⟨b,h1,h2,h3,h4,h5⟩,⟨b',h1',h2',h3',h4',h5'⟩=>by
  have hopen:∀{r:List Hunk} {b:Nat},GrX l m ctx b r k→b < k→opens l ctx b:=by
   intro r b h hlt
   cases r with
   | nil=>have:b=k:=h;omega
   | cons y r=>obtain ⟨_,_,ho,_⟩:=h;exact ho
  have hb:b=b':=by
   have l1:=h5.le
   have l2:=h5'.le
   rcases Nat.lt_trichotomy b b' with hlt | rfl | hlt
   ·exact absurd (hopen h5 (by omega)) (h3' b h1 hlt)
   ·rfl
   ·exact absurd (hopen h5' (by omega)) (h3 b' h1' hlt)
  subst hb
  rw [h4,h4',GrX.unique h5 h5']
theorem GrX.snoc {l:List Change} {m ctx:Int} {k n:Nat} (ho:opens l ctx k) (hk:k < n) (hno:∀c,k < c→c < n→¬opens l ctx c):∀{hs:List Hunk} {a:Nat},GrX l m ctx a hs k→GrX l m ctx a (hs++[mkH l m ctx k n]) n
 | [],a,h=>by
  obtain rfl:a=k:=h
  exact ⟨n,hk,ho,hno,rfl,rfl⟩
 | _::_,a,⟨b,h1,h2,h3,h4,h5⟩=>⟨b,h1,h2,h3,h4,GrX.snoc ho hk hno h5⟩
theorem GrX.last {l:List Change} {m ctx:Int} {k:Nat} (hno:¬opens l ctx k):∀{hs:List Hunk} {a:Nat},GrX l m ctx a hs k→hs≠[]→GrX l m ctx a (hs.set (hs.length - 1) (u9 l m ctx k (hs.getD (hs.length - 1) B85))) (k+1)
 | [],_,_,h0=>absurd rfl h0
 | [h],a,⟨b,h1,h2,h3,h4,h5⟩,_=>by
  obtain rfl:b=k:=h5
  subst h4
  refine ⟨b+1,by omega,h2,fun c hc1 hc2=>?_,rfl,rfl⟩
  by_cases hcb:c=b
  ·rw [hcb];exact hno
  ·exact h3 c hc1 (by omega)
 | h::h'::r,a,⟨b,h1,h2,h3,h4,h5⟩,_=>by
  have ih:=GrX.last hno h5 (by simp)
  refine ⟨b,h1,h2,h3,h4,?_⟩
  simpa using ih
theorem C52 (l:List Change) (m ctx:Int):∀k,GrX l m ctx 0 (F2 l m ctx k) k
 | 0=>rfl
 | k+1=>by
  have ih:=C52 l m ctx k
  have hne:=(U3 l m ctx k).2
  simp only [F2,O9]
  by_cases ho:opens l ctx k
  ·rw [if_pos ho]
   have e:(F2 l m ctx k++[R3 l ctx k]).set ((F2 l m ctx k++[R3 l ctx k]).length - 1) (u9 l m ctx k ((F2 l m ctx k++[R3 l ctx k]).getD ((F2 l m ctx k++[R3 l ctx k]).length - 1) B85))=F2 l m ctx k++[mkH l m ctx k (k+1)]:=by
    simp [mkH]
   rw [e]
   exact ih.snoc ho (by omega) (fun c h1 h2=>by omega)
  ·rw [if_neg ho]
   refine ih.last ho ?_
   have:k≠0:=fun e=>ho (.inl e)
   have:=hne (by omega)
   intro e;rw [e] at this;simp at this
theorem GrX.len {l:List Change} {m ctx:Int}:∀{hs:List Hunk} {a k:Nat},GrX l m ctx a hs k→hs.length≤k - a
 | [],_,_,_=>Nat.zero_le _
 | _::_,a,k,⟨b,h1,_,_,_,h2⟩=>by have:=GrX.len h2;have:=h2.le;simp only [G81];omega
end Go.AL
namespace Go.AL
open Go
def v7:List Str→Int→List (Str × Cell)
 | [],_=>[]
 | s::r,i=>(s,.v (.int .i64 i))::v7 r (i+1)
theorem D95 (s:Str):∀(l:List Str) (i:Int),v7 (l++[s]) i=v7 l i++[(s,.v (.int .i64 (i+l.length)))]
 | [],i=>by simp [v7]
 | x::r,i=>by
  simp only [H09,v7,D95 s r,G81]
  rw [show i+1+(r.length:Int)=i+((r.length+1:Nat):Int) by omega]
theorem D96 (s:Str):∀(l:List Str) (i:Int),s∈l→s6 (v7 l i) s=some (.v (.int .i64 (H7 l s i)))
 | [],_,h=>by simp at h
 | x::r,i,h=>by
  simp only [v7,s6,H7]
  by_cases he:x=s
  ·rw [if_pos he,if_pos he]
  ·rw [if_neg he,if_neg he]
   exact D96 s r (i+1) ((List.mem_cons.1 h).resolve_left (fun q=>he q.symm))
theorem D26 (s:Str):∀(l:List Str) (i:Int),s∉l→s6 (v7 l i) s=none
 | [],_,_=>rfl
 | x::r,i,h=>by
  simp only [v7,s6]
  rw [if_neg (fun q=>h (by simp [q]))]
  exact D26 s r (i+1) (fun q=>h (by simp [q]))
theorem A97 (s:Str) (r:List Str):∀(l:List Str) (i:Int),s∈l→H7 (l++r) s i=H7 l s i
 | [],_,h=>by simp at h
 | x::l,i,h=>by
  simp only [H09,H7]
  by_cases he:x=s
  ·rw [if_pos he,if_pos he]
  ·rw [if_neg he,if_neg he]
   exact A97 s r l (i+1) ((List.mem_cons.1 h).resolve_left (fun q=>he q.symm))
theorem C53 (s:Str):∀(l:List Str) (i:Int),s∉l→H7 (l++[s]) s i=i+l.length
 | [],i,_=>by simp [H7]
 | x::l,i,h=>by
  simp only [H09,H7,G81]
  rw [if_neg (fun q=>h (by simp [q])),C53 s l (i+1) (fun q=>h (by simp [q]))]
  omega
theorem B93:∀(l out:List Str),∃r,l.foldl H3 out=out++r
 | [],out=>⟨[],by simp⟩
 | s::l,out=>by
  obtain ⟨r,hr⟩:=B93 l (H3 out s)
  rw [H13,hr]
  unfold H3
  split
  ·exact ⟨r,rfl⟩
  ·exact ⟨s::r,by simp⟩
def M2 (files:List (List Str)) (k j:Nat):List Str:=((files.take k).flatten++(files.getD k []).take j).foldl H3 []
theorem E93 (files:List (List Str)) (k:Nat):M2 files (k+1) 0=M2 files k (files.getD k []).length:=by
 unfold M2
 rw [List.take_zero,H05,G95]
 by_cases h:k < files.length
 ·rw [S7 files k h]
  congr 2
  simp [h]
 ·rw [H15 (by omega),H15 (by omega)]
  have:files.getD k []=[]:=by simp [show files.length≤k by omega]
  rw [this,H05]
theorem E31 (files:List (List Str)) (k j:Nat) (s:Str) (h:(files.getD k [])[j]?=some s):M2 files k (j+1)=H3 (M2 files k j) s:=by
 unfold M2
 have hj:j < (files.getD k []).length:=(List.getElem?_eq_some_iff.1 h).1
 have he:=(List.getElem?_eq_some_iff.1 h).2
 rw [G89 hj,he,←G91,List.foldl_append]
 rfl
theorem E94 (files:List (List Str)):M2 files files.length 0=C3 files:=by
 unfold M2 C3
 rw [G95];simp
theorem C54 (files:List (List Str)) (k j:Nat):∃r,C3 files=M2 files k j++r:=by
 have h:∃m,files.flatten=((files.take k).flatten++(files.getD k []).take j)++m:=by
  refine ⟨(files.getD k []).drop j++(files.drop (k+1)).flatten,?_⟩
  by_cases hk:k < files.length
  ·have e:files=files.take k++files.getD k []::files.drop (k+1):=by
    have:files.getD k []=files[k]:=by simp [hk]
    rw [this,List.getElem_cons_drop,H12]
   conv=>lhs;rw [e]
   rw [G99,H03,G91]
   congr 1
   rw [←G91,H12]
  ·have:files.getD k []=[]:=by simp [show files.length≤k by omega]
   rw [this,H15 (by omega:files.length≤k),G84 (by omega:files.length≤k+1)]
   simp
 obtain ⟨m,hm⟩:=h
 unfold C3 M2
 rw [hm,List.foldl_append]
 obtain ⟨r,hr⟩:=B93 m (((files.take k).flatten++(files.getD k []).take j).foldl H3 [])
 exact ⟨r,hr⟩
theorem D27 (files:List (List Str)) (k j:Nat):(M2 files k j).length≤files.flatten.length:=by
 obtain ⟨r,hr⟩:=C54 files k j
 have:=A90 files
 rw [hr,G79] at this;omega
def N6 (files:List (List Str)) (k:Nat):List TC:=(List.range files.length).map fun r=>if r < k then .p (.list Int 1 I8 (E2 (C3 files) (files.getD r []))) else .p (.v (.slice none 0 0))
theorem G11 {files:List (List Str)} {k:Nat} (h:k < files.length):(N6 files k)[k]?=some (.p (.v (.slice none 0 0))):=by
 simp [N6,h]
theorem E32 (files:List (List Str)) (k m:Nat) (_h:k < files.length):((N6 files k).set k (.buf m Int 1 I8 (E2 (C3 files) (files.getD k [])))).map (TC.forget m)=N6 files (k+1):=by
 have e1:(N6 files k).map (TC.forget m)=N6 files k:=by
  unfold N6
  rw [H17]
  apply List.map_congr_left
  intro r _
  simp only [Function.comp]
  split<;>rfl
 rw [List.map_set,e1]
 have e2:(TC.buf m Int 1 I8 (E2 (C3 files) (files.getD k []))).forget m=.p (.list Int 1 I8 (E2 (C3 files) (files.getD k []))):=by simp [TC.forget]
 rw [e2]
 unfold N6
 refine B10 _ _ _ _ _ (fun _=>by simp) (fun q hq hne=>?_)
 simp only [show (q < k+1)=(q < k) from propext ⟨fun h=>by omega,fun h=>by omega⟩]
theorem F40 (files:List (List Str)):List.replicate files.length (TC.p (.v (.slice none 0 0)))=N6 files 0:=by
 unfold N6
 simp only [Nat.not_lt_zero,if_false,List.map_const',H21]
theorem F41 (files:List (List Str)):N6 files files.length=(files.map (E2 (C3 files))).map fun x=>TC.p (intsC x 0):=by
 unfold N6
 apply List.ext_getElem
 ·simp
 ·intro i h1 h2
  have hi:i < files.length:=by simpa using h1
  simp [hi,intsC]
end Go.AL
namespace Go.AL
open Go
theorem F71 (m n:Int):∀(l:List Change) (k0:Nat) (i j:Int),(∀k,k < l.length→F7 (cAt l k).Old∧F7 (cAt l k).OldLen∧F7 (cAt l k).New∧F7 (cAt l k).NewLen∧(cAt l k).OldLen+(cAt l k).NewLen≠0∧(cAt l k).Old - eoI i l k=(cAt l k).New - enI j l k∧eoI i l k≤(cAt l k).Old∧(0 < k0+k→eoI i l k < (cAt l k).Old)) →
  (m - eoI i l l.length=n - enI j l l.length∧eoI i l l.length≤m)→I4 k0 i j l m n=true
 | [],k0,i,j,_,h=>by
  have h1:m - i=n - j∧i≤m:=h
  simp only [I4,decide_eq_true_eq];omega
 | c::r,k0,i,j,h,he=>by
  simp only [I4,G80,decide_eq_true_eq]
  refine ⟨?_,F71 m n r (k0+1) _ _ (fun k hk=>?_) ?_⟩
  ·obtain ⟨h1,h2,h3,h4,h5,h6,h7,h8⟩:=h 0 (by simp)
   have h1:F7 c.Old:=h1
   have h2:F7 c.OldLen:=h2
   have h3:F7 c.New:=h3
   have h4:F7 c.NewLen:=h4
   have h5:c.OldLen+c.NewLen≠0:=h5
   have h6:c.Old - i=c.New - j:=h6
   have h7:i≤c.Old:=h7
   have h8:0 < k0+0→i < c.Old:=h8
   unfold B84
   rintro (((((((q | q) | q) | q) | q) | q) | q) | ⟨q,q2⟩)
   ·exact q h1
   ·exact q h2
   ·exact q h3
   ·exact q h4
   ·exact h5 q
   ·exact q h6
   ·omega
   ·have:=h8 (by omega);omega
  ·have:=h (k+1) (by simpa using hk)
   rw [B90,r8,r9] at this
   obtain ⟨e1,e2,e3,e4,e5,e6,e7,e8⟩:=this
   exact ⟨e1,e2,e3,e4,e5,e6,e7,fun h0=>e8 (by omega)⟩
  ·rw [G81,r8,r9] at he;exact he
theorem F72 (x y:List Str):∀(l:List Change) (i j:Int),(∀k,k < l.length→sub x (eoI i l k) (cAt l k).Old=sub y (enI j l k) (cAt l k).New)→sub x (eoI i l l.length) x.length=sub y (enI j l l.length) y.length→A93 x y i j l
 | [],_,_,_,h=>h
 | c::r,i,j,h,he=>by
  refine ⟨h 0 (by simp),F72 x y r _ _ (fun k hk=>?_) ?_⟩
  ·have:=h (k+1) (by simpa using hk)
   rw [B90,r8,r9] at this;exact this
  ·rw [G81,r8,r9] at he;exact he
theorem F73 {x:List Str} {p q:Int} {t:Nat} (h0:0≤p) (h:p+t < q):(sub x p q)[t]?=x[(p+t).toNat]?:=by
 unfold sub
 rw [List.getElem?_take,if_pos (by omega),H00]
 congr 1;omega
theorem E33 {x y:List Str} {p q p' q':Int} (h:sub x p q=sub y p' q') (h0:0≤p) (h0':0≤p') (hq:q≤x.length) (he:q - p=q' - p') {t:Nat} (ht:p+t < q):∃v,x[(p+t).toNat]?=some v∧y[(p'+t).toNat]?=some v:=by
 have h1:x[(p+t).toNat]?=some x[(p+t).toNat]:=G82 (by omega)
 refine ⟨_,h1,?_⟩
 rw [←F73 (q:=q') h0' (by omega),←h,F73 h0 ht];exact h1
theorem C55 {i j:Int} {n:Nat} {p:Span} (h:p∈K7 i j n):∃t:Nat,t < n∧p=⟨i+t,j+t⟩:=by
 unfold K7 at h
 obtain ⟨t,h1,h2⟩:=List.mem_map.1 h
 exact ⟨t,List.mem_range.1 h1,h2.symm⟩
theorem D28 {x y:List Str}:∀(l:List Change) (k0:Nat) (i j:Int),I4 k0 i j l x.length y.length=true→A93 x y i j l→0≤i→0≤j→∀p∈O7 i j l x.length,EqAt x y p
 | [],k0,i,j,hs,he,hi,hj,p,hp=>by
  simp only [I4,decide_eq_true_eq] at hs
  unfold O7 at hp
  obtain ⟨t,ht,rfl⟩:=C55 hp
  have he:sub x i x.length=sub y j y.length:=he
  exact ⟨by dsimp only;omega,by dsimp only;omega,E33 he hi hj (by omega) (by omega) (by omega)⟩
 | c::r,k0,i,j,hs,he,hi,hj,p,hp=>by
  have hok:=d7 _ _ _ _ _ _ hs
  have g:=m8 x.length y.length (c::r) k0 i j hs 0 (by simp)
  obtain ⟨g1,g2,g3,g4,g5,g6,g7,_⟩:=g
  have g1:F7 c.Old:=g1
  have g2:F7 c.OldLen:=g2
  have g3:F7 c.New:=g3
  have g4:F7 c.NewLen:=g4
  have g6:c.Old - i=c.New - j:=g6
  have g7:i≤c.Old:=g7
  simp only [I4,G80,decide_eq_true_eq] at hs
  unfold O7 at hp
  unfold F7 at g1 g2 g3 g4
  have hm:=hok.2.2.2.2.2.2.end_le
  rcases List.mem_append.1 hp with hp | hp
  ·obtain ⟨t,ht,rfl⟩:=C55 hp
   exact ⟨by dsimp only;omega,by dsimp only;omega,E33 he.1 hi hj (by omega) (by omega) (by omega)⟩
  ·rw [show max i c.Old+c.OldLen=c.Old+c.OldLen by omega,show j+((c.Old - i).toNat:Int)+c.NewLen=c.New+c.NewLen by omega] at hp
   exact D28 r (k0+1) _ _ hs.2 he.2 (by omega) (by omega) p hp
theorem ScFit.pairs {x y:List Str} {l:List Change} (h:ScFit x y l):∀p∈N1 l x.length,EqAt x y p:=D28 l 0 0 0 h.sc h.eq (Int.le_refl _) (Int.le_refl _)
def A27 (c:Change):Change:=⟨c.Old+1,c.OldLen,c.New+1,c.NewLen⟩
def M9 (l:List Change) (k:Nat):List Change:=l.set k (A27 (cAt l k))
def atI (t:List Int) (i:Int):Int:=t.getD i.toNat 0
def A74 (l:List Change) (k:Nat) (t:List Int) (f n:Int):Prop:=(f+n < t.length∧atI t f=atI t (f+n))∧(k+1=l.length∨(cAt l k).Old+(cAt l k).OldLen+1 < (cAt l (k+1)).Old)
instance (l:List Change) (k:Nat) (t:List Int) (f n:Int):Decidable (A74 l k t f n):=by unfold A74;exact inferInstance
def N0 (l:List Change) (a b:List Int) (k:Nat):Bool :=
 if (cAt l k).NewLen=0 then decide (A74 l k a (cAt l k).Old (cAt l k).OldLen) else if (cAt l k).OldLen=0 then decide (A74 l k b (cAt l k).New (cAt l k).NewLen) else false
theorem L9 (l:List Change) (k:Nat):(M9 l k).length=l.length:=by simp [M9]
theorem A39 (l:List Change) {k:Nat} (hk:k < l.length) (q:Nat):cAt (M9 l k) q=if q=k then A27 (cAt l k) else cAt l q:=by
 unfold M9
 by_cases h:q=k
 ·subst h
  have:∀z,cAt (l.set q z) q=z:=fun z=>by unfold cAt;simp [hk]
  rw [if_pos rfl,this]
 ·rw [if_neg h];unfold cAt
  simp only [G85]
  rw [List.getElem?_set_ne (Ne.symm h)]
theorem B94 (l:List Change) {k:Nat} (hk:k < l.length) (q:Nat):eoI 0 (M9 l k) q=eoI 0 l q+(if q=k+1 then 1 else 0):=by
 cases q with
 | zero=>simp [eoI]
 | succ q =>
  rw [A01,A01,A39 l hk]
  by_cases h:q=k
  ·subst h;rw [if_pos rfl,if_pos rfl];simp only [Q6,A27];omega
  ·rw [if_neg h,if_neg (by omega)];omega
theorem B95 (l:List Change) {k:Nat} (hk:k < l.length) (q:Nat):enI 0 (M9 l k) q=enI 0 l q+(if q=k+1 then 1 else 0):=by
 cases q with
 | zero=>simp [enI]
 | succ q =>
  rw [A02,A02,A39 l hk]
  by_cases h:q=k
  ·subst h;rw [if_pos rfl,if_pos rfl];simp only [D15,A27];omega
  ·rw [if_neg h,if_neg (by omega)];omega
structure IdsOf (x:List Str) (a:List Int):Prop where
 len:a.length=x.length
 inj:∀(i j:Nat) (u v:Str) (z:Int),x[i]?=some u→x[j]?=some v→a[i]?=some z→a[j]?=some z→u=v
theorem ScFit.down {x y:List Str} {l:List Change} {a b:List Int} (h:ScFit x y l) (ha:IdsOf x a) (hb:IdsOf y b) {k:Nat} (hk:k < l.length) (hd:N0 l a b k=true):ScFit x y (M9 l k):=by
 have hlx:=h.lx
 have hly:=h.ly
 have hg:=m8 _ _ _ 0 0 0 h.sc
 have hge:=D16 _ _ _ 0 0 0 h.sc
 have hq:=D17 _ _ _ _ _ h.eq
 have hqe:=E29 _ _ _ _ _ h.eq
 have hok:=h.ok
 obtain ⟨c,hc⟩:∃c,c=cAt l k:=⟨_,rfl⟩
 obtain ⟨g1,g2,g3,g4,g5,g6,g7,g8⟩:=hg k hk
 have hb4:=hok.get k hk
 rw [←hc] at g1 g2 g3 g4 g5 g6 g7 g8 hb4
 unfold F7 at g1 g2 g3 g4
 have eo1:eoI 0 l (k+1)=c.Old+c.OldLen:=by rw [A01,←hc];rfl
 have en1:enI 0 l (k+1)=c.New+c.NewLen:=by rw [A02,←hc];rfl
 obtain ⟨E,E',hE1,hE2,hE3,hE4,hE5,hEn⟩:∃E E':Int,sub x (c.Old+c.OldLen) E=sub y (c.New+c.NewLen) E'∧E - (c.Old+c.OldLen)=E' - (c.New+c.NewLen)∧E≤x.length∧E'≤y.length∧(c.Old+c.OldLen < E)∧(k+1 < l.length→E=(cAt l (k+1)).Old∧E'=(cAt l (k+1)).New∧c.Old+c.OldLen+1 < E):=by
  by_cases hl:k+1=l.length
  ·rw [←hl,eo1,en1] at hge hqe
   refine ⟨x.length,y.length,hqe,by omega,by omega,by omega,?_,fun q=>absurd hl (by omega)⟩
   unfold N0 at hd
   rw [←hc] at hd
   split at hd
   ·have:=(A0 hd).1.1;rw [ha.len] at this;omega
   ·split at hd
    ·have:=(A0 hd).1.1;rw [hb.len] at this;omega
    ·cases hd
  ·have hl:k+1 < l.length:=by omega
   obtain ⟨f1,f2,f3,f4,f5,f6,f7,f8⟩:=hg (k+1) hl
   have f9:=hq (k+1) hl
   have f10:=hok.get (k+1) hl
   rw [eo1,en1] at f6 f9
   rw [eo1] at f7
   unfold F7 at f2 f4
   have hroom:c.Old+c.OldLen+1 < (cAt l (k+1)).Old:=by
    unfold N0 at hd
    rw [←hc] at hd
    split at hd
    ·have:=(A0 hd).2;rw [←hc] at this;omega
    ·split at hd
     ·have:=(A0 hd).2;rw [←hc] at this;omega
     ·cases hd
   exact ⟨_,_,f9,by omega,by omega,by omega,by omega,fun _=>⟨rfl,rfl,hroom⟩⟩
 have hv:∃v,x[c.Old.toNat]?=some v∧y[c.New.toNat]?=some v:=by
  obtain ⟨v,v1,v2⟩:=E33 (t:=0) hE1 (by omega) (by omega) (by omega) hE2 (by omega)
  simp only [Int.natCast_zero,Int.add_zero] at v1 v2
  unfold N0 at hd
  rw [←hc] at hd
  split at hd
  ·rename_i hn
   have:=(A0 hd).1.2
   rw [hn,Int.add_zero] at v2
   refine ⟨v,?_,v2⟩
   have l1:c.Old.toNat < a.length:=by rw [ha.len];omega
   have l2:(c.Old+c.OldLen).toNat < a.length:=by rw [ha.len];omega
   have hx:x[c.Old.toNat]?=some x[c.Old.toNat]:=G82 (by omega)
   have ea:a[c.Old.toNat]?=some (atI a c.Old):=by unfold atI;rw [G85,G82 l1];rfl
   have eb:a[(c.Old+c.OldLen).toNat]?=some (atI a (c.Old+c.OldLen)):=by unfold atI;rw [G85,G82 l2];rfl
   rw [←this] at eb
   have:=ha.inj _ _ _ _ _ hx v1 ea eb
   rw [hx,this]
  ·split at hd
   ·rename_i _ hn
    have:=(A0 hd).1.2
    rw [hn,Int.add_zero] at v1
    refine ⟨v,v1,?_⟩
    have l1:c.New.toNat < b.length:=by rw [hb.len];omega
    have l2:(c.New+c.NewLen).toNat < b.length:=by rw [hb.len];omega
    have hx:y[c.New.toNat]?=some y[c.New.toNat]:=G82 (by omega)
    have ea:b[c.New.toNat]?=some (atI b c.New):=by unfold atI;rw [G85,G82 l1];rfl
    have eb:b[(c.New+c.NewLen).toNat]?=some (atI b (c.New+c.NewLen)):=by unfold atI;rw [G85,G82 l2];rfl
    rw [←this] at eb
    have:=hb.inj _ _ _ _ _ hx v2 ea eb
    rw [hx,this]
   ·cases hd
 obtain ⟨v,v1,v2⟩:=hv
 have hen0:0≤eoI 0 l k∧0≤enI 0 l k:=by
  cases k with
  | zero=>simp [eoI,enI]
  | succ k =>
   obtain ⟨f1,f2,f3,f4,_⟩:=hg k (by omega)
   unfold F7 at f1 f2 f3 f4
   rw [A01,A02];unfold Q6 D15;omega
 have htail:sub x (c.Old+c.OldLen+1) E=sub y (c.New+c.NewLen+1) E':=by
  have:=A94 (e:=E - (c.Old+c.OldLen) - 1) hE1 (by omega) (by omega) (by omega) (by omega) hE2
  rw [show E - (E - (c.Old+c.OldLen) - 1)=c.Old+c.OldLen+1 by omega,show E' - (E - (c.Old+c.OldLen) - 1)=c.New+c.NewLen+1 by omega] at this
  exact this
 refine ⟨hlx,hly,F71 _ _ _ 0 0 0 (fun q hql=>?_) ?_,F72 _ _ _ 0 0 (fun q hql=>?_) ?_⟩
 ·rw [L9] at hql
  rw [A39 l hk,B94 l hk,B95 l hk]
  by_cases e:q=k
  ·rw [if_pos e,if_neg (show ¬q=k+1 by omega),e,←hc]
   unfold F7
   simp only [A27]
   refine ⟨by omega,g2,by omega,g4,g5,by omega,by omega,fun _=>by omega⟩
  ·rw [if_neg e]
   obtain ⟨f1,f2,f3,f4,f5,f6,f7,f8⟩:=hg q hql
   refine ⟨f1,f2,f3,f4,f5,?_,?_,?_⟩
   ·by_cases e2:q=k+1
    ·rw [if_pos e2];omega
    ·rw [if_neg e2];omega
   ·by_cases e2:q=k+1
    ·rw [if_pos e2];have:=f8 (by omega);omega
    ·rw [if_neg e2];omega
   ·intro h0
    by_cases e2:q=k+1
    ·rw [if_pos e2,e2,eo1]
     have:=(hEn (by omega))
     omega
    ·rw [if_neg e2];have:=f8 h0;omega
 ·rw [L9,B94 l hk,B95 l hk]
  by_cases e2:l.length=k+1
  ·rw [if_pos e2,e2,eo1,en1]
   rw [e2,eo1,en1] at hge
   have h1:E≤x.length:=hE3
   omega
  ·rw [if_neg e2];omega
 ·rw [L9] at hql
  rw [A39 l hk,B94 l hk,B95 l hk]
  by_cases e:q=k
  ·rw [if_pos e,if_neg (show ¬q=k+1 by omega),e,←hc]
   simp only [A27,Int.add_zero]
   have:=hq k hk
   rw [←hc] at this
   rw [A38 hen0.1 g7 v1,A38 hen0.2 (by omega) v2,this]
  ·rw [if_neg e]
   by_cases e2:q=k+1
   ·rw [if_pos e2]
    subst e2
    obtain ⟨q1,q2,_⟩:=hEn hql
    rw [eo1,en1,←q1,←q2];exact htail
   ·rw [if_neg e2,Int.add_zero,Int.add_zero]
    exact hq q hql
 ·rw [L9,B94 l hk,B95 l hk]
  by_cases e2:l.length=k+1
  ·rw [if_pos e2]
   rw [e2,eo1,en1] at hqe hge ⊢
   have:=A94 (e:=x.length - (c.Old+c.OldLen) - 1) hqe (by omega) (by omega) (by omega) (by omega) (by omega)
   rw [show (x.length:Int) - (x.length - (c.Old+c.OldLen) - 1)=c.Old+c.OldLen+1 by omega,show (y.length:Int) - (x.length - (c.Old+c.OldLen) - 1)=c.New+c.NewLen+1 by omega] at this
   exact this
  ·rw [if_neg e2,Int.add_zero,Int.add_zero];exact hqe
def A04 (l:List Change) (a b:List Int) (k:Nat):Nat:=((a.length:Int) - (cAt l k).Old).toNat+((b.length:Int) - (cAt l k).New).toNat
def s9 (a b:List Int) (k:Nat):Nat→List Change→List Change
 | 0,l=>l
 | f+1,l=>if N0 l a b k=true then s9 a b k f (M9 l k) else l
def P6 (a b:List Int) (l:List Change) (k:Nat):List Change:=s9 a b k (A04 l a b k) l
def j8 (a b:List Int):Nat→List Change→List Change
 | 0,l=>l
 | k+1,l=>j8 a b k (P6 a b l k)
def j9 (l:List Change):List (Int × Int):=l.map fun c=>(c.OldLen,c.NewLen)
theorem F42 {l:List Change} {k:Nat} (hk:k < l.length):j9 (M9 l k)=j9 l:=by
 unfold j9 M9
 rw [List.map_set]
 have e:(A27 (cAt l k)).OldLen=l[k].OldLen∧(A27 (cAt l k)).NewLen=l[k].NewLen:=by unfold cAt A27;simp [hk]
 apply List.ext_getElem
 ·simp
 ·intro i h1 h2
  by_cases hi:k=i
  ·subst hi;simp [e.1,e.2]
  ·simp [hi]
section
variable {x y:List Str} {a b:List Int} (ha:IdsOf x a) (hb:IdsOf y b)
include ha hb
theorem x2 {l:List Change} {k:Nat} (h:ScFit x y l) (hk:k < l.length) (hd:N0 l a b k=true):A04 (M9 l k) a b k < A04 l a b k:=by
 have h':=(h.down ha hb hk hd).ok.get k (by rw [L9];exact hk)
 unfold A04
 rw [A39 l hk,if_pos rfl] at h' ⊢
 obtain ⟨⟨h1,_⟩,⟨h2,_⟩,⟨h3,_⟩,⟨h4,_⟩,h5,h6⟩:=h'
 have e1:=ha.len
 have e2:=hb.len
 simp only [A27] at h1 h2 h3 h4 h5 h6 ⊢
 omega
theorem B28 {k:Nat}:∀(f g:Nat) (l:List Change),ScFit x y l→k < l.length→A04 l a b k≤f→A04 l a b k≤g→s9 a b k f l=s9 a b k g l
 | 0,0,l,_,_,_,_=>rfl
 | 0,g+1,l,h,hk,h1,_=>by
  unfold s9
  by_cases hd:N0 l a b k=true
  ·have:=x2 ha hb h hk hd;omega
  ·rw [if_neg hd]
 | f+1,0,l,h,hk,_,h1=>by
  unfold s9
  by_cases hd:N0 l a b k=true
  ·have:=x2 ha hb h hk hd;omega
  ·rw [if_neg hd]
 | f+1,g+1,l,h,hk,h1,h2=>by
  unfold s9
  by_cases hd:N0 l a b k=true
  ·have:=x2 ha hb h hk hd
   rw [if_pos hd,if_pos hd]
   exact B28 f g _ (h.down ha hb hk hd) (by rw [L9];exact hk) (by omega) (by omega)
  ·rw [if_neg hd,if_neg hd]
theorem B29 {l:List Change} {k:Nat} (h:ScFit x y l) (hk:k < l.length) (hd:N0 l a b k=true):P6 a b l k=P6 a b (M9 l k) k:=by
 have hm:=x2 ha hb h hk hd
 unfold P6
 obtain ⟨g,hg⟩:∃g,A04 l a b k=g+1:=⟨A04 l a b k - 1,by omega⟩
 rw [hg]
 conv=>lhs;unfold s9
 rw [if_pos hd]
 exact B28 ha hb _ _ _ (h.down ha hb hk hd) (by rw [L9];exact hk) (by omega) (Nat.le_refl _)
omit ha hb in
theorem B30 {l:List Change} {k:Nat} (hd:N0 l a b k=false):P6 a b l k=l:=by
 unfold P6
 cases A04 l a b k with
 | zero=>rfl
 | succ n=>unfold s9;rw [hd];rfl
theorem D29 {k:Nat}:∀(f:Nat) (l:List Change),ScFit x y l→k < l.length→ScFit x y (s9 a b k f l)∧j9 (s9 a b k f l)=j9 l
 | 0,l,h,_=>⟨h,rfl⟩
 | f+1,l,h,hk=>by
  unfold s9
  by_cases hd:N0 l a b k=true
  ·rw [if_pos hd]
   have:=D29 f _ (h.down ha hb hk hd) (by rw [L9];exact hk)
   rw [F42 hk] at this;exact this
  ·rw [if_neg hd];exact ⟨h,rfl⟩
theorem B96 {l:List Change} {k:Nat} (h:ScFit x y l) (hk:k < l.length):ScFit x y (P6 a b l k)∧j9 (P6 a b l k)=j9 l:=D29 ha hb _ l h hk
omit ha hb in
theorem D30 {l l':List Change} (h:j9 l=j9 l'):l.length=l'.length:=by
 have:=congrArg List.length h
 simpa [j9] using this
theorem B97:∀(k:Nat) (l:List Change),ScFit x y l→k≤l.length→ScFit x y (j8 a b k l)∧j9 (j8 a b k l)=j9 l
 | 0,l,h,_=>⟨h,rfl⟩
 | k+1,l,h,hk=>by
  unfold j8
  obtain ⟨h1,h2⟩:=B96 ha hb h (k:=k) (by omega)
  have h3:=B97 k _ h1 (by rw [D30 h2];omega)
  rw [h2] at h3;exact h3
end
theorem x3 {names x:List Str} (h:∀s∈x,s∈names):IdsOf x (E2 names x):=by
 refine ⟨by simp [E2],fun i j u v z h1 h2 h3 h4=>?_⟩
 obtain ⟨s,s1,s2⟩:=B13 h3
 obtain ⟨t,t1,t2⟩:=B13 h4
 rw [h1] at s1;cases s1
 rw [h2] at t1;cases t1
 exact A96 names u v 0 (Int.le_refl _) (h u (G98 h1)) (h v (G98 h2)) (s2.trans t2.symm)
def A68 (l:List Change) (a b:List Int):List Change:=j8 a b l.length l
end Go.AL
namespace Go.AL
open Go
def l4 (x y:List Str) (d:Bool):List Change:=if d=true then A68 (F0 x y) (E2 (C3 [x,y]) x) (E2 (C3 [x,y]) y) else F0 x y
def R6 (on nn a b:Str) (ctx:Int) (d:Bool):Patch × Int :=
 if G7 on=false∨G7 nn=false then (X4,120)
 else if ctx < 0∨1048576 < ctx then (X4,3)
 else (⟨on,nn,F9 (l4 (B7 a) (B7 b) d) (B7 a) (B7 b) ctx⟩,0)
theorem s5 (x y:List Str) (d:Bool) (hx:x.length≤4096) (hy:y.length≤4096):ScFit x y (l4 x y d)∧j9 (l4 x y d)=j9 (F0 x y):=by
 have h:=A03 x y hx hy
 unfold l4
 cases d
 ·exact ⟨h,rfl⟩
 ·rw [if_pos rfl]
  exact B97 (x3 fun s hs=>Q5 _ _ x (by simp) hs) (x3 fun s hs=>Q5 _ _ y (by simp) hs) _ _ h (Nat.le_refl _)
theorem A98 (x y:List Str) (d:Bool) (hx:x.length≤4096) (hy:y.length≤4096):(l4 x y d).length≤x.length+1:=by
 rw [D30 (s5 x y d hx hy).2];exact v6 x y
theorem D97 {l:List Change} {m n ctx:Int} (h:ctx < 0∨1048576 < ctx):P0 l m n ctx=([],3):=by unfold P0;rw [if_pos h]
theorem C23 {x y:List Str} {l:List Change} (h:ScFit x y l) {ctx:Int} (hc:¬(ctx < 0∨1048576 < ctx)):P0 l x.length y.length ctx=(F2 l x.length ctx l.length,0):=by
 unfold P0
 rw [if_neg hc,h.check,if_neg (by simp)]
structure Made12 (on nn a b:Str) (l:List Change) (ctx:Int):Prop where
 chk:H1 ⟨on,nn,F9 l (B7 a) (B7 b) ctx⟩=0
 wr:(M1 ⟨on,nn,F9 l (B7 a) (B7 b) ctx⟩).length≤16777216
 fit:PFit ⟨on,nn,F9 l (B7 a) (B7 b) ctx⟩
 rg:∀h∈F9 l (B7 a) (B7 b) ctx,(-4611686018427387904≤h.Old∧h.Old≤4611686018427387904)∧(-4611686018427387904≤h.New∧h.New≤4611686018427387904)
 sz:szP (F9 l (B7 a) (B7 b) ctx)≤268435456
def Few (a:Str):Prop:=a.length≤1048576∧(B7 a).length≤4096
theorem C24 {a:Str} (h:a.length≤4096):Few a:=⟨by omega,Nat.le_trans (X0 a) h⟩
theorem A18 {a:Str} (h:Few a):K0 a=(B7 a,0):=by
 obtain ⟨h1,h2⟩:=h
 unfold K0;rw [if_neg (by omega)]
theorem B52 (on nn a b:Str) (l:List Change) (ctx:Int) (hn:G7 on=true) (hn':G7 nn=true) (hc:¬(ctx < 0∨1048576 < ctx)) (ha:Few a) (hb:Few b) (hfit:ScFit (B7 a) (B7 b) l):Made12 on nn a b l ctx:=by
 obtain ⟨ha,ha2⟩:=ha
 obtain ⟨hb,hb2⟩:=hb
 obtain ⟨f1,f2⟩:=P5 a
 obtain ⟨f3,f4⟩:=P5 b
 obtain ⟨a1,a2⟩:=m9 a
 obtain ⟨b1,b2⟩:=m9 b
 have hc0:0≤ctx:=by omega
 have hg:=hfit.good hc0 a1 b1 a2 b2
 have hz:=hfit.size hc0 a1 b1
 have ht:=hfit.texts hc0 a1 b1
 have hxl:=hfit.lx
 have hyl:=hfit.ly
 obtain ⟨hs,hhs⟩:∃hs,hs=F9 l (B7 a) (B7 b) ctx:=⟨_,rfl⟩
 rw [←hhs] at hg hz ht
 have hon:=hn
 have hnn:=hn'
 unfold G7 at hon hnn
 have o1:=A0 hon
 have o2:=A0 hnn
 have hw:(M1 ⟨on,nn,hs⟩).length≤16777216:=by
  have h1:(M1 ⟨on,nn,hs⟩).length≤(Y4 ⟨on,nn,hs⟩).flatten.length+szP hs:=by
   unfold M1 A15
   rw [G99,G79]
   have:=Y1 hs
   show _+((hs).map T3).flatten.flatten.length≤_
   omega
  have h2:=d8 ⟨on,nn,hs⟩
  have h3:(Y4 ⟨on,nn,hs⟩).flatten.length≤4*on.length+4*nn.length+14:=h2
  omega
 refine ⟨?_,by rw [←hhs];exact hw,⟨by dsimp only;omega,by dsimp only;omega,by rw [←hhs];dsimp only;omega⟩,fun h hm=>?_,by rw [←hhs];omega⟩
 ·rw [←hhs]
  unfold H1
  rw [if_neg (by rw [show (Patch.mk on nn hs).OldName=on from rfl,show (Patch.mk on nn hs).NewName=nn from rfl,hn,hn'];simp)]
  rw [if_neg (by rw [hg];simp),if_neg (by omega)]
 ·rw [←hhs] at hm
  obtain ⟨⟨q1,q2,q3,q4⟩,_⟩:=ht h hm
  unfold M4 at q1
  unfold N2 at q2
  omega
theorem D98 (on nn a b:Str) (l:List Change) (ctx:Int) (hn:G7 on=true) (hn':G7 nn=true) (hc:¬(ctx < 0∨1048576 < ctx)) (ha:a.length≤4096) (hb:b.length≤4096) (hfit:ScFit (B7 a) (B7 b) l):Made12 on nn a b l ctx:=B52 on nn a b l ctx hn hn' hc (C24 ha) (C24 hb) hfit
end Go.AL
namespace Go.AL
open Go
def t6 (k:UInt8) (ls:List PatchLine):Nat:=(ls.filter fun q=>decide (q.Kind=k)).length
def l5 (k:UInt8) (hs:List PatchHunk):Nat:=(hs.map fun h=>t6 k h.Lines).sum
theorem D31 (k:UInt8) (p q:List PatchLine):t6 k (p++q)=t6 k p+t6 k q:=by simp [t6]
section
variable {x y:List Str} {l:List Change}
end
theorem cntL_le (k:UInt8) (ls:List PatchLine):t6 k ls≤(ls.map szL).sum:=by
 induction ls with
 | nil=>simp [t6]
 | cons x r ih =>
  have e:t6 k (x::r)=t6 k [x]+t6 k r:=D31 k [x] r
  have e2:t6 k [x]≤1:=by unfold t6;exact Nat.le_trans (List.length_filter_le _ _) (by simp)
  simp only [G87,H08]
  unfold szL at ih ⊢
  omega
theorem cntP_le (k:UInt8) (hs:List PatchHunk):l5 k hs≤szP hs:=by
 induction hs with
 | nil=>simp [l5,szP]
 | cons h r ih =>
  have:=cntL_le k h.Lines
  unfold l5 szP at ih ⊢
  simp only [G87,H08]
  unfold szH at ih ⊢
  omega
theorem B14 (k:UInt8) (ls:List PatchLine) (i:Nat) (x:PatchLine) (h:ls[i]?=some x):t6 k (ls.take (i+1))=t6 k (ls.take i)+if x.Kind=k then 1 else 0:=by
 obtain ⟨hi,rfl⟩:=List.getElem?_eq_some_iff.1 h
 rw [G89 hi,D31]
 congr 1
 unfold t6
 by_cases q:ls[i].Kind=k<;>simp [q]
theorem A40 (k:UInt8) (hs:List PatchHunk) (i:Nat) (x:PatchHunk) (h:hs[i]?=some x):l5 k (hs.take (i+1))=l5 k (hs.take i)+t6 k x.Lines:=by
 obtain ⟨hi,rfl⟩:=List.getElem?_eq_some_iff.1 h
 rw [G89 hi]
 unfold l5
 rw [H02,List.sum_append]
 simp
theorem G43 (k:UInt8) (p q:List PatchHunk):l5 k (p++q)=l5 k p+l5 k q:=by simp [l5]
theorem B15 (k:UInt8) (hs:List PatchHunk) (j i:Nat) (h:PatchHunk) (hv:hs[j]?=some h):l5 k (hs.take j)+t6 k (h.Lines.take i)≤szP hs:=by
 have h1:=cntP_le k hs
 have h2:=A40 k hs j h hv
 have h3:=G43 k (hs.take (j+1)) (hs.drop (j+1))
 rw [H12] at h3
 have h4:=D31 k (h.Lines.take i) (h.Lines.drop i)
 rw [H12] at h4
 omega
end Go.AL
namespace Go.AL
open Go
def ChainH (x y:List Str) (i j:Int):List PatchHunk→Prop
 | []=>sub x i x.length=sub y j y.length∧0≤i∧0≤j∧i≤x.length∧j≤y.length
 | h::r=>(sub x i h.Old=sub y j h.New∧D2 h.Lines 43=sub x h.Old (h.Old+M4 h)∧D2 h.Lines 45=sub y h.New (h.New+N2 h))∧(0≤i∧0≤j∧i≤h.Old∧j≤h.New∧h.Old+M4 h≤x.length∧h.New+N2 h≤y.length)∧ChainH x y (h.Old+M4 h) (h.New+N2 h) r
theorem ScFit.chain {x y:List Str} {l:List Change} (h:ScFit x y l) {ctx:Int} (hc:0≤ctx):∀(hs:List Hunk) (a:Nat),GrOk l x.length ctx a hs l.length →
  ∀(i j e:Int),i=eoI 0 l a+e→j=enI 0 l a+e→0≤e→e≤ctx→(a=0→e=0)→i≤x.length→j≤y.length→ChainH x y i j (hs.map (F6 l x y))
 | [],a,hr,i,j,e,hi,hj,he,_,_,hix,hjy=>by
  have hr:a=l.length:=hr
  have hq:=E29 _ _ _ _ _ h.eq
  have hge:=D16 _ _ _ 0 0 0 h.sc
  obtain ⟨r1,r2,r3,r4⟩:=h.nn a (by omega)
  rw [←hr] at hq hge
  refine ⟨?_,by omega,by omega,hix,hjy⟩
  have:=A94 (e:=x.length - i) hq r1 r2 (by omega) (by omega) (by omega)
  rw [show (x.length:Int) - (x.length - i)=i by omega,show (y.length:Int) - (x.length - i)=j by omega] at this
  exact this
 | hk::hs,a,⟨b,hab,ho,hE,hr⟩,i,j,e,hi,hj,he,hec,he0,hix,hjy=>by
  have hb:=hr.le
  have hob:b < l.length→opens l ctx b:=by
   intro hlt
   cases hs with
   | nil=>exact absurd hr (by show ¬b=l.length;omega)
   | cons h2 hs2=>obtain ⟨_,_,ho2,_⟩:=hr;exact ho2
  obtain ⟨w1,w2,w3,w4,w5⟩:=h.after hc hb hob (by omega)
  obtain ⟨q1,q2,q3⟩:=h.before hc (show a < l.length by omega) ho
  have H:=h.hunk hc hab hb ho hob
  rw [←hE] at H
  obtain ⟨P,hP⟩:∃P,P=F6 l x y hk:=⟨_,rfl⟩
  rw [←hP] at H
  have ih:=ScFit.chain h hc hs b hr (P.Old+M4 P) (P.New+N2 P) (eB l x.length ctx b) H.oe H.ne w1 w2 (by omega) H.ox H.ny
  obtain ⟨k1,⟨k2,k2'⟩,k3,⟨k4,k4'⟩,k5,k6,k7,k8⟩:=m8 _ _ _ _ _ _ h.sc a (show a < l.length by omega)
  have h1:=H.old
  have h2:=H.new
  have h3:=H.o0
  have h4:=H.n0
  have hgap:e+eA l ctx a≤(cAt l a).Old - eoI 0 l a:=by
   by_cases h0:a=0
   ·have:=he0 h0;omega
   ·have:=B12 ho h0;omega
  obtain ⟨r1,r2,r3,r4⟩:=h.nn a (by omega)
  have hij:i≤P.Old∧j≤P.New∧P.Old - i=P.New - j∧0≤i∧0≤j:=by omega
  have hrun:=D17 _ _ _ _ _ h.eq a (show a < l.length by omega)
  have t1:=A94 (e:=(cAt l a).Old - i) hrun r1 r2 (by omega) (by omega) (by omega)
  rw [show (cAt l a).Old - ((cAt l a).Old - i)=i by omega,show (cAt l a).New - ((cAt l a).Old - i)=j by omega] at t1
  have t2:=D18 (e:=P.Old - i) t1 (by omega) (by omega) (by omega) (by omega) (by omega)
  rw [show i+(P.Old - i)=P.Old by omega,show j+(P.Old - i)=P.New by omega] at t2
  rw [G87,←hP]
  exact ⟨⟨t2,H.ol,H.nl⟩,⟨by omega,by omega,hij.1,hij.2.1,H.ox,H.ny⟩,ih⟩
end Go.AL
namespace Go.AL
open Go
end Go.AL
namespace Go.AL
open Go
theorem G12 (a:Str):ended (a++[10])=true:=by unfold ended;simp
theorem ended_iff {s:Str}:ended s=true↔∃a,s=a++[10]:=by
 constructor
 ·intro h
  unfold ended at h
  have h:s.getLast?=some 10:=by simpa using h
  obtain ⟨ys,hy⟩:=List.getLast?_eq_some_iff.1 h
  exact ⟨ys,hy⟩
 ·rintro ⟨a,rfl⟩;exact G12 a
def noNl:Str:=[92,32,78,111,32,110,101,119,108,105,110,101,32,97,116,32,101,110,100,32,111,102,32,102,105,108,101]
def lineLs (x:PatchLine):List Str:=if ended x.Text=true then [x.Kind::x.Text.dropLast] else [x.Kind::x.Text,noNl]
def headLn (h:PatchHunk):Str:=[64,64,32,45]++R8 h.Old (M4 h)++[32,43]++R8 h.New (N2 h)++[32,64,64]
def hunkLs (h:PatchHunk):List Str:=headLn h::(h.Lines.map lineLs).flatten
def A75 (t:Str):Str:=if ended t=true then t.dropLast else t
theorem check12_good {p:Patch} (h:H1 p=0):T9 p.Hunks=true:=by
 unfold H1 at h
 split at h
 ·cases h
 ·split at h
  ·cases h
  ·rename_i h1;simpa using h1
end Go.AL
namespace Go.AL
open Go
structure CHunk where
 At:List Int
 Rows:List Row
 deriving DecidableEq
structure Comb where
 Path:Str
 Dense:Bool
 Parents:Int
 Hunks:List CHunk
 deriving DecidableEq
def colNum (n k:Nat):Int:=if k=n then -1 else k
def cntC (rows:List Row) (n k:Nat):Int:=(colOf rows (colNum n k)).length
structure CRead (n:Nat) (h:CHunk):Prop where
 len:h.At.length=n+1
 ne:h.Rows≠[]
 at0:∀k,k < n+1→0≤h.At.getD k 0∧h.At.getD k 0+cntC h.Rows n k≤4096
 rows:∀r∈h.Rows,markOk n r=true∧O0 r.Text=true
end Go.AL
namespace Go.AL
open Go
end Go.AL
namespace Go.AL
open Go
end Go.AL
