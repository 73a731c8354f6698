/- The functions that the law ShapeRoundsUpto reaches, told as plain functions, with what is proved of them, and the words they need (part 0). -/
import Derived.Laws.BytesArg
import Derived.Lib.Strings
import GoSem.Claim
import Derived.RowKit
import Derived.Below
import Derived.Deep.Draws
import Derived.Deep.AppendLies
import Derived.Maps.AppendAt
import Derived.OwnWalk
import Derived.Laws.MakeOwn
import Derived.Laws.OwnMore
import Derived.Deep.OwnRows
import Derived.Tactics
import Derived.Lib.ConvBytes
import Derived.Laws.Slices
import Derived.WalkKit
import Derived.KernelRfl
import Derived.RowKit3
import Derived.Deep.LoopGhost
import Derived.Deep.QuietTactic
import Derived.BigQuiet
import Derived.WideLaws
import Derived.Deep.DeepCutAuto
import Derived.Deep.CutBlock
import Derived.Deep.RegionHeld3
import Derived.Laws.Rows
import Derived.Lib.AppendStr
import Derived.ArgAppend
import Derived.Laws.IdiomCopy
import Derived.OrdersHeld
import Derived.Laws.BitsLemmas
import Derived.Laws.CopyOwn
import Derived.Test.YtcmgdjnjmobkoaaGreatDoorProg
import Derived.Laws.StructEq
set_option linter.unusedVariables false
set_option linter.unusedSimpArgs false
section
namespace Fig
def jC (l:List Int):Bool:=l.all fun x=>decide (0≤x)&&decide (x<1000000000)
def zI:List Int→Nat
 | []=>0
 | x :: xs=>x.toNat+1000000000 * zI xs
def zcc:Nat→Nat→List Int
 | 0,_=>[]
 | f+1,n=>if n=0 then [] else ((n % 1000000000:Nat):Int) :: zcc f (n / 1000000000)
def zZ (n:Nat):List Int:=zcc (n.log2+1) n
def uZ (l:List Int):List Int:=(l.reverse.dropWhile (·==0)).reverse
theorem yK {x:Int} {l:List Int}:jC (x :: l)=true ↔ (0≤x∧x<1000000000)∧jC l=true:=by
 simp[jC]
theorem yN {a b:List Int}:jC (a++b)=true ↔ jC a=true∧jC b=true:=by
 simp[jC]
theorem yG {l:List Int}:jC l=true ↔ ∀ x∈l,0≤x∧x<1000000000:=by
 simp[jC]
theorem zde {l:List Int} (h:jC l=true) (n:Nat):jC (l.take n)=true:=
 yG.2 fun x hx=>yG.1 h x (List.mem_of_mem_take hx)
theorem zgU {l:List Int} (h:jC l=true) (n:Nat):jC (l.drop n)=true:=
 yG.2 fun x hx=>yG.1 h x (List.mem_of_mem_drop hx)
theorem zaB (n:Nat):jC (List.replicate n 0)=true:=by
 rw[yG];intro x hx;have:=List.eq_of_mem_replicate hx;omega
theorem zaJ (a b:List Int):zI (a++b)=zI a+1000000000 ^ a.length * zI b:=by
 induction a with
 | nil=>simp[zI]
 | cons x a ih =>
  simp only[List.cons_append,zI,ih,List.length_cons,Nat.pow_succ]
  rw[Nat.mul_add,←Nat.mul_assoc,Nat.mul_comm 1000000000 (1000000000 ^ a.length)];omega
theorem zak {l:List Int} (h:jC l=true):zI l<1000000000 ^ l.length:=by
 induction l with
 | nil=>simp[zI]
 | cons x l ih =>
  obtain⟨hx,hl⟩:=yK.1 h;have:=ih hl
  simp only[zI,List.length_cons,Nat.pow_succ]
  omega
theorem zbn (n:Nat):zI (List.replicate n 0)=0:=by
 induction n with
 | zero=>rfl
 | succ n ih=>simp[List.replicate_succ,zI,ih]
theorem qI (a:List Int) (x:Int):zI (a++[x])=zI a+1000000000 ^ a.length * x.toNat:=by
 rw[zaJ];simp[zI]
theorem zkh (f n:Nat):jC (zcc f n)=true:=by
 induction f generalizing n with
 | zero=>rfl
 | succ f ih =>
  unfold zcc;split
  ·rfl
  rw[yK];exact⟨by omega,ih _⟩
theorem jV (n:Nat):jC (zZ n)=true:=zkh _ _
theorem zeI:∀ (f n:Nat),n<2 ^ f→zI (zcc f n)=n
 | 0,n,h=>by simp at h;subst h;rfl
 | f+1,n,h=>by
  unfold zcc;split
  ·rename_i h0;subst h0;rfl
  have h2:n / 1000000000<2 ^ f:=by rw[Nat.pow_succ] at h;omega
  simp only[zI,zeI f _ h2];omega
theorem jR (n:Nat):zI (zZ n)=n:=zeI _ _ Nat.lt_log2_self
def xZ (l:List Int):Prop:=l.getLast?≠some 0
theorem zfd:∀ (f n:Nat),n<2 ^ f→xZ (zcc f n)
 | 0,n,h=>by simp[zcc,xZ]
 | f+1,n,h=>by
  unfold zcc;split
  ·simp[xZ]
  have h2:n / 1000000000<2 ^ f:=by rw[Nat.pow_succ] at h;omega
  have ih:=zfd f _ h2;have hv:=zeI f _ h2;unfold xZ at ih ⊢;rcases hr:zcc f (n / 1000000000) with _|⟨y,l⟩
  ·rw[hr] at hv
   simp[zI] at hv ⊢
   omega
  rw[hr] at ih;rw[List.getLast?_cons_cons];exact ih
theorem zgd (n:Nat):xZ (zZ n):=zfd _ _ Nat.lt_log2_self
theorem zee {x:Int} {l:List Int} (h:xZ (x :: l)):xZ l:=by
 rcases l with _|⟨y,l⟩
 ·simp[xZ]
 unfold xZ at h ⊢;rwa [List.getLast?_cons_cons] at h
theorem zil {l:List Int} (hg:jC l=true) (hc:xZ l) (h:zI l=0):l=[]:=by
 induction l with
 | nil=>rfl
 | cons x l ih =>
  obtain⟨hx,hl⟩:=yK.1 hg;simp only[zI] at h
  have:=ih hl (zee hc) (by omega)
  subst this;exfalso;apply hc;simp;omega
theorem zfu:∀ {a b:List Int},jC a=true→jC b=true→xZ a→xZ b→zI a=zI b→a=b
 | [],b,_,hb,_,cb,h=>(zil hb cb (by simpa [zI] using h.symm)).symm
 | x :: a,[],ha,_,ca,_,h=>zil ha ca (by simpa [zI] using h)
 | x :: a,y :: b,ha,hb,ca,cb,h=>by
  obtain⟨hx,ha⟩:=yK.1 ha;obtain⟨hy,hb⟩:=yK.1 hb;simp only[zI] at h
  have h1:x.toNat=y.toNat:=by omega
  have h2:zI a=zI b:=by omega
  rw[zfu ha hb (zee ca) (zee cb) h2,show x=y by omega]
theorem znD {l:List Int} (hg:jC l=true) (hc:xZ l):l=zZ (zI l):=
 zfu hg (jV _) hc (zgd _) (jR _).symm
theorem zcx (l:List Int):uZ (l++[0])=uZ l:=by simp[uZ]
theorem zeJ {l:List Int} {x:Int} (h:x≠0):uZ (l++[x])=l++[x]:=by
 simp[uZ,h]
theorem zcb (l:List Int):∃ m,l=uZ l++List.replicate m 0:=by
 generalize hn:l.length=n
 induction n generalizing l with
 | zero=>obtain rfl:=List.eq_nil_of_length_eq_zero hn;exact⟨0,rfl⟩
 | succ n ih =>
  obtain⟨a,x,rfl⟩:∃ a x,l=a++[x]:=⟨l.dropLast,l.getLast (by intro h;simp[h] at hn),(List.dropLast_concat_getLast _).symm⟩
  by_cases hx:x=0
  ·subst hx
   obtain⟨m,hm⟩:=ih a (by simpa using hn);refine⟨m+1,?_⟩;rw[zcx,List.replicate_succ',←List.append_assoc,←hm]
  exact⟨0,by rw[zeJ hx];simp⟩
theorem zcJ (l:List Int):xZ (uZ l):=by
 generalize hn:l.length=n
 induction n generalizing l with
 | zero=>obtain rfl:=List.eq_nil_of_length_eq_zero hn;simp[xZ,uZ]
 | succ n ih =>
  obtain⟨a,x,rfl⟩:∃ a x,l=a++[x]:=⟨l.dropLast,l.getLast (by intro h;simp[h] at hn),(List.dropLast_concat_getLast _).symm⟩
  by_cases hx:x=0
  ·subst hx;rw[zcx];exact ih a (by simpa using hn)
  rw[zeJ hx];simp[xZ,hx]
theorem zcN (l:List Int):zI (uZ l)=zI l:=by
 obtain⟨m,hm⟩:=zcb l;conv=>rhs;rw[hm]
 rw[zaJ,zbn];simp
theorem zdh {l:List Int} (h:jC l=true):jC (uZ l)=true:=by
 obtain⟨m,hm⟩:=zcb l;rw[hm,yN] at h;exact h.1
theorem znA {l:List Int} (h:jC l=true):uZ l=zZ (zI l):=by
 rw[←zcN l];exact znD (zdh h) (zcJ l)
theorem zdD (l:List Int):(uZ l).length≤l.length:=by
 obtain⟨m,hm⟩:=zcb l;conv=>rhs;rw[hm]
 simp
theorem zba:zZ 0=[]:=by decide
theorem zaX {n:Nat}:zZ n=[] ↔ n=0:=by
 constructor
 ·intro h;have:=jR n;rw[h] at this;simpa [zI] using this.symm
 rintro rfl;exact zba
theorem zjx {l:List Int} (hg:jC l=true) (hc:xZ l) (hl:0<l.length):1000000000 ^ (l.length-1)≤zI l:=by
 obtain⟨a,x,rfl⟩:∃ a x,l=a++[x]:=⟨l.dropLast,l.getLast (by intro h;simp[h] at hl),(List.dropLast_concat_getLast _).symm⟩
 rw[qI];have h1:=(yN.1 hg).2;rw[yK] at h1;have h2:x≠0:=by rintro rfl;exact hc (by simp)
 have:1≤x.toNat:=by omega
 simp only[List.length_append,List.length_singleton,Nat.add_sub_cancel]
 have:=Nat.mul_le_mul_left (1000000000 ^ a.length) this
 omega
theorem zbj {n k:Nat} (h:n<1000000000 ^ k):(zZ n).length≤k:=by
 rcases Nat.lt_or_ge k (zZ n).length with hk|hk
 ·have h1:=zjx (jV n) (zgd n) (by omega)
  rw[jR] at h1;have:=Nat.pow_le_pow_right (n:=1000000000) (by omega) (show k≤(zZ n).length-1 by omega)
  omega
 exact hk
end Fig
namespace Fig
def zlt (a b:List Int):Option (List Int):=
 if jC a=true∧jC b=true∧a.length≤1000000000000∧b.length≤1000000000000 then some (zZ (zI a+zI b)) else none
def zja (a b:List Int):Option (List Int×Bool):=
 if jC a=true∧jC b=true∧a.length≤1000000000000∧b.length≤1000000000000 then (if zI a<zI b then some ([],false) else some (zZ (zI a-zI b),true)) else none
theorem zfS {a b:List Int} (ha:jC a=true) (hb:jC b=true) (la:a.length≤1000000000000) (lb:b.length≤1000000000000):zlt a b=some (zZ (zI a+zI b)):=by
 unfold zlt;rw[if_pos ⟨ha,hb,la,lb⟩]
theorem zpr {a b:List Int} (ha:jC a=true) (hb:jC b=true) (la:a.length≤1000000000000) (lb:b.length≤1000000000000):zja a b=if zI a<zI b then some ([],false) else some (zZ (zI a-zI b),true):=by
 unfold zja;rw[if_pos ⟨ha,hb,la,lb⟩]
end Fig
namespace Fig
def vN (m n:Nat):Int:=if m<n then -1 else if n<m then 1 else 0
def zkY (a b:List Int):Option Int:=if jC a=true∧jC b=true∧a.length≤1000000000000∧b.length≤1000000000000 then some (vN (zI a) (zI b)) else none
theorem zfE {a b:List Int} (ha:jC a=true) (hb:jC b=true) (la:a.length≤1000000000000) (lb:b.length≤1000000000000):zkY a b=some (vN (zI a) (zI b)):=by
 unfold zkY;rw[if_pos ⟨ha,hb,la,lb⟩]
def zgW (a:List Int):Option (List Int):=if a.length≤20000000000000 then some (uZ a) else none
theorem xK {a:List Int} (ha:jC a=true) (la:a.length≤20000000000000):zgW a=some (zZ (zI a)):=by
 unfold zgW;rw[if_pos la,znA ha]
theorem take_trim (l:List Int):l.take (uZ l).length=uZ l:=by
 obtain⟨m,hm⟩:=zcb l;conv=>lhs;rw[hm]
 rw[List.take_append_of_le_length (by obtain⟨m',hm'⟩:=zcb l;rw[←hm];exact Nat.le_refl _),←hm,List.take_length]
theorem ziY {a b:List Int} (ga:jC a=true) (gb:jC b=true) (cb:xZ b) (h:a.length<b.length):zI a<zI b:=by
 have h1:=zak ga;have h2:=zjx gb cb (by omega);have:=Nat.pow_le_pow_right (n:=1000000000) (by omega) (show a.length≤b.length-1 by omega)
 omega
theorem zoE (v w B p q:Nat) (hv:v<B) (hw:w<B) (h:p≠q):vN p q=vN (v+B * p) (w+B * q):=by
 unfold vN;rcases Nat.lt_or_gt_of_ne h with h1|h1
 ·have:B * (p+1)≤B * q:=Nat.mul_le_mul_left _ h1
  rw[Nat.mul_add] at this;rw[if_pos h1,if_pos (by omega)]
 have:B * (q+1)≤B * p:=Nat.mul_le_mul_left _ h1
 rw[Nat.mul_add] at this;rw[if_neg (by omega),if_pos h1,if_neg (by omega),if_pos (by omega)]
theorem zpe (v w X:Nat):vN v w=vN (v+X) (w+X):=by
 unfold vN;simp
theorem zpp {a b:List Int} (ga:jC a=true) (gb:jC b=true) (ca:xZ a) (cb:xZ b) (h:a.length≠b.length):vN (zI a) (zI b)=vN a.length b.length:=by
 unfold vN;rcases Nat.lt_or_gt_of_ne h with h1|h1
 ·have:=ziY ga gb cb h1
  rw[if_pos this,if_pos h1]
 have:=ziY gb ga ca h1
 rw[if_neg (show ¬ zI a<zI b by omega),if_pos this,if_neg (show ¬ a.length<b.length by omega),if_pos h1]
theorem valL_take_succ {l:List Int} {n:Nat} (h:n<l.length):zI (l.take (n+1))=zI (l.take n)+1000000000 ^ n * l[n].toNat:=by
 rw[List.take_succ_eq_append_getElem h,qI,List.length_take,Nat.min_eq_left (by omega)]
theorem zfq {l:List Int} (h:jC l=true) (n:Nat):zI (l.take n)<1000000000 ^ n:=by
 have:=zak (zde h n)
 rw[List.length_take] at this;exact Nat.lt_of_lt_of_le this (Nat.pow_le_pow_right (by omega) (Nat.min_le_left _ _))
end Fig
namespace Fig
theorem zps {a b:List Int} (ha:jC a=true) (hb:jC b=true) (la:a.length≤1000000000000) (lb:b.length≤1000000000000) (h:¬ zI a<zI b):zja a b=some (zZ (zI a-zI b),true):=by
 rw[zpr ha hb la lb,if_neg h]
end Fig
end
section
namespace Fig
open Go
def isD (c:UInt8):Bool:=decide (48≤c.toNat)&&decide (c.toNat≤57)
theorem uU {c:UInt8}:isD c=true ↔ 48≤c.toNat∧c.toNat≤57:=by simp[isD]
def yH (l:List UInt8):Bool:=l.all isD
theorem xG {c:UInt8} {l:List UInt8}:yH (c :: l)=true ↔ isD c=true∧yH l=true:=by simp[yH]
theorem zbf {a b:List UInt8}:yH (a++b)=true ↔ yH a=true∧yH b=true:=by simp[yH]
theorem uM {l:List UInt8}:yH l.reverse=yH l:=by simp[yH]
theorem zcj {l:List UInt8}:yH l=true ↔ ∀ c∈l,isD c=true:=by simp[yH]
theorem zdN {l:List UInt8} (h:yH l=true) (n:Nat):yH (l.take n)=true:=zcj.2 fun c hc=>zcj.1 h c (List.mem_of_mem_take hc)
def rv:List UInt8→Nat
 | []=>0
 | c :: l=>(c.toNat-48)+10 * rv l
theorem zaK (a b:List UInt8):rv (a++b)=rv a+10 ^ a.length * rv b:=by
 induction a with
 | nil=>simp[rv]
 | cons x a ih =>
  simp only[List.cons_append,rv,ih,List.length_cons,Nat.pow_succ]
  rw[Nat.mul_add,←Nat.mul_assoc,Nat.mul_comm 10 (10 ^ a.length)];omega
theorem zeM {l:List UInt8} (h:yH l=true):rv l<10 ^ l.length:=by
 induction l with
 | nil=>simp[rv]
 | cons x l ih =>
  obtain⟨hx,hl⟩:=xG.1 h;have:=ih hl
  have:=uU.1 hx
  simp only[rv,List.length_cons,Nat.pow_succ]
  omega
theorem zjA (n:Nat):rv (List.replicate n 48)=0:=by
 induction n with
 | zero=>rfl
 | succ n ih=>simp[List.replicate_succ,rv,ih]
theorem zln (n:Nat):yH (List.replicate n 48)=true:=by
 rw[zcj];intro c hc;rw[List.eq_of_mem_replicate hc];rfl
def zec:Nat→Nat→List UInt8
 | 0,_=>[]
 | f+1,n=>if n=0 then [] else UInt8.ofNat (48+n % 10) :: zec f (n / 10)
def vU (n:Nat):List UInt8:=(zec (n.log2+1) n).reverse
theorem zbo (n:Nat):(UInt8.ofNat (48+n % 10)).toNat=48+n % 10:=by
 rw[UInt8.toNat_ofNat'];omega
theorem znv (f n:Nat):yH (zec f n)=true:=by
 induction f generalizing n with
 | zero=>rfl
 | succ f ih =>
  unfold zec;split
  ·rfl
  rw[xG,uU,zbo];exact⟨by omega,ih _⟩
theorem zgv:∀ (f n:Nat),n<2 ^ f→rv (zec f n)=n
 | 0,n,h=>by simp at h;subst h;rfl
 | f+1,n,h=>by
  unfold zec;split
  ·rename_i h0;subst h0;rfl
  have h2:n / 10<2 ^ f:=by rw[Nat.pow_succ] at h;omega
  simp only[rv,zgv f _ h2,zbo];omega
def zay (l:List UInt8):Prop:=l.getLast?≠some 48
theorem zgG:∀ (f n:Nat),n<2 ^ f→zay (zec f n)
 | 0,n,h=>by simp[zec,zay]
 | f+1,n,h=>by
  unfold zec;split
  ·simp[zay]
  have h2:n / 10<2 ^ f:=by rw[Nat.pow_succ] at h;omega
  have ih:=zgG f _ h2;have hv:=zgv f _ h2;unfold zay at ih ⊢;rcases hr:zec f (n / 10) with _|⟨y,l⟩
  ·rw[hr] at hv
   simp only[rv] at hv
   simp only[List.getLast?_singleton,ne_eq,Option.some.injEq]
   intro e;have:=congrArg UInt8.toNat e
   rw[zbo] at this;have h48:(48:UInt8).toNat=48:=rfl;omega
  rw[hr] at ih;rw[List.getLast?_cons_cons];exact ih
theorem zed {x:UInt8} {l:List UInt8} (h:zay (x :: l)):zay l:=by
 rcases l with _|⟨y,l⟩
 ·simp[zay]
 unfold zay at h ⊢;rwa [List.getLast?_cons_cons] at h
theorem ziF {c:UInt8} (h:isD c=true) (h0:c.toNat-48=0):c=48:=by
 have:=uU.1 h
 exact UInt8.toNat.inj (by show c.toNat=48;omega)
theorem zkx {l:List UInt8} (hg:yH l=true) (hc:zay l) (h:rv l=0):l=[]:=by
 induction l with
 | nil=>rfl
 | cons x l ih =>
  obtain⟨hx,hl⟩:=xG.1 hg;simp only[rv] at h
  have:=ih hl (zed hc) (by omega)
  subst this;exfalso;apply hc;simp[ziF hx (by omega)]
theorem zeT:∀ {a b:List UInt8},yH a=true→yH b=true→zay a→zay b→rv a=rv b→a=b
 | [],b,_,hb,_,cb,h=>(zkx hb cb (by simpa [rv] using h.symm)).symm
 | x :: a,[],ha,_,ca,_,h=>zkx ha ca (by simpa [rv] using h)
 | x :: a,y :: b,ha,hb,ca,cb,h=>by
  obtain⟨hx,ha⟩:=xG.1 ha;obtain⟨hy,hb⟩:=xG.1 hb;have dx:=uU.1 hx;have dy:=uU.1 hy;simp only[rv] at h
  have h1:x=y:=UInt8.toNat.inj (by omega);have h2:rv a=rv b:=by omega
  rw[zeT ha hb (zed ca) (zed cb) h2,h1]
theorem zbN (n:Nat):yH (vU n)=true:=by rw[vU,uM];exact znv _ _
theorem zbt (n:Nat):rv (vU n).reverse=n:=by rw[vU,List.reverse_reverse];exact zgv _ _ Nat.lt_log2_self
theorem zeN (n:Nat):zay (vU n).reverse:=by rw[vU,List.reverse_reverse];exact zgG _ _ Nat.lt_log2_self
theorem zhs {l:List UInt8} (hg:yH l=true) (hc:zay l.reverse):l=vU (rv l.reverse):=by
 have:=zeT (a:=l.reverse) (b:=(vU (rv l.reverse)).reverse) (by rw[uM];exact hg) (by rw[uM];exact zbN _) hc (zeN _) (zbt _).symm
 have h2:=congrArg List.reverse this;rwa [List.reverse_reverse,List.reverse_reverse] at h2
def zaS (l:List UInt8):List UInt8:=l.dropWhile (·==48)
theorem zfl (l:List UInt8):∃ m,l=List.replicate m 48++zaS l:=by
 induction l with
 | nil=>exact⟨0,rfl⟩
 | cons c l ih =>
  by_cases h:c=48
  ·subst h
   obtain⟨m,hm⟩:=ih;refine⟨m+1,?_⟩;rw[List.replicate_succ];simp only[zaS,List.dropWhile_cons,beq_self_eq_true,if_true,List.cons_append]
   rw[List.cons_inj_right];exact hm
  exact⟨0,by simp[zaS,h]⟩
theorem zki (l:List UInt8):(zaS l).head?≠some 48:=by
 induction l with
 | nil=>simp[zaS]
 | cons c l ih =>
  by_cases h:c=48
  ·subst h;simpa [zaS,List.dropWhile_cons] using ih
  simp[zaS,h]
theorem zcF {l:List UInt8} (h:l.head?≠some 48):zay l.reverse:=by
 unfold zay;rwa [List.getLast?_reverse]
theorem zlB (l:List UInt8):rv (zaS l).reverse=rv l.reverse:=by
 obtain⟨m,hm⟩:=zfl l;conv=>rhs;rw[hm]
 rw[List.reverse_append,zaK,List.reverse_replicate,zjA];simp
theorem zkV {l:List UInt8} (h:yH l=true):yH (zaS l)=true:=by
 obtain⟨m,hm⟩:=zfl l;rw[hm,zbf] at h;exact h.2
theorem zif {l:List UInt8} (h:yH l=true):zaS l=vU (rv l.reverse):=by
 rw[←zlB l];exact zhs (zkV h) (zcF (zki l))
theorem zhw {l:List UInt8} (h:l.head?≠some 48):zaS l=l:=by
 rcases l with _|⟨c,l⟩
 ·rfl
 have:c≠48:=by simpa using h
 simp[zaS,this]
theorem zhU (n:Nat):(vU n).head?≠some 48:=by
 have:=zeN n
 unfold zay at this;rwa [List.getLast?_reverse] at this
theorem zct:vU 0=[]:=by decide
theorem zbi {n:Nat}:vU n=[] ↔ n=0:=by
 constructor
 ·intro h;have:=zbt n;rw[h] at this;simpa [rv] using this.symm
 rintro rfl;exact zct
theorem zhx (n:Nat):n<10 ^ (vU n).length:=by
 have:=zeM (l:=(vU n).reverse) (by rw[uM];exact zbN n)
 rwa [zbt,List.length_reverse] at this
theorem zmM {l:List UInt8} (hg:yH l=true) (hc:zay l) (hl:0<l.length):10 ^ (l.length-1)≤rv l:=by
 obtain⟨a,x,rfl⟩:∃ a x,l=a++[x]:=⟨l.dropLast,l.getLast (by intro h;simp[h] at hl),(List.dropLast_concat_getLast _).symm⟩
 rw[zaK];have h1:=(zbf.1 hg).2;rw[xG] at h1;have h2:x.toNat-48≠0:=fun e=>hc (by simp[ziF h1.1 e])
 have:1≤x.toNat-48:=by omega
 simp only[rv,List.length_append,List.length_singleton,Nat.add_sub_cancel,Nat.mul_zero,Nat.add_zero]
 have:=Nat.mul_le_mul_left (10 ^ a.length) this
 omega
theorem zkt {n:Nat} (h:n≠0):10 ^ ((vU n).length-1)≤n:=by
 have h1:=zmM (l:=(vU n).reverse) (by rw[uM];exact zbN n) (zeN n) (by
  rw[List.length_reverse];rcases hd:vU n with _|_
  ·exact absurd (zbi.1 hd) h
  simp)
 rwa [zbt,List.length_reverse] at h1
theorem zjY {n k:Nat} (h:n<10 ^ k):(vU n).length≤k:=by
 rcases Nat.lt_or_ge k (vU n).length with hk|hk
 ·by_cases h0:n=0
  ·subst h0;simp[zct] at hk
  have h1:=zkt h0;have:=Nat.pow_le_pow_right (n:=10) (by omega) (show k≤(vU n).length-1 by omega)
  omega
 exact hk
theorem zfV {m n:Nat} (h:(vU m).length<(vU n).length):m<n:=by
 have h1:=zhx m;have h0:n≠0:=by rintro rfl;simp[zct] at h
 have h2:=zkt h0;have:=Nat.pow_le_pow_right (n:=10) (by omega) (show (vU m).length≤(vU n).length-1 by omega)
 omega
theorem zij:∀ {a b:List UInt8},yH a=true→yH b=true→a.length=b.length→Op.bytesLess a b=decide (rv a.reverse<rv b.reverse)
 | [],[],_,_,_=>by simp[Op.bytesLess,rv]
 | [],_ :: _,_,_,h=>by simp at h
 | _ :: _,[],_,_,h=>by simp at h
 | x :: a,y :: b,ha,hb,h=>by
  obtain⟨hx,ha⟩:=xG.1 ha;obtain⟨hy,hb⟩:=xG.1 hb;have hl:a.length=b.length:=by simpa using h
  have dx:=uU.1 hx;have dy:=uU.1 hy;have va:=zeM (l:=a.reverse) (by rw[uM];exact ha);have vb:=zeM (l:=b.reverse) (by rw[uM];exact hb);rw[List.length_reverse] at va vb;simp only[Op.bytesLess,List.reverse_cons,zaK,List.length_reverse,rv,zij ha hb hl,Nat.mul_zero,Nat.add_zero]
  rw[hl] at va ⊢;rw[Bool.eq_iff_iff];simp only[Bool.or_eq_true,Bool.and_eq_true,decide_eq_true_eq,beq_iff_eq,UInt8.lt_iff_toNat_lt]
  constructor
  ·rintro (h1|⟨rfl,h1⟩)
   ·have:10 ^ b.length * (x.toNat-48+1)≤10 ^ b.length * (y.toNat-48):=Nat.mul_le_mul_left _ (by omega)
    rw[Nat.mul_add] at this;omega
   omega
  intro h1;rcases Nat.lt_trichotomy x.toNat y.toNat with h2|h2|h2
  ·exact .inl h2
  ·obtain rfl:=UInt8.toNat.inj h2;exact .inr ⟨rfl,by omega⟩
  exfalso
  have:10 ^ b.length * (y.toNat-48+1)≤10 ^ b.length * (x.toNat-48):=Nat.mul_le_mul_left _ (by omega)
  rw[Nat.mul_add] at this;omega
def dB (s:ByteArray):Bool:=yH s.data.toList
def vB (s:ByteArray):Nat:=rv s.data.toList.reverse
def zgT (s:ByteArray):ByteArray:=⟨(zaS s.data.toList).toArray⟩
def zU (n:Nat):ByteArray:=⟨(vU n).toArray⟩
theorem zR (s:ByteArray):s.size=s.data.toList.length:=Array.length_toList.symm
theorem xN {a b:ByteArray} (h:a.data.toList=b.data.toList):a=b:=by
 apply ByteArray.ext
 rw[←Array.toArray_toList (xs:=a.data),h,Array.toArray_toList]
theorem zdB (a b:ByteArray):(a++b).data.toList=a.data.toList++b.data.toList:=by simp[ByteArray.data_append]
theorem zan (s:ByteArray) (i j:Nat):(s.extract i j).data.toList=(s.data.toList.drop i).take (j-i):=by
 rw[ByteArray.data_extract,Array.toList_extract,List.extract_eq_take_drop]
theorem zhk (s:ByteArray) (i:Nat):(s.extract i s.size).data.toList=s.data.toList.drop i:=by
 rw[zan,zR];apply List.take_of_length_le;simp
theorem zjM (s:ByteArray) (j:Nat):(s.extract 0 j).data.toList=s.data.toList.take j:=by
 rw[zan];simp
theorem zdy (l:List Int):(strOfNums l).data.toList=l.map fun n=>UInt8.ofNat n.toNat:=rfl
theorem zam (n:Nat):(zU n).data.toList=vU n:=rfl
theorem zal (n:Nat):dB (zU n)=true:=zbN n
theorem xT (n:Nat):vB (zU n)=n:=zbt n
theorem zih {s:ByteArray} (h:dB s=true):zgT s=zU (vB s):=by
 apply xN;exact zif h
theorem zeZ {a b:ByteArray}:dB (a++b)=true ↔ dB a=true∧dB b=true:=by unfold dB;rw[zdB,zbf]
theorem zdS (a b:ByteArray):vB (a++b)=vB a * 10 ^ b.size+vB b:=by
 unfold vB;rw[zdB,List.reverse_append,zaK,zR,List.length_reverse,Nat.mul_comm];omega
theorem zdH {s:ByteArray} (h:dB s=true):vB s<10 ^ s.size:=by
 have:=zeM (l:=s.data.toList.reverse) (by rw[uM];exact h)
 rwa [List.length_reverse,←zR] at this
theorem zae (n:Nat):(zU n).size=(vU n).length:=by rw[zR,zam]
theorem zdX:zU 0=⟨#[]⟩:=by apply xN;rw[zam,zct]
theorem zac {n:Nat}:(zU n).size=0 ↔ n=0:=by
 rw[zae,List.length_eq_zero_iff,zbi]
end Fig
namespace Fig
open Go
theorem zgB (n:Nat):1000000000 ^ n=10 ^ (9 * n):=by rw[Nat.pow_mul]
theorem zaj {n k:Nat} (h:n<10 ^ k):(zU n).size≤k:=by rw[zae];exact zjY h
end Fig
namespace Fig
open Go
theorem uV {n:Nat}:(zU n).toList=[] ↔ n=0:=by
 rw[ByteArray.toList_eq,zam,zbi]
end Fig
end
section
namespace Fig
open Go
theorem zbg {n k:Nat} (h:(zU n).size≤k):n<10 ^ k:=by
 have:=zhx n
 rw[zae] at h;exact Nat.lt_of_lt_of_le this (Nat.pow_le_pow_right (by omega) h)
theorem zcK {m n p q:Nat} (hm:(zU m).size≤p) (hn:(zU n).size≤q):(zU (m * n)).size≤p+q:=by
 apply zaj;rw[Nat.pow_add];exact Nat.mul_lt_mul'' (zbg hm) (zbg hn)
theorem zbE {m n p:Nat} (hm:(zU m).size≤p) (hn:(zU n).size≤p):(zU (m+n)).size≤p+1:=by
 apply zaj;rw[Nat.pow_succ];have:=zbg hm;have:=zbg hn;omega
theorem xO {m n p:Nat} (h:m≤n) (hn:(zU n).size≤p):(zU m).size≤p:=by
 apply zaj;have:=zbg hn;omega
theorem yQ (n:Nat):(zZ n).length≤(zU n).size:=by
 apply zbj
 have:=zhx n
 rw[zae];exact Nat.lt_of_lt_of_le this (Nat.pow_le_pow_left (by omega) _)
end Fig
namespace Fig
open Go
theorem zpn {x n k:Nat} (h:x<1000000000 ^ n) (hk:n≤k):x<1000000000 ^ k:=Nat.lt_of_lt_of_le h (Nat.pow_le_pow_right (by decide) hk)
theorem znP {u n k:Nat} (hn:(zU n).size≤k) (h:u<10 * n):(zU u).size≤k+1:=by
 apply zaj
 have:=zbg hn
 rw[Nat.pow_succ];omega
theorem zeu {x n k:Nat} (h:x<1000000000 ^ n) (hk:n≤k):(zZ x).length≤k:=zbj (zpn h hk)
end Fig
end
section
namespace Fig
open Go
theorem zgA {n:Nat} (h:n≠0):n / 10<n:=Nat.div_lt_self (by omega) (by decide)
def tz (n:Nat):Nat:=if h:n=0 then 0 else if n % 10=0 then tz (n / 10)+1 else 0
termination_by n
decreasing_by exact zgA h
def yJ (n:Nat):Nat:=n / 10 ^ tz n
theorem zlC {n:Nat} (h:n % 10≠0):tz n=0:=by
 rw[tz];split <;> first|rfl|rw[if_neg h]
theorem zpL {n:Nat} (h:n≠0):tz (n * 10)=tz n+1:=by
 rw[tz,dif_neg (by omega),if_pos (by omega)];rw[Nat.mul_div_cancel _ (by decide)]
theorem zgS {n:Nat} (h:n≠0) (k:Nat):tz (n * 10 ^ k)=tz n+k:=by
 induction k with
 | zero=>simp
 | succ k ih =>
  rw[Nat.pow_succ,←Nat.mul_assoc,zpL,ih];· omega
  exact Nat.mul_ne_zero h (Nat.pos_iff_ne_zero.1 (Nat.pow_pos (by decide)))
theorem zjo {n:Nat} (h:n≠0) (k:Nat):yJ (n * 10 ^ k)=yJ n:=by
 unfold yJ;rw[zgS h,Nat.pow_add,Nat.mul_comm (10 ^ tz n),←Nat.div_div_eq_div_mul,Nat.mul_div_cancel _ (Nat.pow_pos (by decide))]
theorem zhO {n:Nat} (h:n % 10≠0):yJ n=n:=by unfold yJ;rw[zlC h];simp
theorem zhI (n:Nat):yJ n * 10 ^ tz n=n:=by
 by_cases h:n=0
 ·subst h;simp[yJ]
 induction n using Nat.strongRecOn with
 | _ n ih =>
  by_cases hm:n % 10=0
  ·have h2:n / 10≠0:=by omega
   have e:n=n / 10 * 10:=by omega
   rw[e,show n / 10 * 10=n / 10 * 10 ^ 1 by simp,zjo h2,zgS h2,Nat.pow_add,←Nat.mul_assoc,ih _ (zgA h) h2]
  rw[zhO hm,zlC hm];simp
theorem zfc {n:Nat} (h:n≠0):yJ n % 10≠0:=by
 intro h0;have h1:=zhI n;have hc:yJ n≠0:=by intro e;rw[e] at h1;omega
 have e:yJ n=yJ n / 10 * 10 ^ 1:=by omega
 have h2:yJ n / 10≠0:=by omega
 have h3:=zgS h2 (1+tz n);rw[Nat.pow_add,←Nat.mul_assoc,←e,h1] at h3;omega
theorem zdn {n:Nat} (h:n≠0):yJ n≠0:=by intro e;have:=zfc h;omega
theorem zdV:yJ 0=0:=by simp[yJ]
theorem zfH (n:Nat):yJ n≤n:=Nat.div_le_self _ _
theorem zmc (n:Nat):yJ (yJ n)=yJ n:=by
 by_cases h:n=0
 ·subst h;simp[zdV]
 exact zhO (zfc h)
def zeg:ByteArray:=⟨#[48]⟩
def nD (n:Nat):ByteArray:=if n=0 then zeg else zU (yJ n)
def nE (n:Nat) (e:Int):Int:=if n=0 then 0 else e+(tz n:Int)
theorem zoT:nD 0=zeg:=rfl
theorem zjJ (n k:Nat):nD (n * 10 ^ k)=nD n:=by
 by_cases h:n=0
 ·subst h;simp
 have h2:n * 10 ^ k≠0:=Nat.mul_ne_zero h (Nat.pos_iff_ne_zero.1 (Nat.pow_pos (by decide)));unfold nD;rw[if_neg h,if_neg h2,zjo h]
theorem ziD (n k:Nat) (e:Int):nE (n * 10 ^ k) e=nE n (e+(k:Int)):=by
 by_cases h:n=0
 ·subst h;simp[nE]
 have h2:n * 10 ^ k≠0:=Nat.mul_ne_zero h (Nat.pos_iff_ne_zero.1 (Nat.pow_pos (by decide)));unfold nE;rw[if_neg h,if_neg h2,zgS h];omega
theorem zmC:vB zeg=0:=rfl
theorem zeC (n:Nat):dB (nD n)=true:=by unfold nD;split;rfl;exact zal _
theorem zdQ (n:Nat):vB (nD n)=yJ n:=by
 unfold nD;split
 ·rename_i h;subst h;rw[zdV];rfl
 exact xT _
theorem zew (n:Nat):(nD n).size≠0:=by
 unfold nD;split
 ·decide
 rename_i h;intro e;exact zdn h (zac.1 e)
theorem zhG (n:Nat):zU n≠zeg:=by
 intro e;have h1:=congrArg vB e;rw[xT,zmC] at h1;subst h1;rw[zdX] at e;exact absurd (congrArg ByteArray.size e) (by decide)
theorem zcW {n:Nat}:nD n=zeg ↔ n=0:=by
 unfold nD;split
 ·rename_i h;simp[h]
 rename_i h;exact⟨fun e=>absurd e (zhG _),fun e=>absurd e h⟩
def atE (n:Nat) (e m:Int):Nat:=n * 10 ^ (e-m).toNat
theorem zdA (n:Nat) (e:Int):atE n e e=n:=by simp[atE]
theorem zoa (e m:Int):atE 0 e m=0:=by simp[atE]
theorem zks {n:Nat} {e m p:Int} (h1:m≤e) (h2:p≤m):atE (atE n e m) m p=atE n e p:=by
 unfold atE;rw[Nat.mul_assoc,←Nat.pow_add];congr 2;omega
theorem zje (n:Nat) (e m:Int):nD (atE n e m)=nD n:=zjJ _ _
theorem zjw (n:Nat) {e m:Int} (h:m≤e):nE (atE n e m) m=nE n e:=by
 unfold atE;rw[ziD];congr 1;omega
theorem zqx {n:Nat} (h:n % 10≠0):nD n=zU n:=by
 unfold nD;rw[if_neg (by omega),zhO h]
theorem zqs {n:Nat} {e:Int} (h:n % 10≠0):nE n e=e:=by
 unfold nE;rw[if_neg (by omega),zlC h];omega
theorem zhM (n:Nat):nD (yJ n)=nD n:=by
 by_cases h:n=0
 ·subst h;rw[zdV]
 unfold nD;rw[if_neg h,if_neg (zdn h),zmc]
theorem zff (k:Nat):0<10 ^ k:=Nat.pow_pos (by decide)
theorem zer {n:Nat} (h:n≠0) (k:Nat):vU (n * 10 ^ k)=vU n++List.replicate k 48:=by
 have e:vU n++List.replicate k 48=vU (rv (vU n++List.replicate k 48).reverse):=by
  refine zhs (zbf.2 ⟨zbN n,zln k⟩) (zcF ?_);rcases hd:vU n with _|⟨c,l⟩
  ·exact absurd (zbi.1 hd) h
  have:=zhU n
  rw[hd] at this;simpa using this
 rw[e,List.reverse_append,zaK,List.reverse_replicate,zjA,zbt,List.length_replicate,Nat.zero_add,Nat.mul_comm]
theorem zmb {n:Nat} (h:n≠0):vU n=vU (yJ n)++List.replicate (tz n) 48:=by
 rw[←zer (zdn h),zhI]
theorem zbS {n:Nat} (h:n≠0) (k:Nat):(zU (n * 10 ^ k)).size=(zU n).size+k:=by
 rw[zae,zae,zer h];simp
theorem zbz {n:Nat} (h:n≠0):(zU n).size=(zU (yJ n)).size+tz n:=by
 conv=>lhs;rw[←zhI n]
 exact zbS (zdn h) _
theorem zdu {n:Nat} (h:n≠0):vU n=vU (n / 10)++[UInt8.ofNat (48+n % 10)]:=by
 have e:vU (n / 10)++[UInt8.ofNat (48+n % 10)]=vU (rv (vU (n / 10)++[UInt8.ofNat (48+n % 10)]).reverse):=by
  refine zhs (zbf.2 ⟨zbN _,xG.2 ⟨uU.2 (by rw[zbo];omega),rfl⟩⟩) (zcF ?_);rcases hd:vU (n / 10) with _|⟨c,l⟩
  ·have h0:=zbi.1 hd
   simp only[List.nil_append,List.head?_cons,ne_eq,Option.some.injEq]
   intro e;have:=congrArg UInt8.toNat e
   rw[zbo] at this;have h48:(48:UInt8).toNat=48:=rfl;omega
  have:=zhU (n / 10)
  rw[hd] at this;simpa using this
 rw[e,List.reverse_append,zaK,zbt];simp only[List.reverse_cons,List.reverse_nil,List.nil_append,rv,List.length_singleton,zbo]
 congr 1;omega
theorem znl {n:Nat} (h:n<10) (h0:n≠0):vU n=[UInt8.ofNat (48+n)]:=by
 rw[zdu h0,show n / 10=0 by omega,zct,show n % 10=n by omega];rfl
end Fig
namespace Fig
open Go
theorem zib (s:ByteArray) (j:Nat):(s.extract j s.size).size=s.size-j:=by rw[zR,zhk,List.length_drop,←zR]
end Fig
namespace Fig
open Go
theorem zhn (m:Nat) (l:List UInt8):(List.replicate m (48:UInt8)++l).dropWhile (·==48)=l.dropWhile (·==48):=by
 induction m with
 | zero=>rfl
 | succ m ih=>rw[List.replicate_succ,List.cons_append,List.dropWhile_cons,if_pos (by decide)];exact ih
theorem zlm {n:Nat} (h:n≠0):((vU n).reverse.dropWhile (·==48)).reverse=vU (yJ n):=by
 rw[zmb h,List.reverse_append,List.reverse_replicate,zhn];have hc:=zdn h;rw[zdu hc,List.reverse_append,List.reverse_singleton,List.singleton_append,List.dropWhile_cons];have hl:=zfc h;have:(UInt8.ofNat (48+yJ n % 10)==48)=false:=by
  rw[beq_eq_false_iff_ne];intro e;have:=congrArg UInt8.toNat e
  rw[zbo] at this;have h48:(48:UInt8).toNat=48:=rfl;omega
 rw[this];simp
end Fig
namespace Fig
open Go
theorem zcY {n:Nat} (h:n≠0):(zU n).size=(zU (n / 10)).size+1:=by
 rw[zae,zae,zdu h];simp
theorem zix {n:Nat} (h:n≠0):(zU n).extract 0 (zU (n / 10)).size=zU (n / 10):=by
 apply xN
 rw[zjM,zam,zam,zdu h,zae,List.take_append_of_le_length (Nat.le_refl _),List.take_length]
theorem ziv {n:Nat} (h:n≠0):(zU n).data.toList[(zU (n / 10)).size]?=some (UInt8.ofNat (48+n % 10)):=by
 rw[zam,zdu h,zae,List.getElem?_append_right (Nat.le_refl _)];simp
theorem zjz:∀ {l:List UInt8},yH l=true→∀ {j:Nat} {c:UInt8},l[j]?=some c→c.toNat=48+rv l / 10 ^ j % 10
 | [],_,j,c,h=>by simp at h
 | x :: l,hd,0,c,h=>by
  obtain⟨hx,hl⟩:=xG.1 hd;have:=uU.1 hx
  simp only[List.getElem?_cons_zero,Option.some.injEq] at h
  subst h
  simp only[rv,Nat.pow_zero,Nat.div_one];omega
 | x :: l,hd,j+1,c,h=>by
  obtain⟨hx,hl⟩:=xG.1 hd;have hx2:=uU.1 hx;rw[List.getElem?_cons_succ] at h;rw[zjz hl h];congr 2
  simp only[rv]
  rw[Nat.pow_succ,Nat.mul_comm (10 ^ j) 10,←Nat.div_div_eq_div_mul];congr 1;omega
theorem zoc {s:ByteArray} (h:dB s=true) {j:Nat} (hj:j<s.size):(s.data.toList[s.size-1-j]'(by rw[←zR];omega)).toNat=48+vB s / 10 ^ j % 10:=by
 have hl:s.data.toList.length=s.size:=(zR s).symm;refine zjz (l:=s.data.toList.reverse) (by rw[uM];exact h) ?_;rw[List.getElem?_reverse (by omega)];simp only[hl]
 rw[List.getElem?_eq_getElem (by rw[hl];omega)]
end Fig
end
section
namespace Fig
open Go
def upB (m:Int) (neg odd:Bool) (half:Int):Bool:=
 if m=0 then !neg else if m=1 then neg else if m=2 then true else if m=3 then false else if m=4 then decide (0<half)||(half==0&&odd) else if m=5 then decide (0≤half) else if m=6 then decide (0<half) else false
theorem zld {a b c:Nat} (h:0<c):vN (a * c) (b * c)=vN a b:=by
 unfold vN;simp only[Nat.mul_lt_mul_right h]
def rq (m:Int) (neg:Bool) (N B:Nat):Nat:=
 N / B+(if N % B≠0∧upB m neg (N / B % 2==1) (vN (N % B+N % B) B)=true then 1 else 0)
theorem zmH {m:Int} {neg:Bool} {N B:Nat} (h:N % B=0):rq m neg N B=N / B:=by
 unfold rq;rw[if_neg (by rintro⟨h2,_⟩;exact h2 h)];rfl
theorem znN {m:Int} {neg:Bool} {N B c:Nat} (hc:0<c):rq m neg (N * c) (B * c)=rq m neg N B:=by
 unfold rq;rw[Nat.mul_div_mul_right _ _ hc,Nat.mul_mod_mul_right,←Nat.add_mul,zld hc];have:(N % B * c≠0) ↔ (N % B≠0):=by
  constructor
  ·intro h e;rw[e] at h;simp at h
  intro h;exact Nat.mul_ne_zero h (by omega)
 simp only[this]
theorem zoJ {m:Int} {neg:Bool} {N B:Nat} (hB:0<B):rq m neg N B * B<N+B∧N<rq m neg N B * B+B:=by
 have e:=Nat.div_add_mod N B;have hm:=Nat.mod_lt N hB;rw[Nat.mul_comm] at e;unfold rq;split
 ·rename_i h;rw[Nat.add_mul,Nat.one_mul];have:=h.1;omega
 rw[Nat.add_zero];omega
theorem zmD {m:Int} {neg:Bool} {N B:Nat}:rq m neg N B * B=N ↔ N % B=0:=by
 constructor
 ·intro h;rw[←h];exact Nat.mul_mod_left _ _
 intro h;rw[zmH h];exact Nat.div_mul_cancel (Nat.dvd_of_mod_eq_zero h)
end Fig
end
section
namespace Fig
open Go
def sg (neg:Bool) (n:Nat):Int:=if neg=true then -(n:Int) else (n:Int)
theorem zmL (neg:Bool) (n:Nat):(sg neg n).natAbs=n:=by unfold sg;split <;> simp
def vZ (neg:Bool) (n:Nat) (e m:Int):Int:=sg neg (atE n e m)
theorem zdG (neg:Bool) (n:Nat) (e m:Int):(vZ neg n e m).natAbs=atE n e m:=zmL _ _
def zN (s:Int):Bool:=decide (s<0)
theorem zcA (n:Nat) (e:Int):min e 0≤nE n e:=by
 unfold nE;split <;> omega
theorem zdd (n:Nat) (e:Int) {k:Nat} (h:(zU n).size≤k):nE n e≤max (e+(k:Int)) 0:=by
 unfold nE;split
 ·omega
 rename_i h0
 have:=zbz h0
 omega
end Fig
namespace Fig
open Go
def zbH (s:ByteArray) (e:Int):Bool:=dB s&&decide (s.size≠0)&&decide (s.size≤1000)&&decide (-1000≤e)&&decide (e≤1000)
theorem zcO {s:ByteArray} {e:Int}:zbH s e=true ↔ dB s=true∧s.size≠0∧s.size≤1000∧-1000≤e∧e≤1000:=by
 unfold zbH;simp only[Bool.and_eq_true,decide_eq_true_eq];constructor
 ·rintro⟨⟨⟨⟨a,b⟩,c⟩,d⟩,f⟩;exact⟨a,b,c,d,f⟩
 rintro⟨a,b,c,d,f⟩;exact⟨⟨⟨⟨a,b⟩,c⟩,d⟩,f⟩
structure OkD (s:ByteArray) (e:Int):Prop where
 d:dB s=true
 ne:s.size≠0
 sz:s.size≤100000
 lo:-100000≤e
 hi:e≤100000
theorem OkD.of_good {s:ByteArray} {e:Int} (h:zbH s e=true):OkD s e:=by
 obtain⟨a,b,c,d,f⟩:=zcO.1 h;exact⟨a,b,by omega,by omega,by omega⟩
theorem zgJ {n k:Nat} (h:(zU n).size≤k) (hk:1≤k):(nD n).size≤k:=by
 by_cases h0:n=0
 ·subst h0;rw[zoT];exact hk
 unfold nD;rw[if_neg h0];exact xO (zfH n) h
theorem OkD.norm {n:Nat} {e:Int} (h:(zU n).size≤50000) (lo:-50000≤e) (hi:e≤50000):OkD (nD n) (nE n e):=by
 have h1:=zgJ (k:=50000) h (by decide);have h2:=zdd n e h;have h3:=zcA n e;exact⟨zeC n,zew n,by omega,by omega,by omega⟩
theorem OkD.val {s:ByteArray} {e:Int} (h:OkD s e):(zU (vB s)).size≤s.size:=zaj (zdH h.d)
def yD (n:Nat) (e:Int):Int:=if n=0 then 0 else e+((zU n).size:Int)-1
theorem zaL (n:Nat) (e:Int):yD (yJ n) (nE n e)=yD n e:=by
 by_cases h:n=0
 ·subst h;rw[zdV];rfl
 unfold yD nE;rw[if_neg h,if_neg h,if_neg (zdn h),zbz h];omega
def zaM (n:Nat) (e:Int):Bool:=decide (n=0∨(-300≤nE n e∧yD n e<300))
def zcS (n:Nat) (e p:Int):Int:=if p<e then 0 else ((n / 10 ^ (p-e).toNat % 10:Nat):Int)
theorem zpz {n:Nat} {e p:Int} (h:e+((zU n).size:Int)≤p):zcS n e p=0:=by
 unfold zcS;rw[if_neg (by omega),Nat.div_eq_of_lt];· rfl
 refine Nat.lt_of_lt_of_le (zbg (Nat.le_refl _)) (Nat.pow_le_pow_right (by decide) (by omega))
end Fig
namespace Fig
open Go
structure OkS (s:ByteArray) (e:Int):Prop where
 d:dB s=true
 ne:s.size≠0
 sz:s.size≤10000
 lo:-10000≤e
 hi:e≤10000
theorem OkS.ok {s:ByteArray} {e:Int} (h:OkS s e):OkD s e:=⟨h.d,h.ne,by have:=h.sz;omega,by have:=h.lo;omega,by have:=h.hi;omega⟩
theorem OkS.of_good {s:ByteArray} {e:Int} (h:zbH s e=true):OkS s e:=by
 obtain⟨a,b,c,d,f⟩:=zcO.1 h;exact⟨a,b,by omega,by omega,by omega⟩
theorem OkS.norm {n:Nat} {e:Int} (h:(zU n).size≤5000) (lo:-5000≤e) (hi:e≤5000):OkS (nD n) (nE n e):=by
 have h1:=zgJ (k:=5000) h (by decide);have h2:=zdd n e h;have h3:=zcA n e;exact⟨zeC n,zew n,by omega,by omega,by omega⟩
theorem zfN (a:Bool) {n p:Nat} (e k:Int) (h:(zU n).size≤p):(zU (vZ a n e k).natAbs).size≤p+(e-k).toNat:=by
 rw[zdG];unfold atE;by_cases h0:n=0
 ·subst h0;rw[Nat.zero_mul,zac.2 rfl];omega
 rw[zbS h0];omega
end Fig
end
section
namespace Fig
open Go
def rv0 (m:Int) (neg:Bool) (n:Nat) (e:Int) (st:Nat) (p k:Int):Nat:=rq m neg (atE n e k) (atE st p k) * atE st p k
def zaa (m:Int) (neg:Bool) (n:Nat) (e:Int) (st:Nat) (p:Int):Bool×ByteArray×Int×Int:=
 if atE n e (min e p) % atE st p (min e p)=0 then (neg,nD n,nE n e,0)
 else if m=7 then (false,⟨#[]⟩,0,11)
 else (neg,nD (rv0 m neg n e st p (min e p)),nE (rv0 m neg n e st p (min e p)) (min e p),0)
theorem zoX {m:Int} {neg:Bool} {n:Nat} {e:Int} {st:Nat} {p i k:Int} (h1:i≤e) (h2:i≤p) (h3:k≤i):rv0 m neg n e st p k=rv0 m neg n e st p i * 10 ^ (i-k).toNat:=by
 unfold rv0;rw[←zks h1 h3,←zks h2 h3];unfold atE;rw[znN (zff _),Nat.mul_assoc,Nat.mul_assoc,Nat.mul_assoc]
theorem zpf {m:Int} {neg:Bool} {n:Nat} {e:Int} {st:Nat} {p i k:Int} (h1:i≤e) (h2:i≤p) (h3:k≤i):rv0 m neg n e st p k=atE (rv0 m neg n e st p i) i k:=zoX h1 h2 h3
theorem zdL {m:Int} (hm:m≠7) (neg:Bool) (n:Nat) (e:Int) (st:Nat) (p:Int):zaa m neg n e st p=(neg,nD (rv0 m neg n e st p (min e p)),nE (rv0 m neg n e st p (min e p)) (min e p),0):=by
 unfold zaa;rw[if_neg hm];split
 ·rename_i h
  have hr:rv0 m neg n e st p (min e p)=atE n e (min e p):=zmD.2 h;rw[hr,zje,zjw _ (by omega)]
 rfl
theorem zmq {m:Int} (hm:m≠7) (neg:Bool) (n:Nat) (e:Int) (st:Nat) (p k:Int) (h1:k≤e) (h2:k≤p):zaa m neg n e st p=(neg,nD (rv0 m neg n e st p k),nE (rv0 m neg n e st p k) k,0):=by
 rw[zdL hm,zpf (i:=min e p) (k:=k) (by omega) (by omega) (by omega),zje,zjw _ (by omega)]
theorem zdi {m:Int} {neg:Bool} {n:Nat} {e:Int} {st:Nat} {p:Int} (h:atE n e (min e p) % atE st p (min e p)=0):zaa m neg n e st p=(neg,nD n,nE n e,0):=by unfold zaa;rw[if_pos h]
theorem zbI {neg:Bool} {n:Nat} {e:Int} {st:Nat} {p:Int} (h:¬ atE n e (min e p) % atE st p (min e p)=0):zaa 7 neg n e st p=(false,⟨#[]⟩,0,11):=by unfold zaa;rw[if_neg h,if_pos rfl]
theorem zhE {n:Nat} (h:n≠0) (e k:Int):0<atE n e k:=Nat.mul_pos (by omega) (zff _)
end Fig
end
section
namespace Fig
open Go
theorem zaW:(zU 1).size=1:=by rw[zae,znl (by decide) (by decide)];rfl
theorem ziu (k:Nat):(zU (10 ^ k)).size=k+1:=by
 have:=zbS (n:=1) (by decide) k
 rw[Nat.one_mul,zaW] at this;omega
end Fig
end
section
set_option linter.unusedVariables false
set_option linter.unusedSimpArgs false
namespace Go.Proofs.YtcmgdjnjmobkoaaGreatDoorW.PrintWords
open Go.RowKit
structure Aside0 (p:Prop):Prop where mk :: (out:p)
structure zL (w w':World):Prop where mk :: (out:∃ n,w'=w.drewN n)
theorem zL.refl (w:World):zL w w:=⟨⟨0,rfl⟩⟩
theorem zL.step {w w':World} (h:zL w w') (n:Nat):zL w (w'.drewN n):=by
  obtain⟨m,rfl⟩:=h;exact⟨⟨m+n,World.drewN_drewN ..⟩⟩
theorem zL.grown {w w':World} (h:zL w w'):Grown w w':=by
  obtain⟨n,rfl⟩:=h
  induction n with
  | zero=>exact Grown.refl _
  | succ n ih=>rw[←World.drew_drewN];exact Grown.drew ih
theorem zL.below {w w':World} (h:zL w w'):Below w.heap.size w w':=by
  obtain⟨n,rfl⟩:=h
  induction n with
  | zero=>exact Below.refl _ _
  | succ n ih=>rw[←World.drew_drewN];exact ih.drew
def rd (xs:List Int) (i:Int):Int:=xs.getD i.toNat 0
def bt (s:ByteArray) (i:Int):Int:=if h:i.toNat<s.size then ((s[i.toNat]'h).toNat:Int) else 0
theorem zap (s:ByteArray) (i:Int):∀ h:i.toNat<s.size,((s[i.toNat]'h).toNat:Int)=bt s i:=fun h=>by simp[bt,h]
def zno (k:IntKind) (xs:List Int):List Value:=xs.map fun x=>.int k x
theorem yC {w W:World} (h:Below w.heap.size w W) (o:Obj):Below w.heap.size w (W.alloc o):=h.alloc h.size o
theorem uQ {B:Nat} {w W:World} (h:Below B w W):Below B w W.drew:=⟨h.os,h.tape,h.output,h.size,h.block⟩
theorem jK {B:Nat} {w W:World} (h:Below B w W) (n:Nat):Below B w (W.drewN n):=⟨h.os,h.tape,h.output,h.size,h.block⟩
theorem zlx {B:Nat} {w w1 w2:World} (h:Below B w w1) (hB:B≤w1.heap.size) (k:Below w1.heap.size w1 w2):Below B w w2:=
  h.trans ⟨k.os,k.tape,k.output,k.size,fun i hi=>k.block i (Nat.lt_of_lt_of_le hi hB)⟩
theorem zhr {w w1:World} (h:Below w.heap.size w w1) (row:Option Nat):w.grownBy w1 row:=⟨h.os,h.tape,h.output,h.size,fun i hi _=>h.block i hi⟩
theorem zcX {w w1:World} (h:Below w.heap.size w w1) {a:Addr} {v:Value} (hc:w.cell? a=some v):w1.cell? a=some v:=(h.cell (World.block_lt_of_cell? w a hc)).trans hc
theorem zcv (g j:Nat):(⟨g,0,none⟩:Addr).add j=⟨g,j,none⟩:=by unfold Addr.add;split <;> simp_all
def xF (w:World) (k:IntKind) (A:Option Addr) (n:Nat) (xs:List Int):Prop:=
  xs.length=n∧n≤9223372036854775807∧(0<n→∃ ad,A=some ad∧∀ j,j<n→w.cell? (ad.add j)=some (.int k (xs.getD j 0)))
theorem xF.at_ {w:World} {k:IntKind} {A:Option Addr} {n:Nat} {xs:List Int} (h:xF w k A n xs) (i:Int) (h0:0≤i) (h1:i<n):∃ ad,A=some ad∧w.cell? (ad.add i.toNat)=some (.int k (rd xs i)):=by
  obtain⟨ad,e,hc⟩:=h.2.2 (by omega);exact⟨ad,e,hc _ (by omega)⟩
theorem xF.below {w w1:World} {k:IntKind} {A:Option Addr} {n:Nat} {xs:List Int} (h:xF w k A n xs) (hb:Below w.heap.size w w1):xF w1 k A n xs:=
  ⟨h.1,h.2.1,fun hn=>by
    obtain⟨ad,e,hc⟩:=h.2.2 hn;exact⟨ad,e,fun j hj=>zcX hb (hc j hj)⟩⟩
theorem zpd (W:World) (base:Nat) (e:TypeId) (size:Nat):W.ownsRow base e size (.slice none 0 0) 0 []:=⟨by simp,.inl ⟨rfl,rfl⟩⟩
theorem zcE {w:World} {base:Nat} {e:TypeId} {size n:Nat} {v:Value} {xs:List Value} (h:w.ownsRow base e size v n xs) (k:Nat) (hk:v.ownBlock=some k):base≤k:=by
  rcases h.2 with ⟨rfl,_⟩|⟨g,cap,cur,rfl,hb,_⟩
  · simp[Value.ownBlock] at hk
  have:g=k:=by simpa [Value.ownBlock] using hk
  omega
theorem zlW {w:World} {base:Nat} {e:TypeId} {size n:Nat} {v:Value} {xs:List Value} (h:w.ownsRow base e size v n xs) (k:Nat) (hk:v.ownBlock=some k):k<w.heap.size:=by
  rcases h.2 with ⟨rfl,_⟩|⟨g,cap,cur,rfl,hb,hh,_⟩
  · simp[Value.ownBlock] at hk
  have:g=k:=by simpa [Value.ownBlock] using hk
  subst this;exact (Array.getElem?_eq_some_iff.1 hh).1
theorem zjQ {w w1:World} {base:Nat} {e:TypeId} {size n:Nat} {v:Value} {xs:List Value} (h:w.ownsRow base e size v n xs) (hb:Below w.heap.size w w1):w1.ownsRow base e size v n xs:=
  h.kept (zhr hb none) (by cases v.ownBlock <;> simp)
theorem zio {w:World} {base n:Nat} {e:TypeId} {size:Nat} {v:Value} {xs:List Value} (h:w.ownsRow base e size v n xs):∃ A c,v=.slice A n c:=by
  rcases h.2 with ⟨rfl,rfl⟩|⟨g,cap,cur,rfl,_⟩
  · exact⟨none,0,rfl⟩
  exact⟨_,cap,rfl⟩
theorem zdc {P:Program} {w:World} {base n:Nat} {e' src dst e:TypeId} {v:Value} {xs:List Int} (hs:P.underlying src=some (.slice e)) (he:P.underlying e=some (.int .u8)) (hd:P.underlying dst=some .string)
    (h:w.ownsRow base e' 1 v n (zno .u8 xs)):(convert src dst v).run P w=.ok (.string (strOfNums xs)) w:=by
  have hl:xs.length=n:=by have:=h.1;simp[zno] at this;exact this
  rcases h.2 with ⟨rfl,rfl⟩|⟨g,cap,cur,rfl,_⟩
  · obtain rfl:xs=[]:=List.eq_nil_of_length_eq_zero hl
    exact run_convert_bytes_nil w src e hs he 0 0 dst hd
  refine run_convert_bytes_arg w src e hs he g 0 n cap xs hl (fun i hi=>?_) dst hd;have hc:=h.cells (g:=g) rfl i (.int .u8 (xs.getD i 0)) (by simp[zno,List.getElem?_eq_getElem (show i<xs.length by omega),List.getD_eq_getElem?_getD]);have ha:(⟨g,0,none⟩:Addr).add i=⟨g,0+i,none⟩:=by unfold Addr.add;split <;> simp_all
  rwa [ha] at hc
section
variable {P:Program} {ops:Array Oper} {rest:List Oper} {o:Oper} {a:Act} {Q:Exit→Act→World→Prop}
end
section
variable {P:Program}
end
section
variable {P:Program} {ops:Array Oper} {rest:List Oper} {o:Oper} {a:Act} {Q:Exit→Act→World→Prop}
end
theorem xF.take_ {w:World} {k:IntKind} {A:Option Addr} {n:Nat} {xs:List Int} (h:xF w k A n xs) (i:Nat) (hi:i≤n):xF w k A i (xs.take i):=by
  refine⟨by rw[List.length_take,h.1];omega,by have:=h.2.1;omega,fun hp=>?_⟩;obtain⟨ad,e,hc⟩:=h.2.2 (by omega);refine⟨ad,e,fun j hj=>?_⟩;rw[hc j (by omega)];simp[List.getD_eq_getElem?_getD,hj]
theorem xF.drop_ {w:World} {k:IntKind} {A:Option Addr} {n c:Nat} {xs:List Int} (h:xF w k A n xs) (i:Nat) (hi:i≤n) (hc:n≤c):xF w k (if c=i then A else A.map (·.add i)) (n-i) (xs.drop i):=by
  refine⟨by rw[List.length_drop,h.1],by have:=h.2.1;omega,fun hp=>?_⟩;obtain⟨ad,rfl,hcell⟩:=h.2.2 (by omega);rw[if_neg (by omega)];refine⟨ad.add i,rfl,fun j hj=>?_⟩;have ha:(ad.add i).add j=ad.add (i+j):=by
    unfold Addr.add;by_cases h1:i=0 <;> by_cases h2:j=0 <;> simp[h1,h2,Nat.add_assoc]
  rw[ha,hcell (i+j) (by omega)];simp[List.getD_eq_getElem?_getD,List.getElem?_drop]
def LeO {α:Type} (a b:Option α):Prop:=∀ r,a=some r→b=some r
theorem LeO.refl {α:Type} (a:Option α):LeO a a:=fun _ h=>h
theorem LeO.none {α:Type} (b:Option α):LeO Option.none b:=fun _ h=>by cases h
theorem LeO.trans {α:Type} {a b c:Option α} (h:LeO a b) (k:LeO b c):LeO a c:=fun r hr=>k r (h r hr)
theorem LeO.ite {α:Type} {c:Prop} [Decidable c] {a a' b b':Option α} (h:LeO a a') (k:LeO b b'):LeO (if c then a else b) (if c then a' else b'):=by
  split
  · exact h
  exact k
theorem LeO.bind {α β:Type} {a a':Option α} {f f':α→Option β} (h:LeO a a') (k:∀ x,LeO (f x) (f' x)):LeO (a.bind f) (a'.bind f'):=by
  intro r hr;obtain⟨x,hx,hf⟩:=Option.bind_eq_some_iff.1 hr;exact Option.bind_eq_some_iff.2 ⟨x,h x hx,k x r hf⟩
theorem LeO.map {α β:Type} {a a':Option α} (f:α→β) (h:LeO a a'):LeO (a.map f) (a'.map f):=by
  intro r hr;obtain⟨x,hx,hf⟩:=Option.map_eq_some_iff.1 hr;exact Option.map_eq_some_iff.2 ⟨x,h x hx,hf⟩
theorem zgc {α:Type} {g:Nat→Option α} (h:∀ k,LeO (g k) (g (k+1))) (k:Nat):∀ j,LeO (g k) (g (k+j))
  | 0=>LeO.refl _
  | j+1=>(zgc h k j).trans (h (k+j))
theorem zml {α:Type} {g:Nat→Option α} (h:∀ k,LeO (g k) (g (k+1))) {k k':Nat} (hk:k≤k') {r:α} (hr:g k=some r):g k'=some r:=by
  have:=zgc h k (k'-k) r hr
  rwa [Nat.add_sub_cancel' hk] at this
def jN {α:Type} (R:α→List Value→Prop) (size:Nat) (ps:List α) (cs:List Value):Prop:=
  cs.length=ps.length * size∧∀ j p,ps[j]?=some p→R p ((cs.drop (j * size)).take size)
theorem jN.none {α:Type} (R:α→List Value→Prop) (size:Nat):jN R size [] []:=⟨by simp,fun j p h=>by simp at h⟩
theorem jN.snoc {α:Type} {R:α→List Value→Prop} {size:Nat} {ps:List α} {cs c:List Value} {p:α} (h:jN R size ps cs) (hp:R p c) (hc:c.length=size):jN R size (ps++[p]) (cs++c):=by
  refine⟨by rw[List.length_append,h.1,hc,List.length_append,List.length_singleton,Nat.add_mul,Nat.one_mul],fun j q hq=>?_⟩;rcases Nat.lt_or_ge j ps.length with hj|hj
  · rw[List.getElem?_append_left hj] at hq
    have h1:j * size+size≤cs.length:=by rw[h.1,←Nat.succ_mul];exact Nat.mul_le_mul_right _ hj
    have h2:=h.2 j q hq;rw[List.drop_append_of_le_length (by omega),List.take_append_of_le_length (by rw[List.length_drop];omega)];exact h2
  have hj':j=ps.length:=by
    have:=(List.getElem?_eq_some_iff.1 hq).1
    rw[List.length_append,List.length_singleton] at this;omega
  subst hj';have hq':p=q:=by simpa using hq
  subst hq';rw[←h.1,List.drop_left,←hc,List.take_length];exact hp
theorem jN.imp_ {α:Type} {R R':α→List Value→Prop} {size:Nat} {ps:List α} {cs:List Value} (h:jN R size ps cs) (hR:∀ p c,R p c→R' p c):jN R' size ps cs:=⟨h.1,fun j p hj=>hR _ _ (h.2 j p hj)⟩
def xL {α:Type} (R:α→List Value→Prop) (size:Nat) (w:World) (A:Option Addr) (n:Nat) (ps:List α):Prop:=
  ps.length=n∧n≤9223372036854775807∧(0<n→∃ ad,A=some ad∧∀ j p,ps[j]?=some p→∃ c,c.length=size∧R p c∧∀ i u,c[i]?=some u→w.cell? (ad.add (j * size+i))=some u)
theorem xL.get_ {α:Type} {R:α→List Value→Prop} {size:Nat} {w:World} {A:Option Addr} {n:Nat} {ps:List α} (h:xL R size w A n ps) (d:α) (i:Int) (h0:0≤i) (h1:i<n) :
    ∃ ad c,A=some ad∧c.length=size∧R (ps.getD i.toNat d) c∧∀ j u,c[j]?=some u→w.cell? (ad.add (i.toNat * size+j))=some u:=by
  obtain⟨ad,e,hc⟩:=h.2.2 (by omega);have hl:i.toNat<ps.length:=by have:=h.1;omega
  obtain⟨c,hs,hr,hcell⟩:=hc i.toNat _ (List.getElem?_eq_getElem hl);refine⟨ad,c,e,hs,?_,hcell⟩;rw[List.getD_eq_getElem?_getD,List.getElem?_eq_getElem hl];exact hr
theorem xL.imp_ {α:Type} {R R':α→List Value→Prop} {size:Nat} {w w1:World} {A:Option Addr} {n:Nat} {ps:List α} (h:xL R size w A n ps) (hb:Below w.heap.size w w1) (hR:∀ p c,R p c→R' p c):xL R' size w1 A n ps:=
  ⟨h.1,h.2.1,fun hn=>by
    obtain⟨ad,e,hc⟩:=h.2.2 hn;refine⟨ad,e,fun j p hj=>?_⟩;obtain⟨c,hs,hr,hcell⟩:=hc j p hj;exact⟨c,hs,hR _ _ hr,fun i u hu=>zcX hb (hcell i u hu)⟩⟩
theorem ziy {α:Type} {R:α→List Value→Prop} {w:World} {base n size:Nat} {e:TypeId} {v:Value} {ps:List α} {cs:List Value} (h:w.ownsRow base e size v n cs) (hR:jN R size ps cs) (hn:ps.length=n) :
    ∃ A c,v=.slice A n c∧xL R size w A n ps:=by
  rcases Nat.eq_zero_or_pos n with h0|h0
  · rcases h.2 with ⟨rfl,rfl⟩|⟨g,cap,cur,rfl,_⟩
    · exact⟨none,0,rfl,hn,by omega,fun hp=>absurd hp (by omega)⟩
    exact⟨_,cap,rfl,hn,by omega,fun hp=>absurd hp (by omega)⟩
  obtain⟨g,cap,rfl,_,_⟩:=h.form h0;have hm:n≤9223372036854775807:=by
    rcases h.2 with ⟨_,h1⟩|⟨g',cap',cur,he,_,_,h1,h2,_⟩
    · omega
    simp only[maxLen] at h2
    omega
  refine⟨_,cap,rfl,hn,hm,fun _=>⟨_,rfl,fun j p hj=>⟨(cs.drop (j * size)).take size,?_,hR.2 j p hj,fun i u hu=>?_⟩⟩⟩
  · have hjl:=(List.getElem?_eq_some_iff.1 hj).1
    have h1:j * size+size≤cs.length:=by rw[hR.1,←Nat.succ_mul];exact Nat.mul_le_mul_right _ hjl
    rw[List.length_take,List.length_drop];omega
  refine h.cells (g:=g) rfl _ u ?_;rw[List.getElem?_take] at hu;split at hu
  · rw[List.getElem?_drop] at hu
    exact hu
  cases hu
theorem zck (ad:Addr) (m j:Nat) (hj:0<j):ad.add (m+j)=⟨(ad.add m).block,(ad.add m).off+j,none⟩:=by
  unfold Addr.add;by_cases hm:m=0
  · subst hm
    simp[Nat.ne_of_gt hj]
  simp[hm,Nat.add_assoc]
section
variable {P:Program} {ops:Array Oper} {rest:List Oper} {o:Oper} {a:Act} {Q:Exit→Act→World→Prop}
theorem zcL {w0 W:World} (base:Nat) (hgd:o.guard=none) (s x:Operand) (t e:TypeId) (z:Value) (size bytes:Nat)
    (ho:o.op=.call { callee:=.builtin .append,args:=#[s,x],argTypes:=#[t,t] })
    (ht:P.underlying t=some (.slice e)) (hinfo:(P.info? e).map (fun i=>(i.zero,i.size,i.bytes))=some (some z,size,bytes)) (hz:z.cells.size=size) (hs0:0<size) (hb0:0<bytes)
    (v:Value) (n:Nat) (xs ys:List Value) (hs:a.eval s=v) (hx:a.eval x=.slice (some ⟨W.heap.size,0,none⟩) 1 1) (hys:ys.length=size) (h1:∀ u∈ys,u.oneCell'=true)
    (HO:W.ownsRow base e size v n xs) (HB:Below base w0 W) (hbase:base≤W.heap.size) (hl:(n+1) * bytes≤140737488355328)
    (h:∀ v1 w1,w1.ownsRow base e size v1 (n+1) (xs++ys)→Below base w0 w1→W.grownBy w1 v.ownBlock→(v1.ownBlock=v.ownBlock∨∃ b,v1.ownBlock=some b∧W.heap.size≤b)→wpList P ops Q rest (a.put o.dst v1) w1) :
    wpList P ops Q (o :: rest) a (W.alloc (.cells ys.toArray e)):=by
  obtain⟨i0,hi,hzz⟩:=Option.map_eq_some_iff.1 hinfo;simp only[Prod.mk.injEq] at hzz
  obtain⟨hz0,hz1,hz2⟩:=hzz;have hlen:n+1≤140737488355328:=Nat.le_trans (Nat.le_mul_of_pos_right _ hb0) hl
  refine wpList_append_own_at (W.alloc (.cells ys.toArray e)) hgd s x t ho base e i0 z size bytes ht hi hz0 hz1 hz2 hz hs0 v n xs hs (HO.alloc _) ⟨W.heap.size,0,none⟩ 1 1 ys hx (by rw[hys];simp)
    (by simpa using World.news_of_block (cs:=ys.toArray) (t:=e) (fr:=(0,0)) (heap_alloc_new W (.cells ys.toArray e))) h1 (by simp only[maxLen];omega) hl (by simp;omega) ?_
  intro v1 w1 hown hg _ hat;refine h v1 w1 hown ((HB.alloc hbase _).grown hg (by simp;omega) (zcE HO)) (World.grownBy.trans (World.grownBy_alloc W _ _) hg) ?_;rcases hat with hat|hat
  · exact .inl hat
  exact .inr ⟨_,hat,by simp⟩
end
theorem zpS {w:World} {base:Nat} {e t:TypeId} {size n g:Nat} {v:Value} {xs:List Value} {cs:Array Value} (h:w.ownsRow base e size v n xs) (hg:w.heap[g]?=some (.cells cs t (0,0))) (hne:e≠t):some g≠v.ownBlock:=by
  rcases h.2 with ⟨rfl,_⟩|⟨g',cap,cur,rfl,_,hh,_⟩
  · simp[Value.ownBlock]
  intro he;have:g=g':=by simpa [Value.ownBlock] using he
  subst this;rw[hg] at hh;injection hh with hh
  injection hh with _ ht
  exact hne ht.symm
theorem zkR {w:World} {g:Nat} {t:TypeId} {cs:Array Value} (h:w.heap[g]?=some (.cells cs t (0,0))) (i:Nat) (u:Value):(w.setCell ⟨g,i,none⟩ u).heap[g]?=some (.cells (cs.setIfInBounds i u) t (0,0)):=by
  simp[World.setCell,Array.getElem?_modify,h]
theorem zS {w:World} {g:Nat} {t:TypeId} {cs:Array Value} (h:w.heap[g]?=some (.cells cs t (0,0))) {p:Addr} (hp:g≠p.block) (u:Value):(w.setCell p u).heap[g]?=some (.cells cs t (0,0)):=(Below.heap_setCell w p u g hp).trans h
theorem zcP {w:World} {g:Nat} {o:Obj} (h:w.heap[g]?=some o):g<w.heap.size:=(Array.getElem?_eq_some_iff.1 h).1
theorem zA {w:World} {g:Nat} {t:TypeId} {cs:Array Value} (h:w.heap[g]?=some (.cells cs t (0,0))) (i:Nat):w.cell? ⟨g,i,none⟩=cs[i]?:=cell_of_row w g i cs t (0,0) h
theorem zM {w:World} {g:Nat} {t:TypeId} {cs:Array Value} (h:w.heap[g]?=some (.cells cs t (0,0))) (i:Nat):w.frozen? ⟨g,i,none⟩=false:=by simp[World.frozen?,h]
theorem vC {w w1:World} {g:Nat} {o:Obj} {row:Option Nat} (h:w.heap[g]?=some o) (hg:w.grownBy w1 row) (hne:some g≠row):w1.heap[g]?=some o:=(hg.block g (zcP h) hne).trans h
def zaz (w w':World) (g:Nat) (row:Option Nat):Prop:=w.heap.size≤w'.heap.size∧∀ i,i<w.heap.size→i≠g→some i≠row→w'.heap[i]?=w.heap[i]?
theorem zaz.refl (w:World) (g:Nat) (row:Option Nat):zaz w w g row:=⟨Nat.le_refl _,fun _ _ _ _=>rfl⟩
theorem zaz.of_grown {w w1:World} {row:Option Nat} (h:w.grownBy w1 row) (g:Nat):zaz w w1 g row:=⟨h.size,fun i hi _ hr=>h.block i hi hr⟩
theorem zaz.of_below {w w1:World} (h:Below w.heap.size w w1) (g:Nat) (row:Option Nat):zaz w w1 g row:=⟨h.size,fun i hi _ _=>h.block i hi⟩
theorem zaz.trans {w w1 w2:World} {g:Nat} {row row1:Option Nat} (h:zaz w w1 g row) (k:zaz w1 w2 g row1) (hr:row1=row∨∃ b,row1=some b∧w.heap.size≤b):zaz w w2 g row:=
  ⟨Nat.le_trans h.1 k.1,fun i hi hg hn=>by
    refine (k.2 i (Nat.lt_of_lt_of_le hi h.1) hg ?_).trans (h.2 i hi hg hn);rcases hr with rfl|⟨b,rfl,hb⟩
    · exact hn
    intro e;injection e with e
    omega⟩
theorem zaz.blk {w w1:World} {g g':Nat} {row:Option Nat} {o:Obj} (h:zaz w w1 g row) (hb:w.heap[g']?=some o) (hg:g'≠g) (hr:some g'≠row):w1.heap[g']?=some o:=(h.2 g' (zcP hb) hg hr).trans hb
theorem zaz.own {w w1:World} {g:Nat} {row:Option Nat} {base:Nat} {e:TypeId} {size n:Nat} {v:Value} {xs:List Value} (h:zaz w w1 g row) (ho:w.ownsRow base e size v n xs) (hg:v.ownBlock≠some g) (hr:v.ownBlock=none∨v.ownBlock≠row):w1.ownsRow base e size v n xs:=by
  obtain⟨h1,h2⟩:=ho;refine⟨h1,?_⟩;rcases h2 with h2|⟨b,cap,cur,rfl,hb,hh,r⟩
  · exact .inl h2
  refine .inr ⟨b,cap,cur,rfl,hb,h.blk hh ?_ ?_,r⟩
  · intro e
    exact hg (by rw[←e];rfl)
  rcases hr with hr|hr
  · simp[Value.ownBlock] at hr
  exact hr
def Ev {α:Type} (g:Nat→Option α) (r:α):Prop:=∃ K,∀ k,K≤k→g k=some r
theorem Ev.of {α:Type} {g:Nat→Option α} {r:α} (hg:∀ k,LeO (g k) (g (k+1))) {k:Nat} (h:g k=some r):Ev g r:=⟨k,fun _ hk=>zml hg hk h⟩
theorem Ev.now {α:Type} (r:α):Ev (fun _=>some r) r:=⟨0,fun _ _=>rfl⟩
theorem Ev.rounds {α:Type} {g:Nat→Option α} {r:α} (h:Ev g r):∃ k,g k=some r:=by
  obtain⟨K,h⟩:=h;exact⟨K,h K (Nat.le_refl _)⟩
theorem Ev.bind {α β:Type} {g:Nat→Option α} {f:Nat→α→Option β} {a:α} {r:β} (h:Ev g a) (k:Ev (fun n=>f n a) r):Ev (fun n=>(g n).bind (f n)) r:=by
  obtain⟨K,h⟩:=h;obtain⟨K',k⟩:=k;refine⟨max K K',fun n hn=>?_⟩;have h1:=h n (by omega);have h2:=k n (by omega);simp only[h1,Option.bind_some]
  exact h2
theorem Ev.step {α:Type} {g f:Nat→Option α} {r:α} (h:∀ k,g (k+1)=f k) (k:Ev f r):Ev g r:=by
  obtain⟨K,k⟩:=k;refine⟨K+1,fun n hn=>?_⟩;obtain⟨m,rfl⟩:∃ m,n=m+1:=⟨n-1,by omega⟩
  rw[h];exact k m (by omega)
theorem Ev.congr {α:Type} {g f:Nat→Option α} {r:α} (h:∀ k,g k=f k) (k:Ev f r):Ev g r:=by
  obtain⟨K,k⟩:=k;exact⟨K,fun n hn=>(h n).trans (k n hn)⟩
section
variable {P:Program} {ops:Array Oper} {o:Oper} {a:Act} {Q:Exit→Act→World→Prop} {K:Act→World→Prop}
end
theorem zgH {w:World} {base base':Nat} {e:TypeId} {size n:Nat} {v:Value} {xs:List Value} (h:w.ownsRow base e size v n xs) (hb:base'≤base):w.ownsRow base' e size v n xs:=by
  obtain⟨h1,h2⟩:=h;refine⟨h1,?_⟩;rcases h2 with h2|⟨g,cap,cur,rfl,hg,r⟩
  · exact .inl h2
  exact .inr ⟨g,cap,cur,rfl,Nat.le_trans hb hg,r⟩
section
variable {α:Type} {enc:α→Value} {d:α}
def xI (enc:α→Value) (xs:List α):List Value:=xs.map enc
def zlp (d:α) (xs:List α) (i:Int):α:=xs.getD i.toNat d
theorem zcd (xs:List α):(xI enc xs).length=xs.length:=by simp[xI]
theorem zka (xs ys:List α):xI enc (xs++ys)=xI enc xs++xI enc ys:=by simp[xI]
theorem ziX (xs:List α) (j:Nat) (h:j<xs.length):(xI enc xs)[j]?=some (enc (xs.getD j d)):=by
  simp[xI,List.getElem?_eq_getElem h,List.getD_eq_getElem?_getD]
def uI (enc:α→Value) (d:α) (w:World) (A:Option Addr) (n:Nat) (xs:List α):Prop:=
  xs.length=n∧n≤9223372036854775807∧(0<n→∃ ad,A=some ad∧∀ j,j<n→w.cell? (ad.add j)=some (enc (xs.getD j d)))
theorem uI.at_ {w:World} {A:Option Addr} {n:Nat} {xs:List α} (h:uI enc d w A n xs) (i:Int) (h0:0≤i) (h1:i<n):∃ ad,A=some ad∧w.cell? (ad.add i.toNat)=some (enc (zlp d xs i)):=by
  obtain⟨ad,e,hc⟩:=h.2.2 (by omega);exact⟨ad,e,hc _ (by omega)⟩
theorem uI.below {w w1:World} {A:Option Addr} {n:Nat} {xs:List α} (h:uI enc d w A n xs) (hb:Below w.heap.size w w1):uI enc d w1 A n xs:=
  ⟨h.1,h.2.1,fun hn=>by
    obtain⟨ad,e,hc⟩:=h.2.2 hn;exact⟨ad,e,fun j hj=>zcX hb (hc j hj)⟩⟩
theorem uI.take_ {w:World} {A:Option Addr} {n:Nat} {xs:List α} (h:uI enc d w A n xs) (i:Nat) (hi:i≤n):uI enc d w A i (xs.take i):=by
  refine⟨by rw[List.length_take,h.1];omega,by have:=h.2.1;omega,fun hp=>?_⟩;obtain⟨ad,e,hc⟩:=h.2.2 (by omega);refine⟨ad,e,fun j hj=>?_⟩;rw[hc j (by omega)];simp[List.getD_eq_getElem?_getD,hj]
theorem uI.drop_ {w:World} {A:Option Addr} {n c:Nat} {xs:List α} (h:uI enc d w A n xs) (i:Nat) (hi:i≤n) (hc:n≤c):uI enc d w (if c=i then A else A.map (·.add i)) (n-i) (xs.drop i):=by
  refine⟨by rw[List.length_drop,h.1],by have:=h.2.1;omega,fun hp=>?_⟩;obtain⟨ad,rfl,hcell⟩:=h.2.2 (by omega);rw[if_neg (by omega)];refine⟨ad.add i,rfl,fun j hj=>?_⟩;have ha:(ad.add i).add j=ad.add (i+j):=by
    unfold Addr.add;by_cases h1:i=0 <;> by_cases h2:j=0 <;> simp[h1,h2,Nat.add_assoc]
  rw[ha,hcell (i+j) (by omega)];simp[List.getD_eq_getElem?_getD,List.getElem?_drop]
theorem ziI {P:Program} (enc:α→Value) (d:α) (t e:TypeId) (kl:IntKind) {i:TypeInfo} (ht:P.underlying t=some (.slice e)) (hi:P.info? e=some i) (hsz:i.size=1) (A:Option Addr) (n c m:Nat) (hm:m≤n) :
    ∃ A':Option Addr,(∀ W:World,(Instr.slice t (.slice A n c) (some (.int kl (m:Int))) none none).run P W=.ok (.slice A' (n-m) (c-m)) W) ∧
      ∀ (w:World) (xs:List α),n≤c→uI enc d w A n xs→uI enc d w A' (n-m) (xs.drop m):=by
  refine⟨if c=m then A else A.map (·.add m),fun W=>?_,fun w xs hc h=>h.drop_ m hm hc⟩;have hel:P.elem t=e:=by simp[Program.elem,ht]
  have hu:P.underlying t=some (.slice (P.elem t)):=by rw[hel];exact ht
  rw[run_slice_l W t A n c hu kl (m:Int) (Int.natCast_nonneg _) (by omega),hel];simp[sizeOf,typeInfo,hi,hsz,sliced,Result.andThen]
theorem zmr {W:World} {base g n cap:Nat} {e:TypeId} {xs:List α} (h:W.ownsRow base e 1 (.slice (some ⟨g,0,none⟩) n cap) n (xI enc xs)) (i:Int) (h0:0≤i) (h1:i<n) :
    W.cell? ⟨g,i.toNat,none⟩=some (enc (zlp d xs i))∧W.frozen? ⟨g,i.toNat,none⟩=false:=by
  have hl:xs.length=n:=by have:=h.1;simp[xI] at this;exact this
  constructor
  · have hc:=h.cells (g:=g) rfl i.toNat _ (ziX (d:=d) xs i.toNat (by omega))
    rwa [zcv] at hc
  rcases h.2 with ⟨h',_⟩|⟨g',cap',cur,h',_,hh,_⟩
  · cases h'
  have:g=g':=by injection h' with h';injection h' with h';injection h' with h'
  subst this;simp[World.frozen?,hh]
theorem ziW {W:World} {base g n cap:Nat} {e:TypeId} {xs:List α} (h:W.ownsRow base e 1 (.slice (some ⟨g,0,none⟩) n cap) n (xI enc xs)) (i:Int) (x:α) :
    (W.setCell ⟨g,i.toNat,none⟩ (enc x)).ownsRow base e 1 (.slice (some ⟨g,0,none⟩) n cap) n (xI enc (xs.set i.toNat x))∧W.grownBy (W.setCell ⟨g,i.toNat,none⟩ (enc x)) (some g):=by
  have hs:=h.stored i.toNat (enc x);have he:(xI enc xs).set i.toNat (enc x)=xI enc (xs.set i.toNat x):=by simp[xI,List.map_set]
  rwa [he] at hs
end
section
variable {α:Type} {P:Program} {ops:Array Oper} {rest:List Oper} {o:Oper} {a:Act} {Q:Exit→Act→World→Prop}
end
theorem jT {w:World} {g:Nat} {o:Obj} (h:w.heap[g]?=some o) (o':Obj):(w.alloc o').heap[g]?=some o:=(Below.heap_alloc w o' g (zcP h)).trans h
theorem jS {w:World} {g:Nat} {o:Obj} (h:w.heap[g]?=some o):w.drew.heap[g]?=some o:=h
theorem jU {w:World} {g:Nat} {o:Obj} (h:w.heap[g]?=some o) (n:Nat):(w.drewN n).heap[g]?=some o:=h
theorem zcq {w w1:World} {g:Nat} {o:Obj} (h:w.heap[g]?=some o) (hb:Below w.heap.size w w1):w1.heap[g]?=some o:=(hb.block g (zcP h)).trans h
theorem zcl (w:World) (o:Obj):(w.alloc o).heap[w.heap.size]?=some o:=heap_alloc_new w o
section
variable {P:Program}
theorem jA {fn:Func} {p u:Tmp} {ty:TypeId} (h:fn.results=#[.cell p ty,.tmp u]) (tmps:Array Value) (w:World) (g:Nat) (t:TypeId) (cs:Array Value) (fr:Nat×Nat) (d:TypeDesc)
    (hp:tmps.getD p undef=.pointer (some ⟨g,0,none⟩)) (hg:w.heap[g]?=some (.cells cs t fr))
    (hu:P.underlying ty=some d) (hd:(match d with | .struct _ | .array _ _=>true|_=>false)=true) (hi:(P.info? ty).map (·.size)=some cs.size) :
    (results fn tmps).run P w=.ok (.tuple #[.agg cs,tmps.getD u undef]) w:=by
  have hp':tmps[p]?.getD undef=.pointer (some ⟨g,0,none⟩):=by simpa using hp
  simp[results,h,hp',asAddr,run_loadVar_row w g t ty cs fr d hg hu hd hi]
theorem zby {fn:Func} {p u:Tmp} {ty:TypeId} (h:fn.results=#[.tmp u,.cell p ty]) (tmps:Array Value) (w:World) (g:Nat) (t:TypeId) (cs:Array Value) (fr:Nat×Nat) (d:TypeDesc)
    (hp:tmps.getD p undef=.pointer (some ⟨g,0,none⟩)) (hg:w.heap[g]?=some (.cells cs t fr))
    (hu:P.underlying ty=some d) (hd:(match d with | .struct _ | .array _ _=>true|_=>false)=true) (hi:(P.info? ty).map (·.size)=some cs.size) :
    (results fn tmps).run P w=.ok (.tuple #[tmps.getD u undef,.agg cs]) w:=by
  have hp':tmps[p]?.getD undef=.pointer (some ⟨g,0,none⟩):=by simpa using hp
  simp[results,h,hp',asAddr,run_loadVar_row w g t ty cs fr d hg hu hd hi]
theorem xH {fn:Func} {p p':Tmp} {ty ty':TypeId} (h:fn.results=#[.cell p ty,.cell p' ty']) (tmps:Array Value) (w:World) (g g':Nat) (t t':TypeId) (cs cs':Array Value) (fr fr':Nat×Nat) (d d':TypeDesc)
    (hp:tmps.getD p undef=.pointer (some ⟨g,0,none⟩)) (hg:w.heap[g]?=some (.cells cs t fr))
    (hu:P.underlying ty=some d) (hd:(match d with | .struct _ | .array _ _=>true|_=>false)=true) (hi:(P.info? ty).map (·.size)=some cs.size)
    (hp':tmps.getD p' undef=.pointer (some ⟨g',0,none⟩)) (hg':w.heap[g']?=some (.cells cs' t' fr'))
    (hu':P.underlying ty'=some d') (hd':(match d' with | .struct _ | .array _ _=>true|_=>false)=true) (hi':(P.info? ty').map (·.size)=some cs'.size) :
    (results fn tmps).run P w=.ok (.tuple #[.agg cs,.agg cs']) w:=by
  have h1:tmps[p]?.getD undef=.pointer (some ⟨g,0,none⟩):=by simpa using hp
  have h2:tmps[p']?.getD undef=.pointer (some ⟨g',0,none⟩):=by simpa using hp'
  simp[results,h,h1,h2,asAddr,run_loadVar_row w g t ty cs fr d hg hu hd hi,run_loadVar_row w g' t' ty' cs' fr' d' hg' hu' hd' hi']
end
theorem zpW {w:World} {base n m c size:Nat} {e:TypeId} {A:Option Addr} {xs:List Value} (h:w.ownsRow base e size (.slice A m c) n xs):m≤c:=by
  rcases h.2 with ⟨he,_⟩|⟨g,cap,cur,he,_,_,hnc,_⟩
  · injection he with _ h2 h3
    omega
  injection he with _ h2 h3
  omega
def qM {α:Type} (R:α→List Value→Prop) (e:TypeId) (size:Nat) (w:World) (base:Nat) (v:Value) (ps:List α):Prop:=
  ∃ inner,w.ownsRow base e size v ps.length inner∧jN R size ps inner
section
variable {α:Type} {R R':α→List Value→Prop} {e:TypeId} {size:Nat} {w w1:World} {base:Nat} {v:Value} {ps:List α}
theorem qM.none_ (R:α→List Value→Prop) (e:TypeId) (size:Nat) (w:World) (base:Nat):qM R e size w base (.slice none 0 0) []:=⟨[],zpd _ _ _ _,jN.none _ _⟩
theorem qM.imp_ (h:qM R e size w base v ps) (hR:∀ p c,R p c→R' p c):qM R' e size w base v ps:=by
  obtain⟨inner,ho,hr⟩:=h;exact⟨inner,ho,hr.imp_ hR⟩
theorem qM.below (h:qM R e size w base v ps) (hb:Below w.heap.size w w1):qM R e size w1 base v ps:=by
  obtain⟨inner,ho,hr⟩:=h;exact⟨inner,zjQ ho hb,hr⟩
theorem qM.lower (h:qM R e size w base v ps) {base':Nat} (hb:base'≤base):qM R e size w base' v ps:=by
  obtain⟨inner,ho,hr⟩:=h;exact⟨inner,zgH ho hb,hr⟩
theorem qM.reads (h:qM R e size w base v ps):∃ A c,v=.slice A ps.length c∧ps.length≤c∧xL R size w A ps.length ps:=by
  obtain⟨inner,ho,hr⟩:=h;obtain⟨A,c,rfl,hrow⟩:=ziy ho hr rfl;exact⟨A,c,rfl,zpW ho,hrow⟩
theorem qM.ne_block (h:qM R e size w base v ps) {g:Nat} {t:TypeId} {cells:Array Value} (hb:w.heap[g]?=some (.cells cells t (0,0))) (ht:e≠t):some g≠v.ownBlock:=by
  obtain⟨inner,ho,hr⟩:=h;exact zpS ho hb ht
theorem qM.lit (W:World) (base:Nat) {inner:List Value} (hr:jN R size ps inner) (hb:base≤W.heap.size) (hm:ps.length≤9223372036854775807) :
    qM R e size (W.alloc (.cells inner.toArray e)) base (.slice (some ⟨W.heap.size,0,none⟩) ps.length ps.length) ps:=by
  have h:=World.ownsRow_lit (base:=base) (e:=e) (size:=size) W inner.toArray ps.length hb (by simpa [maxLen] using hm) (by simpa using hr.1);exact⟨inner,by simpa using h,hr⟩
end
section
variable {P:Program} {ops:Array Oper} {rest:List Oper} {o:Oper} {a:Act} {Q:Exit→Act→World→Prop} {α:Type} {R:α→List Value→Prop}
theorem qM.append {w0 W:World} (base:Nat) (hgd:o.guard=none) (s x:Operand) (t e:TypeId) (z:Value) (size bytes:Nat)
    (ho:o.op=.call { callee:=.builtin .append,args:=#[s,x],argTypes:=#[t,t] })
    (ht:P.underlying t=some (.slice e)) (hinfo:(P.info? e).map (fun i=>(i.zero,i.size,i.bytes))=some (some z,size,bytes)) (hz:z.cells.size=size) (hs0:0<size) (hb0:0<bytes)
    (v:Value) (ps:List α) (p:α) (cs:List Value) (hs:a.eval s=v) (hx:a.eval x=.slice (some ⟨W.heap.size,0,none⟩) 1 1) (hp:R p cs) (hcs:cs.length=size) (h1:∀ u∈cs,u.oneCell'=true)
    (HO:qM R e size W base v ps) (HB:Below base w0 W) (hbase:base≤W.heap.size) (hl:(ps.length+1) * bytes≤140737488355328)
    (h:∀ v1 w1,qM R e size w1 base v1 (ps++[p])→Below base w0 w1→W.grownBy w1 v.ownBlock→(v1.ownBlock=v.ownBlock∨∃ b,v1.ownBlock=some b∧W.heap.size≤b)→wpList P ops Q rest (a.put o.dst v1) w1) :
    wpList P ops Q (o :: rest) a (W.alloc (.cells cs.toArray e)):=by
  obtain⟨inner,hown,hr⟩:=HO;refine zcL base hgd s x t e z size bytes ho ht hinfo hz hs0 hb0 v ps.length inner cs hs hx hcs h1 hown HB hbase hl ?_;intro v1 w1 hown1 hb1 hg1 hat1;exact h v1 w1 ⟨inner++cs,by rw[List.length_append,List.length_singleton];exact hown1,hr.snoc hp hcs⟩ hb1 hg1 hat1
end
section
variable {P:Program} {ops:Array Oper} {o:Oper} {a:Act} {Q:Exit→Act→World→Prop} {K:Act→World→Prop} {α:Type} {R:α→List Value→Prop}
end
theorem xL.inner_ {α:Type} {R:α→List Value→Prop} {size:Nat} {w:World} {ad:Addr} {n:Nat} {ps:List α} (h:xL R size w (some ad) n ps) :
    ∃ inner,jN R size ps inner∧∀ j u,inner[j]?=some u→w.cell? (ad.add j)=some u:=by
  have key:∀ m,m≤ps.length→∃ inner,jN R size (ps.take m) inner∧∀ j u,inner[j]?=some u→w.cell? (ad.add j)=some u:=by
    intro m
    induction m with
    | zero=>exact fun _=>⟨[],jN.none _ _,fun j u hu=>by simp at hu⟩
    | succ m ih =>
      intro hm;obtain⟨inner,hr,hc⟩:=ih (by omega);obtain⟨ad',he,hcell⟩:=h.2.2 (by have:=h.1;omega);injection he with he
      subst he;obtain⟨c,hcl,hp,hcc⟩:=hcell m _ (List.getElem?_eq_getElem (show m<ps.length by omega));refine⟨inner++c,?_,fun j u hu=>?_⟩
      · rw[List.take_succ_eq_append_getElem (show m<ps.length by omega)]
        exact hr.snoc hp hcl
      have hil:inner.length=m * size:=by rw[hr.1,List.length_take,Nat.min_eq_left (by omega)]
      rcases Nat.lt_or_ge j inner.length with hj|hj
      · rw[List.getElem?_append_left hj] at hu
        exact hc j u hu
      rw[List.getElem?_append_right hj] at hu;have:=hcc (j-inner.length) u hu
      rwa [hil,Nat.add_sub_cancel' (by omega)] at this
  obtain⟨inner,hr,hc⟩:=key ps.length (Nat.le_refl _);rw[List.take_length] at hr;exact⟨inner,hr,hc⟩
section
variable {α:Type} {P:Program}
theorem zbB (enc:α→Value) (d:α) (t e:TypeId) (kl:IntKind) {i:TypeInfo} (ht:P.underlying t=some (.slice e)) (hi:P.info? e=some i) (hsz:i.size=1) (A:Option Addr) (c:Nat) (xs:List α) (j:Int) (h0:0≤j) (hm:j≤xs.length) (hc:xs.length≤c) :
    (∀ W:World,(Instr.slice t (.slice A xs.length c) none (some (.int kl j)) none).run P W=.ok (.slice A (xs.take j.toNat).length c) W) ∧
      (∀ w:World,uI enc d w A xs.length xs→uI enc d w A (xs.take j.toNat).length (xs.take j.toNat))∧(xs.take j.toNat).length≤c:=by
  have hl:(xs.take j.toNat).length=j.toNat:=by rw[List.length_take];omega
  refine⟨fun W=>?_,fun w h=>by rw[hl];exact h.take_ j.toNat (by omega),by rw[hl];omega⟩;have hel:P.elem t=e:=by simp[Program.elem,ht]
  have hu:P.underlying t=some (.slice (P.elem t)):=by rw[hel];exact ht
  have ha:(A.map fun x=>x.add 0)=A:=by cases A <;> simp[Addr.add]
  rw[run_slice_h W t A xs.length c hu kl j h0 (by omega),hel,hl];simp[sizeOf,typeInfo,hi,hsz,sliced,Result.andThen,ha]
theorem zeO (enc:α→Value) (d:α) (t e:TypeId) (kl:IntKind) {i:TypeInfo} (ht:P.underlying t=some (.slice e)) (hi:P.info? e=some i) (hsz:i.size=1) (A:Option Addr) (c:Nat) (xs:List α) (j:Int) (h0:0≤j) (hm:j≤xs.length) (hc:xs.length≤c) :
    ∃ A':Option Addr,(∀ W:World,(Instr.slice t (.slice A xs.length c) (some (.int kl j)) none none).run P W=.ok (.slice A' (xs.drop j.toNat).length (c-j.toNat)) W) ∧
      (∀ w:World,uI enc d w A xs.length xs→uI enc d w A' (xs.drop j.toNat).length (xs.drop j.toNat))∧(xs.drop j.toNat).length≤c-j.toNat:=by
  obtain⟨m,rfl⟩:=Int.eq_ofNat_of_zero_le h0;simp only[Int.toNat_natCast]
  have hmn:m≤xs.length:=by omega
  obtain⟨A',h1,h2⟩:=ziI (P:=P) enc d t e kl ht hi hsz A xs.length c m hmn;have hl:(xs.drop m).length=xs.length-m:=List.length_drop;exact⟨A',fun W=>by rw[hl];exact h1 W,fun w h=>by rw[hl];exact h2 w xs hc h,by rw[hl];omega⟩
end
section
variable {P:Program} {ops:Array Oper} {rest:List Oper} {o:Oper} {a:Act} {Q:Exit→Act→World→Prop}
end
structure Kd (α:Type) where
  sz:Nat
  E:List Nat
  K:World→α→List Value→Prop
  M:World→Nat→(Nat→Prop)→α→List Value→Prop
  K_len:∀ {w x cs},K w x cs→cs.length=sz
  K_one:∀ {w x cs},K w x cs→∀ u∈cs,u.oneCell'=true
  K_below:∀ {w w1:World} {x cs},Below w.heap.size w w1→K w x cs→K w1 x cs
  K_of_M:∀ {w base ok x cs},M w base ok x cs→K w x cs
  M_mono:∀ {w base ok ok' x cs},(∀ k,ok k→ok' k)→M w base ok x cs→M w base ok' x cs
  M_bound:∀ {w:World} {base ok x cs},M w base ok x cs→M w base (fun k=>ok k∧base≤k∧k<w.heap.size∧∃ q,q∈E∧∃ cells,w.heap[k]?=some (.cells cells q (0,0))) x cs
  M_move:∀ {w w1:World} {base ok x cs},(∀ k,ok k→w1.heap[k]?=w.heap[k]?)→M w base ok x cs→M w1 base ok x cs
  M_lower:∀ {w base base' ok x cs},base'≤base→M w base ok x cs→M w base' ok x cs
theorem znH {w w1:World} {base:Nat} {e:TypeId} {size n:Nat} {v:Value} {xs:List Value} (h:w.ownsRow base e size v n xs) (hm:∀ k,v.ownBlock=some k→w1.heap[k]?=w.heap[k]?):w1.ownsRow base e size v n xs:=by
  obtain⟨h1,h2⟩:=h;refine⟨h1,?_⟩;rcases h2 with h2|⟨g,cap,cur,rfl,hg,hh,r⟩
  · exact .inl h2
  exact .inr ⟨g,cap,cur,rfl,hg,(hm g (by simp[Value.ownBlock])).trans hh,r⟩
theorem zdR {w:World} {base:Nat} {e:TypeId} {size n:Nat} {v:Value} {xs:List Value} (h:w.ownsRow base e size v n xs) (k:Nat) (hk:v.ownBlock=some k):∃ cells,w.heap[k]?=some (.cells cells e (0,0)):=by
  rcases h.2 with ⟨rfl,_⟩|⟨g,cap,cur,rfl,hg,hh,r⟩
  · simp[Value.ownBlock] at hk
  have:g=k:=by simpa [Value.ownBlock] using hk
  subst this;exact⟨cur,hh⟩
namespace Kd
def C {α:Type} (d:Kd α) (w:World) (A:Option Addr) (n:Nat) (xs:List α):Prop:=xL (d.K w) d.sz w A n xs
def R {α:Type} (d:Kd α) (e:Nat) (w:World) (base:Nat) (ok:Nat→Prop) (v:Value) (xs:List α):Prop:=
  (∀ k,v.ownBlock=some k→ok k)∧qM (d.M w base (fun k=>ok k∧some k≠v.ownBlock)) e d.sz w base v xs
section
variable {α:Type} {d:Kd α} {e:Nat} {w w1:World} {base:Nat} {ok ok':Nat→Prop} {v:Value} {xs:List α}
theorem C_below {A:Option Addr} {n:Nat} (h:d.C w A n xs) (hb:Below w.heap.size w w1):d.C w1 A n xs:=xL.imp_ h hb (fun _ _ hp=>d.K_below hb hp)
theorem R_nil (d:Kd α) (e:Nat) (w:World) (base:Nat) (ok:Nat→Prop):d.R e w base ok (.slice none 0 0) []:=⟨fun k hk=>by simp[Value.ownBlock] at hk,qM.none_ _ _ _ _ _⟩
theorem R_mono (h:d.R e w base ok v xs) (hok:∀ k,ok k→ok' k):d.R e w base ok' v xs:=⟨fun k hk=>hok k (h.1 k hk),h.2.imp_ (fun _ _ hp=>d.M_mono (fun k hk=>⟨hok k hk.1,hk.2⟩) hp)⟩
theorem R_bound (h:d.R e w base ok v xs):d.R e w base (fun k=>ok k∧base≤k∧k<w.heap.size∧∃ q,q∈e :: d.E∧∃ cells,w.heap[k]?=some (.cells cells q (0,0))) v xs:=by
  obtain⟨h0,inner,ho,hr⟩:=h;refine⟨fun k hk=>?_,inner,ho,hr.imp_ (fun _ _ hp=>d.M_mono (fun k hk=>?_) (d.M_bound hp))⟩
  · obtain⟨cells,hc⟩:=zdR ho k hk
    exact⟨h0 k hk,zcE ho k hk,zlW ho k hk,e,List.mem_cons_self,cells,hc⟩
  obtain⟨⟨h1,h2⟩,h3,h4,q,hq,hc⟩:=hk;exact⟨⟨h1,h3,h4,q,List.mem_cons_of_mem _ hq,hc⟩,h2⟩
theorem zeo (h:d.R e w base ok v xs) (hm:∀ k,ok k→w1.heap[k]?=w.heap[k]?):d.R e w1 base ok v xs:=by
  obtain⟨h0,inner,ho,hr⟩:=h;exact⟨h0,inner,znH ho (fun k hk=>hm k (h0 k hk)),hr.imp_ (fun _ _ hp=>d.M_move (fun k hk=>hm k hk.1) hp)⟩
theorem R_lower {base':Nat} (h:d.R e w base ok v xs) (hb:base'≤base):d.R e w base' ok v xs:=by
  obtain⟨h0,inner,ho,hr⟩:=h;exact⟨h0,inner,zgH ho hb,hr.imp_ (fun _ _ hp=>d.M_lower hb hp)⟩
theorem R_step (h:d.R e w base ok v xs) (hm:∀ k,ok k→k<w.heap.size→w1.heap[k]?=w.heap[k]?):d.R e w1 base ok v xs:=
  R_mono (zeo (R_bound h) (fun k hk=>hm k hk.1 hk.2.2.1)) (fun _ hk=>hk.1)
theorem zmk {x:α} {cs:List Value} (h:d.M w base ok x cs) (hm:∀ k,ok k→k<w.heap.size→w1.heap[k]?=w.heap[k]?):d.M w1 base ok x cs:=
  d.M_mono (fun _ hk=>hk.1) (d.M_move (fun k hk=>hm k hk.1 hk.2.2.1) (d.M_bound h))
theorem R_below (h:d.R e w base ok v xs) (hb:Below w.heap.size w w1):d.R e w1 base ok v xs:=R_step h (fun k _ hk=>hb.block k hk)
theorem zoO {x:α} {cs:List Value} (h:d.M w base ok x cs) (hb:Below w.heap.size w w1):d.M w1 base ok x cs:=zmk h (fun k _ hk=>hb.block k hk)
theorem R_grown (h:d.R e w base ok v xs) {row:Option Nat} (hg:w.grownBy w1 row) (hok:∀ k,ok k→some k≠row):d.R e w1 base ok v xs:=R_step h (fun k ho hk=>hg.block k hk (hok k ho))
theorem R_far (h:d.R e w base ok v xs) {p:Addr} (hok:∀ k,ok k→k≠p.block) (u:Value):d.R e (w.setCell p u) base ok v xs:=R_step h (fun k ho _=>Below.heap_setCell w p u k (hok k ho))
theorem R_types (h:d.R e w base ok v xs) {g t:Nat} {cells:Array Value} (hb:w.heap[g]?=some (.cells cells t (0,0))) (ht:∀ q,q∈e :: d.E→q≠t):d.R e w base (fun k=>ok k∧k≠g) v xs:=
  R_mono (R_bound h) (fun k hk=>⟨hk.1,by
    obtain⟨_,_,_,q,hq,cells',hc⟩:=hk;rintro rfl;rw[hc] at hb;injection hb with hb
    injection hb with _ hb
    exact ht q hq hb⟩)
theorem R_set (h:d.R e w base ok v xs) {g t:Nat} {cells:Array Value} (hb:w.heap[g]?=some (.cells cells t (0,0))) (ht:∀ q,q∈e :: d.E→q≠t) (j:Nat) (u:Value):d.R e (w.setCell ⟨g,j,none⟩ u) base ok v xs:=
  R_mono (R_far (p:=⟨g,j,none⟩) (R_types h hb ht) (fun _ hk=>hk.2) u) (fun _ hk=>hk.1)
theorem zhy (h:d.R e w base ok v xs):∃ A c,v=.slice A xs.length c∧xs.length≤c∧d.C w A xs.length xs:=by
  obtain⟨A,c,he,hl,hr⟩:=qM.reads h.2;exact⟨A,c,he,hl,hr.imp_ (Below.refl _ _) (fun _ _ hp=>d.K_of_M hp)⟩
theorem R_slice (h:d.R e w base ok v xs):∃ A c,v=.slice A xs.length c:=by
  obtain⟨A,c,he,_⟩:=zhy h;exact⟨A,c,he⟩
theorem zgF (h:d.R e w base ok v xs):∃ inner,w.ownsRow base e d.sz v xs.length inner:=by
  obtain⟨_,inner,ho,_⟩:=h;exact⟨inner,ho⟩
theorem R_ne (h:d.R e w base ok v xs) {g t:Nat} {cells:Array Value} (hb:w.heap[g]?=some (.cells cells t (0,0))) (ht:e≠t):some g≠v.ownBlock:=qM.ne_block h.2 hb ht
end
def qR {α:Type} (enc:α→Value) (h1:∀ x,(enc x).oneCell'=true):Kd α where
  sz:=1
  E:=[]
  K:=fun _ x cs=>cs=[enc x]
  M:=fun _ _ _ x cs=>cs=[enc x]
  K_len:=fun h=>by rw[h];rfl
  K_one:=fun h u hu=>by
    rw[h] at hu;rw[List.mem_singleton.1 hu];exact h1 _
  K_below:=fun _ h=>h
  K_of_M:=fun h=>h
  M_mono:=fun _ h=>h
  M_bound:=fun h=>h
  M_move:=fun _ h=>h
  M_lower:=fun _ h=>h
def int (k:IntKind):Kd Int:=qR (Value.int k) (fun _=>rfl)
def bool:Kd Bool:=qR Value.bool (fun _=>rfl)
def string:Kd ByteArray:=qR Value.string (fun _=>rfl)
def slice {α:Type} (e:Nat) (d:Kd α):Kd (List α) where
  sz:=1
  E:=e :: d.E
  K:=fun w xs cs=>∃ A c,cs=[.slice A xs.length c]∧xs.length≤c∧d.C w A xs.length xs
  M:=fun w base ok xs cs=>∃ v,cs=[v]∧d.R e w base ok v xs
  K_len:=by
    rintro w x cs ⟨A,c,rfl,_⟩;rfl
  K_one:=by
    rintro w x cs ⟨A,c,rfl,_⟩ u hu;rw[List.mem_singleton.1 hu];rfl
  K_below:=by
    rintro w w1 x cs hb ⟨A,c,rfl,hl,hr⟩;exact⟨A,c,rfl,hl,C_below hr hb⟩
  K_of_M:=by
    rintro w base ok x cs ⟨v,rfl,h⟩;obtain⟨A,c,rfl,hl,hr⟩:=zhy h;exact⟨A,c,rfl,hl,hr⟩
  M_mono:=by
    rintro w base ok ok' x cs hok ⟨v,rfl,h⟩;exact⟨v,rfl,R_mono h hok⟩
  M_bound:=by
    rintro w base ok x cs ⟨v,rfl,h⟩;exact⟨v,rfl,R_bound h⟩
  M_move:=by
    rintro w w1 base ok x cs hm ⟨v,rfl,h⟩;exact⟨v,rfl,zeo h hm⟩
  M_lower:=by
    rintro w base base' ok x cs hb ⟨v,rfl,h⟩;exact⟨v,rfl,R_lower h hb⟩
def pair {α β:Type} (a:Kd α) (b:Kd β):Kd (α×β) where
  sz:=a.sz+b.sz
  E:=a.E++b.E
  K:=fun w x cs=>∃ c0 c1,cs=c0++c1∧a.K w x.1 c0∧b.K w x.2 c1
  M:=fun w base ok x cs=>∃ c0 c1,cs=c0++c1∧a.M w base ok x.1 c0∧b.M w base ok x.2 c1
  K_len:=by
    rintro w x cs ⟨c0,c1,rfl,h0,h1⟩;rw[List.length_append,a.K_len h0,b.K_len h1]
  K_one:=by
    rintro w x cs ⟨c0,c1,rfl,h0,h1⟩ u hu;rcases List.mem_append.1 hu with hu|hu
    · exact a.K_one h0 u hu
    exact b.K_one h1 u hu
  K_below:=by
    rintro w w1 x cs hb ⟨c0,c1,rfl,h0,h1⟩;exact⟨c0,c1,rfl,a.K_below hb h0,b.K_below hb h1⟩
  K_of_M:=by
    rintro w base ok x cs ⟨c0,c1,rfl,h0,h1⟩;exact⟨c0,c1,rfl,a.K_of_M h0,b.K_of_M h1⟩
  M_mono:=by
    rintro w base ok ok' x cs hok ⟨c0,c1,rfl,h0,h1⟩;exact⟨c0,c1,rfl,a.M_mono hok h0,b.M_mono hok h1⟩
  M_bound:=by
    rintro w base ok x cs ⟨c0,c1,rfl,h0,h1⟩;refine⟨c0,c1,rfl,a.M_mono ?_ (a.M_bound h0),b.M_mono ?_ (b.M_bound h1)⟩
    · rintro k ⟨h2,h3,h4,q,hq,hc⟩
      exact⟨h2,h3,h4,q,List.mem_append_left _ hq,hc⟩
    rintro k ⟨h2,h3,h4,q,hq,hc⟩;exact⟨h2,h3,h4,q,List.mem_append_right _ hq,hc⟩
  M_move:=by
    rintro w w1 base ok x cs hm ⟨c0,c1,rfl,h0,h1⟩;exact⟨c0,c1,rfl,a.M_move hm h0,b.M_move hm h1⟩
  M_lower:=by
    rintro w base base' ok x cs hb ⟨c0,c1,rfl,h0,h1⟩;exact⟨c0,c1,rfl,a.M_lower hb h0,b.M_lower hb h1⟩
def iso {α β:Type} (d:Kd α) (f:β→α):Kd β where
  sz:=d.sz
  E:=d.E
  K:=fun w x cs=>d.K w (f x) cs
  M:=fun w base ok x cs=>d.M w base ok (f x) cs
  K_len:=d.K_len
  K_one:=d.K_one
  K_below:=d.K_below
  K_of_M:=d.K_of_M
  M_mono:=d.M_mono
  M_bound:=d.M_bound
  M_move:=d.M_move
  M_lower:=d.M_lower
def bot {α:Type} (sz:Nat) (E:List Nat):Kd α where
  sz:=sz
  E:=E
  K:=fun _ _ _=>False
  M:=fun _ _ _ _ _=>False
  K_len:=fun h=>h.elim
  K_one:=fun h=>h.elim
  K_below:=fun _ h=>h
  K_of_M:=fun h=>h
  M_mono:=fun _ h=>h
  M_bound:=fun h=>h
  M_move:=fun _ h=>h
  M_lower:=fun _ h=>h
def upto {α:Type} (F:Kd α→Kd α) (sz:Nat) (E:List Nat):Nat→Kd α
  | 0=>bot sz E
  | n+1=>F (upto F sz E n)
theorem C_get {α:Type} {d:Kd α} {w:World} {A:Option Addr} {n:Nat} {xs:List α} (h:d.C w A n xs) (z:α) (i:Int) (h0:0≤i) (h1:i<n) :
    ∃ ad c,A=some ad∧c.length=d.sz∧d.K w (xs.getD i.toNat z) c∧∀ j u,c[j]?=some u→w.cell? (ad.add (i.toNat * d.sz+j))=some u:=xL.get_ h z i h0 h1
theorem zkW {α:Type} {d:Kd α} {e base:Nat} {ok okp:Nat→Prop} {W w1:World} {v v1:Value} {xs:List α} {p:α} {inner cs:List Value} (h0:∀ k,v.ownBlock=some k→ok k) (hr:jN (d.M W base (fun k=>ok k∧some k≠v.ownBlock)) d.sz xs inner) (hp:d.M W base okp p cs) (hokp:∀ k,okp k→ok k∧some k≠v.ownBlock) (hfresh:∀ k,W.heap.size≤k→ok k)
    (hown:w1.ownsRow base e d.sz v1 (xs.length+1) (inner++cs)) (hg:W.grownBy w1 v.ownBlock) (hat:v1.ownBlock=v.ownBlock∨∃ b,v1.ownBlock=some b∧W.heap.size≤b):d.R e w1 base ok v1 (xs++[p]):=by
  have hne:∀ k,some k≠v.ownBlock→k<W.heap.size→some k≠v1.ownBlock:=by
    intro k hk hlt;rcases hat with hat|⟨b,hb,hle⟩
    · rw[hat];exact hk
    rw[hb];intro he;injection he with he
    omega
  have step:∀ {q:α} {c:List Value} {o:Nat→Prop},d.M W base o q c→(∀ k,o k→ok k∧some k≠v.ownBlock)→d.M w1 base (fun k=>ok k∧some k≠v1.ownBlock) q c:=by
    intro q c o hq ho;have h1:=d.M_move (w1:=w1) (fun k hk=>hg.block k hk.2.2.1 (ho k hk.1).2) (d.M_bound hq);exact d.M_mono (fun k hk=>⟨(ho k hk.1).1,hne k (ho k hk.1).2 hk.2.2.1⟩) h1
  refine⟨fun k hk=>?_,inner++cs,by rw[List.length_append,List.length_singleton];exact hown,?_⟩
  · rcases hat with hat|⟨b,hb,hle⟩
    · exact h0 k (hat ▸ hk)
    rw[hb] at hk;injection hk with hk
    exact hfresh k (by omega)
  exact (hr.imp_ (fun _ _ hq=>step hq (fun _ hk=>hk))).snoc (step hp hokp) (d.K_len (d.K_of_M hp))
section
variable {P:Program} {ops:Array Oper} {rest:List Oper} {o:Oper} {a:Act} {Q:Exit→Act→World→Prop} {α:Type}
theorem R_append (d:Kd α) {w0 W:World} (base:Nat) (hgd:o.guard=none) (s x:Operand) (t e:TypeId) (z:Value) (bytes:Nat)
    (ho:o.op=.call { callee:=.builtin .append,args:=#[s,x],argTypes:=#[t,t] })
    (ht:P.underlying t=some (.slice e)) (hinfo:(P.info? e).map (fun i=>(i.zero,i.size,i.bytes))=some (some z,d.sz,bytes)) (hz:z.cells.size=d.sz) (hs0:0<d.sz) (hb0:0<bytes)
    (v:Value) (xs:List α) (p:α) (cs:List Value) (ok okp:Nat→Prop) (hs:a.eval s=v) (hx:a.eval x=.slice (some ⟨W.heap.size,0,none⟩) 1 1) (hp:d.M W base okp p cs) (hokp:∀ k,okp k→ok k∧some k≠v.ownBlock) (hfresh:∀ k,W.heap.size≤k→ok k)
    (HO:d.R e W base ok v xs) (HB:Below base w0 W) (hbase:base≤W.heap.size) (hl:(xs.length+1) * bytes≤140737488355328)
    (h:∀ v1 w1,d.R e w1 base ok v1 (xs++[p])→Below base w0 w1→W.grownBy w1 v.ownBlock→(v1.ownBlock=v.ownBlock∨∃ b,v1.ownBlock=some b∧W.heap.size≤b)→wpList P ops Q rest (a.put o.dst v1) w1) :
    wpList P ops Q (o :: rest) a (W.alloc (.cells cs.toArray e)):=by
  obtain⟨h0,inner,hown,hr⟩:=HO;refine zcL base hgd s x t e z d.sz bytes ho ht hinfo hz hs0 hb0 v xs.length inner cs hs hx (d.K_len (d.K_of_M hp)) (d.K_one (d.K_of_M hp)) hown HB hbase hl ?_;intro v1 w1 hown1 hb1 hg1 hat1;exact h v1 w1 (zkW h0 hr hp hokp hfresh hown1 hg1 hat1) hb1 hg1 hat1
end
section
variable {P:Program} {ops:Array Oper} {o:Oper} {a:Act} {Q:Exit→Act→World→Prop} {Kc:Act→World→Prop} {α:Type}
end
theorem reps_scalar {α:Type} {enc:α→Value} (xs:List α):jN (fun (x:α) (cs:List Value)=>cs=[enc x]) 1 xs (xI enc xs):=by
  refine⟨by simp[xI],fun j p hj=>?_⟩;obtain⟨hl,hp⟩:=List.getElem?_eq_some_iff.1 hj;have hl':j<(xI enc xs).length:=by rw[zcd];exact hl
  rw[Nat.mul_one,List.drop_eq_getElem_cons hl'];simp[xI,hp]
theorem zjB {α:Type} {enc:α→Value} {h1:∀ x,(enc x).oneCell'=true} {e:Nat} {w:World} {base:Nat} {ok:Nat→Prop} {v:Value} {xs:List α} (ho:w.ownsRow base e 1 v xs.length (xI enc xs)) (hok:∀ k,v.ownBlock=some k→ok k):(qR enc h1).R e w base ok v xs:=⟨hok,xI enc xs,ho,reps_scalar xs⟩
theorem own_of_R {α:Type} {enc:α→Value} {h1:∀ x,(enc x).oneCell'=true} {e:Nat} {w:World} {base:Nat} {ok:Nat→Prop} {v:Value} {xs:List α} (h:(qR enc h1).R e w base ok v xs):w.ownsRow base e 1 v xs.length (xI enc xs):=by
  obtain⟨_,inner,ho,hr⟩:=h;have:inner=xI enc xs:=by
    apply List.ext_getElem?
    intro j;rcases Nat.lt_or_ge j xs.length with hj|hj
    · have h2:=hr.2 j _ (List.getElem?_eq_getElem hj)
      have hl:j<inner.length:=by have:=hr.1;simp[qR] at this;omega
      have h3:(inner.drop (j * 1)).take 1=[enc xs[j]]:=h2;rw[Nat.mul_one,List.drop_eq_getElem_cons hl] at h3;have h4:inner[j]=enc xs[j]:=by
        have h5:=congrArg List.head? h3;rw[List.take_succ_cons] at h5;exact Option.some.inj h5
      rw[List.getElem?_eq_getElem hl,h4];simp[xI,List.getElem?_eq_getElem hj]
    have h3:inner.length=xs.length:=by have:=hr.1;simp[qR] at this;omega
    rw[List.getElem?_eq_none (by omega),List.getElem?_eq_none (by rw[zcd];omega)]
  rw[←this];exact ho
theorem C_of_reads {α:Type} {enc:α→Value} {d:α} {h1:∀ x,(enc x).oneCell'=true} {w:World} {A:Option Addr} {n:Nat} {xs:List α} (h:uI enc d w A n xs):(qR enc h1).C w A n xs:=by
  refine⟨h.1,h.2.1,fun hn=>?_⟩;obtain⟨ad,e,hc⟩:=h.2.2 hn;refine⟨ad,e,fun j p hj=>⟨[enc p],rfl,rfl,fun i u hu=>?_⟩⟩;obtain⟨hl,hp⟩:=List.getElem?_eq_some_iff.1 hj;have h2:=hc j (by have:=h.1;omega);rw[List.getD_eq_getElem?_getD,hj] at h2
  cases i with
  | zero =>
    have:enc p=u:=by simpa using hu
    subst this
    simpa [qR] using h2
  | succ i=>simp at hu
theorem reads_of_C {α:Type} {enc:α→Value} {d:α} {h1:∀ x,(enc x).oneCell'=true} {w:World} {A:Option Addr} {n:Nat} {xs:List α} (h:(qR enc h1).C w A n xs):uI enc d w A n xs:=by
  refine⟨h.1,h.2.1,fun hn=>?_⟩;obtain⟨ad,e,hc⟩:=h.2.2 hn;refine⟨ad,e,fun j hj=>?_⟩;have hl:j<xs.length:=by have:=h.1;omega
  obtain⟨c,_,hK,hcell⟩:=hc j _ (List.getElem?_eq_getElem hl);have hK':c=[enc xs[j]]:=hK;subst hK';have:=hcell 0 _ rfl
  simpa [qR,List.getD_eq_getElem?_getD,List.getElem?_eq_getElem hl] using this
end Kd
namespace Kd
section
variable {α:Type} {F:Kd α→Kd α} {sz:Nat} {E:List Nat} {hs:∀ n,(upto F sz E n).sz=sz} {hE:∀ n q,q∈(upto F sz E n).E→q∈E}
end
end Kd
namespace Kd
theorem R_after {α:Type} {d:Kd α} {e base:Nat} {ok:Nat→Prop} {W w1:World} {u v v1:Value} {xs:List α} (h:d.R e W base (fun k=>ok k∧some k≠v.ownBlock) u xs) (hg:W.grownBy w1 v.ownBlock) (hat:v1.ownBlock=v.ownBlock∨∃ b,v1.ownBlock=some b∧W.heap.size≤b):d.R e w1 base (fun k=>ok k∧some k≠v1.ownBlock) u xs:=by
  refine R_mono (zeo (R_bound h) (fun k hk=>hg.block k hk.2.2.1 hk.1.2)) (fun k hk=>⟨hk.1.1,?_⟩);rcases hat with hat|⟨b,hb,hle⟩
  · rw[hat];exact hk.1.2
  rw[hb];intro he;injection he with he
  have:=hk.2.2.1
  omega
end Kd
namespace Kd
section
variable {α β:Type} {d:Kd α} {d':Kd β} {e e':Nat} {w w1 W:World} {base b b':Nat} {ok ok' okv oku:Nat→Prop} {v u:Value} {xs:List α} {ys:List β}
theorem R_alloc (h:d.R e w base ok v xs) (o:Obj):d.R e (w.alloc o) base ok v xs:=R_below h (yC (Below.refl _ _) o)
theorem R_drew (h:d.R e w base ok v xs):d.R e w.drew base ok v xs:=R_below h (uQ (Below.refl _ _))
theorem R_drewN (h:d.R e w base ok v xs) (m:Nat):d.R e (w.drewN m) base ok v xs:=R_below h (jK (Below.refl _ _) m)
theorem C_alloc {A:Option Addr} {n:Nat} (h:d.C w A n xs) (o:Obj):d.C (w.alloc o) A n xs:=C_below h (yC (Below.refl _ _) o)
theorem C_drew {A:Option Addr} {n:Nat} (h:d.C w A n xs):d.C w.drew A n xs:=C_below h (uQ (Below.refl _ _))
theorem C_drewN {A:Option Addr} {n:Nat} (h:d.C w A n xs) (m:Nat):d.C (w.drewN m) A n xs:=C_below h (jK (Below.refl _ _) m)
theorem zqu (d:Kd α) (w:World):d.C w none ([]:List α).length []:=⟨rfl,by simp,fun h=>absurd h (Nat.lt_irrefl 0)⟩
theorem R_reads' {A:Option Addr} {n c:Nat} (h:d.R e w base ok (.slice A n c) xs):n=xs.length∧n≤c∧d.C w A xs.length xs:=by
  obtain⟨A',c',he,hl,hr⟩:=zhy h;injection he with h1 h2 h3
  subst h1;exact⟨h2,by omega,hr⟩
theorem R_lt (h:d.R e w base ok v xs):∀ k,v.ownBlock=some k→k<w.heap.size:=by
  obtain⟨inner,ho⟩:=zgF h;exact zlW ho
theorem R_base (h:d.R e w base ok v xs):∀ k,v.ownBlock=some k→base≤k:=by
  obtain⟨inner,ho⟩:=zgF h;exact zcE ho
theorem R_away (h:d.R e w base ok v xs) {g:Nat} (hok:∀ k,ok k→k≠g):some g≠v.ownBlock:=fun e=>hok g (h.1 g e.symm) rfl
theorem R_form (h:d.R e w base ok v xs) (hp:0<xs.length):∃ g cap,v=.slice (some ⟨g,0,none⟩) xs.length cap∧base≤g∧g<w.heap.size∧∃ cells,w.heap[g]?=some (.cells cells e (0,0)):=by
  obtain⟨inner,ho⟩:=zgF h;obtain⟨g,cap,he,hb,hl⟩:=ho.form hp;obtain⟨cells,hc⟩:=zdR ho g (by rw[he];simp[Value.ownBlock]);exact⟨g,cap,he,hb,hl,cells,hc⟩
theorem R_over (h:d.R e W b ok u xs) (hv:d'.R e' W b' ok' v ys) (ht:∀ q,q∈e :: d.E→q≠e') (hg:W.grownBy w1 v.ownBlock):d.R e w1 b ok u xs:=by
  obtain⟨inner,ho⟩:=zgF hv;refine R_mono (zeo (R_bound h) (fun k hk=>hg.block k hk.2.2.1 (fun he=>?_))) (fun _ hk=>hk.1);obtain⟨_,_,_,q,hq,cells,hc⟩:=hk;obtain⟨cells',hc'⟩:=zdR ho k he.symm;rw[hc] at hc';injection hc' with hc'
  injection hc' with _ hc'
  exact ht q hq hc'
end
section
variable {w W:World} {A:Option Addr} {n:Nat}
theorem at_int {k:IntKind} {xs:List Int} (h:(Kd.int k).C w A n xs) (i:Int) (h0:0≤i) (h1:i<n):∃ ad,A=some ad∧w.cell? (ad.add i.toNat)=some (.int k (rd xs i)):=
  uI.at_ (reads_of_C (enc:=Value.int k) (d:=(0:Int)) (h1:=fun _=>rfl) h) i h0 h1
variable {α:Type} {enc:α→Value} {h1:∀ x,(enc x).oneCell'=true} {e base g cap:Nat} {ok:Nat→Prop} {xs:List α}
theorem zpD (d:α) (h:(qR enc h1).R e W base ok (.slice (some ⟨g,0,none⟩) xs.length cap) xs) (i:Int) (h0:0≤i) (hi:i<xs.length):W.cell? ⟨g,i.toNat,none⟩=some (enc (zlp d xs i))∧W.frozen? ⟨g,i.toNat,none⟩=false:=zmr (own_of_R h) i h0 hi
theorem zom (h:(qR enc h1).R e W base ok (.slice (some ⟨g,0,none⟩) xs.length cap) xs) (i:Int) (x:α):(qR enc h1).R e (W.setCell ⟨g,i.toNat,none⟩ (enc x)) base ok (.slice (some ⟨g,0,none⟩) xs.length cap) (xs.set i.toNat x)∧W.grownBy (W.setCell ⟨g,i.toNat,none⟩ (enc x)) (some g):=by
  obtain⟨ho,hg⟩:=ziW (own_of_R h) i x;exact⟨zjB (by rw[List.length_set];exact ho) h.1,hg⟩
end
section
variable {P:Program} {ops:Array Oper} {rest:List Oper} {o:Oper} {a:Act} {Q:Exit→Act→World→Prop}
theorem event_run {W w1:World} {v:Value} (hgd:o.guard=none) (hrun:(execOp a.eval o).run P W=.ok (.value v) w1) (h:wpList P ops Q rest (a.put o.dst v) w1):wpList P ops Q (o :: rest) a W:=by
  refine wpList_plain hgd fun K hK=>?_
  unfold Oper.wp;rw[hrun];exact hK _ _ h
variable {α:Type}
theorem R_lit (d:Kd α) {w0 W:World} (base e:Nat) (hgd:o.guard=none) {N:Tmp} (_hd:o.dst=some N) {xs:List α} {inner:List Value} {ok okp:Nat→Prop}
    (hrun:(execOp a.eval o).run P W=.ok (.value (.slice (some ⟨W.heap.size,0,none⟩) xs.length xs.length)) (W.alloc (.cells inner.toArray e)))
    (hrep:jN (d.M W base okp) d.sz xs inner) (hok:∀ k,okp k→ok k) (hfresh:ok W.heap.size) (HB:Below base w0 W) (hbase:base≤W.heap.size) (hm:xs.length≤9223372036854775807)
    (h:∀ v1 w1,d.R e w1 base ok v1 xs→Below base w0 w1→W.grownBy w1 none→(∃ b,v1.ownBlock=some b∧W.heap.size≤b)→wpList P ops Q rest (a.put o.dst v1) w1):wpList P ops Q (o :: rest) a W:=by
  refine event_run hgd hrun (h _ _ ⟨fun k hk=>?_,inner,?_,?_⟩ (HB.alloc hbase _) (World.grownBy_alloc W _ none) ⟨W.heap.size,by simp[Value.ownBlock],Nat.le_refl _⟩)
  · have:W.heap.size=k:=by simpa [Value.ownBlock] using hk
    subst this;exact hfresh
  · have h2:=World.ownsRow_lit (base:=base) (e:=e) (size:=d.sz) W inner.toArray xs.length hbase (by simpa [maxLen] using hm) (by simpa using hrep.1)
    simpa using h2
  refine hrep.imp_ (fun p c hp=>d.M_mono (fun k hk=>⟨hok k hk.1,fun he=>?_⟩) (zoO (d.M_bound hp) (yC (Below.refl _ _) _)));have h3:k=W.heap.size:=by simpa [Value.ownBlock] using he
  have:=hk.2.2.1
  omega
theorem reps_made {α:Type} {R:α→List Value→Prop} {z:Value} {size:Nat} {z0:α} (hz:z.cells.size=size) (hs:0<size) (h0:R z0 z.cells.toList) (m:Nat):jN R size (List.replicate m z0) (madeCells z.cells (m * size)).toList:=by
  refine⟨by simp[size_madeCells],fun j p hj=>?_⟩;obtain⟨hjl,hp⟩:=List.getElem?_eq_some_iff.1 hj;have hjm:j<m:=by simpa using hjl
  have hp':z0=p:=by simpa using hp
  subst hp';have hle:j * size+size≤m * size:=by rw[←Nat.succ_mul];exact Nat.mul_le_mul_right _ hjm
  have:((madeCells z.cells (m * size)).toList.drop (j * size)).take size=z.cells.toList:=by
    apply List.ext_getElem
    · simp[size_madeCells,hz]
      omega
    intro i h1 h2;have hi:i<size:=by rw[Array.length_toList,hz] at h2;exact h2
    have hmod:(j * size+i) % size=i:=by
      rw[Nat.mul_comm,Nat.mul_add_mod];exact Nat.mod_eq_of_lt hi
    simp[madeCells,hz,hmod]
    rw[getElem!_pos z.cells i (by omega)]
  rw[this];exact h0
theorem R_make (d:Kd α) {w0 W:World} (base e:Nat) (hgd:o.guard=none) {N:Tmp} (hd:o.dst=some N) (t:TypeId) (x y:Operand) (ho:o.op=.makeSlice t x y) (n:Int) (hx:a.eval x=.int .i64 n) (hy:a.eval y=.int .i64 n)
    (ht:P.underlying t=some (.slice e)) (z:Value) (bytes:Nat) (hinfo:(P.info? e).map (fun i=>(i.zero,i.size,i.bytes))=some (some z,d.sz,bytes)) (hz:z.cells.size=d.sz) (hs0:0<d.sz) (hb0:0<bytes)
    (z0:α) {ok okp:Nat→Prop} (hzero:d.M W base okp z0 z.cells.toList) (hok:∀ k,okp k→ok k) (hfresh:ok W.heap.size) (h0:0≤n) (hl:n.toNat * bytes≤281474976710656) (HB:Below base w0 W) (hbase:base≤W.heap.size)
    (h:∀ v1 w1,d.R e w1 base ok v1 (List.replicate n.toNat z0)→Below base w0 w1→W.grownBy w1 none→(∃ b,v1.ownBlock=some b∧W.heap.size≤b)→wpList P ops Q rest (a.put o.dst v1) w1):wpList P ops Q (o :: rest) a W:=by
  obtain⟨m,rfl⟩:=Int.eq_ofNat_of_zero_le h0;simp only[Int.toNat_natCast] at hl h
  obtain⟨i0,hi,hzz⟩:=Option.map_eq_some_iff.1 hinfo;simp only[Prod.mk.injEq] at hzz
  obtain⟨hz0,hz1,hz2⟩:=hzz;have hm:m≤281474976710656:=Nat.le_trans (Nat.le_mul_of_pos_right _ hb0) hl
  have hr:=run_make (P:=P) W t e i0 z ht hi hz0 .i64 .i64 (m:Int) (m:Int) (by omega) (by omega)
    (by
      have h3:((i0.bytes * m:Nat):Int)≤281474976710656:=by rw[hz2,Nat.mul_comm];omega
      rwa [Int.natCast_mul] at h3) (by omega)
  simp only[Int.toNat_natCast] at hr
  rw[hz1] at hr;refine R_lit d base e hgd hd (xs:=List.replicate m z0) (inner:=(madeCells z.cells (m * d.sz)).toList) (okp:=okp) (ok:=ok) ?_ (reps_made hz hs0 hzero m) hok hfresh HB hbase (by simp;omega) h;simp[execOp,ho,hx,hy,hr]
end
end Kd
theorem znT {w:World} {base n m c size:Nat} {e:TypeId} {A:Option Addr} {xs:List Value} (h:w.ownsRow base e size (.slice A n c) n xs) (hm:m≤n):w.ownsRow base e size (.slice A m c) m (xs.take (m * size)):=by
  obtain⟨h1,h2⟩:=h;refine⟨by rw[List.length_take,h1];exact Nat.min_eq_left (Nat.mul_le_mul_right _ hm),?_⟩;rcases h2 with ⟨he,h0⟩|⟨g,cap,cur,he,hb,hh,hnc,hcm,hcs,ht⟩
  · injection he with ha _ hc
    subst ha;subst hc;exact .inl ⟨by rw[show m=0 by omega],by omega⟩
  injection he with ha _ hc
  subst ha;subst hc;refine .inr ⟨g,c,cur,rfl,hb,hh,by omega,hcm,hcs,?_⟩;rw[←ht,List.take_take,Nat.min_eq_left (Nat.mul_le_mul_right _ hm)]
section
variable {P:Program}
theorem znX (t e:TypeId) (kl:IntKind) {i:TypeInfo} (ht:P.underlying t=some (.slice e)) (hi:P.info? e=some i) (size:Nat) (hsz:i.size=size) (A:Option Addr) (n c:Nat) (j:Int) (h0:0≤j) (hm:j≤n) :
    ∀ W:World,(Instr.slice t (.slice A n c) (some (.int kl j)) none none).run P W=.ok (.slice (if c=j.toNat then A else A.map (·.add (j.toNat * size))) (n-j.toNat) (c-j.toNat)) W:=by
  intro W;have hel:P.elem t=e:=by simp[Program.elem,ht]
  have hu:P.underlying t=some (.slice (P.elem t)):=by rw[hel];exact ht
  rw[run_slice_l W t A n c hu kl j h0 hm,hel];simp[sizeOf,typeInfo,hi,hsz,sliced,Result.andThen]
end
def zpG (w:World) (base:Nat) (e:TypeId) (size:Nat) (v:Value) (n:Nat) (xs:List Value):Prop:=
  xs.length=n * size ∧
  ((n=0∧∃ A,v=.slice A 0 0∧∀ a,A=some a→base≤a.block∧∃ cur,w.heap[a.block]?=some (.cells cur e (0,0))) ∨
   ∃ g off cap cur,v=.slice (some ⟨g,off * size,none⟩) n cap∧base≤g∧w.heap[g]?=some (.cells cur e (0,0))∧n≤cap∧off+cap≤maxLen∧cur.size=(off+cap) * size∧(cur.toList.drop (off * size)).take (n * size)=xs)
section
variable {w w1:World} {base n size:Nat} {e:TypeId} {v:Value} {xs:List Value}
theorem znJ (h:w.ownsRow base e size v n xs):zpG w base e size v n xs:=by
  obtain⟨h1,h2⟩:=h;refine⟨h1,?_⟩;rcases h2 with ⟨rfl,h0⟩|⟨g,cap,cur,rfl,hb,hh,hnc,hcm,hcs,ht⟩
  · exact .inl ⟨h0,none,rfl,fun a ha=>by cases ha⟩
  exact .inr ⟨g,0,cap,cur,by rw[Nat.zero_mul],hb,hh,hnc,by rw[Nat.zero_add];exact hcm,by rw[Nat.zero_add];exact hcs,by rw[Nat.zero_mul,List.drop_zero];exact ht⟩
theorem zbL {g:Nat}:∀ (vs:List Value) (o:Nat) {w:World} (k:Nat),k≠g→(w.setCells g o vs).heap[k]?=w.heap[k]?
  | [],_,_,_,_=>rfl
  | v :: r,o,w,k,hk=>by
    rw[World.setCells,zbL r (o+1) k hk];exact Below.heap_setCell w ⟨g,o,none⟩ v k hk
theorem zcg (g:Nat):∀ (vs:List Value) (o:Nat) (w:World),(w.setCells g o vs).os=w.os∧(w.setCells g o vs).tape=w.tape∧(w.setCells g o vs).output=w.output∧(w.setCells g o vs).heap.size=w.heap.size
  | [],_,_=>⟨rfl,rfl,rfl,rfl⟩
  | v :: r,o,w=>by
    obtain⟨h1,h2,h3,h4⟩:=zcg g r (o+1) (w.setCell ⟨g,o,none⟩ v);rw[World.setCells];exact⟨h1,h2,h3,by rw[h4];simp[World.setCell]⟩
theorem zcB {g:Nat} {e:TypeId}:∀ (vs:List Value) (o:Nat) (w:World) (cur:Array Value),w.heap[g]?=some (.cells cur e (0,0))→o+vs.length≤cur.size →
    ∃ cur',(w.setCells g o vs).heap[g]?=some (.cells cur' e (0,0))∧cur'.size=cur.size∧cur'.toList=cur.toList.take o++vs++cur.toList.drop (o+vs.length)
  | [],o,w,cur,h,_=>⟨cur,h,rfl,by simp⟩
  | v :: r,o,w,cur,h,hl=>by
    have h2:=zkR h o v;simp only[List.length_cons] at hl
    obtain⟨cur',h3,h4,h5⟩:=zcB r (o+1) (w.setCell ⟨g,o,none⟩ v) _ h2 (by simp;omega);refine⟨cur',h3,by rw[h4];simp,?_⟩;rw[h5,Array.toList_setIfInBounds];have ho:o<cur.toList.length:=by rw[Array.length_toList];omega
    rw[List.take_set,List.drop_set_of_lt (by omega)];simp only[List.length_cons]
    rw[show o+1+r.length=o+(r.length+1) by omega];congr 1
    rw[List.take_succ_eq_append_getElem ho,List.set_append_right _ _ (by rw[List.length_take];omega)];have ho':o<cur.size:=by omega
    simp[Nat.min_eq_left (Nat.le_of_lt ho')]
end
section
variable {P:Program}
end
namespace Kd
theorem zlK {α:Type} {R:α→List Value→Prop} {size m:Nat} {ps:List α} {cs:List Value} (h:jN R size ps cs) (hm:m≤ps.length):jN R size (ps.take m) (cs.take (m * size)):=by
  refine⟨by rw[List.length_take,List.length_take,h.1,Nat.min_eq_left hm,Nat.min_eq_left (Nat.mul_le_mul_right _ hm)],fun j p hj=>?_⟩;rw[List.getElem?_take] at hj;split at hj
  · rename_i hjm
    have:=h.2 j p hj
    have hle:j * size+size≤m * size:=by rw[←Nat.succ_mul];exact Nat.mul_le_mul_right _ hjm
    rw[List.drop_take,List.take_take,Nat.min_eq_left (by omega)];exact this
  cases hj
theorem R_take {α:Type} {d:Kd α} {e m n c:Nat} {w:World} {base:Nat} {ok:Nat→Prop} {A:Option Addr} {xs:List α} (h:d.R e w base ok (.slice A n c) xs) (hm:m≤xs.length):d.R e w base ok (.slice A m c) (xs.take m):=by
  obtain⟨h0,inner,ho,hr⟩:=h;have hn:n=xs.length:=by
    obtain⟨A',c',he⟩:=zio ho;injection he
  subst hn;have hb:∀ x y:Nat,(Value.slice A x c).ownBlock=(Value.slice A y c).ownBlock:=by
    intro x y;cases A <;> rfl
  refine⟨fun k hk=>h0 k (by rw[hb _ m];exact hk),inner.take (m * d.sz),?_,?_⟩
  · rw[List.length_take,Nat.min_eq_left hm]
    exact znT ho hm
  rw[hb m xs.length];exact zlK hr hm
def Q {α:Type} (d:Kd α) (e:Nat) (w:World) (base:Nat) (ok:Nat→Prop) (v:Value) (xs:List α):Prop:=
  (∀ k,v.ownBlock=some k→ok k)∧∃ inner,zpG w base e d.sz v xs.length inner∧jN (d.M w base (fun k=>ok k∧some k≠v.ownBlock)) d.sz xs inner
section
variable {α:Type} {d:Kd α} {e:Nat} {w w1 W:World} {base:Nat} {ok ok':Nat→Prop} {v:Value} {xs:List α}
theorem zqb (h:d.R e w base ok v xs):d.Q e w base ok v xs:=by
  obtain⟨h0,inner,ho,hr⟩:=h;exact⟨h0,inner,znJ ho,hr⟩
theorem Q_nil (d:Kd α) (e:Nat) (w:World) (base:Nat) (ok:Nat→Prop):d.Q e w base ok (.slice none 0 0) []:=zqb (R_nil d e w base ok)
end
section
variable {P:Program} {ops:Array Oper} {rest:List Oper} {o:Oper} {a:Act} {Q':Exit→Act→World→Prop} {Kc:Act→World→Prop} {α:Type}
end
end Kd
namespace Kd
section
variable {α:Type} {d:Kd α} {e e':Nat} {w w1 W:World} {base:Nat} {ok:Nat→Prop} {u v:Value} {xs:List α}
theorem R_typed (h:d.R e w base ok v xs):∀ k,v.ownBlock=some k→∃ cells,w.heap[k]?=some (.cells cells e (0,0)):=by
  obtain⟨inner,ho⟩:=zgF h;exact fun k hk=>zdR ho k hk
theorem R_over' (h:d.R e W base ok u xs) (hty:∀ k,v.ownBlock=some k→∃ cells,W.heap[k]?=some (.cells cells e' (0,0))) (ht:∀ q,q∈e :: d.E→q≠e') (hg:W.grownBy w1 v.ownBlock):d.R e w1 base ok u xs:=by
  refine R_mono (zeo (R_bound h) (fun k hk=>hg.block k hk.2.2.1 (fun he=>?_))) (fun _ hk=>hk.1);obtain⟨_,_,_,q,hq,cells,hc⟩:=hk;obtain⟨cells',hc'⟩:=hty k he.symm;rw[hc] at hc';injection hc' with hc'
  injection hc' with _ hc'
  exact ht q hq hc'
theorem R_elder' (hu:d.R e W base ok u xs) (hbase:∀ k,v.ownBlock=some k→W.heap.size≤k) (hb:Below W.heap.size W w1):d.R e w1 base (fun k=>ok k∧some k≠v.ownBlock) u xs:=
  R_mono (zeo (R_bound hu) (fun k hk=>hb.block k hk.2.2.1)) (fun k hk=>⟨hk.1,fun he=>by have:=hbase k he.symm;have:=hk.2.2.1;omega⟩)
theorem R_new' (h:d.R e w1 W.heap.size ok v xs) (hlt:∀ k,u.ownBlock=some k→k<W.heap.size):d.R e w1 W.heap.size (fun k=>ok k∧some k≠u.ownBlock) v xs:=
  R_mono (R_bound h) (fun k hk=>⟨hk.1,fun he=>by have:=hlt k he.symm;have:=hk.2.1;omega⟩)
theorem fresh' (hlt:∀ k,u.ownBlock=some k→k<W.heap.size):∀ k,W.heap.size≤k→some k≠u.ownBlock:=fun k hk he=>by have:=hlt k he.symm;omega
end
end Kd
namespace Kd
section
variable {α:Type} {d:Kd α} {e base g n cap:Nat} {ok okp:Nat→Prop} {W:World} {xs:List α}
end
end Kd
namespace Kd
section
variable {α:Type} {F:Kd α→Kd α} {sz:Nat} {E:List Nat} {hs:∀ n,(upto F sz E n).sz=sz} {hE:∀ n q,q∈(upto F sz E n).E→q∈E}
end
end Kd
namespace Kd
theorem zef {α:Type} {R:α→List Value→Prop} {size:Nat} {ps qs:List α} {cs ds:List Value} (h:jN R size ps cs) (h':jN R size qs ds):jN R size (ps++qs) (cs++ds):=by
  refine⟨by rw[List.length_append,List.length_append,h.1,h'.1,Nat.add_mul],fun j p hj=>?_⟩;rcases Nat.lt_or_ge j ps.length with hlt|hge
  · rw[List.getElem?_append_left hlt] at hj
    have hle:j * size+size≤cs.length:=by rw[h.1,←Nat.succ_mul];exact Nat.mul_le_mul_right _ hlt
    rw[List.drop_append_of_le_length (by omega),List.take_append_of_le_length (by rw[List.length_drop];omega)];exact h.2 j p hj
  rw[List.getElem?_append_right hge] at hj;have h2:=h'.2 (j-ps.length) p hj;have hle:ps.length * size≤j * size:=Nat.mul_le_mul_right _ hge;rw[List.drop_append,List.drop_eq_nil_of_le (by rw[h.1];exact hle),List.nil_append,h.1,←Nat.sub_mul];exact h2
section
variable {P:Program} {ops:Array Oper} {rest:List Oper} {o:Oper} {a:Act} {Q:Exit→Act→World→Prop} {α:Type}
theorem R_append_rows (d:Kd α) {Rr:α→List Value→Prop} {w0 W:World} (base:Nat) (hgd:o.guard=none) (s x:Operand) (t e:TypeId) (z:Value) (bytes:Nat)
    (ho:o.op=.call { callee:=.builtin .append,args:=#[s,x],argTypes:=#[t,t] })
    (ht:P.underlying t=some (.slice e)) (hinfo:(P.info? e).map (fun i=>(i.zero,i.size,i.bytes))=some (some z,d.sz,bytes)) (hz:z.cells.size=d.sz) (hs0:0<d.sz) (hb0:0<bytes)
    (v:Value) (xs ys:List α) (A:Option Addr) (m c:Nat) (ok okp:Nat→Prop) (hs:a.eval s=v) (hx:a.eval x=.slice A m c)
    (HO:d.R e W base ok v xs) (HR:xL Rr d.sz W A m ys) (hKM:∀ x cs,Rr x cs→d.M W base okp x cs) (hokp:∀ k,okp k→ok k∧some k≠v.ownBlock) (hfresh:∀ k,W.heap.size≤k→ok k)
    (HB:Below base w0 W) (hbase:base≤W.heap.size) (hl:(xs.length+m) * bytes≤140737488355328)
    (h:∀ v1 w1,d.R e w1 base ok v1 (xs++ys)→Below base w0 w1→W.grownBy w1 v.ownBlock→(v1.ownBlock=v.ownBlock∨∃ b,v1.ownBlock=some b∧W.heap.size≤b)→wpList P ops Q rest (a.put o.dst v1) w1) :
    wpList P ops Q (o :: rest) a W:=by
  obtain⟨i0,hi,hzz⟩:=Option.map_eq_some_iff.1 hinfo;simp only[Prod.mk.injEq] at hzz
  obtain⟨hz0,hz1,hz2⟩:=hzz;have hm:ys.length=m:=HR.1;have hlen:xs.length+m≤140737488355328:=Nat.le_trans (Nat.le_mul_of_pos_right _ hb0) hl;obtain⟨hok,inner,hown,hr⟩:=HO;have hrun:∃ v1 w1,(Builtin.append_ #[t,t] o.type #[v,.slice A m c]).run P W=.ok v1 w1∧d.R e w1 base ok v1 (xs++ys)∧W.grownBy w1 v.ownBlock∧(v1.ownBlock=v.ownBlock∨∃ b,v1.ownBlock=some b∧W.heap.size≤b):=by
    rcases A with _|ad
    · have h0:m=0:=by
        rcases Nat.eq_zero_or_pos m with h0|h0
        · exact h0
        obtain⟨ad,h,_⟩:=HR.2.2 h0;cases h
      subst h0;obtain rfl:ys=[]:=List.eq_nil_of_length_eq_zero hm;refine⟨v,W,?_,by rw[List.append_nil];exact⟨hok,inner,hown,hr⟩,World.grownBy.refl W _,.inl rfl⟩;rcases hown.2 with ⟨rfl,hn⟩|⟨g,cap,cur,rfl,_,_,hnc,_⟩
      · simp[Builtin.append_,run_underlying ht,sizeOf,typeInfo,hi,Builtin.lenOf,Builtin.firstCells]
      simp[Builtin.append_,run_underlying ht,sizeOf,typeInfo,hi,Builtin.lenOf,Builtin.firstCells,hnc,storeCells]
    obtain⟨news,hnr,hnc⟩:=xL.inner_ HR;have hnM:jN (d.M W base okp) d.sz ys news:=hnr.imp_ (fun p c hp=>hKM p c hp);have hone:∀ u∈news,u.oneCell'=true:=by
      intro u hu;obtain⟨q,hq,rfl⟩:=List.mem_iff_getElem.1 hu;have hql:q / d.sz<ys.length:=by
        rw[Nat.div_lt_iff_lt_mul hs0];rw[←hnM.1];exact hq
      have hc:=hnM.2 (q / d.sz) _ (List.getElem?_eq_getElem hql);refine d.K_one (d.K_of_M hc) _ ?_;rw[List.mem_iff_getElem?];refine⟨q % d.sz,?_⟩;rw[List.getElem?_take,if_pos (Nat.mod_lt _ hs0),List.getElem?_drop,Nat.mul_comm,Nat.div_add_mod,List.getElem?_eq_getElem hq]
    obtain⟨v1,w1,hrun,h2,hg,_,hat⟩:=run_append_own_at (P:=P) W base t o.type e i0 z d.sz bytes ht hi hz0 hz1 hz2 hz hs0 v xs.length inner hown ad m c news (by rw[hnM.1,hm]) hnc hone (by simp only[maxLen];omega) hl hbase;have hat':v1.ownBlock=v.ownBlock∨∃ b,v1.ownBlock=some b∧W.heap.size≤b:=by
      rcases hat with hat|hat
      · exact .inl hat
      exact .inr ⟨_,hat,Nat.le_refl _⟩
    have hne:∀ k,some k≠v.ownBlock→k<W.heap.size→some k≠v1.ownBlock:=by
      intro k hk hlt;rcases hat' with hat|⟨b,hb,hle⟩
      · rw[hat];exact hk
      rw[hb];intro he;injection he with he
      omega
    have step:∀ {q:α} {c:List Value} {o:Nat→Prop},d.M W base o q c→(∀ k,o k→ok k∧some k≠v.ownBlock)→d.M w1 base (fun k=>ok k∧some k≠v1.ownBlock) q c:=by
      intro q c o hq ho;have h1:=d.M_move (w1:=w1) (fun k hk=>hg.block k hk.2.2.1 (ho k hk.1).2) (d.M_bound hq);exact d.M_mono (fun k hk=>⟨(ho k hk.1).1,hne k (ho k hk.1).2 hk.2.2.1⟩) h1
    refine⟨v1,w1,hrun,⟨fun k hk=>?_,inner++news,by rw[List.length_append,hm];exact h2,zef (hr.imp_ (fun _ _ hq=>step hq (fun _ hk=>hk))) (hnM.imp_ (fun _ _ hq=>step hq hokp))⟩,hg,hat'⟩;rcases hat' with hat|⟨b,hb,hle⟩
    · exact hok k (hat ▸ hk)
    rw[hb] at hk;injection hk with hk
    exact hfresh k (by omega)
  obtain⟨v1,w1,hr1,h1,hg,hat⟩:=hrun;refine wpList_plain hgd fun K hK=>?_
  unfold Oper.wp execOp;simp only[ho,resolve,invoke,builtin,Sem.run_bind,Sem.run_pure,Result.andThen_ok,List.map_toArray,List.map_cons,List.map_nil,hs,hx,hr1]
  exact hK _ _ (h v1 w1 h1 (HB.grown hg hbase (zcE hown)) hg hat)
theorem zlX {enc:α→Value} {h1:∀ x,(enc x).oneCell'=true} (d:α) {w0 W:World} (base:Nat) (hgd:o.guard=none) (s x:Operand) (t t' e:TypeId)
    (ho:o.op=.call { callee:=.builtin .copy,args:=#[s,x],argTypes:=#[t,t'] }) (ht:P.underlying t=some (.slice e)) (hinfo:(P.info? e).map (·.size)=some 1)
    (v:Value) (xs ys:List α) (A:Option Addr) (m c:Nat) (ok:Nat→Prop) (hs:a.eval s=v) (hx:a.eval x=.slice A m c)
    (HO:(qR enc h1).R e W base ok v xs) (HR:(qR enc h1).C W A m ys) (HB:Below base w0 W) (hbase:base≤W.heap.size)
    (h:∀ w1,(qR enc h1).R e w1 base ok v (ys.take (min m xs.length)++xs.drop (min m xs.length))→Below base w0 w1→W.grownBy w1 v.ownBlock→wpList P ops Q rest (a.put o.dst (.int .i64 ((min m xs.length:Nat):Int))) w1) :
    wpList P ops Q (o :: rest) a W:=by
  have hR:=reads_of_C (enc:=enc) (d:=d) (h1:=h1) HR;have hm:ys.length=m:=hR.1;have hown:=own_of_R HO;have fin:∀ w1,(Builtin.copy_ #[t,t'] o.type #[v,.slice A m c]).run P W=.ok (goInt ((min m xs.length:Nat):Int)) w1→(qR enc h1).R e w1 base ok v (ys.take (min m xs.length)++xs.drop (min m xs.length))→W.grownBy w1 v.ownBlock→wpList P ops Q (o :: rest) a W:=by
    intro w1 hr hrow hg;refine wpList_plain hgd fun K hK=>?_
    unfold Oper.wp execOp;simp only[ho,resolve,invoke,builtin,Sem.run_bind,Sem.run_pure,Result.andThen_ok,List.map_toArray,List.map_cons,List.map_nil,hs,hx,hr]
    exact hK _ _ (h w1 hrow (HB.grown hg hbase (zcE hown)) hg)
  rcases Nat.eq_zero_or_pos (min m xs.length) with h0|hp
  · obtain⟨A',c',hv⟩:=zio hown
    refine fin W ?_ (by rw[h0,List.take_zero,List.drop_zero,List.nil_append];exact HO) (World.grownBy.refl W _);rw[h0,hv];exact run_copy_none W t t' o.type e A' A xs.length c' m c ht hinfo h0
  obtain⟨ad,hA,hc⟩:=hR.2.2 (by omega);rcases hown.2 with ⟨_,hx0⟩|⟨g,cap,cur,hv,hb,hh,hnc,hcm,hcs,htake⟩
  · omega
  have hcs1:cur.size=cap:=by omega
  have hsrc:∀ j u,(xI enc (ys.take (min m xs.length)))[j]?=some u→W.cell? (ad.add j)=some u:=by
    intro j u hu;have hj:j<(ys.take (min m xs.length)).length:=by
      rcases Nat.lt_or_ge j (ys.take (min m xs.length)).length with h|h
      · exact h
      rw[List.getElem?_eq_none (by rw[zcd];exact h)] at hu;cases hu
    have hjm:j<min m xs.length:=by rw[List.length_take] at hj;omega
    rw[ziX (d:=d) _ j hj] at hu;rw[hc j (by omega),←hu];simp[List.getD_eq_getElem?_getD,hjm]
  have hkl:(xI enc (ys.take (min m xs.length))).length=min m xs.length:=by rw[zcd,List.length_take];omega
  have hr:=run_copy_cells (P:=P) W t t' o.type e g 0 xs.length cap ad m c (xI enc (ys.take (min m xs.length))) ht hinfo (by rw[hkl]) hsrc
    (fun j hj=>by rw[cell_of_row W g _ cur e (0,0) hh];simp;omega) (fun j _=>zM hh _) (by intro u hu;simp only[xI,List.mem_map] at hu;obtain⟨q,_,rfl⟩:=hu;exact h1 q)
  obtain⟨cur',h3,h4,h5⟩:=zcB (xI enc (ys.take (min m xs.length))) 0 W cur hh (by rw[hkl];omega);obtain⟨s1,s2,s3,s4⟩:=zcg g (xI enc (ys.take (min m xs.length))) 0 W;refine fin _ (by rw[hv,hA,hr,hkl]) (zjB ?_ HO.1) ⟨s1,s2,s3,by rw[s4];exact Nat.le_refl _,fun k _ hk=>zbL _ _ k (fun he=>hk (by rw[hv,he];simp[Value.ownBlock]))⟩;have hln:(ys.take (min m xs.length)++xs.drop (min m xs.length)).length=xs.length:=by
    rw[List.length_append,List.length_take,List.length_drop];omega
  rw[hln];refine⟨by rw[zcd,hln,Nat.mul_one],.inr ⟨g,cap,cur',hv,hb,h3,hnc,hcm,by rw[h4,hcs],?_⟩⟩;rw[h5,List.take_zero,List.nil_append,hkl,Nat.zero_add,zka,Nat.mul_one];rw[List.take_append,hkl,List.take_of_length_le (by rw[hkl];omega)];congr 1
  have htk:cur.toList.take xs.length=xI enc xs:=by rw[←htake,Nat.mul_one]
  have hd:xI enc (xs.drop (min m xs.length))=(xI enc xs).drop (min m xs.length):=by simp[xI,List.map_drop]
  rw[hd,←htk,List.drop_take]
end
end Kd
namespace Kd
section
variable {P:Program} {ops:Array Oper} {rest:List Oper} {o:Oper} {a:Act} {Q:Exit→Act→World→Prop} {α:Type}
end
end Kd
theorem zoS (a:Addr) (i j:Nat):(a.add i).add j=a.add (i+j):=by
  unfold Addr.add;by_cases h1:i=0 <;> by_cases h2:j=0 <;> simp[h1,h2,Nat.add_assoc]
namespace Kd
section
variable {α:Type} {k:Kd α} {w:World} {A:Option Addr} {xs:List α} {m c:Nat}
theorem C_drop (h:k.C w A xs.length xs) (hm:m≤xs.length) (hc:xs.length≤c):k.C w (if c=m then A else A.map (·.add (m * k.sz))) (xs.drop m).length (xs.drop m):=by
  have hl:(xs.drop m).length=xs.length-m:=List.length_drop;refine⟨rfl,by rw[hl];have:=h.2.1;omega,fun hp=>?_⟩;rw[hl] at hp;obtain⟨ad,rfl,hcell⟩:=h.2.2 (by omega);rw[if_neg (by omega)];refine⟨ad.add (m * k.sz),rfl,fun j p hj=>?_⟩;rw[List.getElem?_drop] at hj;obtain⟨cs,h1,h2,h3⟩:=hcell (m+j) p hj;refine⟨cs,h1,h2,fun i u hu=>?_⟩;rw[zoS,show m * k.sz+(j * k.sz+i)=(m+j) * k.sz+i by rw[Nat.add_mul];omega];exact h3 i u hu
end
end Kd
section
variable {P:Program}
end
theorem zgI {P:Program} {w:World} {src dst e:TypeId} {A:Option Addr} {n c:Nat} {xs:List Int} (hs:P.underlying src=some (.slice e)) (he:P.underlying e=some (.int .u8)) (hd:P.underlying dst=some .string)
    (h:xF w .u8 A n xs):(convert src dst (.slice A n c)).run P w=.ok (.string (strOfNums xs)) w:=by
  have hn:xs.length=n:=h.1;rcases A with _|ad
  · have h0:n=0:=by
      rcases Nat.eq_zero_or_pos n with h0|h0
      · exact h0
      obtain⟨ad,h',_⟩:=h.2.2 h0;cases h'
    subst h0;obtain rfl:xs=[]:=List.eq_nil_of_length_eq_zero hn;exact run_convert_bytes_nil w src e hs he 0 c dst hd
  have hl:(loadCells ad n).run P w=.ok (xs.map (Value.int .u8)).toArray w:=by
    have:=run_loadCells_list (P:=P) w ad (xs.map (Value.int .u8)) (fun j v hj=>by
      have hjl:j<xs.length:=by
        rcases Nat.lt_or_ge j xs.length with h'|h'
        · exact h'
        rw[List.getElem?_eq_none (by rw[List.length_map];exact h')] at hj;cases hj
      obtain⟨ad',he',hc⟩:=h.2.2 (by omega);injection he' with he'
      subst he';rw[hc j (by omega)];rw[List.getElem?_map,List.getElem?_eq_getElem hjl] at hj;simp at hj
      subst hj;simp[List.getD_eq_getElem?_getD,List.getElem?_eq_getElem hjl])
    simpa [hn] using this
  rw[run_convert_bytes_string w src dst e _ n c hs he hd,run_bytesToString w ad n c xs hl,foldl_push_bytes];simp[strOfNums,ByteArray.empty,ByteArray.emptyWithCapacity]
  rfl
theorem Kd.C_string {P:Program} {w:World} {src dst e:TypeId} {A:Option Addr} {n c:Nat} {xs:List Int} (hs:P.underlying src=some (.slice e)) (he:P.underlying e=some (.int .u8)) (hd:P.underlying dst=some .string)
    (h:(Kd.int .u8).C w A n xs):(convert src dst (.slice A n c)).run P w=.ok (.string (strOfNums xs)) w:=
  zgI hs he hd (Kd.reads_of_C (enc:=Value.int .u8) (d:=(0:Int)) (h1:=fun _=>rfl) h)
theorem zQ {w W:World} (h:Below w.heap.size w W):w.heap.size≤W.heap.size:=h.size
theorem zeB {w W w2:World} (h:Below w.heap.size w W) (k:Below W.heap.size W w2):Below w.heap.size w w2:=zlx h h.size k
theorem xF.nil (W:World) (k:IntKind):xF W k none ([]:List Int).length []:=⟨rfl,by simp,fun h=>absurd h (Nat.lt_irrefl 0)⟩
theorem xF.drewN {W:World} {k:IntKind} {A:Option Addr} {n:Nat} {xs:List Int} (h:xF W k A n xs) (m:Nat):xF (W.drewN m) k A n xs:=h
theorem xR {w W:World} {g j:Nat} {v:Value} (h:Below w.heap.size w W) (hg:w.heap.size≤g):Below w.heap.size w (W.setCell ⟨g,j,none⟩ v):=h.setCell hg _
theorem zdO (a:Addr) (i:Nat):(a.add i).block=a.block:=by unfold Addr.add;split <;> rfl
theorem uI.nil {α:Type} (enc:α→Value) (d:α) (W:World):uI enc d W none ([]:List α).length []:=⟨rfl,by simp,fun h=>absurd h (Nat.lt_irrefl 0)⟩
theorem uI.drewN {α:Type} {enc:α→Value} {d:α} {W:World} {A:Option Addr} {n:Nat} {xs:List α} (h:uI enc d W A n xs) (m:Nat):uI enc d (W.drewN m) A n xs:=h
theorem yT {W:World} {p a:Addr} (h:a.block≠p.block) (u:Value):(W.setCell p u).cell? a=W.cell? a:=by
  have:=Below.heap_setCell W p u a.block h
  simp[World.cell?,this]
theorem zpi {w:World} {g:Nat} {t:TypeId} {cs cs':Array Value} (h:w.heap[g]?=some (.cells cs t (0,0))) (i:Nat) (u:Value) (e:cs.setIfInBounds i u=cs'):(w.setCell ⟨g,i,none⟩ u).heap[g]?=some (.cells cs' t (0,0)):=e ▸ zkR h i u
theorem yM {base:Nat} {w W:World} (h:Below base w W):Below base w W.drew:=h.drew
namespace Kd
section
variable {α β:Type} {d:Kd α} {d':Kd β} {e e' base base' n:Nat} {ok ok':Nat→Prop} {w W w1 W1:World} {v u:Value} {xs:List α} {ys:List β} {A:Option Addr} {c:Nat}
end
section
variable {α:Type} {enc:α→Value} {h1:∀ x,(enc x).oneCell'=true} {w W:World} {A:Option Addr} {n g:Nat} {xs:List α}
end
end Kd
namespace Kd
section
variable {α:Type} {d:Kd α} {e base g:Nat} {ok:Nat→Prop} {w w1:World} {v:Value} {xs:List α} {o:Obj}
theorem R_elderB (h:d.R e w base ok v xs) (a:Nat) (ha:w.heap.size≤a):d.R e w base (fun k=>ok k∧k≠a) v xs:=R_mono (R_bound h) (fun k hk=>⟨hk.1,by have:=hk.2.2.1;omega⟩)
end
end Kd
section
variable {P:Program} {ops:Array Oper} {rest:List Oper} {o:Oper} {a:Act} {Q:Exit→Act→World→Prop}
theorem zdC {W:World} (hgd:o.guard=none) {N:Tmp} (_hd:o.dst=some N) {cs:Array Value} {t:TypeId}
    (hrun:(execOp a.eval o).run P W=.ok (.value (.pointer (some ⟨W.heap.size,0,none⟩))) (W.alloc (.cells cs t (0,0))))
    (h:∀ g,g=W.heap.size→∀ w1,w1.heap[g]?=some (.cells cs t (0,0))→Below W.heap.size W w1→wpList P ops Q rest (a.put o.dst (.pointer (some ⟨g,0,none⟩))) w1):wpList P ops Q (o :: rest) a W:=
  Kd.event_run hgd hrun (h _ rfl _ (zcl W _) (yC (Below.refl _ _) _))
end
namespace Kd
section
variable {α:Type} {enc:α→Value} {h1:∀ x,(enc x).oneCell'=true} {e base g n cap:Nat} {ok:Nat→Prop} {W:World} {xs:List α}
theorem R_celln (d:α) (h:(qR enc h1).R e W base ok (.slice (some ⟨g,0,none⟩) n cap) xs) (i:Int) (h0:0≤i) (hi:i<n):W.cell? ⟨g,i.toNat,none⟩=some (enc (zlp d xs i))∧W.frozen? ⟨g,i.toNat,none⟩=false:=by
  obtain⟨rfl,_⟩:=R_reads' h;exact zpD d h i h0 hi
theorem R_putn (h:(qR enc h1).R e W base ok (.slice (some ⟨g,0,none⟩) n cap) xs) (i:Int) (x:α):(qR enc h1).R e (W.setCell ⟨g,i.toNat,none⟩ (enc x)) base ok (.slice (some ⟨g,0,none⟩) n cap) (xs.set i.toNat x):=by
  obtain⟨rfl,_⟩:=R_reads' h;exact (zom h i x).1
end
end Kd
section
variable {P:Program} {ops:Array Oper} {rest:List Oper} {o:Oper} {a:Act} {Q:Exit→Act→World→Prop}
theorem zcf {W w1:World} (hgd:o.guard=none) {t:TypeId} {p:Tmp} {v:Operand} (_ho:o.op=.store t (.tmp p) v) (hN:o.dst=none)
    (hrun:(execOp a.eval o).run P W=.ok .skip w1) (h:∀ w',w'=w1→wpList P ops Q rest a w'):wpList P ops Q (o :: rest) a W:=by
  refine wpList_plain hgd fun K hK=>?_
  unfold Oper.wp;rw[hrun];show K (a.put o.dst undef) w1
  rw[hN];exact hK _ _ (h _ rfl)
end
namespace Kd
section
variable {α:Type} {enc:α→Value} {h1:∀ x,(enc x).oneCell'=true} {e base g n cap:Nat} {ok:Nat→Prop} {W:World} {xs:List α}
theorem R_putg (h:(qR enc h1).R e W base ok (.slice (some ⟨g,0,none⟩) n cap) xs) (i:Int) (x:α):(qR enc h1).R e (W.setCell ⟨g,i.toNat,none⟩ (enc x)) base ok (.slice (some ⟨g,0,none⟩) n cap) (xs.set i.toNat x)∧W.grownBy (W.setCell ⟨g,i.toNat,none⟩ (enc x)) (some g):=by
  obtain⟨rfl,_⟩:=R_reads' h;exact zom h i x
end
end Kd
section
variable {P:Program} {ops:Array Oper} {rest:List Oper} {o:Oper} {a:Act} {Q:Exit→Act→World→Prop} {W:World}
theorem zE {N:Tmp} (_hN:o.dst=some N) (h:wpList P ops Q (o :: rest) a W):wpList P ops Q (o :: rest) a W:=h
theorem zW {t:TypeId} {p:Tmp} {v:Operand} (_ho:o.op=.store t (.tmp p) v) (h:wpList P ops Q (o :: rest) a W):wpList P ops Q (o :: rest) a W:=h
end
section
variable {P:Program} {ops:Array Oper} {o:Oper} {a:Act} {Q:Exit→Act→World→Prop} {Kc:Act→World→Prop}
theorem zhm {W w1:World} {v:Value} (hw:Region.wanted o (yielded ops a.tmps)=true) (hrun:(execOp a.eval o).run P W=.ok (.value v) w1) (h:Kc (a.put o.dst v) w1):if Region.wanted o (yielded ops a.tmps)=true then Oper.wp P o a W Kc Q else Kc (a.put o.dst undef) W:=by
  rw[if_pos hw];unfold Oper.wp;rw[hrun];exact h
theorem zng {W:World} (hw:Region.wanted o (yielded ops a.tmps)=true) {N:Tmp} (_hd:o.dst=some N) {cs:Array Value} {t:TypeId}
    (hrun:(execOp a.eval o).run P W=.ok (.value (.pointer (some ⟨W.heap.size,0,none⟩))) (W.alloc (.cells cs t (0,0))))
    (h:∀ g,g=W.heap.size→∀ w1,w1.heap[g]?=some (.cells cs t (0,0))→Below W.heap.size W w1→Kc (a.put o.dst (.pointer (some ⟨g,0,none⟩))) w1):if Region.wanted o (yielded ops a.tmps)=true then Oper.wp P o a W Kc Q else Kc (a.put o.dst undef) W:=
  zhm hw hrun (h _ rfl _ (zcl W _) (yC (Below.refl _ _) _))
namespace Kd
variable {α:Type}
theorem R_append_rows_step (d:Kd α) {Rr:α→List Value→Prop} {w0 W:World} (base:Nat) (hw:Region.wanted o (yielded ops a.tmps)=true) (s x:Operand) (t e:TypeId) (z:Value) (bytes:Nat)
    (ho:o.op=.call { callee:=.builtin .append,args:=#[s,x],argTypes:=#[t,t] })
    (ht:P.underlying t=some (.slice e)) (hinfo:(P.info? e).map (fun i=>(i.zero,i.size,i.bytes))=some (some z,d.sz,bytes)) (hz:z.cells.size=d.sz) (hs0:0<d.sz) (hb0:0<bytes)
    (v:Value) (xs ys:List α) (A:Option Addr) (m c:Nat) (ok okp:Nat→Prop) (hs:a.eval s=v) (hx:a.eval x=.slice A m c)
    (HO:d.R e W base ok v xs) (HR:xL Rr d.sz W A m ys) (hKM:∀ x cs,Rr x cs→d.M W base okp x cs) (hokp:∀ k,okp k→ok k∧some k≠v.ownBlock) (hfresh:∀ k,W.heap.size≤k→ok k)
    (HB:Below base w0 W) (hbase:base≤W.heap.size) (hl:(xs.length+m) * bytes≤140737488355328)
    (h:∀ v1 w1,d.R e w1 base ok v1 (xs++ys)→Below base w0 w1→W.grownBy w1 v.ownBlock→(v1.ownBlock=v.ownBlock∨∃ b,v1.ownBlock=some b∧W.heap.size≤b)→Kc (a.put o.dst v1) w1) :
    if Region.wanted o (yielded ops a.tmps)=true then Oper.wp P o a W Kc Q else Kc (a.put o.dst undef) W:=by
  obtain⟨i0,hi,hzz⟩:=Option.map_eq_some_iff.1 hinfo;simp only[Prod.mk.injEq] at hzz
  obtain⟨hz0,hz1,hz2⟩:=hzz;have hm:ys.length=m:=HR.1;have hlen:xs.length+m≤140737488355328:=Nat.le_trans (Nat.le_mul_of_pos_right _ hb0) hl;obtain⟨hok,inner,hown,hr⟩:=HO;have hrun:∃ v1 w1,(Builtin.append_ #[t,t] o.type #[v,.slice A m c]).run P W=.ok v1 w1∧d.R e w1 base ok v1 (xs++ys)∧W.grownBy w1 v.ownBlock∧(v1.ownBlock=v.ownBlock∨∃ b,v1.ownBlock=some b∧W.heap.size≤b):=by
    rcases A with _|ad
    · have h0:m=0:=by
        rcases Nat.eq_zero_or_pos m with h0|h0
        · exact h0
        obtain⟨ad,h,_⟩:=HR.2.2 h0;cases h
      subst h0;obtain rfl:ys=[]:=List.eq_nil_of_length_eq_zero hm;refine⟨v,W,?_,by rw[List.append_nil];exact⟨hok,inner,hown,hr⟩,World.grownBy.refl W _,.inl rfl⟩;rcases hown.2 with ⟨rfl,hn⟩|⟨g,cap,cur,rfl,_,_,hnc,_⟩
      · simp[Builtin.append_,run_underlying ht,sizeOf,typeInfo,hi,Builtin.lenOf,Builtin.firstCells]
      simp[Builtin.append_,run_underlying ht,sizeOf,typeInfo,hi,Builtin.lenOf,Builtin.firstCells,hnc,storeCells]
    obtain⟨news,hnr,hnc⟩:=xL.inner_ HR;have hnM:jN (d.M W base okp) d.sz ys news:=hnr.imp_ (fun p c hp=>hKM p c hp);have hone:∀ u∈news,u.oneCell'=true:=by
      intro u hu;obtain⟨q,hq,rfl⟩:=List.mem_iff_getElem.1 hu;have hql:q / d.sz<ys.length:=by
        rw[Nat.div_lt_iff_lt_mul hs0];rw[←hnM.1];exact hq
      have hc:=hnM.2 (q / d.sz) _ (List.getElem?_eq_getElem hql);refine d.K_one (d.K_of_M hc) _ ?_;rw[List.mem_iff_getElem?];refine⟨q % d.sz,?_⟩;rw[List.getElem?_take,if_pos (Nat.mod_lt _ hs0),List.getElem?_drop,Nat.mul_comm,Nat.div_add_mod,List.getElem?_eq_getElem hq]
    obtain⟨v1,w1,hrun,h2,hg,_,hat⟩:=run_append_own_at (P:=P) W base t o.type e i0 z d.sz bytes ht hi hz0 hz1 hz2 hz hs0 v xs.length inner hown ad m c news (by rw[hnM.1,hm]) hnc hone (by simp only[maxLen];omega) hl hbase;have hat':v1.ownBlock=v.ownBlock∨∃ b,v1.ownBlock=some b∧W.heap.size≤b:=by
      rcases hat with hat|hat
      · exact .inl hat
      exact .inr ⟨_,hat,Nat.le_refl _⟩
    have hne:∀ k,some k≠v.ownBlock→k<W.heap.size→some k≠v1.ownBlock:=by
      intro k hk hlt;rcases hat' with hat|⟨b,hb,hle⟩
      · rw[hat];exact hk
      rw[hb];intro he;injection he with he
      omega
    have step:∀ {q:α} {c:List Value} {o:Nat→Prop},d.M W base o q c→(∀ k,o k→ok k∧some k≠v.ownBlock)→d.M w1 base (fun k=>ok k∧some k≠v1.ownBlock) q c:=by
      intro q c o hq ho;have h1:=d.M_move (w1:=w1) (fun k hk=>hg.block k hk.2.2.1 (ho k hk.1).2) (d.M_bound hq);exact d.M_mono (fun k hk=>⟨(ho k hk.1).1,hne k (ho k hk.1).2 hk.2.2.1⟩) h1
    refine⟨v1,w1,hrun,⟨fun k hk=>?_,inner++news,by rw[List.length_append,hm];exact h2,zef (hr.imp_ (fun _ _ hq=>step hq (fun _ hk=>hk))) (hnM.imp_ (fun _ _ hq=>step hq hokp))⟩,hg,hat'⟩;rcases hat' with hat|⟨b,hb,hle⟩
    · exact hok k (hat ▸ hk)
    rw[hb] at hk;injection hk with hk
    exact hfresh k (by omega)
  obtain⟨v1,w1,hr1,h1,hg,hat⟩:=hrun;rw[if_pos hw];unfold Oper.wp execOp;simp only[ho,resolve,invoke,builtin,Sem.run_bind,Sem.run_pure,Result.andThen_ok,List.map_toArray,List.map_cons,List.map_nil,hs,hx,hr1]
  exact h v1 w1 h1 (HB.grown hg hbase (zcE hown)) hg hat
end Kd
end
section
variable {P:Program} {tmps:Array Value} {w:World}
end
namespace Kd
section
variable {P:Program} {α:Type}
end
section
variable {P:Program} {ops:Array Oper} {rest:List Oper} {o:Oper} {a:Act} {Q:Exit→Act→World→Prop} {Kc:Act→World→Prop} {α:Type}
end
end Kd
end Go.Proofs.YtcmgdjnjmobkoaaGreatDoorW.PrintWords
end
section
namespace Go.Proofs.YtcmgdjnjmobkoaaGreatDoorW.PrintLast
section
variable {P:Program} {ops:Array Oper} {Q:Exit→Act→World→Prop} {md:Region.Mode} {S:World→Prop} {ds:List Nat}
def Region.reachB (md:Region.Mode) (ops:Array Oper) (i:Nat):Nat→Nat→Bool
 | 0,_=>false
 | fuel+1,d=>match ops[d]? with
  | some o=>o.after.any fun e=>Region.binds md e&&(e.on==i||Region.reachB md ops i fuel e.on)
  | none=>false
def Region.closedB (md:Region.Mode) (ops:Array Oper) (listed:Array Bool):Bool:=
 (List.range ops.size).all fun j=>!listed.getD j false||match ops[j]? with
  | some o=>o.after.all fun e=>!Region.binds md e||listed.getD e.on false
  | none=>true
def Region.lastB (md:Region.Mode) (ops:Array Oper) (listed:Array Bool) (ds:List Nat) (i:Nat):Bool:=
 ds.all fun d=>listed.getD d true||Region.reachB md ops i ops.size d
def zaO (md:Region.Mode) (ops:Array Oper) (listed:Array Bool):Prop:=
 ∀ j oj,ops[j]?=some oj→listed.getD j false=true→∀ e∈oj.after,Region.binds md e=true→listed.getD e.on false=true
theorem Region.closedB_spec {listed:Array Bool} (h:Region.closedB md ops listed=true):zaO md ops listed:=by
 intro j oj hj hl e he hb;have hlt:j<ops.size:=(Array.getElem?_eq_some_iff.1 hj).1;have h1:=List.all_eq_true.1 h j (List.mem_range.2 hlt);simp only[hl,hj,Bool.not_true,Bool.false_or] at h1
 have h2:=Array.all_eq_true_iff_forall_mem.1 h1 e he;simpa [hb] using h2
theorem zaO.set {listed:Array Bool} {i:Nat} (h:zaO md ops listed) (hi:i∈Region.ready md ops listed):zaO md ops (listed.setIfInBounds i true):=by
 obtain⟨_,oi,hoi,hall⟩:=mem_ready.1 hi;intro j oj hj hl e he hb;by_cases hij:i=j
 ·subst hij
  have:oj=oi:=Option.some.inj (hj.symm.trans hoi)
  subst this;exact getD_set_true (hall e he hb)
 rw[getD_set_ne false hij] at hl;exact getD_set_true (h j oj hj hl e he hb)
theorem Region.reach_listed {listed:Array Bool} {i:Nat} (hc:zaO md ops listed):∀ (fuel d:Nat),Region.reachB md ops i fuel d=true→listed.getD d false=true→listed.getD i false=true
 | 0,_,h,_=>by simp[Region.reachB] at h
 | fuel+1,d,h,hl=>by
  unfold Region.reachB at h
  cases ho:ops[d]? with
  | none=>rw[ho] at h;simp at h
  | some o =>
   rw[ho] at h;obtain⟨e,he,h1⟩:=Array.any_eq_true'.1 h;simp only[Bool.and_eq_true,Bool.or_eq_true,beq_iff_eq] at h1
   have hle:=hc d o ho hl e he h1.1;rcases h1.2 with h2|h2
   ·rw[←h2];exact hle
   exact Region.reach_listed hc fuel e.on h2 hle
theorem Region.reach_not_ready {listed:Array Bool} {i d fuel:Nat} (hc:zaO md ops listed) (hr:Region.reachB md ops i fuel d=true) (hun:listed.getD i true=false):d ∉ Region.ready md ops listed:=by
 intro hd;obtain⟨_,o,ho,hall⟩:=mem_ready.1 hd;have hi:listed.getD i false=true:=by
  cases fuel with
  | zero=>simp[Region.reachB] at hr
  | succ n =>
   unfold Region.reachB at hr;rw[ho] at hr;obtain⟨e,he,h1⟩:=Array.any_eq_true'.1 hr;simp only[Bool.and_eq_true,Bool.or_eq_true,beq_iff_eq] at h1
   have hle:=hall e he h1.1;rcases h1.2 with h2|h2
   ·rw[←h2];exact hle
   exact Region.reach_listed hc n e.on h2 hle
 rcases Nat.lt_or_ge i listed.size with h'|h'
 ·simp[h'] at hun hi
  rw[hun] at hi;cases hi
 simp[Array.getElem?_eq_none h'] at hun
def jB (P:Program) (md:Region.Mode) (ops:Array Oper) (Q:Exit→Act→World→Prop) (S:World→Prop) (ds:List Nat):Nat→Array Bool→Act→World→Prop
 | 0,listed,a,w=>Region.ready md ops listed=[]∧Q .normal a w
 | fuel+1,listed,a,w =>
  (Region.ready md ops listed=[]→Q .normal a w) ∧
  ∀ i∈Region.ready md ops listed,wpOp P ops Q i (fun a' w'=>(i ∉ ds→S w→S w')∧jB P md ops Q S ds fuel (listed.setIfInBounds i true) a' w') a w
theorem zeQ:∀ (fuel:Nat) (listed:Array Bool) (a:Act) (w:World),jB P md ops Q S ds fuel listed a w→wpAny P md ops Q fuel listed a w
 | 0,_,_,_,h=>h
 | fuel+1,_,_,_,h=>⟨h.1,fun i hi=>wpOp_mono (fun a' w' h'=>zeQ fuel _ a' w' h'.2) (h.2 i hi)⟩
theorem zgY {i:Nat} {oi:Oper} {v:Value} (hi:ops[i]?=some oi) (hsel:∀ (j:Nat) (o:Oper) cs b,ops[j]?=some o→o.op≠.select cs b)
  (hQ:∀ c a w,Q (.panic c) (a.put oi.dst v) w→Q (.panic c) a w) (n:Nat) :
  ∀ (fuel:Nat) (listed:Array Bool) (a:Act) (w:World),
   (∀ j oj,ops[j]?=some oj→j≠i→listed.getD j true=false→(∀ e∈oj.after,Region.binds md e=true→e.on≠i)→oi.apart ops oj=true) →
   zaO md ops listed→(∀ d∈ds,listed.getD d true=false→Region.reachB md ops i n d=true) →
   i∈Region.ready md ops listed→YieldsIf P ops S oi v a→S w →
   jB P md ops Q S ds fuel (listed.setIfInBounds i true) (a.put oi.dst v) w→jB P md ops Q S ds (fuel+1) listed a w:=by
 intro fuel
 induction fuel with
 | zero =>
  intro listed a w _ _ _ hr hy hS H;refine⟨fun h=>(by rw[h] at hr;cases hr),fun j hj=>?_⟩;by_cases hji:j=i
  ·subst hji;exact hy.wpOp hi hS ⟨fun _ h=>h,H⟩
  have:=ready_mono hj hji
  rw[H.1] at this
  cases this
 | succ fuel ih =>
  intro listed a w hfree hc hd hr hy hS H;refine⟨fun h=>(by rw[h] at hr;cases hr),fun j hj=>?_⟩;by_cases hji:j=i
  ·subst hji;exact hy.wpOp hi hS ⟨fun _ h=>h,H⟩
  have h1:=H.2 j (ready_mono hj hji);obtain⟨hjun,oj,hoj,hall⟩:=mem_ready.1 hj;have hiun:=(mem_ready.1 hr).1;have hnot:∀ e∈oj.after,Region.binds md e=true→e.on≠i:=fun e he hb heq=>by
   have h1:=hall e he hb;rw[heq] at h1;rcases Nat.lt_or_ge i listed.size with h'|h'
   ·simp[h'] at hiun h1;rw[hiun] at h1;cases h1
   simp[Array.getElem?_eq_none h'] at h1
  have hjd:j ∉ ds:=fun hm=>Region.reach_not_ready hc (hd j hm hjun) hiun hj
  have h2:=wpOp_putIf hoj (hfree j oj hoj hji hjun hnot) (fun cs b=>hsel i oi cs b hi) (fun cs b=>hsel j oj cs b hoj) hQ hy h1
  have hfree':∀ k ok,ops[k]?=some ok→k≠i→(listed.setIfInBounds j true).getD k true=false →
    (∀ e∈ok.after,Region.binds md e=true→e.on≠i)→oi.apart ops ok=true:=fun k ok hk hki hun hno=>by
   refine hfree k ok hk hki ?_ hno;by_cases hjk:j=k
   ·subst hjk;exact hjun
   rw[getD_set_ne true hjk] at hun;exact hun
  have hd':∀ d∈ds,(listed.setIfInBounds j true).getD d true=false→Region.reachB md ops i n d=true:=fun d hm hun=>by
   refine hd d hm ?_;by_cases hjk:j=d
   ·subst hjk;exact hjun
   rw[getD_set_ne true hjk] at hun;exact hun
  refine wpOp_mono (fun a' w' h3=>⟨h3.2.1,ih (listed.setIfInBounds j true) a' w' hfree' (hc.set hj) hd' (ready_mono hr (Ne.symm hji)) h3.1 (h3.2.1 hjd hS) ?_⟩) h2;rw[Array.setIfInBounds_comm _ _ hji];exact h3.2.2
theorem ziz {i:Nat} {oi:Oper} {v:Value} (hi:ops[i]?=some oi) (hsel:∀ (j:Nat) (o:Oper) cs b,ops[j]?=some o→o.op≠.select cs b)
  (hQ:∀ c a w,Q (.panic c) (a.put oi.dst v) w→Q (.panic c) a w) :
  ∀ (fuel:Nat) (listed:Array Bool) (a:Act) (w:World),
   (∀ j oj,ops[j]?=some oj→j≠i→listed.getD j true=false→(∀ e∈oj.after,Region.binds md e=true→e.on≠i)→oi.apart ops oj=true) →
   i∈Region.ready md ops listed→Yields P ops oi v a →
   jB P md ops Q S ds fuel (listed.setIfInBounds i true) (a.put oi.dst v) w→jB P md ops Q S ds (fuel+1) listed a w:=by
 intro fuel
 induction fuel with
 | zero =>
  intro listed a w _ hr hy H;refine⟨fun h=>(by rw[h] at hr;cases hr),fun j hj=>?_⟩;by_cases hji:j=i
  ·subst hji;exact (hy.yieldsIf (S:=fun _=>True)).wpOp hi trivial ⟨fun _ h=>h,H⟩
  have:=ready_mono hj hji
  rw[H.1] at this
  cases this
 | succ fuel ih =>
  intro listed a w hfree hr hy H;refine⟨fun h=>(by rw[h] at hr;cases hr),fun j hj=>?_⟩;by_cases hji:j=i
  ·subst hji;exact (hy.yieldsIf (S:=fun _=>True)).wpOp hi trivial ⟨fun _ h=>h,H⟩
  have h1:=H.2 j (ready_mono hj hji);obtain⟨hjun,oj,hoj,hall⟩:=mem_ready.1 hj;have hiun:=(mem_ready.1 hr).1;have hnot:∀ e∈oj.after,Region.binds md e=true→e.on≠i:=fun e he hb heq=>by
   have h1:=hall e he hb;rw[heq] at h1;rcases Nat.lt_or_ge i listed.size with h'|h'
   ·simp[h'] at hiun h1;rw[hiun] at h1;cases h1
   simp[Array.getElem?_eq_none h'] at h1
  have h2:=wpOp_put hoj (hfree j oj hoj hji hjun hnot) (fun cs b=>hsel i oi cs b hi) (fun cs b=>hsel j oj cs b hoj) hQ hy h1
  have hfree':∀ k ok,ops[k]?=some ok→k≠i→(listed.setIfInBounds j true).getD k true=false →
    (∀ e∈ok.after,Region.binds md e=true→e.on≠i)→oi.apart ops ok=true:=fun k ok hk hki hun hno=>by
   refine hfree k ok hk hki ?_ hno;by_cases hjk:j=k
   ·subst hjk;exact hjun
   rw[getD_set_ne true hjk] at hun;exact hun
  refine wpOp_mono (fun a' w' h3=>⟨h3.2.1,ih (listed.setIfInBounds j true) a' w' hfree' (ready_mono hr (Ne.symm hji)) h3.1 ?_⟩) h2;rw[Array.setIfInBounds_comm _ _ hji];exact h3.2.2
theorem zhz {i:Nat} {oi:Oper} {v:Value} {fuel:Nat} {listed:Array Bool} {a:Act} {w:World} (hi:ops[i]?=some oi)
  (hs:Region.noSelect ops=true) (hf:Region.free md ops listed i=true) (hr:(Region.ready md ops listed).contains i=true)
  (hc:Region.closedB md ops listed=true) (hl:Region.lastB md ops listed ds i=true)
  (hQ:∀ c a w,Q (.panic c) (a.put oi.dst v) w→Q (.panic c) a w) (hy:YieldsIf P ops S oi v a) (hS:S w)
  (h:jB P md ops Q S ds fuel (listed.setIfInBounds i true) (a.put oi.dst v) w):jB P md ops Q S ds (fuel+1) listed a w:=
 zgY hi (Region.noSelect_spec hs) hQ ops.size fuel listed a w (Region.free_spec hi hf) (Region.closedB_spec hc)
  (fun d hm hun=>by have:=List.all_eq_true.1 hl d hm;rw[hun] at this;simpa using this) (by simpa using hr) hy hS h
theorem ziA {rs:List Nat} {fuel:Nat} {listed:Array Bool} {a:Act} {w:World} (hr:Region.ready md ops listed=rs) (hne:rs≠[])
  (h:∀ i∈rs,wpOp P ops Q i (fun a' w'=>(i ∉ ds→S w→S w')∧jB P md ops Q S ds fuel (listed.setIfInBounds i true) a' w') a w):jB P md ops Q S ds (fuel+1) listed a w:=
 ⟨fun h0=>absurd (hr ▸ h0) hne,hr ▸ h⟩
theorem zhv {listed:Array Bool} {a:Act} {w:World} (hr:Region.ready md ops listed=[]) (h:Q .normal a w) :
  ∀ fuel,jB P md ops Q S ds fuel listed a w
 | 0=>⟨hr,h⟩
 | _+1=>⟨fun _=>h,by rw[hr];simp⟩
theorem zhK {id:Nat} {a:Act} {w:World} (hm:P.follows .mixedOrders=true)
  (h:jB P .any ops Q S ds ops.size (Array.replicate ops.size false) a { w with drawn:=w.drawn+1 }):(Code.region id ops true).wp P Q a w:=
 wp_region_any hm (zeQ _ _ _ _ h)
end
section
variable {P:Program} {ops:Array Oper} {Q:Exit→Act→World→Prop} {md:Region.Mode} {S:World→Prop} {ds:List Nat}
def uG (P:Program) (md:Region.Mode) (ops:Array Oper) (Q:Exit→Act→World→Prop) (S:World→Prop) (ds:List Nat) (fuel:Nat) (listed:Array Bool) (a:Act) (w:World) (rs:List Nat):Prop:=
 ∀ i∈rs,wpOp P ops Q i (fun a' w'=>(i ∉ ds→S w→S w')∧jB P md ops Q S ds fuel (listed.setIfInBounds i true) a' w') a w
theorem uG.nil {fuel:Nat} {listed:Array Bool} {a:Act} {w:World}:uG P md ops Q S ds fuel listed a w []:=fun _ h=>by cases h
theorem uG.cons {fuel:Nat} {listed:Array Bool} {a:Act} {w:World} {i:Nat} {o:Oper} {rs:List Nat} (ho:ops[i]?=some o) (hd:i ∉ ds)
  (h:∀ K':Act→World→Prop,Shut (∀ a w,S w→(S w→jB P md ops Q S ds fuel (listed.setIfInBounds i true) a w)→K' a w)→if Region.wanted o (yielded ops a.tmps)=true then Oper.wp P o a w K' Q else K' (a.put o.dst undef) w)
  (hs:uG P md ops Q S ds fuel listed a w rs):uG P md ops Q S ds fuel listed a w (i :: rs):=fun j hj=>by
 rcases List.mem_cons.1 hj with rfl|hj
 ·exact wpOp_step ho (fun K' hK=>h K' (fun a w hS hW=>hK a w ⟨fun _ _=>hS,hW hS⟩))
 exact hs j hj
theorem uG.cons_last {fuel:Nat} {listed:Array Bool} {a:Act} {w:World} {i:Nat} {o:Oper} {rs:List Nat} (ho:ops[i]?=some o) (hd:i∈ds)
  (h:∀ K':Act→World→Prop,Shut (∀ a w,jB P md ops Q S ds fuel (listed.setIfInBounds i true) a w→K' a w)→if Region.wanted o (yielded ops a.tmps)=true then Oper.wp P o a w K' Q else K' (a.put o.dst undef) w)
  (hs:uG P md ops Q S ds fuel listed a w rs):uG P md ops Q S ds fuel listed a w (i :: rs):=fun j hj=>by
 rcases List.mem_cons.1 hj with rfl|hj
 ·exact wpOp_step ho (fun K' hK=>h K' (fun a w hW=>hK a w ⟨fun hn=>absurd hd hn,hW⟩))
 exact hs j hj
theorem zbG {rs:List Nat} {fuel:Nat} {listed:Array Bool} {a:Act} {w:World} (hr:Region.ready md ops listed=rs) (hne:rs≠[])
  (h:uG P md ops Q S ds fuel listed a w rs):jB P md ops Q S ds (fuel+1) listed a w:=ziA hr hne h
theorem yI {id n:Nat} {a:Act} {w:World} (l:Array Bool) (hm:P.follows .mixedOrders=true) (hn:ops.size=n) (hl:Array.replicate n false=l) (hS:S w.drew)
  (h:S w.drew→jB P .any ops Q S ds n l a w.drew):(Code.region id ops true).wp P Q a w:=by
 subst hn;subst hl;exact zhK hm (h hS)
def zdF (md:Region.Mode) (ops:Array Oper) (ds:List Nat) (l l':Array Bool) (i:Nat):Bool:=
 Region.noSelect ops&&Region.free md ops l i&&(Region.ready md ops l).contains i&&Region.closedB md ops l&&Region.lastB md ops l ds i&&(l.setIfInBounds i true==l')
theorem take_ {i:Nat} {N:Option Tmp} {oi:Oper} {v:Value} {fuel:Nat} {l:Array Bool} {a:Act} {w:World} (l':Array Bool) (hi:ops[i]?=some oi) (hN:oi.dst=N) (hc:zdF md ops ds l l' i=true)
  (hQ:∀ c a w,Q (.panic c) (a.put oi.dst v) w→Q (.panic c) a w) (hy:YieldsIf P ops S oi v a) (hS:S w) {a':Act} (ha:a.put N v=a')
  (h:jB P md ops Q S ds fuel l' a' w):jB P md ops Q S ds (fuel+1) l a w:=by
 subst ha;subst hN;simp only[zdF,Bool.and_eq_true,beq_iff_eq] at hc
 obtain⟨⟨⟨⟨⟨h1,h2⟩,h3⟩,h4⟩,h5⟩,h6⟩:=hc;subst h6;exact zhz hi h1 h2 h3 h4 h5 hQ hy hS h
def zhu (md:Region.Mode) (ops:Array Oper) (l l':Array Bool) (i:Nat):Bool:=
 Region.noSelect ops&&Region.free md ops l i&&(Region.ready md ops l).contains i&&(l.setIfInBounds i true==l')
theorem vR {i:Nat} {N:Option Tmp} {oi:Oper} {v:Value} {fuel:Nat} {l:Array Bool} {a:Act} {w:World} (l':Array Bool) (hi:ops[i]?=some oi) (hN:oi.dst=N) (hc:zhu md ops l l' i=true)
  (hQ:∀ c a w,Q (.panic c) (a.put oi.dst v) w→Q (.panic c) a w) (hy:Yields P ops oi v a) {a':Act} (ha:a.put N v=a')
  (h:jB P md ops Q S ds fuel l' a' w):jB P md ops Q S ds (fuel+1) l a w:=by
 subst ha;subst hN;simp only[zhu,Bool.and_eq_true,beq_iff_eq] at hc
 obtain⟨⟨⟨h1,h2⟩,h3⟩,h6⟩:=hc;subst h6;exact ziz hi (Region.noSelect_spec h1) hQ fuel l a w (Region.free_spec hi h2) (by simpa using h3) hy h
def zds (md:Region.Mode) (ops:Array Oper) (l l':Array Bool) (i:Nat):Bool:=(Region.ready md ops l==[i])&&(l.setIfInBounds i true==l')
theorem zbM {i:Nat} {N:Option Tmp} {oi:Oper} {fuel:Nat} {l:Array Bool} {a:Act} {w:World} (l':Array Bool) (hi:ops[i]?=some oi) (hN:oi.dst=N) (hc:zds md ops l l' i=true) (hd:i ∉ ds)
  (h:∀ K:Act→World→Prop,Shut (∀ a' w',S w'→(S w'→jB P md ops Q S ds fuel l' a' w')→K a' w')→if Region.wanted oi (yielded ops a.tmps)=true then Oper.wp P oi a w K Q else K (a.put N undef) w) :
  jB P md ops Q S ds (fuel+1) l a w:=by
 subst hN;simp only[zds,Bool.and_eq_true,beq_iff_eq] at hc
 obtain⟨h1,h2⟩:=hc;subst h2;exact zbG h1 (by simp) (uG.cons hi hd (fun K hK=>h K hK) uG.nil)
theorem zqp {i:Nat} {N:Option Tmp} {oi:Oper} {fuel:Nat} {l:Array Bool} {a:Act} {w:World} (l':Array Bool) (hi:ops[i]?=some oi) (hN:oi.dst=N) (hc:zds md ops l l' i=true) (hd:i∈ds)
  (h:∀ K:Act→World→Prop,Shut (∀ a' w',jB P md ops Q S ds fuel l' a' w'→K a' w')→if Region.wanted oi (yielded ops a.tmps)=true then Oper.wp P oi a w K Q else K (a.put N undef) w) :
  jB P md ops Q S ds (fuel+1) l a w:=by
 subst hN;simp only[zds,Bool.and_eq_true,beq_iff_eq] at hc
 obtain⟨h1,h2⟩:=hc;subst h2;exact zbG h1 (by simp) (uG.cons_last hi hd (fun K hK=>h K hK) uG.nil)
theorem vF {l:Array Bool} {a:Act} {w:World} {n:Nat} (hr:(Region.ready md ops l==[])=true) (h:Q .normal a w):jB P md ops Q S ds n l a w:=zhv (by simpa using hr) h n
theorem zeb {i j:Nat} {Ni Nj:Option Tmp} {oi oj:Oper} {fuel:Nat} {l:Array Bool} {a:Act} {w:World} (li lj:Array Bool) (hi:ops[i]?=some oi) (hj:ops[j]?=some oj) (hNi:oi.dst=Ni) (hNj:oj.dst=Nj)
  (hc:(Region.ready md ops l==[i,j]&&l.setIfInBounds i true==li&&l.setIfInBounds j true==lj)=true) (hdi:i ∉ ds) (hdj:j ∉ ds)
  (h1:∀ K:Act→World→Prop,Shut (∀ a' w',S w'→(S w'→jB P md ops Q S ds fuel li a' w')→K a' w')→if Region.wanted oi (yielded ops a.tmps)=true then Oper.wp P oi a w K Q else K (a.put Ni undef) w)
  (h2:∀ K:Act→World→Prop,Shut (∀ a' w',S w'→(S w'→jB P md ops Q S ds fuel lj a' w')→K a' w')→if Region.wanted oj (yielded ops a.tmps)=true then Oper.wp P oj a w K Q else K (a.put Nj undef) w) :
  jB P md ops Q S ds (fuel+1) l a w:=by
 subst hNi;subst hNj;simp only[Bool.and_eq_true,beq_iff_eq] at hc
 obtain⟨⟨h3,h4⟩,h5⟩:=hc;subst h4;subst h5;exact zbG h3 (by simp) (uG.cons hi hdi (fun K hK=>h1 K hK) (uG.cons hj hdj (fun K hK=>h2 K hK) uG.nil))
theorem zqc {i j k:Nat} {Ni Nj Nk:Option Tmp} {oi oj ok:Oper} {fuel:Nat} {l:Array Bool} {a:Act} {w:World} (li lj lk:Array Bool) (hi:ops[i]?=some oi) (hj:ops[j]?=some oj) (hk:ops[k]?=some ok) (hNi:oi.dst=Ni) (hNj:oj.dst=Nj) (hNk:ok.dst=Nk)
  (hc:(Region.ready md ops l==[i,j,k]&&l.setIfInBounds i true==li&&l.setIfInBounds j true==lj&&l.setIfInBounds k true==lk)=true) (hdi:i ∉ ds) (hdj:j ∉ ds) (hdk:k ∉ ds)
  (h1:∀ K:Act→World→Prop,Shut (∀ a' w',S w'→(S w'→jB P md ops Q S ds fuel li a' w')→K a' w')→if Region.wanted oi (yielded ops a.tmps)=true then Oper.wp P oi a w K Q else K (a.put Ni undef) w)
  (h2:∀ K:Act→World→Prop,Shut (∀ a' w',S w'→(S w'→jB P md ops Q S ds fuel lj a' w')→K a' w')→if Region.wanted oj (yielded ops a.tmps)=true then Oper.wp P oj a w K Q else K (a.put Nj undef) w)
  (h3:∀ K:Act→World→Prop,Shut (∀ a' w',S w'→(S w'→jB P md ops Q S ds fuel lk a' w')→K a' w')→if Region.wanted ok (yielded ops a.tmps)=true then Oper.wp P ok a w K Q else K (a.put Nk undef) w) :
  jB P md ops Q S ds (fuel+1) l a w:=by
 subst hNi;subst hNj;subst hNk;simp only[Bool.and_eq_true,beq_iff_eq] at hc
 obtain⟨⟨⟨h4,h5⟩,h6⟩,h7⟩:=hc;subst h5;subst h6;subst h7;exact zbG h4 (by simp) (uG.cons hi hdi (fun K hK=>h1 K hK) (uG.cons hj hdj (fun K hK=>h2 K hK) (uG.cons hk hdk (fun K hK=>h3 K hK) uG.nil)))
def zeY:Act→List (Tmp×Value)→Act
 | a,[]=>a
 | a,(n,v) :: r=>zeY (a.put (some n) v) r
theorem zbV {σ:Type} {fuel:Nat} {l:Array Bool} {a:Act} {w:World} (fuel':Nat) (l':Array Bool) (ns:σ→List (Tmp×Value)) (F:σ→World→Prop)
  (hcont:∀ s w',F s w'→jB P md ops Q S ds fuel' l' (zeY a (ns s)) w')
  (h:(∀ s w',F s w'→jB P md ops Q S ds fuel' l' (zeY a (ns s)) w')→jB P md ops Q S ds fuel l a w):jB P md ops Q S ds fuel l a w:=h hcont
theorem zlq {fuel:Nat} {l:Array Bool} {a a':Act} {w:World} (ha:a=a') (h:jB P md ops Q S ds fuel l a' w):jB P md ops Q S ds fuel l a w:=by
 subst ha;exact h
theorem zqw {oi:Oper} {N:Option Tmp} {a:Act} {w:World} {K:Act→World→Prop} (f:FuncId) (args:Array Value) (hw:Region.wanted oi (yielded ops a.tmps)=true) (hN:oi.dst=N) (hrun:(execOp a.eval oi).run P w=.ok (.enter f args) w)
  (h:Calls P f args w fun e w'=>∃ v,e=.returned v∧K (a.put N v) w'):if Region.wanted oi (yielded ops a.tmps)=true then Oper.wp P oi a w K Q else K (a.put N undef) w:=by
 rw[if_pos hw];subst hN;unfold Oper.wp;rw[hrun,Oper.upon_enter];refine h.mono fun e w'' hh=>?_
 obtain⟨v,rfl,hk⟩:=hh;exact hk
theorem zkA {f:FuncId} {fn:Func} (hf:P.funcs[f]?=some fn) (hname:(fn.name== "runtime.NumGoroutine")=false) (hb:fn.body.isSome=true) (args:Array Value) (w:World):(callFunc f args).run P w=.ok (.enter f args) w:=by
 have h1:fn.name≠ "runtime.NumGoroutine":=by simpa using hname
 obtain⟨c,hc⟩:=Option.isSome_iff_exists.1 hb;simp[callFunc,hf,h1,hc]
theorem zqo {oi:Oper} {N:Option Tmp} {a:Act} {w:World} {K:Act→World→Prop} {f:FuncId} {fn:Func} {as_:Array Operand} {ts:Array TypeId} (hf:P.funcs[f]?=some fn) (hname:(fn.name== "runtime.NumGoroutine")=false) (hb:fn.body.isSome=true) (args:Array Value)
  (hw:Region.wanted oi (yielded ops a.tmps)=true) (hN:oi.dst=N) (hop:oi.op=.call { callee:=.value (.func f),args:=as_,argTypes:=ts }) (hargs:as_.map a.eval=args)
  (h:Calls P f args w fun e w'=>∃ v,e=.returned v∧K (a.put N v) w'):if Region.wanted oi (yielded ops a.tmps)=true then Oper.wp P oi a w K Q else K (a.put N undef) w:=by
 refine zqw f args hw hN ?_ h;have he:=zkA hf hname hb args w;unfold execOp;simp[hop,resolve,Deferred.ofValue,invoke,Act.eval,hargs,he]
theorem zT {rest:List Oper} {oi:Oper} {a:Act} {w:World} (N:Option Tmp) (hd:oi.dst=N) (hg:oi.guard=none) {f:FuncId} {fn:Func} {as_:Array Operand} {ts:Array TypeId} (hf:P.funcs[f]?=some fn) (hname:(fn.name== "runtime.NumGoroutine")=false) (hb:fn.body.isSome=true) (args:Array Value)
  (hop:oi.op=.call { callee:=.value (.func f),args:=as_,argTypes:=ts }) (hargs:as_.map a.eval=args)
  (h:Calls P f args w fun e w'=>∃ v,e=.returned v∧wpList P ops Q rest (a.put N v) w'):wpList P ops Q (oi :: rest) a w:=by
 refine wpList_plain hg fun K hK=>?_
 have he:=zkA hf hname hb args w;have hrun:(execOp a.eval oi).run P w=.ok (.enter f args) w:=by
  unfold execOp;simp[hop,resolve,Deferred.ofValue,invoke,Act.eval,hargs,he]
 unfold Oper.wp;rw[hrun,Oper.upon_enter];refine h.mono fun e w'' hh=>?_
 obtain⟨v,rfl,hk⟩:=hh;subst hd;exact hK _ _ hk
theorem zqj {oi:Oper} {N:Option Tmp} {a:Act} {w w1:World} {v:Value} {K:Act→World→Prop} (hw:Region.wanted oi (yielded ops a.tmps)=true) (hN:oi.dst=N) (hrun:(execOp a.eval oi).run P w=.ok (.value v) w1)
  (h:K (a.put N v) w1):if Region.wanted oi (yielded ops a.tmps)=true then Oper.wp P oi a w K Q else K (a.put N undef) w:=by
 rw[if_pos hw];subst hN;unfold Oper.wp;rw[hrun];exact h
theorem zaU {oi:Oper} {a:Act} {w w1:World} {K:Act→World→Prop} (hw:Region.wanted oi (yielded ops a.tmps)=true) (hN:oi.dst=none) (hrun:(execOp a.eval oi).run P w=.ok .skip w1)
  (h:K a w1):if Region.wanted oi (yielded ops a.tmps)=true then Oper.wp P oi a w K Q else K (a.put none undef) w:=by
 rw[if_pos hw];unfold Oper.wp;rw[hrun];show K (a.put oi.dst undef) w1
 rw[hN];exact h
theorem vY (n:Int):IntKind.i64.wrap n=Go.RowKit.wrap64 n:=by unfold Go.RowKit.wrap64;exact IntKind.wrap_i64 n
theorem xD (n:Int):IntKind.i32.wrap n=Go.RowKit.wrap32 n:=by unfold Go.RowKit.wrap32;exact IntKind.wrap_i32 n
end
end Go.Proofs.YtcmgdjnjmobkoaaGreatDoorW.PrintLast
end
section
namespace Go.Proofs.YtcmgdjnjmobkoaaGreatDoorW.PrintWords
open Go.RowKit
namespace Kd
section
variable {α:Type} {d:Kd α} {e base g o n cap:Nat} {ok okp:Nat→Prop} {w W:World} {v:Value} {xs:List α}
end
section
variable {α:Type} {enc:α→Value} {h1:∀ x,(enc x).oneCell'=true} {e base g o n cap:Nat} {ok:Nat→Prop} {W:World} {xs:List α}
end
end Kd
end Go.Proofs.YtcmgdjnjmobkoaaGreatDoorW.PrintWords
end
section
namespace Go.Proofs.YtcmgdjnjmobkoaaGreatDoorW.PrintWords
open Go.RowKit
namespace Kd
def tag {α:Type} (f:Nat→Nat) (d:Kd α):Kd (α×Nat) where
 sz:=d.sz
 E:=d.E
 K:=fun w x cs=>d.K w x.1 cs
 M:=fun w base ok x cs=>d.M w base (fun k=>ok k∧f k=x.2) x.1 cs
 K_len:=fun h=>d.K_len h
 K_one:=fun h=>d.K_one h
 K_below:=fun hb h=>d.K_below hb h
 K_of_M:=fun h=>d.K_of_M h
 M_mono:=fun hok h=>d.M_mono (fun k hk=>⟨hok k hk.1,hk.2⟩) h
 M_bound:=fun h=>d.M_mono (fun _ hk=>⟨⟨hk.1.1,hk.2⟩,hk.1.2⟩) (d.M_bound h)
 M_move:=fun hm h=>d.M_move (fun k hk=>hm k hk.1) h
 M_lower:=fun hb h=>d.M_lower hb h
def raw (sz:Nat):Kd (List Value) where
 sz:=sz
 E:=[]
 K:=fun _ x cs=>cs=x∧cs.length=sz∧∀ u∈cs,u.oneCell'=true
 M:=fun _ _ _ x cs=>cs=x∧cs.length=sz∧∀ u∈cs,u.oneCell'=true
 K_len:=fun h=>h.2.1
 K_one:=fun h=>h.2.2
 K_below:=fun _ h=>h
 K_of_M:=fun h=>h
 M_mono:=fun _ h=>h
 M_bound:=fun h=>h
 M_move:=fun _ h=>h
 M_lower:=fun _ h=>h
def S {α:Type} (d:Kd α) (e:Nat) (w:World) (base:Nat) (ok:Nat→Prop) (v:Value) (xs:List α):Prop:=∃ f,(tag f d).R e w base ok v xs.zipIdx
section
variable {α β:Type} {d:Kd α} {d':Kd β} {e e':Nat} {w w1 W:World} {base b:Nat} {ok ok' okv oku:Nat→Prop} {u v:Value} {xs:List α} {ys:List β}
theorem R_tight (hE:d.E=[]) (h:d.R e w base ok v xs):d.R e w base (fun k=>some k=v.ownBlock) v xs:=by
 obtain⟨h0,inner,ho,hr⟩:=h;refine⟨fun k hk=>hk.symm,inner,ho,hr.imp_ (fun p c hp=>d.M_mono (fun k hk=>?_) (d.M_bound hp))⟩;obtain⟨_,_,_,q,hq,_⟩:=hk;rw[hE] at hq;cases hq
theorem S_nil (d:Kd α) (e:Nat) (w:World) (base:Nat) (ok:Nat→Prop):S d e w base ok (.slice none 0 0) []:=⟨fun _=>0,R_nil _ _ _ _ _⟩
end
section
variable {α β:Type} {d:Kd α} {d':Kd β} {e e' g:Nat} {w w1 W:World} {base b:Nat} {ok ok' okv oku:Nat→Prop} {u v:Value} {xs:List α} {ys:List β}
end
section
variable {P:Program} {ops:Array Oper} {rest:List Oper} {o:Oper} {a:Act} {Q:Exit→Act→World→Prop} {Kc:Act→World→Prop} {α:Type}
end
def gap {α:Type} (f:Nat→Nat) (d:Kd α) (i:Nat) (c:List Value):Kd (α×Nat) where
 sz:=d.sz
 E:=d.E
 K:=fun w x cs=>(x.2=i→cs=c∧cs.length=d.sz∧∀ u∈cs,u.oneCell'=true)∧(x.2≠i→d.K w x.1 cs)
 M:=fun w base ok x cs=>(x.2=i→cs=c∧cs.length=d.sz∧∀ u∈cs,u.oneCell'=true)∧(x.2≠i→d.M w base (fun k=>ok k∧f k=x.2) x.1 cs)
 K_len:=fun {w x cs} h=>by
  by_cases hx:x.2=i
  ·exact (h.1 hx).2.1
  exact d.K_len (h.2 hx)
 K_one:=fun {w x cs} h=>by
  by_cases hx:x.2=i
  ·exact (h.1 hx).2.2
  exact d.K_one (h.2 hx)
 K_below:=fun hb h=>⟨h.1,fun hx=>d.K_below hb (h.2 hx)⟩
 K_of_M:=fun h=>⟨h.1,fun hx=>d.K_of_M (h.2 hx)⟩
 M_mono:=fun hok h=>⟨h.1,fun hx=>d.M_mono (fun k hk=>⟨hok k hk.1,hk.2⟩) (h.2 hx)⟩
 M_bound:=fun h=>⟨h.1,fun hx=>d.M_mono (fun _ hk=>⟨⟨hk.1.1,hk.2⟩,hk.1.2⟩) (d.M_bound (h.2 hx))⟩
 M_move:=fun hm h=>⟨h.1,fun hx=>d.M_move (fun k hk=>hm k hk.1) (h.2 hx)⟩
 M_lower:=fun hb h=>⟨h.1,fun hx=>d.M_lower hb (h.2 hx)⟩
def H {α:Type} (d:Kd α) (e:Nat) (w:World) (base:Nat) (ok:Nat→Prop) (v:Value) (xs:List α) (i:Int) (oki:Nat→Prop) (c:List Value):Prop:=
 (∀ k,oki k→ok k)∧∃ f,(gap f d i.toNat c).R e w base (fun k=>ok k∧¬ oki k) v xs.zipIdx
section
variable {α β:Type} {d:Kd α} {e e' g n cap:Nat} {w w1 W:World} {base:Nat} {ok ok' oki okp:Nat→Prop} {u v:Value} {xs:List α} {i:Int} {c:List Value}
end
section
variable {P:Program} {ops:Array Oper} {rest:List Oper} {o:Oper} {a:Act} {Q:Exit→Act→World→Prop} {α:Type}
end
end Kd
end Go.Proofs.YtcmgdjnjmobkoaaGreatDoorW.PrintWords
end
section
namespace Go.Proofs.YtcmgdjnjmobkoaaGreatDoorW.PrintWords
open Go.RowKit
namespace Kd
theorem zns {α:Type} {R:α→List Value→Prop} {size:Nat} {ps:List α} {cs:List Value} (h:jN R size ps cs) (hs0:0<size) (hR:∀ p c,R p c→∀ u∈c,u.oneCell'=true):∀ u∈cs,u.oneCell'=true:=by
 intro u hu;obtain⟨q,hq,rfl⟩:=List.mem_iff_getElem.1 hu;have hql:q / size<ps.length:=by
  rw[Nat.div_lt_iff_lt_mul hs0,←h.1];exact hq
 refine hR _ _ (h.2 (q / size) _ (List.getElem?_eq_getElem hql)) _ ?_;rw[List.mem_iff_getElem?];refine⟨q % size,?_⟩;rw[List.getElem?_take,if_pos (Nat.mod_lt _ hs0),List.getElem?_drop,Nat.mul_comm,Nat.div_add_mod,List.getElem?_eq_getElem hq]
section
variable {α:Type} {n:Nat} {d:Kd α} {hs:0<d.sz} {w:World} {base:Nat} {ok:Nat→Prop} {xs:List α} {cs:List Value}
end
section
variable {α:Type} {n:Nat} {enc:α→Value} {h1:∀ x,(enc x).oneCell'=true} {hs:0<(qR enc h1).sz} {w:World} {base:Nat} {ok:Nat→Prop} {xs:List α} {cs:List Value}
end
end Kd
end Go.Proofs.YtcmgdjnjmobkoaaGreatDoorW.PrintWords
end
section
namespace Go.Proofs.YtcmgdjnjmobkoaaGreatDoorW.PrintWords
open Go.RowKit
section
variable {P:Program}
theorem zgC (w:World) (base:Nat) (t ti ty e:TypeId) (i:TypeInfo) (z:Value) (size bytes:Nat) (ht:P.underlying t=some (.slice e)) {k:IntKind} (hti:P.underlying ti=some (.int k)) (hi:P.info? e=some i) (hz:i.zero=some z)
  (hsize:i.size=size) (hby:i.bytes=bytes) (hzs:z.cells.size=size) (hsz:0<size) (hb0:0<bytes)
  (v:Value) (n:Nat) (xs:List Value) (hown:w.ownsRow base e size v n xs) (kx:IntKind) (m:Nat) (h1:∀ u∈(Builtin.zeroCells z.cells m).toList,u.oneCell'=true)
  (hbytes:(n+m) * bytes≤140737488355328) (hbase:base≤w.heap.size) :
  ∃ v' w',(Builtin.append_ #[t,ti] ty #[v,.int kx m]).run P w=.ok v' w'∧w'.ownsRow base e size v' (n+m) (xs++(Builtin.zeroCells z.cells m).toList)∧w.grownBy w' v.ownBlock ∧
   (v'.ownBlock=v.ownBlock∨v'.ownBlock=some w.heap.size):=by
 subst hsize;subst hby;have hle:n+m≤140737488355328:=Nat.le_trans (Nat.le_mul_of_pos_right _ hb0) hbytes;have h63:n+m≤maxLen:=by simp only[maxLen];omega
 have hw:IntKind.i64.wrap (m:Int)=m:=by rw[IntKind.wrap_i64];omega
 have hw0:IntKind.i64.wrap 0=0:=by rw[IntKind.wrap_i64];rfl
 have hneg:¬ ((m:Int)<0):=by omega
 have hmb:m * i.bytes≤140737488355328:=Nat.le_trans (Nat.mul_le_mul_right _ (Nat.le_add_left m n)) hbytes;have hbig:¬ (281474976710656<(m:Int) * (i.bytes:Int)):=by
  rw[←Int.natCast_mul];omega
 have hsn:i.size≠0:=by omega
 obtain⟨news,hnews⟩:∃ news,news=(Builtin.zeroCells z.cells m).toList:=⟨_,rfl⟩
 rw[←hnews] at h1 ⊢;have hl:news.length=m * i.size:=by rw[hnews,Array.length_toList,size_zeroCells,hzs]
 have hna:Builtin.zeroCells z.cells m=news.toArray:=by rw[hnews]
 have hlen:(xs++news).length=(n+m) * i.size:=by rw[List.length_append,hown.1,hl,Nat.add_mul]
 have hnil:m=0→news=[]:=fun h=>List.eq_nil_of_length_eq_zero (by rw[hl,h,Nat.zero_mul])
 have grown:∀ (old:Nat),old<n+m→∀ (row:Option Nat),
   (w.drew.alloc (.cells (xs.toArray++news.toArray++Builtin.zeroCells z.cells (grownCap w (n+m) old e-(n+m))) e)).ownsRow base e i.size
    (.slice (some ⟨w.heap.size,0,none⟩) (n+m) (grownCap w (n+m) old e)) (n+m) (xs++news) ∧
   w.grownBy (w.drew.alloc (.cells (xs.toArray++news.toArray++Builtin.zeroCells z.cells (grownCap w (n+m) old e-(n+m))) e)) row:=by
  intro old ho row;have hge:=grownCap_ge w (n+m) old e;have hcm:grownCap w (n+m) old e≤maxLen:=grownCap_le_maxLen w (n+m) old e h63;refine⟨⟨hlen,.inr ⟨w.heap.size,_,_,rfl,hbase,heap_alloc_new w.drew _,hge,hcm,?_,?_⟩⟩,⟨rfl,rfl,rfl,by simp,fun k hk _=>heap_alloc_old w.drew _ hk⟩⟩
  ·simp only[Array.size_append,List.size_toArray,size_zeroCells,hzs,hown.1,hl,←Nat.add_mul]
   congr 1
   omega
  simp only[Array.toList_append,List.append_assoc]
  rw[←List.append_assoc,←hlen];exact List.take_left
 have runs:∀ (A:Option Addr) (cap:Nat),cap<n+m→(Builtin.firstCells i.size n (.slice A n cap)).run P w.drew=.ok xs.toArray w.drew→(Builtin.append_ #[t,ti] ty #[.slice A n cap,.int kx m]).run P w =
   .ok (.slice (some ⟨w.heap.size,0,none⟩) (n+m) (grownCap w (n+m) cap e)) (w.drew.alloc (.cells (xs.toArray++news.toArray++Builtin.zeroCells z.cells (grownCap w (n+m) cap e-(n+m))) e)):=by
  intro A cap hcap hfo;have hn:¬ (n+m≤cap):=by omega
  have h63':¬ (9223372036854775807<((n:Int)+(m:Int))):=by omega
  have hfit:=growslice_fits hcap hbytes;have h48':¬ (281474976710656<Builtin.nextslicecap (n+m) cap * i.bytes):=by omega
  by_cases hm:m=0
  ·have hnl:=hnil hm
   subst hm;rw[hnl];simp only[Nat.add_zero] at hn h63' h48' ⊢
   have h63'':¬ (9223372036854775807<(n:Int)):=by omega
   simp[Builtin.append_,run_underlying ht,run_underlying hti,sizeOf,typeInfo,zeroValue,hi,hz,asInt,asIntOf,hw0,hn,h63'',h48',Question.forced,hfo,newRow,grownCap]
  have hmz:¬ (m * i.size=0):=Nat.mul_ne_zero hm hsn;simp[Builtin.append_,run_underlying ht,run_underlying hti,sizeOf,typeInfo,zeroValue,hi,hz,asInt,asIntOf,hw,hneg,hbig,hn,h63',h48',Question.forced,hfo,newRow,grownCap,hmz,hna]
  congr 2
  apply Array.ext'
  simp[List.append_assoc]
 rcases hown.2 with ⟨rfl,rfl⟩|⟨g,cap,cur,rfl,hbg,hg,hnc,hcm,hcs,htake⟩
 ·have hx:xs=[]:=List.eq_nil_of_length_eq_zero (by simpa using hown.1)
  subst hx;by_cases hm:m=0
  ·have hnl:=hnil hm
   subst hm;rw[hnl];refine⟨.slice none 0 0,w,?_,World.ownsRow_nil w base e i.size,⟨rfl,rfl,rfl,Nat.le_refl _,fun _ _ _=>rfl⟩,Or.inl rfl⟩;simp[Builtin.append_,run_underlying ht,run_underlying hti,sizeOf,typeInfo,hi,asInt,asIntOf,hw0]
  have hgr:=grown 0 (by omega) (Value.ownBlock (.slice none 0 0));exact⟨_,_,runs none 0 (by omega) (by simp[Builtin.firstCells]),hgr.1,hgr.2,Or.inr rfl⟩
 by_cases hroom:n+m≤cap
 ·have hfit:n * i.size+news.length≤cur.size:=by rw[hl,hcs,←Nat.add_mul];exact Nat.mul_le_mul_right _ hroom
  obtain⟨cur',h3,h4,h5⟩:=zcB news (n * i.size) w cur hg hfit;obtain⟨s1,s2,s3,s4⟩:=zcg g news (n * i.size) w;have hst:=run_storeCells_cells (P:=P) g (n * i.size) news 0 w (fun j hj=>by rw[cell_of_row w g _ cur e (0,0) hg];simp;omega) (fun j _=>zM hg _) h1;simp only[Nat.add_zero] at hst
  refine⟨.slice (some ⟨g,0,none⟩) (n+m) cap,w.setCells g (n * i.size) news,?_,⟨hlen,.inr ⟨g,cap,cur',rfl,hbg,h3,hroom,hcm,by rw[h4,hcs],?_⟩⟩,⟨s1,s2,s3,by rw[s4];exact Nat.le_refl _,fun k _ hk=>zbL news _ k (fun e=>hk (by simp[Value.ownBlock,e]))⟩,Or.inl rfl⟩
  ·by_cases hm:m=0
   ·have hnl:=hnil hm
    subst hm;rw[hnl] at hst ⊢;simp[Builtin.append_,run_underlying ht,run_underlying hti,sizeOf,typeInfo,hi,asInt,asIntOf,hw0,hnc,zcv,hst]
   have hmz:¬ (m * i.size=0):=Nat.mul_ne_zero hm hsn;simp[Builtin.append_,run_underlying ht,run_underlying hti,sizeOf,typeInfo,zeroValue,hi,hz,asInt,asIntOf,hw,hneg,hbig,hroom,hmz,hna,zcv,hst]
  rw[h5];have h6:cur.toList.take (n * i.size)=xs:=htake;rw[h6,←hlen];exact List.take_left
 have holds:∀ j u,xs[j]?=some u→w.cell? ((⟨g,0,none⟩:Addr).add j)=some u:=hown.cells (g:=g) rfl
 have hgr:=grown cap (by omega) (Value.ownBlock (.slice (some ⟨g,0,none⟩) n cap));exact⟨_,_,runs (some ⟨g,0,none⟩) cap (by omega) (run_firstCells_some (P:=P) w.drew i.size n _ n cap xs hown.1 (by simpa using holds)),hgr.1,hgr.2,Or.inr rfl⟩
end
namespace Kd
theorem zlA {α:Type} {R:α→List Value→Prop} {z:Value} {size:Nat} {z0:α} (hz:z.cells.size=size) (hs:0<size) (h0:R z0 z.cells.toList) (m:Nat):jN R size (List.replicate m z0) (Builtin.zeroCells z.cells m).toList:=by
 have h:=reps_made hz hs h0 m;rw[show Builtin.zeroCells z.cells m=madeCells z.cells (m * size) by unfold Builtin.zeroCells madeCells;rw[hz]];exact h
section
variable {P:Program} {ops:Array Oper} {rest:List Oper} {o:Oper} {a:Act} {Q:Exit→Act→World→Prop} {Kc:Act→World→Prop} {α:Type}
theorem zkj (d:Kd α) {W:World} (base:Nat) (t ti ty e:TypeId) (z:Value) (bytes:Nat) (ht:P.underlying t=some (.slice e)) {k:IntKind} (hti:P.underlying ti=some (.int k)) (hinfo:(P.info? e).map (fun i=>(i.zero,i.size,i.bytes))=some (some z,d.sz,bytes)) (hz:z.cells.size=d.sz) (hs0:0<d.sz) (hb0:0<bytes)
  (v:Value) (xs:List α) (z0:α) {ok:Nat→Prop} (hzero:d.M W base (fun _=>False) z0 z.cells.toList) (hfresh:∀ k,W.heap.size≤k→ok k) (HO:d.R e W base ok v xs) (kx:IntKind) (n:Int) (h0:0≤n) (hl:(xs.length+n.toNat) * bytes≤140737488355328) (hbase:base≤W.heap.size) :
  ∃ v1 w1,(Builtin.append_ #[t,ti] ty #[v,.int kx n]).run P W=.ok v1 w1∧d.R e w1 base ok v1 (xs++List.replicate n.toNat z0)∧W.grownBy w1 v.ownBlock∧(v1.ownBlock=v.ownBlock∨∃ b,v1.ownBlock=some b∧W.heap.size≤b):=by
 obtain⟨m,rfl⟩:=Int.eq_ofNat_of_zero_le h0;simp only[Int.toNat_natCast] at hl ⊢
 obtain⟨i0,hi,hzz⟩:=Option.map_eq_some_iff.1 hinfo;simp only[Prod.mk.injEq] at hzz
 obtain⟨hz0,hz1,hz2⟩:=hzz;obtain⟨hok,inner,hown,hr⟩:=HO;have hnM:jN (d.M W base (fun _=>False)) d.sz (List.replicate m z0) (Builtin.zeroCells z.cells m).toList:=zlA hz hs0 hzero m;obtain⟨v1,w1,hrun,h2,hg,hat⟩:=zgC (P:=P) W base t ti ty e i0 z d.sz bytes ht hti hi hz0 hz1 hz2 hz hs0 hb0 v xs.length inner hown kx m (zns hnM hs0 (fun _ _ hp=>d.K_one (d.K_of_M hp))) hl hbase;have hat':v1.ownBlock=v.ownBlock∨∃ b,v1.ownBlock=some b∧W.heap.size≤b:=by
  rcases hat with hat|hat
  ·exact .inl hat
  exact .inr ⟨_,hat,Nat.le_refl _⟩
 have hne:∀ k,some k≠v.ownBlock→k<W.heap.size→some k≠v1.ownBlock:=by
  intro k hk hlt;rcases hat' with hat|⟨b,hb,hle⟩
  ·rw[hat];exact hk
  rw[hb];intro he;injection he with he
  omega
 have step:∀ {q:α} {c:List Value} {o:Nat→Prop},d.M W base o q c→(∀ k,o k→ok k∧some k≠v.ownBlock)→d.M w1 base (fun k=>ok k∧some k≠v1.ownBlock) q c:=by
  intro q c o hq ho;have h1:=d.M_move (w1:=w1) (fun k hk=>hg.block k hk.2.2.1 (ho k hk.1).2) (d.M_bound hq);exact d.M_mono (fun k hk=>⟨(ho k hk.1).1,hne k (ho k hk.1).2 hk.2.2.1⟩) h1
 refine⟨v1,w1,hrun,⟨fun k hk=>?_,inner++(Builtin.zeroCells z.cells m).toList,by rw[List.length_append,List.length_replicate];exact h2,zef (hr.imp_ (fun _ _ hq=>step hq (fun _ hk=>hk))) (hnM.imp_ (fun _ _ hq=>step hq (fun _ hk=>hk.elim)))⟩,hg,hat'⟩;rcases hat' with hat|⟨b,hb,hle⟩
 ·exact hok k (hat ▸ hk)
 rw[hb] at hk;injection hk with hk
 exact hfresh k (by omega)
theorem R_append_zeros (d:Kd α) {w0 W:World} (base:Nat) (hgd:o.guard=none) (s x:Operand) (t ti e:TypeId) (z:Value) (bytes:Nat)
  (ho:o.op=.call { callee:=.builtin .append,args:=#[s,x],argTypes:=#[t,ti] })
  (ht:P.underlying t=some (.slice e)) {k:IntKind} (hti:P.underlying ti=some (.int k)) (hinfo:(P.info? e).map (fun i=>(i.zero,i.size,i.bytes))=some (some z,d.sz,bytes)) (hz:z.cells.size=d.sz) (hs0:0<d.sz) (hb0:0<bytes)
  (v:Value) (xs:List α) (z0:α) {kx:IntKind} (n:Int) (ok:Nat→Prop) (hs:a.eval s=v) (hx:a.eval x=.int kx n) (hzero:d.M W base (fun _=>False) z0 z.cells.toList) (hfresh:∀ k,W.heap.size≤k→ok k)
  (HO:d.R e W base ok v xs) (h0:0≤n) (HB:Below base w0 W) (hbase:base≤W.heap.size) (hl:(xs.length+n.toNat) * bytes≤140737488355328)
  (h:∀ v1 w1,d.R e w1 base ok v1 (xs++List.replicate n.toNat z0)→Below base w0 w1→W.grownBy w1 v.ownBlock→(v1.ownBlock=v.ownBlock∨∃ b,v1.ownBlock=some b∧W.heap.size≤b)→wpList P ops Q rest (a.put o.dst v1) w1) :
  wpList P ops Q (o :: rest) a W:=by
 obtain⟨v1,w1,hr1,h1,hg,hat⟩:=zkj (P:=P) d base t ti o.type e z bytes ht hti hinfo hz hs0 hb0 v xs z0 hzero hfresh HO kx n h0 hl hbase;refine wpList_plain hgd fun K hK=>?_
 unfold Oper.wp execOp;simp only[ho,resolve,invoke,builtin,Sem.run_bind,Sem.run_pure,Result.andThen_ok,List.map_toArray,List.map_cons,List.map_nil,hs,hx,hr1]
 exact hK _ _ (h v1 w1 h1 (HB.grown hg hbase (R_base HO)) hg hat)
end
section
variable {α:Type} {d:Kd α} {e:Nat} {w:World} {base:Nat} {ok:Nat→Prop} {v:Value} {xs:List α}
end
section
variable {P:Program} {ops:Array Oper} {rest:List Oper} {o:Oper} {a:Act} {Q:Exit→Act→World→Prop} {Kc:Act→World→Prop} {α:Type}
end
end Kd
end Go.Proofs.YtcmgdjnjmobkoaaGreatDoorW.PrintWords
end
section
namespace Go.Proofs.YtcmgdjnjmobkoaaGreatDoorW.PrintWords
open Go.RowKit
namespace Kd
structure zlf {α:Type} (d:Kd α):Prop where
 K:∀ {w w1:World} {x:α} {cs:List Value},(∀ k,k<w.heap.size→w1.heap[k]?=w.heap[k]?)→d.K w x cs→d.K w1 x cs
theorem zmB {w w1:World} (hb:∀ k,k<w.heap.size→w1.heap[k]?=w.heap[k]?) {a:Addr} {v:Value} (h:w.cell? a=some v):w1.cell? a=some v:=by
 have:=hb a.block (World.block_lt_of_cell? w a h)
 simpa [World.cell?,this] using h
theorem zlf.C {α:Type} {d:Kd α} (hd:zlf d) {w w1:World} {A:Option Addr} {n:Nat} {xs:List α} (hb:∀ k,k<w.heap.size→w1.heap[k]?=w.heap[k]?) (h:d.C w A n xs):d.C w1 A n xs:=
 ⟨h.1,h.2.1,fun hn=>by
  obtain⟨ad,e,hc⟩:=h.2.2 hn;refine⟨ad,e,fun j p hj=>?_⟩;obtain⟨c,hs,hr,hcell⟩:=hc j p hj;exact⟨c,hs,hd.K hb hr,fun i u hu=>zmB hb (hcell i u hu)⟩⟩
theorem heap_int (k:IntKind):zlf (Kd.int k):=⟨fun _ h=>h⟩
section
variable {α:Type} {d:Kd α} {e base g n c:Nat} {ok:Nat→Prop} {w w0 W:World} {A:Option Addr} {xs:List α}
end
end Kd
end Go.Proofs.YtcmgdjnjmobkoaaGreatDoorW.PrintWords
end
section
namespace Go.Proofs.YtcmgdjnjmobkoaaGreatDoorW.PrintWords
open Go.RowKit
def yU (w W:World) (S:Nat→Prop):Prop:=w.heap.size≤W.heap.size∧∀ i,i<w.heap.size→¬ S i→W.heap[i]?=w.heap[i]?
section
variable {w W W2:World} {S S2 S':Nat→Prop}
theorem yU.refl (w:World) (S:Nat→Prop):yU w w S:=⟨Nat.le_refl _,fun _ _ _=>rfl⟩
theorem yU.of_below (h:Below w.heap.size w W) (S:Nat→Prop):yU w W S:=⟨h.size,fun i hi _=>h.block i hi⟩
theorem yU.mono (h:yU w W S) (hs:∀ k,S k→S' k):yU w W S':=⟨h.1,fun i hi hn=>h.2 i hi (fun hk=>hn (hs i hk))⟩
theorem yU.then_ (h:yU w W S) (k:yU W W2 S2) (hs:∀ k,S2 k→S k∨w.heap.size≤k):yU w W2 S:=
 ⟨Nat.le_trans h.1 k.1,fun i hi hn=>(k.2 i (Nat.lt_of_lt_of_le hi h.1) (fun h2=>(hs i h2).elim hn (fun h3=>by omega))).trans (h.2 i hi hn)⟩
theorem yU.of_grown {row:Option Nat} (hg:W.grownBy W2 row) (h:yU w W S) (hr:∀ k,row=some k→S k∨w.heap.size≤k):yU w W2 S:=
 h.then_ (S2:=fun k=>row=some k) ⟨hg.size,fun i hi hn=>hg.block i hi (fun he=>hn he.symm)⟩ hr
theorem yU.below (h:yU w W S) (hb:Below W.heap.size W W2):yU w W2 S:=h.then_ (yU.of_below hb (fun _=>False)) (fun _ hk=>hk.elim)
theorem yU.alloc (h:yU w W S) (o:Obj):yU w (W.alloc o) S:=h.below (yC (Below.refl _ _) o)
theorem yU.drew (h:yU w W S):yU w W.drew S:=h
theorem yU.drewN (h:yU w W S) (m:Nat):yU w (W.drewN m) S:=h
theorem yU.setCell (h:yU w W S) {p:Addr} (hp:S p.block∨w.heap.size≤p.block) (u:Value):yU w (W.setCell p u) S:=
 h.then_ (S2:=fun k=>k=p.block) ⟨by simp[World.setCell],fun i _ hn=>Below.heap_setCell W p u i hn⟩ (fun k hk=>by rw[hk];exact hp)
end
namespace Kd
section
variable {α:Type} {d:Kd α} {e base n c:Nat} {ok oki S S2:Nat→Prop} {w w0 W W1 W2:World} {v:Value} {A:Option Addr} {xs:List α} {i:Int} {cs:List Value}
theorem C_kept_came (hd:zlf d) (h:d.C w0 A n xs) (hb:Below w0.heap.size w0 W) (hS:∀ k,S k→w0.heap.size≤k):∀ W',yU W W' S→d.C W' A n xs:=fun W' hk =>
 hd.C (fun k hlt=>(hk.2 k (Nat.lt_of_lt_of_le hlt hb.size) (fun h2=>by have:=hS k h2;omega)).trans (hb.block k hlt)) h
theorem C_kept_now (h:∀ W',yU w W' S→d.C W' A n xs) (hk:yU w W S):d.C W A n xs:=h W hk
end
end Kd
end Go.Proofs.YtcmgdjnjmobkoaaGreatDoorW.PrintWords
end
section
namespace Go.Proofs.YtcmgdjnjmobkoaaGreatDoorW.PrintWords
open Go.RowKit
def Foot (P:World→Prop) (W:World) (ok:Nat→Prop):Prop:=∀ W':World,(∀ k,ok k→k<W.heap.size→W'.heap[k]?=W.heap[k]?)→P W'
theorem zoM {W W1:World} {k:Nat} (h:W1.heap[k]?=W.heap[k]?) (hlt:k<W.heap.size):k<W1.heap.size:=by
 rw[Array.getElem?_eq_getElem hlt] at h;exact (Array.getElem?_eq_some_iff.1 h).1
namespace Foot
variable {P Q:World→Prop} {W W1:World} {ok ok':Nat→Prop}
theorem now (h:Foot P W ok):P W:=h W (fun _ _ _=>rfl)
theorem mono (h:Foot P W ok) (hok:∀ k,ok k→ok' k):Foot P W ok':=fun W' hW=>h W' (fun k hk hlt=>hW k (hok k hk) hlt)
theorem bound (h:Foot P W ok):Foot P W (fun k=>ok k∧k<W.heap.size):=fun W' hW=>h W' (fun k hk hlt=>hW k ⟨hk,hlt⟩ hlt)
theorem step (h:Foot P W ok) (hm:∀ k,ok k→k<W.heap.size→W1.heap[k]?=W.heap[k]?):Foot P W1 ok:=fun W' hW=>h W' (fun k hk hlt=>(hW k hk (zoM (hm k hk hlt) hlt)).trans (hm k hk hlt))
theorem imp (h:Foot P W ok) (hi:∀ W',P W'→Q W'):Foot Q W ok:=fun W' hW=>hi W' (h W' hW)
theorem old (h:Foot P W ok) (hb:Below W.heap.size W W1):Foot P W1 (fun k=>ok k∧k<W.heap.size):=(h.bound).step (fun k _ hlt=>hb.block k hlt)
end Foot
namespace Kd
def F {α:Type} (d:Kd α) (W:World) (ok:Nat→Prop) (A:Option Addr) (n:Nat) (xs:List α):Prop:=Foot (fun W=>d.C W A n xs) W ok
def FK {α:Type} (d:Kd α) (W:World) (ok:Nat→Prop) (x:α) (c:List Value):Prop:=Foot (fun W=>d.K W x c) W ok
section
variable {α β:Type} {d:Kd α} {e base n n' cc g N:Nat} {ok ok' okp S:Nat→Prop} {w w0 w1 W W1:World} {A A':Option Addr} {u v v1:Value} {xs:List α} {xs':List β} {d':Kd β} {x:α} {c:List Value}
theorem zqB (d:Kd α) (W:World) (ok:Nat→Prop):F d W ok none ([]:List α).length []:=fun W' _=>zqu d W'
theorem zoP (h:d.M W base ok x c):FK d W ok x c:=fun _ hW=>d.K_of_M (zmk h hW)
end
end Kd
end Go.Proofs.YtcmgdjnjmobkoaaGreatDoorW.PrintWords
end
section
namespace Go.Proofs.YtcmgdjnjmobkoaaGreatDoorW.PrintWords
open Go.RowKit
namespace Kd
def zdp (sz:Nat) (n:Nat) (inner:List Value):List (List Value):=(List.range n).map fun j=>(inner.drop (j * sz)).take sz
theorem zbA (sz n:Nat) (inner:List Value):(zdp sz n inner).length=n:=by simp[zdp]
theorem zlI {sz n:Nat} {inner:List Value} {j:Nat} (hj:j<n):(zdp sz n inner)[j]?=some ((inner.drop (j * sz)).take sz):=by simp[zdp,hj]
theorem zgO {sz n:Nat} {inner:List Value} {j:Nat} {c:List Value} (h:(zdp sz n inner)[j]?=some c):c=(inner.drop (j * sz)).take sz:=by
 have hj:j<n:=by have:=(List.getElem?_eq_some_iff.1 h).1;rwa [zbA] at this
 rw[zlI hj] at h;injection h with h
 exact h.symm
theorem znj {α:Type} {Rr:α→List Value→Prop} {sz:Nat} {xs:List α} {inner:List Value} (h:jN Rr sz xs inner) (hR:∀ x c,Rr x c→c.length=sz∧∀ u∈c,u.oneCell'=true):jN (fun x cs=>cs=x∧cs.length=sz∧∀ u∈cs,u.oneCell'=true) sz (zdp sz xs.length inner) inner:=by
 refine⟨by rw[zbA];exact h.1,fun j p hj=>?_⟩;have hjl:j<xs.length:=by have:=(List.getElem?_eq_some_iff.1 hj).1;rwa [zbA] at this
 have hp:=zgO hj;exact⟨hp.symm,hR _ _ (h.2 j _ (List.getElem?_eq_getElem hjl))⟩
section
variable {α:Type} {d:Kd α} {e base n cc g:Nat} {ok ok' okp S:Nat→Prop} {w w1 W W1:World} {A:Option Addr} {u v v1:Value} {xs:List α} {x:α} {c:List Value}
def N {α:Type} (d:Kd α) (e:Nat) (w:World) (base:Nat) (ok:Nat→Prop) (v:Value) (xs:List α):Prop:=
 (∀ k,v.ownBlock=some k→ok k)∧∃ rows:List (List Value),rows.length=xs.length∧(raw d.sz).R e w base (fun k=>some k=v.ownBlock) v rows∧∀ (j:Nat) (x:α) (c:List Value),xs[j]?=some x→rows[j]?=some c→FK d w (fun k=>ok k∧some k≠v.ownBlock) x c
theorem R_N (h:d.R e w base ok v xs):N d e w base ok v xs:=by
 obtain⟨h0,inner,ho,hr⟩:=h;refine⟨h0,zdp d.sz xs.length inner,zbA _ _ _,⟨fun k hk=>hk.symm,inner,by rw[zbA];exact ho,znj hr (fun x c hp=>⟨d.K_len (d.K_of_M hp),d.K_one (d.K_of_M hp)⟩)⟩,fun j x c hx hc=>?_⟩;rw[zgO hc];exact zoP (hr.2 j x hx)
theorem N_nil (d:Kd α) (e:Nat) (w:World) (base:Nat) (ok:Nat→Prop):N d e w base ok (.slice none 0 0) []:=R_N (R_nil _ _ _ _ _)
end
end Kd
end Go.Proofs.YtcmgdjnjmobkoaaGreatDoorW.PrintWords
end
section
namespace Go.Proofs.YtcmgdjnjmobkoaaGreatDoorW.PrintWords
open Go.RowKit
namespace Kd
section
variable {α:Type} {d:Kd α} {e base n cap g:Nat} {ok ok' okp:Nat→Prop} {w w1 W:World} {v v1:Value} {xs ys:List α}
end
section
variable {P:Program} {ops:Array Oper} {rest:List Oper} {o:Oper} {a:Act} {Q:Exit→Act→World→Prop} {Kc:Act→World→Prop} {α:Type}
end
end Kd
end Go.Proofs.YtcmgdjnjmobkoaaGreatDoorW.PrintWords
end
section
namespace Go.Proofs.YtcmgdjnjmobkoaaGreatDoorW.PrintMore
open Go.RowKit Go.Proofs.YtcmgdjnjmobkoaaGreatDoorW.PrintWords
namespace Kd
open Go.Proofs.YtcmgdjnjmobkoaaGreatDoorW.PrintWords.Kd
end Kd
namespace Kd
open Go.Proofs.YtcmgdjnjmobkoaaGreatDoorW.PrintWords.Kd
section
variable {α:Type} {d:Kd α} {e base g N:Nat} {ok:Nat→Prop} {W w1:World} {u v:Value} {xs:List α}
theorem R_old (hu:d.R e W base ok u xs) (hb:Below W.heap.size W w1):d.R e w1 base (fun k=>ok k∧k<W.heap.size) u xs:=
 R_mono (R_below (R_bound hu) hb) (fun _ h=>⟨h.1,h.2.2.1⟩)
theorem R_told (h:d.R e w1 base (fun k=>ok k∧k<N) u xs) (hbase:∀ k,v.ownBlock=some k→N≤k):d.R e w1 base (fun k=>(ok k∧some k≠v.ownBlock)∧k<N) u xs:=
 R_mono h (fun k hk=>⟨⟨hk.1,fun e=>Nat.lt_irrefl _ (Nat.lt_of_lt_of_le hk.2 (hbase k e.symm))⟩,hk.2⟩)
end
end Kd
theorem vK (k k':IntKind) (x y:Int):Builtin.max2 (.int k x) (.int k' y)=pure (.int k (if x<y then y else x)):=by simp only[Builtin.max2,gt_iff_lt]
theorem vL (k k':IntKind) (x y:Int):Builtin.min2 (.int k x) (.int k' y)=pure (.int k (if y<x then y else x)):=by simp only[Builtin.min2]
theorem uE (ats:Array TypeId) (ty:TypeId) (a b:Value):Builtin.max_ ats ty #[a,b]=(Builtin.max2 a b >>= fun s=>pure s):=by simp only[Builtin.max_,List.foldlM_cons,List.foldlM_nil]
theorem uD (ats:Array TypeId) (ty:TypeId) (a b:Value):Builtin.min_ ats ty #[a,b]=(Builtin.min2 a b >>= fun s=>pure s):=by simp only[Builtin.min_,List.foldlM_cons,List.foldlM_nil]
theorem yS (ats:Array TypeId) (ty:TypeId) (a b c:Value):Builtin.max_ ats ty #[a,b,c]=(Builtin.max2 a b >>= fun s=>Builtin.max2 s c >>= fun s=>pure s):=by simp only[Builtin.max_,List.foldlM_cons,List.foldlM_nil]
theorem yP (ats:Array TypeId) (ty:TypeId) (a b c:Value):Builtin.min_ ats ty #[a,b,c]=(Builtin.min2 a b >>= fun s=>Builtin.min2 s c >>= fun s=>pure s):=by simp only[Builtin.min_,List.foldlM_cons,List.foldlM_nil]
theorem vM (ats:Array TypeId) (ty:TypeId) (a b c d:Value):Builtin.max_ ats ty #[a,b,c,d]=(Builtin.max2 a b >>= fun s=>Builtin.max2 s c >>= fun s=>Builtin.max2 s d >>= fun s=>pure s):=by simp only[Builtin.max_,List.foldlM_cons,List.foldlM_nil]
theorem vJ (ats:Array TypeId) (ty:TypeId) (a b c d:Value):Builtin.min_ ats ty #[a,b,c,d]=(Builtin.min2 a b >>= fun s=>Builtin.min2 s c >>= fun s=>Builtin.min2 s d >>= fun s=>pure s):=by simp only[Builtin.min_,List.foldlM_cons,List.foldlM_nil]
end Go.Proofs.YtcmgdjnjmobkoaaGreatDoorW.PrintMore
namespace Go.Proofs.YtcmgdjnjmobkoaaGreatDoorW.PrintWords
open Go.RowKit
section
variable {P:Program} {ops:Array Oper} {rest:List Oper} {o:Oper} {a:Act} {Q:Exit→Act→World→Prop} {W:World}
theorem zH {f:FuncId} {as_:Array Operand} {ts:Array TypeId} (_ho:o.op=.call { callee:=.value (.func f),args:=as_,argTypes:=ts }) (h:wpList P ops Q (o :: rest) a W):wpList P ops Q (o :: rest) a W:=h
theorem jH {b:Builtin} {xs:Array Operand} {ts:Array TypeId} (_ho:o.op=.call { callee:=.builtin b,args:=xs,argTypes:=ts }) (h:wpList P ops Q (o :: rest) a W):wpList P ops Q (o :: rest) a W:=h
end
def mx (a b:Int):Int:=if a<b then b else a
def mn (a b:Int):Int:=if b<a then b else a
theorem zah (w:World) (n:Nat):w.drewN n=w.drewN n:=rfl
namespace Kd
section
variable {α:Type} {d:Kd α} {e base:Nat} {ok:Nat→Prop} {W w1:World} {v:Value} {xs:List α}
theorem R_far1 (h:d.R e W base ok v xs) (hE:d.E=[]) {g:Nat} (hne:some g≠v.ownBlock):d.R e W base (fun k=>ok k∧k≠g) v xs:=
 R_mono (R_tight hE h) (fun k hk=>⟨h.1 k hk.symm,fun e_=>hne (by rw[←e_];exact hk)⟩)
end
section
variable {α:Type} {d:Kd α} {e base g n cap:Nat} {ok oki okp:Nat→Prop} {W:World} {xs:List α} {i:Int} {c:List Value}
end
section
variable {α:Type} {d:Kd α} {e base b b' g N:Nat} {ok ok1:Nat→Prop} {W W2 w1:World} {u v:Value} {xs ys:List α} {S:Nat→Prop}
theorem R_reok (hE:d.E=[]) (h:d.R e W base ok1 v xs) (hok:∀ k,v.ownBlock=some k→ok k):d.R e W base ok v xs:=R_mono (R_tight hE h) (fun k hk=>hok k hk.symm)
end
end Kd
end Go.Proofs.YtcmgdjnjmobkoaaGreatDoorW.PrintWords
namespace Go.Proofs.YtcmgdjnjmobkoaaGreatDoorW.PrintWords
open Go.RowKit
namespace Kd
def V {α:Type} (d:Kd α) (_e:Nat) (W:World) (_base:Nat) (ok:Nat→Prop) (v:Value) (xs:List α):Prop:=∃ A c,v=.slice A xs.length c∧xs.length≤c∧F d W ok A xs.length xs
section
variable {α β:Type} {d:Kd α} {e base base' n m c g N' lo hi:Nat} {ok ok' S:Nat→Prop} {w W w1:World} {A:Option Addr} {ad:Addr} {u v v1:Value} {xs:List α}
theorem V_nil (d:Kd α) (e:Nat) (W:World) (base:Nat) (ok:Nat→Prop):V d e W base ok (.slice none 0 0) []:=⟨none,0,rfl,Nat.le_refl _,zqB d W ok⟩
end
end Kd
end Go.Proofs.YtcmgdjnjmobkoaaGreatDoorW.PrintWords
end
section
namespace Go.Proofs.YtcmgdjnjmobkoaaGreatDoorW.PrintWords
open Go.RowKit Fig
theorem zaE {α:Type} {g:Nat→Option α} {r r':α} (h:∀ k,g (k+1)=some r') (e:r'=r):Ev g r:=by
 subst e;exact Ev.step h (Ev.now _)
theorem zaw {α:Type} {g:Nat→Option α} {r r':α} (h:Ev g r') (e:r'=r):Ev g r:=e ▸ h
theorem zcw {α:Type} {g:Nat→Option α} {r:α} (h:∀ k,g k=some r):Ev g r:=⟨0,fun k _=>h k⟩
theorem evT {α:Type} {c:Prop} [Decidable c] {f g:Nat→Option α} {r:α} (hc:c) (h:Ev f r):Ev (fun k=>if c then f k else g k) r:=by simpa only [hc,if_true] using h
theorem evF {α:Type} {c:Prop} [Decidable c] {f g:Nat→Option α} {r:α} (hc:¬ c) (h:Ev g r):Ev (fun k=>if c then f k else g k) r:=by simpa only [hc,if_false] using h
theorem evE {α β:Type} {x:Option α} {f:α→Nat→Option β} {a:α} {r:β} (hx:x=some a) (h:Ev (f a) r):Ev (fun k=>x.bind fun y=>f y k) r:=by subst hx;exact h
theorem w64 {x:Int} (h0:-9223372036854775808≤x) (h1:x≤9223372036854775807):wrap64 x=x:=by unfold wrap64;omega
theorem zcC {x:Int} (h0:0≤x) (h1:x≤18446744073709551615):IntKind.u64.wrap x=x:=by
 simp[IntKind.wrap,IntKind.signed,IntKind.bits];omega
theorem zcM {s:ByteArray} {n:Nat} (h:n<s.size):bt s (n:Int)=((s.data.toList[n]'(by rw[←zR];exact h)).toNat:Int):=by
 unfold bt;rw[dif_pos (by simpa using h)];simp[ByteArray.getElem_eq_getElem_data]
theorem vV {l:List Int} {n:Nat} (h:n<l.length):rd l (n:Int)=l[n]:=by
 unfold rd;rw[Int.toNat_natCast,List.getD_eq_getElem?_getD,List.getElem?_eq_getElem h];rfl
theorem xU (k:Nat) (h:k≤4611686018427387904):wrap64 ((k:Int)+1)=((k+1:Nat):Int):=by rw[w64 (by omega) (by omega)];rfl
theorem zlM (k:Nat) (h:k≤4611686018427387904):wrap64 (((k+1:Nat):Int)-1)=(k:Int):=by rw[w64 (by omega) (by omega)];omega
theorem zfP (p q:Nat) (hp:p≤1000000000000) (hq:q≤1000000000000):wrap64 ((p:Int)+(q:Int))=((p+q:Nat):Int):=by rw[w64 (by omega) (by omega)];omega
theorem zis (p q:Nat) (hp:p≤1000000) (hq:q≤1000000):wrap64 (wrap64 ((p:Int)+(q:Int))+1)=((p+q+1:Nat):Int):=by
 rw[w64 (x:=(p:Int)+(q:Int)) (by omega) (by omega),w64 (by omega) (by omega)];omega
end Go.Proofs.YtcmgdjnjmobkoaaGreatDoorW.PrintWords
namespace Fig
theorem bne_nil (l:List UInt8):(l !=[])=!l.isEmpty:=by cases l <;> rfl
end Fig
end
section
namespace Go.Proofs.YtcmgdjnjmobkoaaGreatDoorW.PrintWords
open Go.RowKit Go.Proofs.YtcmgdjnjmobkoaaGreatDoorW.PrintWords Go.Proofs.YtcmgdjnjmobkoaaGreatDoorW.PrintLast Go.Proofs.YtcmgdjnjmobkoaaGreatDoorW.PrintMore
theorem zlX {P:Program} {k:IntKind} {W w0:World} {ops:Array Oper} {rest:List Oper} {o:Oper} {a:Act} {Q:Exit→Act→World→Prop} (base:Nat) (hgd:o.guard=none) (d s:Operand) (t e:TypeId)
  (ho:o.op=.call { callee:=.builtin .copy,args:=#[d,s],argTypes:=#[t,t] }) (ht:P.underlying t=some (.slice e)) (hsz:(P.info? e).map (·.size)=some 1)
  (v:Value) (xs ys:List Int) (A:Option Addr) (m c:Nat) (ok:Nat→Prop) (hd:a.eval d=v) (hs:a.eval s=.slice A m c)
  (HO:(Kd.int k).R e W base ok v xs) (HR:(Kd.int k).C W A m ys) (hle:xs.length≤m) (HB:Below base w0 W)
  (h:∀ w1,(Kd.int k).R e w1 base ok v (ys.take xs.length)→Below base w0 w1→wpList P ops Q rest (a.put o.dst (goInt xs.length)) w1) :
  wpList P ops Q (o :: rest) a W:=by
 obtain⟨h0,inner,hown,hr⟩:=HO;have hym:ys.length=m:=HR.1;rcases Nat.eq_zero_or_pos xs.length with hz|hz
 ·have hx:xs=[]:=List.eq_nil_of_length_eq_zero hz
  subst hx;have hform:∃ D cp,v=.slice D 0 cp:=by
   rcases hown.2 with ⟨rfl,_⟩|⟨g,cap,cur,rfl,_⟩
   ·exact⟨none,0,rfl⟩
   exact⟨_,cap,rfl⟩
  obtain⟨D,cp,rfl⟩:=hform;refine wpList_copy_nothing hgd d s t t ho e ht hsz D A 0 cp m c hd hs (Nat.min_zero m) ?_;exact h W ⟨h0,inner,hown,hr⟩ HB
 have hcells:=HR.2.2 (by omega);obtain⟨ad,rfl,hc⟩:=hcells;rcases hown.2 with ⟨_,hn⟩|⟨g,cap,cur,rfl,hg,hh,hn1,hn2,hn3,hn4⟩
 ·omega
 simp only[show (Kd.int k).sz=1 from rfl,Nat.mul_one] at hn3 hn4
 have hlen:((ys.take xs.length).map (Value.int k)).length=xs.length:=by rw[List.length_map,List.length_take];omega
 have hcl:cur.toList.length=cap:=by rw[Array.length_toList];exact hn3
 refine wpList_copy_splice hgd d s t t ho e ht hsz (some ⟨g,0,none⟩) (some ad) xs.length cap m c hd hs g 0 cur.toList e (by simpa using hh) ((ys.take xs.length).map (Value.int k)) (by rw[hlen];exact (Nat.min_eq_right hle).symm) (fun _=>⟨rfl,ad,rfl,?_⟩) (by rw[hlen];omega) ?_ base w0 HB hg ?_
 ·intro j u hj
  rw[List.getElem?_map,Option.map_eq_some_iff] at hj;obtain⟨p,hp,rfl⟩:=hj;have hp2:ys[j]?=some p:=by
   rw[List.getElem?_take] at hp;split at hp
   ·exact hp
   cases hp
  obtain⟨cc,hcl1,hcK,hcc⟩:=hc j p hp2;have:cc=[Value.int k p]:=hcK
  subst this;have:=hcc 0 _ rfl
  simpa [show (Kd.int k).sz=1 from rfl] using this
 ·intro u hu
  obtain⟨p,_,rfl⟩:=List.mem_map.1 hu;rfl
 intro w' hg' hb';rw[hlen];refine h w' ⟨h0,(ys.take xs.length).map (Value.int k),?_,?_⟩ hb'
 ·refine⟨by rw[hlen,List.length_take,Nat.min_eq_left (by omega)];simp[show (Kd.int k).sz=1 from rfl],.inr ⟨g,cap,_,?_,hg,hg'.out,?_,hn2,?_,?_⟩⟩
  ·rw[List.length_take,Nat.min_eq_left (by omega)]
  ·rw[List.length_take,Nat.min_eq_left (by omega)];exact hn1
  ·simp only[show (Kd.int k).sz=1 from rfl,Nat.mul_one]
   have:=length_splice cur.toList 0 ((ys.take xs.length).map (Value.int k)) (by rw[hlen];omega)
   rw[←hcl,←this];simp
  simp only[show (Kd.int k).sz=1 from rfl,Nat.mul_one]
  rw[List.length_take,Nat.min_eq_left (by omega)];unfold splice;rw[List.take_zero,List.nil_append];show List.take xs.length (((ys.take xs.length).map (Value.int k))++_)=_
  rw[List.take_append_of_le_length (by rw[hlen];exact Nat.le_refl _),List.take_of_length_le (by rw[hlen];exact Nat.le_refl _)]
 exact Kd.reps_scalar (enc:=Value.int k) _
end Go.Proofs.YtcmgdjnjmobkoaaGreatDoorW.PrintWords
end
section
namespace Go.Proofs.YtcmgdjnjmobkoaaGreatDoorW.PrintWords
open Go.RowKit Go.Proofs.YtcmgdjnjmobkoaaGreatDoorW.PrintLast Go.Proofs.YtcmgdjnjmobkoaaGreatDoorW.PrintMore
theorem zeG {P:Program} {k:IntKind} {w0 W:World} {ops:Array Oper} {rest:List Oper} {o:Oper} {a:Act} {Q:Exit→Act→World→Prop} (base e:Nat) (hgd:o.guard=none) (t:TypeId) (x y:Operand) (ho:o.op=.makeSlice t x y) (m:Nat) (hx:a.eval x=.int .i64 0) (hy:a.eval y=.int .i64 (m:Int))
  (ht:P.underlying t=some (.slice e)) (z:Value) (bytes:Nat) (hinfo:(P.info? e).map (fun i=>(i.zero,i.size,i.bytes))=some (some z,1,bytes)) (ok:Nat→Prop) (hok:ok W.heap.size) (hb0:0<bytes)
  (hl:m * bytes≤281474976710656) (HB:Below base w0 W) (hbase:base≤W.heap.size)
  (h:∀ v1 w1,(Kd.int k).R e w1 base ok v1 []→Below base w0 w1→wpList P ops Q rest (a.put o.dst v1) w1):wpList P ops Q (o :: rest) a W:=by
 obtain⟨i0,hi,hzz⟩:=Option.map_eq_some_iff.1 hinfo;simp only[Prod.mk.injEq] at hzz
 obtain⟨hz0,hz1,hz2⟩:=hzz;have hm:m≤281474976710656:=Nat.le_trans (Nat.le_mul_of_pos_right _ hb0) hl
 have hr:=run_make (P:=P) (w:=W) t e i0 z ht hi hz0 .i64 .i64 (0:Int) (m:Int) (by omega) (by omega)
  (by
   have h3:((i0.bytes * m:Nat):Int)≤281474976710656:=by rw[hz2,Nat.mul_comm];omega
   rwa [Int.natCast_mul] at h3) (by omega)
 simp only[Int.toNat_natCast,Int.toNat_zero] at hr
 rw[hz1,Nat.mul_one] at hr;refine wpList_plain hgd fun K hK=>?_
 unfold Oper.wp;simp only[execOp,ho,hx,hy,Sem.run_bind,Sem.run_pure,hr,Result.andThen_ok]
 refine hK _ _ (h _ _ ⟨fun j hj=>?_,[],⟨by simp,.inr ⟨W.heap.size,m,_,rfl,hbase,by simpa using heap_alloc_new W _,Nat.zero_le _,by unfold maxLen;omega,?_,by simp⟩⟩,jN.none _ _⟩ (HB.alloc hbase _))
 ·have:W.heap.size=j:=by simpa [Value.ownBlock] using hj
  rw[←this];exact hok
 simp[madeCells,show (Kd.int k).sz=1 from rfl]
end Go.Proofs.YtcmgdjnjmobkoaaGreatDoorW.PrintWords
end
section
namespace Fig
open Go Go.RowKit
theorem zkD {w:World} {a:Addr} {v:Value} (h:w.cell? a=some v):a.block<w.heap.size:=by
 apply Classical.byContradiction;intro hn
 have e:w.heap[a.block]?=none:=Array.getElem?_eq_none (by omega);unfold World.cell? at h;rw[e] at h;simp at h
structure Glob (w:World):Prop where
 ways:∀ i f,([173,174,175,176,177,178,179,180]:List Nat)[i]?=some f→w.cell? ⟨1,i,none⟩=some (.func (.func f) #[] #[])
 pows:∀ i,i<9→w.cell? ⟨0,i,none⟩=some (.int .u32 (([1,10,100,1000,10000,100000,1000000,10000000,100000000]:List Int).getD i 0))
theorem Glob.below {w w':World} (h:Glob w) (b:Below w.heap.size w w'):Glob w':=⟨fun i f hi=>(b.cell (p:=⟨1,i,none⟩) (zkD (h.ways i f hi))).trans (h.ways i f hi),fun i hi=>(b.cell (p:=⟨0,i,none⟩) (zkD (h.pows i hi))).trans (h.pows i hi)⟩
theorem Glob.drew {w:World} (h:Glob w):Glob w.drew:=⟨h.ways,h.pows⟩
theorem Glob.drewN {w:World} (h:Glob w) {m:Nat}:Glob (w.drewN m):=⟨h.ways,h.pows⟩
end Fig
end
section
namespace Go.Proofs.YtcmgdjnjmobkoaaGreatDoorW.PrintLast
open Go.Proofs.YtcmgdjnjmobkoaaGreatDoorW.PrintWords (Aside0)
def zdo (md:Region.Mode) (o:Oper):List Nat:=(o.after.toList.filter (fun e=>Region.binds md e)).map (fun e=>e.on)
def zhN (md:Region.Mode) (ops:Array Oper) (i:Nat) (oi:Oper):List Nat:=(List.range ops.size).filter fun j=>!(j==i)&&match ops[j]? with
 | some oj=>!(oj.after.any (fun e=>Region.binds md e&&e.on==i)||oi.apart ops oj)
 | none=>false
def zaC (md:Region.Mode) (ops:Array Oper):Bool×List (List Nat×List Nat):=(Region.noSelect ops,(List.range ops.size).map fun i=>match ops[i]? with
 | some o=>(zdo md o,zhN md ops i o)
 | none=>([],[]))
def zcp (T:List (List Nat×List Nat)) (l:List Bool) (i:Nat):Bool:=!l.getD i true&&match T[i]? with
 | some r=>r.1.all (fun j=>l.getD j false)
 | none=>false
def zfn (T:List (List Nat×List Nat)) (l:List Bool):List Nat:=(List.range T.length).filter (zcp T l)
def zgR (T:List (List Nat×List Nat)) (l:List Bool) (i:Nat):Bool:=match T[i]? with
 | some r=>r.2.all (fun j=>l.getD j true)
 | none=>false
def zfG (T:List (List Nat×List Nat)) (l:List Bool):Bool:=(List.range T.length).all fun j=>!l.getD j false||match T[j]? with
 | some r=>r.1.all (fun k=>l.getD k false)
 | none=>true
def zem (T:List (List Nat×List Nat)) (i:Nat):Nat→Nat→Bool
 | 0,_=>false
 | fuel+1,d=>match T[d]? with
  | some r=>r.1.any fun j=>j==i||zem T i fuel j
  | none=>false
def ziC (T:List (List Nat×List Nat)) (l:List Bool) (ds:List Nat) (i:Nat):Bool:=ds.all fun d=>l.getD d true||zem T i T.length d
section
variable {md:Region.Mode} {ops:Array Oper} {T:Bool×List (List Nat×List Nat)} {l l' li lj lk:Array Bool} {ds:List Nat} {i j k:Nat}
theorem gd (l:Array Bool) (j:Nat) (b:Bool):l.getD j b=l.toList.getD j b:=by simp[Array.getD_eq_getD_getElem?,List.getD_eq_getElem?_getD]
theorem zhW (o:Oper) (p:Nat→Bool):o.after.all (fun e=>!Region.binds md e||p e.on)=(zdo md o).all p:=by
 unfold zdo;rw[←Array.all_toList]
 induction o.after.toList with
 | nil=>rfl
 | cons e r ih =>
  rw[List.all_cons,ih,List.filter_cons];cases h:Region.binds md e <;> simp
theorem zmA (o:Oper) (p:Nat→Bool):o.after.any (fun e=>Region.binds md e&&p e.on)=(zdo md o).any p:=by
 unfold zdo;rw[←Array.any_toList]
 induction o.after.toList with
 | nil=>rfl
 | cons e r ih =>
  rw[List.any_cons,ih,List.filter_cons];cases h:Region.binds md e <;> simp
theorem zcH:(zaC md ops).2.length=ops.size:=by simp[zaC]
theorem zdJ {o:Oper} (h:ops[i]?=some o):(zaC md ops).2[i]?=some (zdo md o,zhN md ops i o):=by
 have hi:=(Array.getElem?_eq_some_iff.1 h).1;unfold zaC;rw[List.getElem?_map,List.getElem?_range hi,Option.map_some,h]
theorem zdW (h:ops[i]?=none):(zaC md ops).2[i]?=none:=by
 have hi:ops.size≤i:=Array.getElem?_eq_none_iff.1 h;exact List.getElem?_eq_none (by rw[zcH];exact hi)
theorem zlz:zcp (zaC md ops).2 l.toList i=(!l.getD i true&&((ops[i]?).map (·.after.all fun e=>!Region.binds md e||l.getD e.on false)).getD false):=by
 unfold zcp;rw[gd]
 cases h:ops[i]? with
 | none=>rw[zdW h];rfl
 | some o =>
  rw[zdJ h];simp only[Option.map_some,Option.getD_some]
  rw[←zhW];simp only[gd]
theorem zgw:Region.ready md ops l=zfn (zaC md ops).2 l.toList:=by
 unfold Region.ready zfn;rw[zcH];refine List.filter_congr (fun i _=>?_);rw[zlz]
theorem zkN:Region.free md ops l i=zgR (zaC md ops).2 l.toList i:=by
 unfold Region.free zgR
 cases h:ops[i]? with
 | none=>rw[zdW h]
 | some oi =>
  rw[zdJ h];simp only[zhN]
  rw[List.all_filter];congr 1
  funext j
  rw[gd]
  cases hj:ops[j]? with
  | none=>cases (j==i) <;> cases (l.toList.getD j true) <;> simp
  | some oj =>
   cases (j==i) <;> cases (l.toList.getD j true) <;> cases (oj.after.any (fun e=>Region.binds md e&&e.on==i)||oi.apart ops oj) <;> simp_all
theorem zmQ:Region.closedB md ops l=zfG (zaC md ops).2 l.toList:=by
 unfold Region.closedB zfG;rw[zcH];congr 1
 funext j
 rw[gd]
 cases h:ops[j]? with
 | none=>rw[zdW h]
 | some o =>
  rw[zdJ h];simp only
  rw[←zhW];simp only[gd]
theorem zjC:∀ (fuel d:Nat),Region.reachB md ops i fuel d=zem (zaC md ops).2 i fuel d
 | 0,_=>rfl
 | fuel+1,d=>by
  unfold Region.reachB zem
  cases h:ops[d]? with
  | none=>rw[zdW h]
  | some o =>
   rw[zdJ h];simp only
   rw[←zmA];congr 1
   funext e
   rw[zjC fuel]
theorem zpy:Region.lastB md ops l ds i=ziC (zaC md ops).2 l.toList ds i:=by
 unfold Region.lastB ziC;rw[zcH];congr 1
 funext d
 rw[gd,zjC]
theorem zge (h:zcp T.2 l.toList i=true) (hT:zaC md ops=T):(Region.ready md ops l).contains i=true:=by
 subst hT;rw[zgw];unfold zfn;rw[List.contains_iff_mem,List.mem_filter,List.mem_range];refine⟨?_,h⟩;unfold zcp at h;rw[Bool.and_eq_true] at h
 cases hq:(zaC md ops).2[i]? with
 | none=>rw[hq] at h;simp at h
 | some r=>exact (List.getElem?_eq_some_iff.1 hq).1
theorem ziG (h:(l.toList.set i true==l'.toList)=true):(l.setIfInBounds i true==l')=true:=by
 rw[beq_iff_eq] at h ⊢;apply Array.ext'
 rw[Array.toList_setIfInBounds];exact h
def zpZ (T:Bool×List (List Nat×List Nat)) (l l':List Bool) (i:Nat):Bool:=T.1&&zgR T.2 l i&&zcp T.2 l i&&(l.set i true==l')
theorem jP (hT:zaC md ops=T) (h:zpZ T l.toList l'.toList i=true):zhu md ops l l' i=true:=by
 simp only[zpZ,Bool.and_eq_true] at h
 obtain⟨⟨⟨h1,h2⟩,h3⟩,h4⟩:=h;have h5:=zge h3 hT;have h6:=ziG h4;subst hT;simp only[zhu,Bool.and_eq_true]
 exact⟨⟨⟨h1,by rw[zkN];exact h2⟩,h5⟩,h6⟩
def zkT (T:Bool×List (List Nat×List Nat)) (ds:List Nat) (l l':List Bool) (i:Nat):Bool:=T.1&&zgR T.2 l i&&zcp T.2 l i&&zfG T.2 l&&ziC T.2 l ds i&&(l.set i true==l')
theorem zpk (hT:zaC md ops=T) (h:zkT T ds l.toList l'.toList i=true):zdF md ops ds l l' i=true:=by
 simp only[zkT,Bool.and_eq_true] at h
 obtain⟨⟨⟨⟨⟨h1,h2⟩,h3⟩,h4⟩,h5⟩,h6⟩:=h;have h7:=zge h3 hT;have h8:=ziG h6;subst hT;simp only[zdF,Bool.and_eq_true]
 exact⟨⟨⟨⟨⟨h1,by rw[zkN];exact h2⟩,h7⟩,by rw[zmQ];exact h4⟩,by rw[zpy];exact h5⟩,h8⟩
theorem zax (hT:zaC md ops=T) (h:(zfn T.2 l.toList==[i]&&l.toList.set i true==l'.toList)=true):zds md ops l l' i=true:=by
 simp only[Bool.and_eq_true] at h
 obtain⟨h1,h2⟩:=h;subst hT;simp only[zds,Bool.and_eq_true]
 exact⟨by rw[zgw];exact h1,ziG h2⟩
theorem zcs (hT:zaC md ops=T) (h:(zfn T.2 l.toList==[])=true):(Region.ready md ops l==[])=true:=by
 subst hT;rw[zgw];exact h
def upM (B:List Nat) (d:Nat):List Nat→Nat
 | []=>0
 | n :: r=>(2 ^ n ||| (if n<d then B.getD n 0 else 0)) ||| upM B d r
def zbU (T:List (List Nat×List Nat)) (B:List Nat):Bool:=(List.range T.length).all fun d=>match T[d]? with
 | some r=>(B.getD d 0 ||| upM B d r.1)==upM B d r.1
 | none=>false
theorem zkI {B:List Nat} {d i:Nat}:∀ {ns:List Nat},(upM B d ns).testBit i=true→∃ n∈ns,n=i∨(n<d∧(B.getD n 0).testBit i=true)
 | [],h=>by simp[upM] at h
 | n :: r,h=>by
  unfold upM at h;rw[Nat.testBit_or,Nat.testBit_or,Bool.or_eq_true,Bool.or_eq_true] at h;rcases h with (h|h)|h
  ·rw[Nat.testBit_two_pow] at h
   exact⟨n,List.mem_cons_self,.inl (by simpa using h)⟩
  ·by_cases hn:n<d
   ·rw[if_pos hn] at h
    exact⟨n,List.mem_cons_self,.inr ⟨hn,h⟩⟩
   rw[if_neg hn] at h;simp at h
  obtain⟨m,hm,h2⟩:=zkI h;exact⟨m,List.mem_cons_of_mem _ hm,h2⟩
theorem zic {T:List (List Nat×List Nat)} {B:List Nat} (hB:zbU T B=true):∀ (fuel d:Nat),d<fuel→d<T.length→(B.getD d 0).testBit i=true→zem T i fuel d=true
 | 0,d,h,_,_=>by omega
 | fuel+1,d,h,hd,hb=>by
  have h1:=List.all_eq_true.1 hB d (List.mem_range.2 hd)
  cases hr:T[d]? with
  | none=>rw[hr] at h1;simp at h1
  | some r =>
   rw[hr] at h1;simp only[beq_iff_eq] at h1
   have h2:(upM B d r.1).testBit i=true:=by rw[←h1,Nat.testBit_or,hb,Bool.true_or]
   obtain⟨n,hn,h3⟩:=zkI h2;unfold zem;rw[hr];simp only
   rw[List.any_eq_true];refine⟨n,hn,?_⟩;rcases h3 with rfl|⟨h4,h5⟩
   ·simp
   rw[zic hB fuel n (by omega) (by omega) h5,Bool.or_true]
def zoo (T:List (List Nat×List Nat)) (B:List Nat) (l:List Bool) (ds:List Nat) (i:Nat):Bool:=ds.all fun d=>l.getD d true||(decide (d<T.length)&&(B.getD d 0).testBit i)
def zok (T:Bool×List (List Nat×List Nat)) (B:List Nat) (ds:List Nat) (l l':List Bool) (i:Nat):Bool:=T.1&&zgR T.2 l i&&zcp T.2 l i&&zfG T.2 l&&zoo T.2 B l ds i&&(l.set i true==l')
theorem zci {B:List Nat} (hT:zaC md ops=T) (hB:zbU T.2 B=true) (h:zok T B ds l.toList l'.toList i=true):zdF md ops ds l l' i=true:=by
 refine zpk hT ?_;simp only[zok,zkT,Bool.and_eq_true] at h ⊢
 obtain⟨⟨⟨⟨⟨h1,h2⟩,h3⟩,h4⟩,h5⟩,h6⟩:=h;refine⟨⟨⟨⟨⟨h1,h2⟩,h3⟩,h4⟩,?_⟩,h6⟩;unfold zoo at h5;unfold ziC;rw[List.all_eq_true] at h5 ⊢;intro d hd;have h7:=h5 d hd;rw[Bool.or_eq_true,Bool.and_eq_true,decide_eq_true_eq] at h7;rcases h7 with h7|⟨h8,h9⟩
 ·rw[h7,Bool.true_or]
 rw[zic hB _ d h8 h8 h9,Bool.or_true]
theorem zcr {P:Program} {Q:Exit→Act→World→Prop} {S:World→Prop} {n:Nat} {a:Act} {w:World} {B:List Nat} (hT:zaC md ops=T) (hB:zbU T.2 B=true) (h:Aside0 (zaC md ops=T)→Aside0 (zbU T.2 B=true)→jB P md ops Q S ds n l a w):jB P md ops Q S ds n l a w:=h ⟨hT⟩ ⟨hB⟩
end
def zcG:Code→Nat→Option (Array Oper)
 | .region id ops _,k=>if id==k then some ops else none
 | .seq a b,k=>match zcG a k with
  | some o=>some o
  | none=>zcG b k
 | .cond _ a b,k=>match zcG a k with
  | some o=>some o
  | none=>zcG b k
 | .block _ c,k=>zcG c k
 | .loop c,k=>zcG c k
 | .scope c,k=>zcG c k
 | .rangeFunc _ _ a b,k=>match zcG a k with
  | some o=>some o
  | none=>zcG b k
 | _,_=>none
def zhj (f:Func) (k:Nat):Array Oper:=((f.body.bind fun c=>zcG c k)).getD #[]
end Go.Proofs.YtcmgdjnjmobkoaaGreatDoorW.PrintLast
end
section
namespace Go.Proofs.YtcmgdjnjmobkoaaGreatDoorW.PrintLast
section
variable {P:Program} {ops:Array Oper} {Q:Exit→Act→World→Prop} {md:Region.Mode} {S:World→Prop} {ds:List Nat} {T:Bool×List (List Nat×List Nat)}
end
end Go.Proofs.YtcmgdjnjmobkoaaGreatDoorW.PrintLast
end
section
namespace Go.Proofs.YtcmgdjnjmobkoaaGreatDoorW.PrintWords
open Go.RowKit
namespace Kd
section
variable {α:Type} {d:Kd α} {W:World} {g n:Nat} {S ok:Nat→Prop} {A:Option Addr} {ad:Addr} {xs:List α}
end
end Kd
end Go.Proofs.YtcmgdjnjmobkoaaGreatDoorW.PrintWords
end
section
namespace Go.Proofs.YtcmgdjnjmobkoaaGreatDoorW.PrintWords
open Go.RowKit
section
variable {w w' u:World} {m B g:Nat} {o:Obj} {row:Option Nat} {S:Nat→Prop} {a:Addr} {v:Value}
end
namespace Kd
section
variable {α:Type} {d:Kd α} {e base n m:Nat} {ok:Nat→Prop} {w w':World} {v:Value} {A:Option Addr} {xs:List α}
end
end Kd
end Go.Proofs.YtcmgdjnjmobkoaaGreatDoorW.PrintWords
end
section
namespace Go.Proofs.YtcmgdjnjmobkoaaGreatDoorW.PrintWords
open Go.RowKit
section
variable {P:Program} {d:Nat} {xs ys:Array Value} {f:Field} {fs:List Field} {a b:Value} {r s:Bool} {w:World}
theorem znY (hn:(f.name== "_")=false) (ha:(part f.type xs f.offset).run P w=.ok a w) (hb:(part f.type ys f.offset).run P w=.ok b w) (he:(Op.equalIn d f.type a b).run P w=.ok r w):(Op.eqFields d xs ys [f]).run P w=.ok r w:=by
 have hn':f.name≠ "_":=by simpa using hn
 simp only[Op.eqFields,if_pos hn',Sem.run_bind,ha,hb,he,Result.andThen_ok]
 cases r <;> simp
theorem znV (hn:(f.name== "_")=false) (ha:(part f.type xs f.offset).run P w=.ok a w) (hb:(part f.type ys f.offset).run P w=.ok b w) (he:(Op.equalIn d f.type a b).run P w=.ok r w) (hr:(Op.eqFields d xs ys fs).run P w=.ok s w):(Op.eqFields d xs ys (f :: fs)).run P w=.ok (r&&s) w:=by
 have hn':f.name≠ "_":=by simpa using hn
 rw[Op.eqFields];simp only[if_pos hn',Sem.run_bind,ha,hb,he,Result.andThen_ok]
 cases r
 ·simp
 simpa using hr
theorem zpR {t:TypeId} {fs:Array Field} (hu:P.underlying t=some (.struct fs)) (hp:P.stoodInHeld t=false) (h:(Op.eqFields d xs ys fs.toList).run P w=.ok r w):(Op.equalIn (d+1) t (.agg xs) (.agg ys)).run P w=.ok r w:=by
 have hf:P.fieldsOf t=fs:=by simp[Program.fieldsOf,hu]
 rw[run_equalIn_struct (P:=P) w d t xs ys (by rw[hf];exact hu) hp,hf];exact h
end
end Go.Proofs.YtcmgdjnjmobkoaaGreatDoorW.PrintWords
end
section
namespace Go.Proofs.YtcmgdjnjmobkoaaGreatDoorW.PrintWords
theorem jN.one {α:Type} {R:α→List Value→Prop} {ps:List α} {cs:List Value} {p:α} {v:Value} (hp:R p [v]) (h:jN R 1 ps cs):jN R 1 (p :: ps) (v :: cs):=by
 refine⟨by simp[h.1],fun j q hq=>?_⟩
 cases j with
 | zero =>
  simp only[List.getElem?_cons_zero,Option.some.injEq] at hq
  subst hq
  simpa using hp
 | succ j =>
  simp only[List.getElem?_cons_succ] at hq
  have h1:=h.2 j q hq;simpa [Nat.mul_one] using h1
theorem jN.front {α:Type} {R:α→List Value→Prop} {size:Nat} {ps:List α} {cs c all:List Value} {p:α} (hp:R p c) (hc:c.length=size) (h:jN R size ps cs) (ha:c++cs=all):jN R size (p :: ps) all:=by
 subst ha;refine⟨by rw[List.length_append,hc,h.1,List.length_cons,Nat.succ_mul,Nat.add_comm],fun j q hq=>?_⟩
 cases j with
 | zero =>
  simp only[List.getElem?_cons_zero,Option.some.injEq] at hq
  subst hq;rw[Nat.zero_mul,List.drop_zero,List.take_append_of_le_length (by omega),List.take_of_length_le (by omega)]
  exact hp
 | succ j =>
  simp only[List.getElem?_cons_succ] at hq
  have h1:=h.2 j q hq;rw[Nat.succ_mul,List.drop_append,List.drop_of_length_le (by rw[hc];exact Nat.le_add_left _ _),List.nil_append,hc,Nat.add_sub_cancel];exact h1
theorem jN.c2 {α:Type} {R:α→List Value→Prop} {ps:List α} {cs:List Value} {p:α} {va vb:Value} (hp:R p [va,vb]) (h:jN R 2 ps cs):jN R 2 (p :: ps) (va :: vb :: cs):=jN.front hp rfl h rfl
theorem jN.c3 {α:Type} {R:α→List Value→Prop} {ps:List α} {cs:List Value} {p:α} {va vb vc:Value} (hp:R p [va,vb,vc]) (h:jN R 3 ps cs):jN R 3 (p :: ps) (va :: vb :: vc :: cs):=jN.front hp rfl h rfl
theorem jN.c4 {α:Type} {R:α→List Value→Prop} {ps:List α} {cs:List Value} {p:α} {va vb vc vd:Value} (hp:R p [va,vb,vc,vd]) (h:jN R 4 ps cs):jN R 4 (p :: ps) (va :: vb :: vc :: vd :: cs):=jN.front hp rfl h rfl
theorem jN.c5 {α:Type} {R:α→List Value→Prop} {ps:List α} {cs:List Value} {p:α} {va vb vc vd ve:Value} (hp:R p [va,vb,vc,vd,ve]) (h:jN R 5 ps cs):jN R 5 (p :: ps) (va :: vb :: vc :: vd :: ve :: cs):=jN.front hp rfl h rfl
theorem jN.c6 {α:Type} {R:α→List Value→Prop} {ps:List α} {cs:List Value} {p:α} {va vb vc vd ve vf:Value} (hp:R p [va,vb,vc,vd,ve,vf]) (h:jN R 6 ps cs):jN R 6 (p :: ps) (va :: vb :: vc :: vd :: ve :: vf :: cs):=jN.front hp rfl h rfl
theorem jN.c7 {α:Type} {R:α→List Value→Prop} {ps:List α} {cs:List Value} {p:α} {va vb vc vd ve vf vg:Value} (hp:R p [va,vb,vc,vd,ve,vf,vg]) (h:jN R 7 ps cs):jN R 7 (p :: ps) (va :: vb :: vc :: vd :: ve :: vf :: vg :: cs):=jN.front hp rfl h rfl
theorem jN.c8 {α:Type} {R:α→List Value→Prop} {ps:List α} {cs:List Value} {p:α} {va vb vc vd ve vf vg vh:Value} (hp:R p [va,vb,vc,vd,ve,vf,vg,vh]) (h:jN R 8 ps cs):jN R 8 (p :: ps) (va :: vb :: vc :: vd :: ve :: vf :: vg :: vh :: cs):=jN.front hp rfl h rfl
theorem jN.c9 {α:Type} {R:α→List Value→Prop} {ps:List α} {cs:List Value} {p:α} {va vb vc vd ve vf vg vh vi:Value} (hp:R p [va,vb,vc,vd,ve,vf,vg,vh,vi]) (h:jN R 9 ps cs):jN R 9 (p :: ps) (va :: vb :: vc :: vd :: ve :: vf :: vg :: vh :: vi :: cs):=jN.front hp rfl h rfl
theorem jN.c10 {α:Type} {R:α→List Value→Prop} {ps:List α} {cs:List Value} {p:α} {va vb vc vd ve vf vg vh vi vj:Value} (hp:R p [va,vb,vc,vd,ve,vf,vg,vh,vi,vj]) (h:jN R 10 ps cs):jN R 10 (p :: ps) (va :: vb :: vc :: vd :: ve :: vf :: vg :: vh :: vi :: vj :: cs):=jN.front hp rfl h rfl
end Go.Proofs.YtcmgdjnjmobkoaaGreatDoorW.PrintWords
end
section
namespace Go.Proofs.YtcmgdjnjmobkoaaGreatDoorW.PrintLast
section
variable {P:Program} {ops:Array Oper} {Q:Exit→Act→World→Prop} {md:Region.Mode} {T:Bool×List (List Nat×List Nat)} {B:List Nat} {O:List Nat} {b:Nat→Bool} {i j n:Nat}
end
end Go.Proofs.YtcmgdjnjmobkoaaGreatDoorW.PrintLast
end
section
namespace Go.Proofs.YtcmgdjnjmobkoaaGreatDoorW.PrintWords
open Go.RowKit
end Go.Proofs.YtcmgdjnjmobkoaaGreatDoorW.PrintWords
namespace Go.Proofs.YtcmgdjnjmobkoaaGreatDoorW.PrintLast
section
variable {ops:Array Oper} {a:Act} {o og:Oper} {g:Nat} {t:Tmp} {u:Bool}
end
end Go.Proofs.YtcmgdjnjmobkoaaGreatDoorW.PrintLast
end
section
namespace Go.Proofs.YtcmgdjnjmobkoaaGreatDoorW.PrintWords
open Go.RowKit
section
variable {P:Program} {ops:Array Oper} {rest:List Oper} {o:Oper} {a:Act} {Q:Exit→Act→World→Prop} {W:World}
theorem vQ (hw:Region.wanted o (yielded ops a.tmps)=true) (h:wpList P ops Q ({ o with guard:=none } :: rest) a W):wpList P ops Q (o :: rest) a W:=by
 have h1:Region.wanted { o with guard:=none } (yielded ops a.tmps)=true:=rfl;unfold wpList at h ⊢;rw[if_pos h1] at h;rw[if_pos hw];exact h
end
end Go.Proofs.YtcmgdjnjmobkoaaGreatDoorW.PrintWords
end
section
namespace Go.Proofs.YtcmgdjnjmobkoaaGreatDoor.Px
open Fig Go.RowKit Go.Proofs.YtcmgdjnjmobkoaaGreatDoorW.PrintWords Go.Proofs.YtcmgdjnjmobkoaaGreatDoorW.PrintLast Go.Proofs.YtcmgdjnjmobkoaaGreatDoorW.PrintMore
attribute [local go_sem] vK vL uE uD yS yP vM vJ   -- for this text's walks alone
def zpX:Option Int→Value
 | none=>.nilIface
 | some c=>.iface 0 (.int .i64 c)
theorem yR:zpX none=.nilIface:=rfl
theorem yO (c:Int):zpX (some c)=.iface 0 (.int .i64 c):=rfl
theorem zkX:(Tryz.prog.info? 3).map (fun i=>(i.zero,i.size,i.bytes))=some (some (.int .i64 0),1,8):=by kernel_rfl
theorem zfB:(Tryz.prog.info? 5).map (fun i=>(i.zero,i.size,i.bytes))=some (some (.int .u8 0),1,1):=by kernel_rfl
theorem zpH:(Tryz.prog.info? 21).map (fun i=>(i.zero,i.size,i.bytes))=some (some (.int .i32 0),1,4):=by kernel_rfl
theorem zgZ:(Tryz.prog.info? 71).map (fun i=>(i.zero,i.size,i.bytes))=some (some (.agg #[(.int .i32 0),(.bool false),(.int .i64 0)]),3,16):=by kernel_rfl
theorem zfb:(Tryz.prog.info? 80).map (fun i=>(i.zero,i.size,i.bytes))=some (some (.agg #[(.int .i64 0),(.int .i32 0)]),2,16):=by kernel_rfl
theorem vW:(Tryz.prog.info? 95).map (fun i=>(i.zero,i.size,i.bytes))=some (some (.int .u32 0),1,4):=by kernel_rfl
structure S80 where
 f0:Int
 f1:Int
def z80:S80:=⟨(0:Int),(0:Int)⟩
def k80:Kd S80:=Kd.iso (Kd.pair (Kd.int .i64) (Kd.int .i32)) (fun x:S80=>(x.f0,x.f1))
theorem znp {w:World} {x:S80} {cs:List Value} (h:k80.K w x cs):cs=[.int .i64 x.f0,.int .i32 x.f1]:=by
 obtain⟨_,_,rfl,rfl,rfl⟩:=h;exact rfl
theorem zep (w:World) (base:Nat) (ok:Nat→Prop) (x:S80) :k80.M w base ok x [.int .i64 x.f0,.int .i32 x.f1]:=⟨[.int .i64 x.f0],[.int .i32 x.f1],rfl,rfl,rfl⟩
def qP (xs:List S80) (i:Int):S80:=xs.getD i.toNat z80
theorem zjl {w:World} {A:Option Addr} {n:Nat} {xs:List S80} (h:Kd.C k80 w A n xs) (i:Int) (h0:0≤i) (h1:i<n):∃ ad ,A=some ad∧w.cell? (ad.add (i.toNat * 2))=some (.int .i64 (qP xs i).f0)∧w.cell? ⟨(ad.add (i.toNat * 2)).block,(ad.add (i.toNat * 2)).off+1,none⟩=some (.int .i32 (qP xs i).f1):=by
 obtain⟨ad,c,e,_,hK,hc0⟩:=Kd.C_get h z80 i h0 h1;have hc:∀ j u,c[j]?=some u→w.cell? (ad.add (i.toNat * 2+j))=some u:=hc0
 obtain rfl:=znp hK;exact⟨ad,e,hc 0 _ rfl,by rw[←zck _ _ 1 (by omega)];exact hc 1 _ rfl⟩
structure S71 where
 f0:Int
 f1:Bool
 f2:Int
def z71:S71:=⟨(0:Int),false,(0:Int)⟩
def k71:Kd S71:=Kd.iso (Kd.pair (Kd.int .i32) (Kd.pair Kd.bool (Kd.int .i64))) (fun x:S71=>(x.f0,x.f1,x.f2))
theorem ziK {w:World} {x:S71} {cs:List Value} (h:k71.K w x cs):cs=[.int .i32 x.f0,.bool x.f1,.int .i64 x.f2]:=by
 obtain⟨_,_,rfl,rfl,⟨_,_,rfl,rfl,rfl⟩⟩:=h;exact rfl
theorem zel (w:World) (base:Nat) (ok:Nat→Prop) (x:S71) :k71.M w base ok x [.int .i32 x.f0,.bool x.f1,.int .i64 x.f2]:=⟨[.int .i32 x.f0],[.bool x.f1,.int .i64 x.f2],rfl,rfl,⟨[.bool x.f1],[.int .i64 x.f2],rfl,rfl,rfl⟩⟩
def zfv (xs:List S71) (i:Int):S71:=xs.getD i.toNat z71
theorem zjt {w:World} {A:Option Addr} {n:Nat} {xs:List S71} (h:Kd.C k71 w A n xs) (i:Int) (h0:0≤i) (h1:i<n):∃ ad ,A=some ad∧w.cell? (ad.add (i.toNat * 3))=some (.int .i32 (zfv xs i).f0)∧w.cell? ⟨(ad.add (i.toNat * 3)).block,(ad.add (i.toNat * 3)).off+1,none⟩=some (.bool (zfv xs i).f1)∧w.cell? ⟨(ad.add (i.toNat * 3)).block,(ad.add (i.toNat * 3)).off+2,none⟩=some (.int .i64 (zfv xs i).f2):=by
 obtain⟨ad,c,e,_,hK,hc0⟩:=Kd.C_get h z71 i h0 h1;have hc:∀ j u,c[j]?=some u→w.cell? (ad.add (i.toNat * 3+j))=some u:=hc0
 obtain rfl:=ziK hK;exact⟨ad,e,hc 0 _ rfl,by rw[←zck _ _ 1 (by omega)];exact hc 1 _ rfl,by rw[←zck _ _ 2 (by omega)];exact hc 2 _ rfl⟩
structure S73 where
 f0:S71
 f1:Bool
def z73:S73:=⟨z71,false⟩
def k73:Kd S73:=Kd.iso (Kd.pair k71 Kd.bool) (fun x:S73=>(x.f0,x.f1))
theorem znq {w:World} {x:S73} {cs:List Value} (h:k73.K w x cs):cs=[.int .i32 x.f0.f0,.bool x.f0.f1,.int .i64 x.f0.f2,.bool x.f1]:=by
 obtain⟨_,_,rfl,s0,rfl⟩:=h;obtain rfl:=ziK s0;exact rfl
theorem zkw (w:World) (base:Nat) (ok:Nat→Prop) (x:S73) :k73.M w base ok x [.int .i32 x.f0.f0,.bool x.f0.f1,.int .i64 x.f0.f2,.bool x.f1]:=⟨[.int .i32 x.f0.f0,.bool x.f0.f1,.int .i64 x.f0.f2],[.bool x.f1],rfl,(zel w base ok x.f0 ),rfl⟩
def zei (xs:List S73) (i:Int):S73:=xs.getD i.toNat z73
theorem zaQ {w:World} {A:Option Addr} {n:Nat} {xs:List S73} (h:Kd.C k73 w A n xs) (i:Int) (h0:0≤i) (h1:i<n):∃ ad ,A=some ad∧w.cell? (ad.add (i.toNat * 4))=some (.int .i32 (zei xs i).f0.f0)∧w.cell? ⟨(ad.add (i.toNat * 4)).block,(ad.add (i.toNat * 4)).off+1,none⟩=some (.bool (zei xs i).f0.f1)∧w.cell? ⟨(ad.add (i.toNat * 4)).block,(ad.add (i.toNat * 4)).off+2,none⟩=some (.int .i64 (zei xs i).f0.f2)∧w.cell? ⟨(ad.add (i.toNat * 4)).block,(ad.add (i.toNat * 4)).off+3,none⟩=some (.bool (zei xs i).f1):=by
 obtain⟨ad,c,e,_,hK,hc0⟩:=Kd.C_get h z73 i h0 h1;have hc:∀ j u,c[j]?=some u→w.cell? (ad.add (i.toNat * 4+j))=some u:=hc0
 obtain rfl:=znq hK;exact⟨ad,e,hc 0 _ rfl,by rw[←zck _ _ 1 (by omega)];exact hc 1 _ rfl,by rw[←zck _ _ 2 (by omega)];exact hc 2 _ rfl,by rw[←zck _ _ 3 (by omega)];exact hc 3 _ rfl⟩
theorem qQ (v0_ v1_ v2_:Value) (w:World):(Instr.field 23 (.agg #[v0_,v1_,v2_]) 0).run Tryz.prog w=.ok v0_ w:=by kernel_rfl
theorem qX (v0_ v1_ v2_:Value) (w:World):(Instr.field 23 (.agg #[v0_,v1_,v2_]) 1).run Tryz.prog w=.ok v1_ w:=by kernel_rfl
theorem qL (v0_ v1_ v2_:Value) (w:World):(Instr.field 23 (.agg #[v0_,v1_,v2_]) 2).run Tryz.prog w=.ok v2_ w:=by kernel_rfl
theorem qW (v0_ v1_ v2_ v3_:Value) (w:World):(Instr.field 36 (.agg #[v0_,v1_,v2_,v3_]) 0).run Tryz.prog w=.ok v0_ w:=by kernel_rfl
theorem qY (v0_ v1_ v2_ v3_:Value) (w:World):(Instr.field 36 (.agg #[v0_,v1_,v2_,v3_]) 1).run Tryz.prog w=.ok v1_ w:=by kernel_rfl
theorem qN (v0_ v1_ v2_ v3_:Value) (w:World):(Instr.field 36 (.agg #[v0_,v1_,v2_,v3_]) 2).run Tryz.prog w=.ok v2_ w:=by kernel_rfl
theorem qZ (v0_ v1_ v2_ v3_:Value) (w:World):(Instr.field 36 (.agg #[v0_,v1_,v2_,v3_]) 3).run Tryz.prog w=.ok v3_ w:=by kernel_rfl
theorem xA (v0_ v1_:Value) (w:World):(Instr.field 51 (.agg #[v0_,v1_]) 0).run Tryz.prog w=.ok v0_ w:=by kernel_rfl
theorem qT (v0_ v1_:Value) (w:World):(Instr.field 51 (.agg #[v0_,v1_]) 1).run Tryz.prog w=.ok v1_ w:=by kernel_rfl
theorem qS (v0_ v1_ v2_:Value) (w:World):(Instr.field 71 (.agg #[v0_,v1_,v2_]) 0).run Tryz.prog w=.ok v0_ w:=by kernel_rfl
theorem qU (v0_ v1_ v2_:Value) (w:World):(Instr.field 71 (.agg #[v0_,v1_,v2_]) 1).run Tryz.prog w=.ok v1_ w:=by kernel_rfl
theorem qV (v0_ v1_ v2_:Value) (w:World):(Instr.field 71 (.agg #[v0_,v1_,v2_]) 2).run Tryz.prog w=.ok v2_ w:=by kernel_rfl
theorem xB (v0_ v1_:Value) (w:World):(Instr.field 80 (.agg #[v0_,v1_]) 0).run Tryz.prog w=.ok v0_ w:=by kernel_rfl
theorem qO (v0_ v1_:Value) (w:World):(Instr.field 80 (.agg #[v0_,v1_]) 1).run Tryz.prog w=.ok v1_ w:=by kernel_rfl
end Go.Proofs.YtcmgdjnjmobkoaaGreatDoor.Px
end
section
namespace Go.Proofs.YtcmgdjnjmobkoaaGreatDoorW.PrintWords
open Go Go.RowKit Go.Proofs.YtcmgdjnjmobkoaaGreatDoorW.PrintLast Go.Proofs.YtcmgdjnjmobkoaaGreatDoorW.PrintMore
theorem BL {n:Nat} {w W W':World} (h:Aside0 (Below n w W)) (k:Below n w W→Below n w W':=by (intro h_;repeat (first|(with_reducible first|exact h_|apply yC|apply jK|apply yM|refine xR ?_ (Aside0.out (by assumption)))|exact h_))):Below n w W':=k h.out
theorem BK {w w':World} {g:Nat} {o:Obj} (h:Aside0 (w.heap[g]?=some o)) (k:w.heap[g]?=some o→w'.heap[g]?=some o:=by (intro h_;(with_reducible repeat (first|refine jU ?_ _|refine jS ?_|refine jT ?_ _));exact h_)):w'.heap[g]?=some o:=k h.out
theorem MP {p:Prop} (k:p:=by ((try simp only[List.map_toArray]);(try simp only[List.map_cons]);(try simp only[List.map_nil]);first|done|rfl|(simp only[List.length_drop,List.length_take];rfl))):p:=k
theorem ER {p:Prop} (k:p:=by (first|rfl|(simp[yR,yO] <;> rfl)|(simp[*,yR,yO] <;> rfl))):p:=k
theorem CE {p:Prop} (k:p:=by ((repeat' apply And.intro) <;> exact (zA (Aside0.out (by assumption)) _).trans rfl)):p:=k
theorem RB {p q:Prop} (h:p) (k:p→q:=by (intro h_;(with_reducible repeat (first|apply Kd.R_alloc|apply Kd.R_drewN|apply Kd.R_drew));exact h_)):q:=k h
theorem CB {p q:Prop} (h:p) (k:p→q:=by (intro h_;repeat (first|exact h_|(with_reducible refine Kd.C_alloc ?_ _)|(with_reducible refine Kd.C_drewN ?_ _)|(with_reducible refine Kd.C_drew ?_)))):q:=k h
theorem SR {p:Prop} (k:p:=by (first|rfl|(simp;done)|(simp[*];done)|(simp[*,Fig.bne_nil];done))):p:=k
theorem xM {w:World} {g:Nat} {t:TypeId} {cs cs':Array Value} {i:Nat} {u:Value} (h:w.heap[g]?=some (.cells cs t (0,0))) (e:cs.setIfInBounds i u=cs'):(w.setCell ⟨g,i,none⟩ u).heap[g]?=some (.cells cs' t (0,0)):=zpi h i u e
theorem K_ {p:Prop} (h:p):Aside0 p:=Aside0.mk h
theorem BP {w w':World} {g:Nat} {t:TypeId} {cs cs':Array Value} (h:Aside0 (w.heap[g]?=some (.cells cs t (0,0)))) (k:w.heap[g]?=some (.cells cs t (0,0))→w'.heap[g]?=some (.cells cs' t (0,0)):=by (intro h_;(repeat (first|(with_reducible exact h_)|(with_reducible refine jU ?_ _)|(with_reducible refine jS ?_)|(with_reducible refine jT ?_ _)|apply xM|exact h_));(all_goals rfl))):w'.heap[g]?=some (.cells cs' t (0,0)):=k h.out
theorem zqF {α:Type} {d:Kd α} {e base:Nat} {w w1 w2:World} {ok:Nat→Prop} {v:Value} {xs:List α} (h:Aside0 (d.R e w base ok v xs)) (hq:w2=w1) (k:d.R e w base ok v xs→d.R e w2 base ok v xs:=by (intro h_;(with_reducible repeat (first|apply Kd.R_alloc|apply Kd.R_drewN|apply Kd.R_drew));exact h_)):Aside0 (d.R e w1 base ok v xs):=⟨by rw[←hq];exact k h.out⟩
section
variable {n m:Nat} {w w1 w' W:World} {g g':Nat} {o:Obj} {t:TypeId}
theorem zC (h:Aside0 (w.heap[g]?=some o)) (hb:Below w'.heap.size w' w1) (k:w.heap[g]?=some o→w'.heap[g]?=some o:=by (intro h_;(with_reducible repeat (first|refine jU ?_ _|refine jS ?_|refine jT ?_ _));exact h_)):Aside0 (w1.heap[g]?=some o):=⟨zcq (k h.out) hb⟩
theorem zF (h:Aside0 (Below w.heap.size w W)) (hb:Below w'.heap.size w' w1) (k:Below w.heap.size w W→Below w.heap.size w w':=by (intro h_;repeat (first|(with_reducible first|exact h_|apply yC|apply jK|apply yM|refine xR ?_ (Aside0.out (by assumption)))|exact h_))):Aside0 (Below w.heap.size w w1):=⟨zeB (k h.out) hb⟩
theorem ge_ (hg:g=w'.heap.size) (h:Aside0 (Below w.heap.size w W)) (k:Below w.heap.size w W→Below w.heap.size w w':=by (intro h_;repeat (first|(with_reducible first|exact h_|apply yC|apply jK|apply yM|refine xR ?_ (Aside0.out (by assumption)))|exact h_))):Aside0 (w.heap.size≤g):=⟨by rw[hg];exact zQ (k h.out)⟩
theorem nb_ (hg:g'=w'.heap.size) (h:Aside0 (w.heap[g]?=some o)) (k:w.heap[g]?=some o→w'.heap[g]?=some o:=by (intro h_;(with_reducible repeat (first|refine jU ?_ _|refine jS ?_|refine jT ?_ _));exact h_)):Aside0 (g≠g'):=⟨by rw[hg];exact Nat.ne_of_lt (zcP (k h.out))⟩
theorem nc_ (hg:g'=w'.heap.size) (h:Aside0 (w.heap[g]?=some o)) (k:w.heap[g]?=some o→w'.heap[g]?=some o:=by (intro h_;(with_reducible repeat (first|refine jU ?_ _|refine jS ?_|refine jT ?_ _));exact h_)):Aside0 (g'≠g):=⟨by rw[hg];exact Nat.ne_of_gt (zcP (k h.out))⟩
theorem zbR (h:Aside0 (w.heap[g]?=some o)) (hq:w'=w1) (k:w.heap[g]?=some o→w'.heap[g]?=some o:=by (intro h_;(with_reducible repeat (first|refine jU ?_ _|refine jS ?_|refine jT ?_ _));exact h_)):Aside0 (w1.heap[g]?=some o):=⟨by rw[←hq];exact k h.out⟩
theorem zdt (h:Aside0 (Below n w W)) (hq:w'=w1) (k:Below n w W→Below n w w':=by (intro h_;repeat (first|(with_reducible first|exact h_|apply yC|apply jK|apply yM|refine xR ?_ (Aside0.out (by assumption)))|exact h_))):Aside0 (Below n w w1):=⟨by rw[←hq];exact k h.out⟩
end
section
variable {w:World} {g:Nat} {t:TypeId} {a0 a1 a2 a3 a4:Value}
theorem ce2 (h:Aside0 (w.heap[g]?=some (.cells #[a0,a1] t (0,0)))):(w.cell? ⟨g,0,none⟩=some a0∧w.cell? ⟨g,1,none⟩=some a1)∧w.frozen? ⟨g,0,none⟩=false∧w.frozen? ⟨g,1,none⟩=false:=
 ⟨⟨(zA h.out 0).trans rfl,(zA h.out 1).trans rfl⟩,zM h.out 0,zM h.out 1⟩
theorem ce3 (h:Aside0 (w.heap[g]?=some (.cells #[a0,a1,a2] t (0,0)))):(w.cell? ⟨g,0,none⟩=some a0∧w.cell? ⟨g,1,none⟩=some a1∧w.cell? ⟨g,2,none⟩=some a2)∧w.frozen? ⟨g,0,none⟩=false∧w.frozen? ⟨g,1,none⟩=false∧w.frozen? ⟨g,2,none⟩=false:=
 ⟨⟨(zA h.out 0).trans rfl,(zA h.out 1).trans rfl,(zA h.out 2).trans rfl⟩,zM h.out 0,zM h.out 1,zM h.out 2⟩
theorem ce4 (h:Aside0 (w.heap[g]?=some (.cells #[a0,a1,a2,a3] t (0,0)))):(w.cell? ⟨g,0,none⟩=some a0∧w.cell? ⟨g,1,none⟩=some a1∧w.cell? ⟨g,2,none⟩=some a2∧w.cell? ⟨g,3,none⟩=some a3)∧w.frozen? ⟨g,0,none⟩=false∧w.frozen? ⟨g,1,none⟩=false∧w.frozen? ⟨g,2,none⟩=false∧w.frozen? ⟨g,3,none⟩=false:=
 ⟨⟨(zA h.out 0).trans rfl,(zA h.out 1).trans rfl,(zA h.out 2).trans rfl,(zA h.out 3).trans rfl⟩,zM h.out 0,zM h.out 1,zM h.out 2,zM h.out 3⟩
end
section
variable {w:World} {g:Nat} {t:TypeId} {a0 a1 a2 a3 a4 a5 a6 a7 a8 a9 a10 a11 a12 a13 a14 a15 a16 a17 a18 a19:Value}
theorem zfh (h:Aside0 (w.heap[g]?=some (.cells #[a0,a1,a2,a3,a4,a5,a6,a7,a8,a9,a10,a11,a12,a13,a14,a15,a16,a17,a18,a19] t (0,0)))):(w.cell? ⟨g,0,none⟩=some a0∧w.cell? ⟨g,1,none⟩=some a1∧w.cell? ⟨g,2,none⟩=some a2∧w.cell? ⟨g,3,none⟩=some a3∧w.cell? ⟨g,4,none⟩=some a4∧w.cell? ⟨g,5,none⟩=some a5∧w.cell? ⟨g,6,none⟩=some a6∧w.cell? ⟨g,7,none⟩=some a7∧w.cell? ⟨g,8,none⟩=some a8∧w.cell? ⟨g,9,none⟩=some a9∧w.cell? ⟨g,10,none⟩=some a10∧w.cell? ⟨g,11,none⟩=some a11∧w.cell? ⟨g,12,none⟩=some a12∧w.cell? ⟨g,13,none⟩=some a13∧w.cell? ⟨g,14,none⟩=some a14∧w.cell? ⟨g,15,none⟩=some a15∧w.cell? ⟨g,16,none⟩=some a16∧w.cell? ⟨g,17,none⟩=some a17∧w.cell? ⟨g,18,none⟩=some a18∧w.cell? ⟨g,19,none⟩=some a19)∧w.frozen? ⟨g,0,none⟩=false∧w.frozen? ⟨g,1,none⟩=false∧w.frozen? ⟨g,2,none⟩=false∧w.frozen? ⟨g,3,none⟩=false∧w.frozen? ⟨g,4,none⟩=false∧w.frozen? ⟨g,5,none⟩=false∧w.frozen? ⟨g,6,none⟩=false∧w.frozen? ⟨g,7,none⟩=false∧w.frozen? ⟨g,8,none⟩=false∧w.frozen? ⟨g,9,none⟩=false∧w.frozen? ⟨g,10,none⟩=false∧w.frozen? ⟨g,11,none⟩=false∧w.frozen? ⟨g,12,none⟩=false∧w.frozen? ⟨g,13,none⟩=false∧w.frozen? ⟨g,14,none⟩=false∧w.frozen? ⟨g,15,none⟩=false∧w.frozen? ⟨g,16,none⟩=false∧w.frozen? ⟨g,17,none⟩=false∧w.frozen? ⟨g,18,none⟩=false∧w.frozen? ⟨g,19,none⟩=false:=
 ⟨⟨(zA h.out 0).trans rfl,(zA h.out 1).trans rfl,(zA h.out 2).trans rfl,(zA h.out 3).trans rfl,(zA h.out 4).trans rfl,(zA h.out 5).trans rfl,(zA h.out 6).trans rfl,(zA h.out 7).trans rfl,(zA h.out 8).trans rfl,(zA h.out 9).trans rfl,(zA h.out 10).trans rfl,(zA h.out 11).trans rfl,(zA h.out 12).trans rfl,(zA h.out 13).trans rfl,(zA h.out 14).trans rfl,(zA h.out 15).trans rfl,(zA h.out 16).trans rfl,(zA h.out 17).trans rfl,(zA h.out 18).trans rfl,(zA h.out 19).trans rfl⟩,zM h.out 0,zM h.out 1,zM h.out 2,zM h.out 3,zM h.out 4,zM h.out 5,zM h.out 6,zM h.out 7,zM h.out 8,zM h.out 9,zM h.out 10,zM h.out 11,zM h.out 12,zM h.out 13,zM h.out 14,zM h.out 15,zM h.out 16,zM h.out 17,zM h.out 18,zM h.out 19⟩
end
section
variable {w:World} {g:Nat} {t:TypeId} {a0 a1 a2 a3 a4 a5 a6 a7 a8 a9 a10 a11 a12 a13 a14 a15 a16 a17 a18 a19 a20 a21 a22 a23 a24:Value}
theorem zqN (h:Aside0 (w.heap[g]?=some (.cells #[a0,a1,a2,a3,a4,a5,a6,a7,a8,a9,a10,a11,a12,a13,a14,a15,a16,a17,a18,a19,a20,a21,a22,a23,a24] t (0,0)))):(w.cell? ⟨g,0,none⟩=some a0∧w.cell? ⟨g,1,none⟩=some a1∧w.cell? ⟨g,2,none⟩=some a2∧w.cell? ⟨g,3,none⟩=some a3∧w.cell? ⟨g,4,none⟩=some a4∧w.cell? ⟨g,5,none⟩=some a5∧w.cell? ⟨g,6,none⟩=some a6∧w.cell? ⟨g,7,none⟩=some a7∧w.cell? ⟨g,8,none⟩=some a8∧w.cell? ⟨g,9,none⟩=some a9∧w.cell? ⟨g,10,none⟩=some a10∧w.cell? ⟨g,11,none⟩=some a11∧w.cell? ⟨g,12,none⟩=some a12∧w.cell? ⟨g,13,none⟩=some a13∧w.cell? ⟨g,14,none⟩=some a14∧w.cell? ⟨g,15,none⟩=some a15∧w.cell? ⟨g,16,none⟩=some a16∧w.cell? ⟨g,17,none⟩=some a17∧w.cell? ⟨g,18,none⟩=some a18∧w.cell? ⟨g,19,none⟩=some a19∧w.cell? ⟨g,20,none⟩=some a20∧w.cell? ⟨g,21,none⟩=some a21∧w.cell? ⟨g,22,none⟩=some a22∧w.cell? ⟨g,23,none⟩=some a23∧w.cell? ⟨g,24,none⟩=some a24)∧w.frozen? ⟨g,0,none⟩=false∧w.frozen? ⟨g,1,none⟩=false∧w.frozen? ⟨g,2,none⟩=false∧w.frozen? ⟨g,3,none⟩=false∧w.frozen? ⟨g,4,none⟩=false∧w.frozen? ⟨g,5,none⟩=false∧w.frozen? ⟨g,6,none⟩=false∧w.frozen? ⟨g,7,none⟩=false∧w.frozen? ⟨g,8,none⟩=false∧w.frozen? ⟨g,9,none⟩=false∧w.frozen? ⟨g,10,none⟩=false∧w.frozen? ⟨g,11,none⟩=false∧w.frozen? ⟨g,12,none⟩=false∧w.frozen? ⟨g,13,none⟩=false∧w.frozen? ⟨g,14,none⟩=false∧w.frozen? ⟨g,15,none⟩=false∧w.frozen? ⟨g,16,none⟩=false∧w.frozen? ⟨g,17,none⟩=false∧w.frozen? ⟨g,18,none⟩=false∧w.frozen? ⟨g,19,none⟩=false∧w.frozen? ⟨g,20,none⟩=false∧w.frozen? ⟨g,21,none⟩=false∧w.frozen? ⟨g,22,none⟩=false∧w.frozen? ⟨g,23,none⟩=false∧w.frozen? ⟨g,24,none⟩=false:=
 ⟨⟨(zA h.out 0).trans rfl,(zA h.out 1).trans rfl,(zA h.out 2).trans rfl,(zA h.out 3).trans rfl,(zA h.out 4).trans rfl,(zA h.out 5).trans rfl,(zA h.out 6).trans rfl,(zA h.out 7).trans rfl,(zA h.out 8).trans rfl,(zA h.out 9).trans rfl,(zA h.out 10).trans rfl,(zA h.out 11).trans rfl,(zA h.out 12).trans rfl,(zA h.out 13).trans rfl,(zA h.out 14).trans rfl,(zA h.out 15).trans rfl,(zA h.out 16).trans rfl,(zA h.out 17).trans rfl,(zA h.out 18).trans rfl,(zA h.out 19).trans rfl,(zA h.out 20).trans rfl,(zA h.out 21).trans rfl,(zA h.out 22).trans rfl,(zA h.out 23).trans rfl,(zA h.out 24).trans rfl⟩,zM h.out 0,zM h.out 1,zM h.out 2,zM h.out 3,zM h.out 4,zM h.out 5,zM h.out 6,zM h.out 7,zM h.out 8,zM h.out 9,zM h.out 10,zM h.out 11,zM h.out 12,zM h.out 13,zM h.out 14,zM h.out 15,zM h.out 16,zM h.out 17,zM h.out 18,zM h.out 19,zM h.out 20,zM h.out 21,zM h.out 22,zM h.out 23,zM h.out 24⟩
end
section
variable {P:Program} {ops:Array Oper} {rest:List Oper} {o:Oper} {a:Act} {Q:Exit→Act→World→Prop}
theorem be_ {W:World} (N:Tmp) (cs:Array Value) (t:TypeId) (h:∀ g,g=W.heap.size→∀ w1,w1.heap[g]?=some (.cells cs t (0,0))→Below W.heap.size W w1→wpList P ops Q rest (a.put o.dst (.pointer (some ⟨g,0,none⟩))) w1)
  (hd:o.dst=some N:=by with_reducible rfl) (hgd:o.guard=none:=by rfl) (hrun:(execOp a.eval o).run P W=.ok (.value (.pointer (some ⟨W.heap.size,0,none⟩))) (W.alloc (.cells cs t (0,0))):=by (first|(go_simp;done)|(go_simp;rfl))):wpList P ops Q (o :: rest) a W:=
 zdC hgd hd hrun h
end
section
variable {P:Program} {ops:Array Oper} {Q:Exit→Act→World→Prop} {md:Region.Mode} {S:World→Prop} {ds:List Nat}
def bb (n k:Nat):Array Bool:=(Array.range n).map k.testBit
theorem pu_ (i:Nat) (N:Option Tmp) {oi:Oper} {v:Value} {fuel:Nat} {l:Array Bool} {a:Act} {w:World} (l':Array Bool) (hc:zhu md ops l l' i=true) {a':Act} (h:jB P md ops Q S ds fuel l' a' w)
  (hi:ops[i]?=some oi:=by rfl) (hN:oi.dst=N:=by rfl) (hQ:∀ c a w,Q (.panic c) (a.put oi.dst v) w→Q (.panic c) a w:=by exact (fun _ _ _ h=>h)) (hy:Yields P ops oi v a:=by (refine Or.inl ⟨by rfl,?_⟩;intro w';go_simp;with_reducible rfl))
  (ha:a.put N v=a':=by (simp only[Act.put,List.setIfInBounds_toArray,List.set_cons_zero,List.set_cons_succ];(try simp only[vY]);(try simp only[xD]);rfl)):jB P md ops Q S ds (fuel+1) l a w:=vR l' hi hN hc hQ hy ha h
theorem tk_ (i:Nat) (N:Option Tmp) {oi:Oper} {v:Value} {fuel:Nat} {l:Array Bool} {a:Act} {w:World} (l':Array Bool) (hc:zdF md ops ds l l' i=true) (hS:S w) {a':Act} (h:jB P md ops Q S ds fuel l' a' w)
  (hi:ops[i]?=some oi:=by rfl) (hN:oi.dst=N:=by rfl) (hQ:∀ c a w,Q (.panic c) (a.put oi.dst v) w→Q (.panic c) a w:=by exact (fun _ _ _ h=>h)) (hy:YieldsIf P ops S oi v a:=by (refine Or.inl ⟨by rfl,?_⟩;intro w' hs_;(repeat (obtain⟨_,hs_⟩:=hs_));go_simp;with_reducible rfl))
  (ha:a.put N v=a':=by (simp only[Act.put,List.setIfInBounds_toArray,List.set_cons_zero,List.set_cons_succ];(try simp only[vY]);(try simp only[xD]);rfl)):jB P md ops Q S ds (fuel+1) l a w:=take_ l' hi hN hc hQ hy hS ha h
theorem no_ (N:Option Tmp) {fuel:Nat} {l:Array Bool} {b a':Act} {v:Value} {w:World} (h:jB P md ops Q S ds fuel l a' w)
  (ha:Act.put b N v=a':=by (simp only[Act.put,List.setIfInBounds_toArray,List.set_cons_zero,List.set_cons_succ];(try simp only[vY]);(try simp only[xD]);rfl)):jB P md ops Q S ds fuel l (Act.put b N v) w:=zlq ha h
end
end Go.Proofs.YtcmgdjnjmobkoaaGreatDoorW.PrintWords
end
