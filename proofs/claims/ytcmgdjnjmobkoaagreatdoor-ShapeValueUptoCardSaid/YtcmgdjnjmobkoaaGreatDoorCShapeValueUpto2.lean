/- The functions that the law ShapeValueUpto reaches, told as plain functions, with what is proved of them, and the words they need (part 2). -/
import Derived.Test.YtcmgdjnjmobkoaaGreatDoorCShapeValueUpto0
import Derived.Test.YtcmgdjnjmobkoaaGreatDoorCShapeValueUpto1
import Derived.Deep.RegionLaw
import Derived.Lib.Builder
import Derived.RangeFuncFrom
import Derived.RangeFuncBox
import Derived.RangeFuncLeaves
import Derived.RangeFuncCalls
import Derived.Shelf.Abstract
import Derived.OwnWalkIn
import Derived.TacticsInMore
import Derived.LoopNIn
import Derived.LoopIn
import Derived.Lib.OthersKept
import Derived.Laws.RangeAny
import Derived.Laws.RangeString
import Derived.Lib.SliceRun
set_option linter.unusedVariables false
set_option linter.unusedSimpArgs false
namespace Go.Proofs.YtcmgdjnjmobkoaaGreatDoor.Px
open Fig Go.RowKit Go.Proofs.YtcmgdjnjmobkoaaGreatDoorW.PrintWords Go.Proofs.YtcmgdjnjmobkoaaGreatDoorW.PrintLast Go.Proofs.YtcmgdjnjmobkoaaGreatDoorW.PrintMore
attribute [local go_sem] yS yR vN vM yF yE yU yT
attribute [local go_sem] uX uQ uP uU uV uO qA uR uZ uM uT uN uY uW
def jF.f (a0:ByteArray) (a1:Int):Option (Int):=if a1 ≥ (a0.size:Int) then (some 0) else (if 0≤(wrap64 ((wrap64 ((a0.size:Int)-1))-a1)) then (if (wrap64 ((wrap64 ((a0.size:Int)-1))-a1))<(a0.size:Int) then (some (((bt a0 (wrap64 ((wrap64 ((a0.size:Int)-1))-a1)))-48) % 256)) else (none)) else (none))
set_option maxHeartbeats 8000000 in
set_option maxRecDepth 100000 in
theorem jF.calls (a0:ByteArray) (a1:Int) (r:Int) (w:World) (h:jF.f a0 a1=some r) :
  Calls Tryz.prog 138 #[.string a0,.int .i64 a1] w fun e w'=>e=.returned (.int .i64 r)∧zJ w w':=by
 have H:(if a1 ≥ (a0.size:Int) then (some 0) else (if 0≤(wrap64 ((wrap64 ((a0.size:Int)-1))-a1)) then (if (wrap64 ((wrap64 ((a0.size:Int)-1))-a1))<(a0.size:Int) then (some (((bt a0 (wrap64 ((wrap64 ((a0.size:Int)-1))-a1)))-48) % 256)) else (none)) else (none)))=some r:=h;clear h;by_cases c3:a1 ≥ (a0.size:Int)
 ·rw[if_pos c3] at H
  have c3b0:decide ((a0.size:Int)≤a1)=true:=decide_eq_true c3;clear c3;obtain rfl:=Option.some.inj H;go_enter Tryz.func138,Tryz.ntmps138
  go_wp2
  go_ret
  exact⟨by first|rfl|(simp;done)|(simp[*];done)|(simp[*,Fig.bne_nil];done),by repeat (first|exact zJ.refl _|apply zJ.step)⟩
 rw[if_neg c3] at H;have c3b0:decide ((a0.size:Int)≤a1)=false:=decide_eq_false c3;clear c3;obtain⟨ji4,hji4⟩:∃ j_:Int,(wrap64 ((wrap64 ((a0.size:Int)-1))-a1))=j_:=⟨_,rfl⟩
 replace H:(if 0≤(ji4) then (if (ji4)<(a0.size:Int) then (some (((bt a0 (ji4))-48) % 256)) else (none)) else (none))=some r:=by first|(rw[hji4] at H;exact H)|(simp only[hji4] at H ⊢;exact H)
 have hji4w:(IntKind.i64.wrap ((wrap64 ((a0.size:Int)-1))-a1))=ji4:=(yY _).trans hji4;by_cases c5:0≤(ji4)
 ·rw[if_pos c5] at H
  have c5b0:decide (0≤(ji4))=true:=decide_eq_true c5;clear c5;by_cases c6:(ji4)<(a0.size:Int)
  ·rw[if_pos c6] at H
   have c6b0:decide ((ji4)<(a0.size:Int))=true:=decide_eq_true c6;clear c6;obtain rfl:=Option.some.inj H;have p7:0≤((ji4):Int):=of_decide_eq_true (by first|(with_reducible assumption)|assumption);have q7:(ji4)<(a0.size:Int):=of_decide_eq_true (by first|(with_reducible assumption)|assumption);have hx7:=xV a0 (ji4);replace p7:=eq_true p7;replace q7:=eq_true q7;go_enter Tryz.func138,Tryz.ntmps138
   go_wp2
   go_ret
   exact⟨by first|rfl|(simp;done)|(simp only[←hji4] <;> (first|rfl|simp))|(simp[*];done)|(simp[*,Fig.bne_nil];done),by repeat (first|exact zJ.refl _|apply zJ.step)⟩
  rw[if_neg c6] at H;exact absurd H (by simp)
 rw[if_neg c5] at H;exact absurd H (by simp)
def rs (s:ByteArray):List UInt8:=s.data.toList.reverse
theorem zjk (s:ByteArray):(rs s).length=s.size:=by rw[rs,List.length_reverse,←zQ]
def dg (s:ByteArray) (k:Nat):Nat:=match (rs s)[k]? with|some c=>c.toNat-48|none=>0
theorem zfs {s:ByteArray} (h:dB s=true) (k:Nat):dg s k≤9:=by
 unfold dg;split
 ·rename_i c hc
  have:isD c=true:=zbS.1 (show yB (rs s)=true by rw[rs,vX];exact h) c (List.mem_of_getElem? hc)
  have:=uD.1 this;omega
 omega
theorem zcV (s:ByteArray) (k:Nat):rv ((rs s).drop k)=dg s k+10 * rv ((rs s).drop (k+1)):=by
 unfold dg;by_cases h:k<(rs s).length
 ·rw[List.drop_eq_getElem_cons h,List.getElem?_eq_getElem h];rfl
 rw[List.drop_of_length_le (by omega),List.drop_of_length_le (by omega),List.getElem?_eq_none (by omega)];rfl
theorem zaL {s:ByteArray} {k:Nat} (h:s.size≤k):rv ((rs s).drop k)=0:=by
 rw[List.drop_of_length_le (by rw[zjk];omega)];rfl
theorem zbx {s:ByteArray} (h:dB s=true) (hs:s.size≤4611686018427387904) {k:Nat} (hk:k≤4611686018427387904):jF.f s (k:Int)=some ((dg s k:Nat):Int):=by
 unfold jF.f;by_cases hlt:k<s.size
 ·rw[if_neg (by omega),w64 (x:=(s.size:Int)-1) (by omega) (by omega),w64 (by omega) (by omega),if_pos (by omega),if_pos (by omega)]
  have e:(s.size:Int)-1-(k:Int)=((s.size-1-k:Nat):Int):=by omega
  rw[e,zcD (by omega)];have e2:(rs s)[k]?=some (s.data.toList[s.size-1-k]'(by rw[←zQ];omega)):=by
   unfold rs;rw[List.getElem?_reverse (by rw[←zQ];exact hlt)];rw[List.getElem?_eq_getElem (by rw[←zQ];omega)];congr 1
  have hd:isD (s.data.toList[s.size-1-k]'(by rw[←zQ];omega))=true:=zbS.1 h _ (List.getElem_mem _);have:=uD.1 hd
  unfold dg;rw[e2];congr 1
  show _=((_-48:Nat):Int)
  omega
 rw[if_pos (by omega)];unfold dg;rw[List.getElem?_eq_none (by rw[zjk];omega)];rfl
def zM.l0:Nat→ByteArray→Int→Option (ByteArray)
 | 0,_,_=>none
 | k+1,x0,x3=>if x3<(x0.size:Int) then (if 0≤x3 then (if (bt x0 x3)=48 then (zM.l0 k x0 (wrap64 (x3+1))) else (if x3≤(x0.size:Int) then (some (x0.extract (x3:Int).toNat x0.size)) else (none))) else (none)) else (if 0≤x3 then (if x3≤(x0.size:Int) then (some (x0.extract (x3:Int).toNat x0.size)) else (none)) else (none))
def zM.f (k:Nat) (a0:ByteArray):Option (ByteArray):=zM.l0 k a0 0
set_option maxHeartbeats 8000000 in
set_option maxRecDepth 100000 in
theorem zM.calls (k:Nat) (a0:ByteArray) (r:ByteArray) (w:World) (h:zM.f k a0=some r) :
  Calls Tryz.prog 69 #[.string a0] w fun e w'=>e=.returned (.string r)∧zJ w w':=by
 have H:(zM.l0 k a0 0)=some r:=h;clear h;have H':=K_ H;clear H;go_enter Tryz.func69,Tryz.ntmps69
 go_wp2
 go_loopg [3] k (fun kq v3 w'=>∃ (x3_1:Int),v3=.int .i64 x3_1∧Aside0 (zM.l0 kq a0 x3_1=some r)∧Aside0 (kq≤k)∧zJ w w')
 case atStart=>exact⟨(0),SR,H',⟨Nat.le_refl _⟩,by repeat (first|exact zJ.refl _|apply zJ.step)⟩
 case round =>
  clear H';obtain⟨x3_1,rfl,HA,HK1,⟨m1,rfl⟩⟩:=hrel;obtain _|k1:=gk
  ·exact absurd HA.out (by simp[zM.l0])
  have H:=HA.out;clear HA;simp only[zM.l0] at H
  by_cases c2:x3_1<(a0.size:Int)
  ·rw[if_pos c2] at H
   have c2b0:decide (x3_1<(a0.size:Int))=true:=decide_eq_true c2;clear c2;by_cases c3:0≤x3_1
   ·rw[if_pos c3] at H
    have c3b0:decide (0≤x3_1)=true:=decide_eq_true c3;clear c3;by_cases c5:(bt a0 x3_1)=48
    ·rw[if_pos c5] at H
     have c5b0:((bt a0 x3_1)==48)=true:=beq_iff_eq.mpr c5;have c5b1:((bt a0 x3_1) !=48)=false:=bne_eq_false_iff_eq.mpr c5;clear c5;have H':=K_ H;clear H;have p4:0≤(x3_1:Int):=of_decide_eq_true (by first|(with_reducible assumption)|assumption);have q4:x3_1<(a0.size:Int):=of_decide_eq_true (by first|(with_reducible assumption)|assumption);have hx4:=xV a0 x3_1;replace p4:=eq_true p4;replace q4:=eq_true q4;go_wp2
     go_roundg k1
     case measure=>have:=HK1.out;omega
     case rel=>exact⟨(wrap64 (x3_1+1)),SR,H',⟨by have:=HK1.out;omega⟩,by repeat (first|exact zJ.refl _|apply zJ.step)⟩
    rw[if_neg c5] at H;have c5b0:((bt a0 x3_1)==48)=false:=beq_eq_false_iff_ne.mpr c5;have c5b1:((bt a0 x3_1) !=48)=true:=bne_iff_ne.mpr c5;have c6b0:=eq_true (of_decide_eq_true (by first|(with_reducible assumption)|assumption):0≤x3_1);by_cases c7:x3_1≤(a0.size:Int)
    ·rw[if_pos c7] at H
     have c7b0:=eq_true c7;have c7b1:decide (x3_1≤(a0.size:Int))=true:=decide_eq_true c7;clear c7;obtain rfl:=Option.some.inj H;have p4:0≤(x3_1:Int):=of_decide_eq_true (by first|(with_reducible assumption)|assumption);have q4:x3_1<(a0.size:Int):=of_decide_eq_true (by first|(with_reducible assumption)|assumption);have hx4:=xV a0 x3_1;replace p4:=eq_true p4;replace q4:=eq_true q4;go_wp2
     go_ret
     exact⟨by first|rfl|(simp;done)|(simp[*];done)|(simp[*,Fig.bne_nil];done),by repeat (first|exact zJ.refl _|apply zJ.step)⟩
    rw[if_neg c7] at H;exact absurd H (by simp)
   rw[if_neg c3] at H;exact absurd H (by simp)
  rw[if_neg c2] at H;have c2b0:decide (x3_1<(a0.size:Int))=false:=decide_eq_false c2;clear c2;by_cases c8:0≤x3_1
  ·rw[if_pos c8] at H
   have c8b0:=eq_true c8;have c8b1:decide (0≤x3_1)=true:=decide_eq_true c8;clear c8;by_cases c9:x3_1≤(a0.size:Int)
   ·rw[if_pos c9] at H
    have c9b0:=eq_true c9;have c9b1:decide (x3_1≤(a0.size:Int))=true:=decide_eq_true c9;clear c9;obtain rfl:=Option.some.inj H;go_wp2
    go_ret
    exact⟨by first|rfl|(simp;done)|(simp[*];done)|(simp[*,Fig.bne_nil];done),by repeat (first|exact zJ.refl _|apply zJ.step)⟩
   rw[if_neg c9] at H;exact absurd H (by simp)
  rw[if_neg c8] at H;exact absurd H (by simp)
theorem zgJ (s:ByteArray) (hs:s.size≤4611686018427387904):∀ (d n:Nat),s.size-n=d→n≤s.size→Ev (fun k=>zM.l0 k s (n:Int)) (⟨(zaB (s.data.toList.drop n)).toArray⟩:ByteArray)
 | 0,n,hd,hn=>by
  refine zaP (r':=s.extract n s.size) (fun k=>?_) ?_
  ·simp only[zM.l0];rw[if_neg (by omega),if_pos (by omega),if_pos (by omega)];simp
  apply qM;rw[zgB]
  have:s.data.toList.drop n=[]:=List.drop_of_length_le (by rw[←zQ];omega)
  rw[this];rfl
 | d+1,n,hd,hn=>by
  have hlt:n<s.size:=by omega
  have hb:=zcD hlt;have hc:=List.drop_eq_getElem_cons (l:=s.data.toList) (i:=n) (by rw[←zQ];exact hlt);by_cases h48:bt s (n:Int)=48
  ·refine Ev.step (f:=fun k=>zM.l0 k s ((n+1:Nat):Int)) (fun k=>?_) ?_
   ·simp only[zM.l0];rw[if_pos (by omega),if_pos (by omega),if_pos h48,w64 (by omega) (by omega)];rfl
   have:=zgJ s hs d (n+1) (by omega) (by omega)
   rw[hc];have h2:s.data.toList[n]'(by rw[←zQ];exact hlt)=48:=UInt8.toNat.inj (by rw[hb] at h48;show _=48;omega);rw[h2];simpa [zaB] using this
  refine zaP (r':=s.extract n s.size) (fun k=>?_) ?_
  ·simp only[zM.l0];rw[if_pos (by omega),if_pos (by omega),if_neg h48,if_pos (by omega)];simp
  apply qM;rw[zgB]
  refine (zgZ ?_).symm;rw[hc,List.head?_cons];intro e;injection e with e
  rw[hb,e] at h48;exact h48 rfl
theorem zmx {s:ByteArray} (hs:s.size≤4611686018427387904):Ev (fun k=>zM.f k s) (zgz s):=by
 have:=zgJ s hs s.size 0 (by omega) (by omega)
 simpa [zM.f,zgz] using this
theorem zby {s:ByteArray} (hs:s.size≤4611686018427387904) (h:dB s=true):Ev (fun k=>zM.f k s) (zU (vB s)):=by
 rw[←zhr h];exact zmx hs
def jA.l0:Nat→List Int→List Int→Int→Option (ByteArray)
 | 0,_,_,_=>none
 | k+1,x0,x3,x4=>if x4 ≥ 0 then (if 0≤x4 then (if x4<(x0.length:Int) then (if x3.length<140737488355328 then (jA.l0 k x0 (x3++[rd x0 x4]) (wrap64 (x4-1))) else (none)) else (none)) else (none)) else (some (strOfNums x3))
def jA.f (k:Nat) (l0:List Int):Option (ByteArray):=jA.l0 k l0 ([]:List Int) (wrap64 ((l0.length:Int)-1))
set_option maxHeartbeats 8000000 in
set_option maxRecDepth 100000 in
theorem jA.calls (k:Nat) (A0:Option Addr) (c0:Nat) (l0:List Int) (r:ByteArray) (w:World) (hr0:Kd.C (Kd.int .u8) w A0 l0.length l0) (hc0:l0.length≤c0) (h:jA.f k l0=some r) :
  Calls Tryz.prog 139 #[.slice A0 l0.length c0] w fun e w'=>e=.returned (.string r)∧Below w.heap.size w w':=by
 have HR0:=K_ hr0;have HC0:=K_ hc0;clear hr0 hc0;have HB:=K_ (Below.refl w.heap.size w);have H:(jA.l0 k l0 ([]:List Int) (wrap64 ((l0.length:Int)-1)))=some r:=h;clear h;have H':=K_ H;clear H;go_enter Tryz.func139,Tryz.ntmps139
 go_wp2
 go_loopg [3,4] k (fun kq v3 v4 w'=>∃ (x3_1:List Int) (x4_1:Int),v4=.int .i64 x4_1∧Aside0 (jA.l0 kq l0 x3_1 x4_1=some r)∧Aside0 (kq≤k)∧Aside0 (Kd.R (Kd.int .u8) 5 w' w.heap.size (fun _=>True) v3 x3_1)∧Aside0 (Below w.heap.size w w'))
 case atStart=>exact⟨(([]:List Int)),(wrap64 ((l0.length:Int)-1)),SR,H',⟨Nat.le_refl _⟩,⟨by first|exact Kd.R_nil _ _ _ _ _|exact Kd.N_nil _ _ _ _ _|exact Kd.V_nil _ _ _ _ _|exact Kd.Q_nil _ _ _ _ _|exact Kd.S_nil _ _ _ _ _⟩,⟨BL HB⟩⟩
 case round =>
  clear H';obtain⟨x3_1,x4_1,rfl,HA,HK1,HO_3,HB⟩:=hrel;obtain _|k1:=gk
  ·exact absurd HA.out (by simp[jA.l0])
  have H:=HA.out;clear HA;simp only[jA.l0] at H
  by_cases c2:x4_1 ≥ 0
  ·rw[if_pos c2] at H
   have c2b0:decide (0≤x4_1)=true:=decide_eq_true c2;clear c2;by_cases c3:0≤x4_1
   ·rw[if_pos c3] at H
    have c3b0:decide (0≤x4_1)=true:=decide_eq_true c3;clear c3;by_cases c4:x4_1<(l0.length:Int)
    ·rw[if_pos c4] at H
     have c4b0:decide (x4_1<(l0.length:Int))=true:=decide_eq_true c4;clear c4;by_cases c5:x3_1.length<140737488355328
     ·rw[if_pos c5] at H
      have LMc5:=K_ c5;clear c5;obtain⟨y745,hy745⟩:∃ y_:List Int,y_=(x3_1++[rd l0 x4_1]):=⟨_,rfl⟩
      replace H:(jA.l0 k1 l0 y745 (wrap64 (x4_1-1)))=some r:=by first|(rw[hy745];with_reducible exact H)|(have H2_:=(Option.bind_some _ _).symm.trans H;rw[hy745];with_reducible exact H2_)|(have H2_:=(Option.bind_some _ _).symm.trans H;with_reducible exact H2_)|with_reducible exact H|(rw[hy745];exact H)|exact H
      have Ny745:=K_ hy745;clear hy745;have H':=K_ H;clear H;have p744:0≤(x4_1:Int):=of_decide_eq_true (by first|(with_reducible assumption)|assumption);have q744:x4_1<(l0.length:Int):=of_decide_eq_true (by first|(with_reducible assumption)|assumption);obtain⟨ad744,e744,hx744_0⟩:=Kd.at_int HR0.out x4_1 p744 q744;cases e744;replace hx744_0:=(HB.out.cell (World.block_lt_of_cell? w _ hx744_0)).trans hx744_0;replace p744:=eq_true p744;replace q744:=eq_true q744;go_wp2_with (first|((with_reducible refine jH (b:=.append) (xs:=#[.tmp 12,.tmp 17]) rfl ?_);at_builtin;refine Kd.R_append (Kd.int .u8) (w0:=w) w.heap.size rfl (.tmp 12) (.tmp 17) 107 5 (.int .u8 0) 1 rfl Tryz.underlying107 zfv rfl (by decide) (by omega) u3 x3_1 (rd l0 x4_1) [.int .u8 (rd l0 x4_1)] (fun _=>True) (fun _=>False) rfl rfl ?aP (fun _ hk=>hk.elim) ?aF ?aO ?aB ?aS ?aL ?_;(case aP=>exact rfl);(case aB=>exact (BL HB));(case aF=>exact (fun _ _=>trivial));(case aO=>exact (RB HO_3.out));(case aS=>exact (zS (BL HB)));(case aL=>have:=LMc5.out;omega);intro v746 w6 ho hb hg hat;rw[←Ny745.out] at ho;replace HB:=K_ (hb);have HO747:=K_ (ho);clear HO_3;clear ho hb hg hat))
      go_roundg k1
      case measure=>have:=HK1.out;omega
      case rel=>exact⟨(y745),(wrap64 (x4_1-1)),SR,H',⟨by have:=HK1.out;omega⟩,⟨RB HO747.out⟩,⟨BL HB⟩⟩
     rw[if_neg c5] at H;exact absurd H (by simp)
    rw[if_neg c4] at H;exact absurd H (by simp)
   rw[if_neg c3] at H;exact absurd H (by simp)
  rw[if_neg c2] at H;have c2b0:decide (0≤x4_1)=false:=decide_eq_false c2;clear c2;obtain rfl:=Option.some.inj H;have hcv7:=zcS (P:=Tryz.prog) Tryz.underlying107 Tryz.underlying5 Tryz.underlying9 (Kd.own_of_R HO_3.out);go_wp2
  go_ret
  exact⟨ER,BL HB⟩
theorem zfH (l:List Int) (hl:l.length≤1000000000000):∀ (n:Nat) (x:List Int),n≤l.length→x.length+n=l.length→Ev (fun k=>jA.l0 k l x ((n:Int)-1)) (strOfNums (x++(l.take n).reverse))
 | 0,x,hn,hx=>by
  refine zaP (r':=strOfNums x) (fun k=>?_) (by simp)
  simp only[jA.l0];rw[if_neg (by omega)]
 | n+1,x,hn,hx=>by
  refine Ev.step (f:=fun k=>jA.l0 k l (x++[rd l (n:Int)]) ((n:Int)-1)) (fun k=>?_) ?_
  ·have e:(((n+1:Nat):Int)-1)=(n:Int):=by omega
   simp only[e,jA.l0];rw[if_pos (by omega),if_pos (by omega),if_pos (by omega),if_pos (by omega),w64 (by omega) (by omega)]
  refine zak (zfH l hl n _ (by omega) (by simp;omega)) ?_;rw[qD (by omega),List.append_assoc,List.take_succ_eq_append_getElem (by omega),List.reverse_append];rfl
theorem zlA {l:List Int} (hl:l.length≤1000000000000):Ev (fun k=>jA.f k l) (strOfNums l.reverse):=by
 have:=zfH l hl l.length [] (by omega) (by simp)
 unfold jA.f;rw[w64 (by omega) (by omega)];simpa using this
def ob (l:List Int):List UInt8:=l.map fun n=>UInt8.ofNat n.toNat
theorem zfw (l:List Int) {c:Nat} (h:c≤9):yB (ob l)=true→yB (ob (l++[((48+c:Nat):Int)]))=true∧rv (ob (l++[((48+c:Nat):Int)]))=rv (ob l)+10 ^ l.length * c:=by
 intro hd;have e2:(UInt8.ofNat (48+c)).toNat=48+c:=by rw[UInt8.toNat_ofNat'];omega
 unfold ob;rw[List.map_append,zas,zar];simp only[List.map_cons,List.map_nil,Int.toNat_natCast,List.length_map,rv,e2]
 refine⟨⟨hd,?_⟩,?_⟩
 ·rw[qH,uD,e2];exact⟨by omega,rfl⟩
 rw[show 48+c-48+10 * 0=c by omega]
theorem zbA {l:List Int} (hl:l.length≤1000000000000) (hd:yB (ob l)=true):Ev (fun k=>(jA.f k l).bind fun t=>(zM.f k t).bind fun t2=>some t2) (zU (rv (ob l))):=by
 have e1:(strOfNums l.reverse).data.toList=(ob l).reverse:=by rw[zcX,ob,List.map_reverse]
 refine Ev.bind (zlA hl) (Ev.bind (zby (by rw[strOfNums_size,List.length_reverse];omega) (by unfold dB;rw[e1,vX];exact hd)) ?_);have:vB (strOfNums l.reverse)=rv (ob l):=by unfold vB;rw[e1,List.reverse_reverse]
 rw[this];exact Ev.now _
mutual
def zT.l0:Nat→ByteArray→ByteArray→List Int→Int→Int→Option (ByteArray)
 | 0,_,_,_,_,_=>none
 | k+1,x0,x1,x5,x6,x7=>if x7<(x0.size:Int) then (zT.j1 k x0 x1 x5 x6 x7 true) else (if x7<(x1.size:Int) then (zT.j1 k x0 x1 x5 x6 x7 true) else (zT.j1 k x0 x1 x5 x6 x7 (decide (x6>0))))
def zT.j1:Nat→ByteArray→ByteArray→List Int→Int→Int→Bool→Option (ByteArray)
 | 0,_,_,_,_,_,_=>none
 | k+1,x0,x1,x5,x6,x7,x22=>if x22=true then ((jF.f x0 x7).bind fun t765=>((jF.f x1 x7).bind fun t766=>(if x5.length<140737488355328 then (zT.l0 k x0 x1 (x5++[(wrap64 (48+(Int.tmod (wrap64 ((wrap64 (t765+t766))+x6)) 10))) % 256]) (wrap64 (Int.tdiv (wrap64 ((wrap64 (t765+t766))+x6)) 10)) (wrap64 (x7+1))) else (none)))) else ((jA.f k x5).bind fun t770=>((zM.f k t770).bind fun t771=>(some t771)))
end
def zT.f (k:Nat) (a0:ByteArray) (a1:ByteArray):Option (ByteArray):=zT.l0 k a0 a1 ([]:List Int) 0 0
set_option maxHeartbeats 8000000 in
set_option maxRecDepth 100000 in
theorem zT.calls (k:Nat) (a0:ByteArray) (a1:ByteArray) (r:ByteArray) (w:World) (h:zT.f k a0 a1=some r) :
  Calls Tryz.prog 110 #[.string a0,.string a1] w fun e w'=>e=.returned (.string r)∧Below w.heap.size w w':=by
 have HB:=K_ (Below.refl w.heap.size w);have H:(zT.l0 k a0 a1 ([]:List Int) 0 0)=some r:=h;clear h;have H':=K_ H;clear H;go_enter Tryz.func110,Tryz.ntmps110
 go_wp2
 go_loopg [5,6,7] k (fun kq v5 v6 v7 w'=>∃ (x5_1:List Int) (x6_1:Int) (x7_1:Int),v6=.int .i64 x6_1∧v7=.int .i64 x7_1∧Aside0 (zT.l0 kq a0 a1 x5_1 x6_1 x7_1=some r)∧Aside0 (kq≤k)∧Aside0 (Kd.R (Kd.int .u8) 5 w' w.heap.size (fun _=>True) v5 x5_1)∧Aside0 (Below w.heap.size w w'))
 case atStart=>exact⟨(([]:List Int)),(0),(0),SR,SR,H',⟨Nat.le_refl _⟩,⟨by first|exact Kd.R_nil _ _ _ _ _|exact Kd.N_nil _ _ _ _ _|exact Kd.V_nil _ _ _ _ _|exact Kd.Q_nil _ _ _ _ _|exact Kd.S_nil _ _ _ _ _⟩,⟨BL HB⟩⟩
 case round =>
  clear H';obtain⟨x5_1,x6_1,x7_1,rfl,rfl,HA,HK1,HO_5,HB⟩:=hrel;obtain _|k1:=gk
  ·exact absurd HA.out (by simp[zT.l0])
  have H:=HA.out;clear HA;simp only[zT.l0] at H
  have HC3:=K_ H;clear H;go_upto_region 4 with (fail)
  go_cut [22] (fun v22 wc=>∃ (kq:Nat) (x22_2:Bool),v22=.bool x22_2∧Aside0 (zT.j1 kq a0 a1 x5_1 x6_1 x7_1 x22_2=some r)∧Aside0 (kq≤k1)∧Aside0 (Kd.R (Kd.int .u8) 5 wc w.heap.size (fun _=>True) u5 x5_1)∧Aside0 (Below w.heap.size w wc))
  case first =>
   have H:=HC3.out;clear HC3;by_cases c4:x7_1<(a0.size:Int)
   ·rw[if_pos c4] at H
    have c4b0:decide (x7_1<(a0.size:Int))=true:=decide_eq_true c4;clear c4;(first|rw[c4b0]|(simp only[yY,qT];rw[c4b0])|skip)
    have H':=K_ H;clear H;go_wp2
    go_meet
    case rel=>exact⟨_,(true),SR,H',⟨by have:=HK1.out;first|omega|exact Nat.le_refl _⟩,⟨RB HO_5.out⟩,⟨BL HB⟩⟩
   rw[if_neg c4] at H;have c4b0:decide (x7_1<(a0.size:Int))=false:=decide_eq_false c4;clear c4;(first|rw[c4b0]|(simp only[yY,qT];rw[c4b0])|skip)
   by_cases c5:x7_1<(a1.size:Int)
   ·rw[if_pos c5] at H
    have c5b0:decide (x7_1<(a1.size:Int))=true:=decide_eq_true c5;clear c5;have H':=K_ H;clear H;go_wp2
    go_meet
    case rel=>exact⟨_,(true),SR,H',⟨by have:=HK1.out;first|omega|exact Nat.le_refl _⟩,⟨RB HO_5.out⟩,⟨BL HB⟩⟩
   rw[if_neg c5] at H;have c5b0:decide (x7_1<(a1.size:Int))=false:=decide_eq_false c5;clear c5;have H':=K_ H;clear H;go_wp2
   go_meet
   case rel=>exact⟨_,(decide (x6_1>0)),SR,H',⟨by have:=HK1.out;first|omega|exact Nat.le_refl _⟩,⟨RB HO_5.out⟩,⟨BL HB⟩⟩
  clear HC3;obtain⟨kq,x22_2,rfl,HA,HJ2,HO_5,HB⟩:=hcut;obtain _|kj2:=kq
  ·exact absurd HA.out (by simp[zT.j1])
  have H:=HA.out;clear HA;simp only[zT.j1] at H
  by_cases c6:x22_2=true
  ·subst c6
   rw[if_pos rfl] at H;obtain⟨t765,A70,H⟩:=Option.bind_eq_some_iff.mp H
   (try dsimp -simprocs only at H)
   have A7:=K_ A70;clear A70;obtain⟨t766,A80,H⟩:=Option.bind_eq_some_iff.mp H
   (try dsimp -simprocs only at H)
   have A8:=K_ A80;clear A80;by_cases c9:x5_1.length<140737488355328
   ·rw[if_pos c9] at H
    have LMc9:=K_ c9;clear c9;obtain⟨y767,hy767⟩:∃ y_:List Int,y_=(x5_1++[(wrap64 (48+(Int.tmod (wrap64 ((wrap64 (t765+t766))+x6_1)) 10))) % 256]):=⟨_,rfl⟩
    replace H:(zT.l0 kj2 a0 a1 y767 (wrap64 (Int.tdiv (wrap64 ((wrap64 (t765+t766))+x6_1)) 10)) (wrap64 (x7_1+1)))=some r:=by first|(rw[hy767];with_reducible exact H)|(have H2_:=(Option.bind_some _ _).symm.trans H;rw[hy767];with_reducible exact H2_)|(have H2_:=(Option.bind_some _ _).symm.trans H;with_reducible exact H2_)|with_reducible exact H|(rw[hy767];exact H)|exact H
    have Ny767:=K_ hy767;clear hy767;have H':=K_ H;clear H;go_wp2_with (first|((with_reducible refine zK (f:=138) rfl ?_);refine zW (some 27) rfl rfl Tryz.func138 (by kernel_rfl) rfl #[.string a0,.int .i64 x7_1] rfl MP ?_;(with_reducible refine (jF.calls a0 x7_1 t765 _ A7.out).mono ?_);rintro e w' ⟨rfl,⟨nd,rfl⟩⟩;refine⟨_,rfl,?_⟩)|((with_reducible refine zK (f:=138) rfl ?_);refine zW (some 30) rfl rfl Tryz.func138 (by kernel_rfl) rfl #[.string a1,.int .i64 x7_1] rfl MP ?_;(with_reducible refine (jF.calls a1 x7_1 t766 _ A8.out).mono ?_);rintro e w' ⟨rfl,⟨nd,rfl⟩⟩;refine⟨_,rfl,?_⟩)|((with_reducible refine jH (b:=.append) (xs:=#[.tmp 34,.tmp 39]) rfl ?_);(try (refine vG (by rfl) ?_;dsimp only));at_builtin;refine Kd.R_append (Kd.int .u8) (w0:=w) w.heap.size rfl (.tmp 34) (.tmp 39) 107 5 (.int .u8 0) 1 rfl Tryz.underlying107 zfv rfl (by decide) (by omega) u5 x5_1 ((wrap64 (48+(Int.tmod (wrap64 ((wrap64 (t765+t766))+x6_1)) 10))) % 256) [.int .u8 ((wrap64 (48+(Int.tmod (wrap64 ((wrap64 (t765+t766))+x6_1)) 10))) % 256)] (fun _=>True) (fun _=>False) rfl rfl ?aP (fun _ hk=>hk.elim) ?aF ?aO ?aB ?aS ?aL ?_;(case aP=>exact rfl);(case aB=>exact (BL HB));(case aF=>exact (fun _ _=>trivial));(case aO=>exact (RB HO_5.out));(case aS=>exact (zS (BL HB)));(case aL=>have:=LMc9.out;omega);intro v768 w10 ho hb hg hat;rw[←Ny767.out] at ho;replace HB:=K_ (hb);have HO769:=K_ (ho);clear HO_5;clear ho hb hg hat))
    go_roundg kj2
    case measure=>have:=HK1.out;have:=HJ2.out;omega
    case rel=>exact⟨(y767),(wrap64 (Int.tdiv (wrap64 ((wrap64 (t765+t766))+x6_1)) 10)),(wrap64 (x7_1+1)),SR,SR,H',⟨by have:=HK1.out;have:=HJ2.out;omega⟩,⟨RB HO769.out⟩,⟨BL HB⟩⟩
   rw[if_neg c9] at H;exact absurd H (by simp)
  replace c6:=Bool.eq_false_iff.mpr c6;subst c6;rw[if_neg (show ¬ (false=true) by decide)] at H;obtain⟨t770,A110,H⟩:=Option.bind_eq_some_iff.mp H
  (try dsimp -simprocs only at H)
  have A11:=K_ A110;clear A110;obtain⟨t771,A120,H⟩:=Option.bind_eq_some_iff.mp H
  (try dsimp -simprocs only at H)
  have A12:=K_ A120;clear A120;obtain rfl:=Option.some.inj H;obtain⟨Ao13,co13,eo13⟩:=Kd.R_slice HO_5.out;subst eo13;go_wp2_with (first|((with_reducible refine zK (f:=139) rfl ?_);refine zW (some 44) rfl rfl Tryz.func139 (by kernel_rfl) rfl #[.slice Ao13 x5_1.length co13] rfl MP ?_;(with_reducible refine (jA.calls kj2 _ _ x5_1 t770 _ ?side1 ?side2 A11.out).mono ?_);(case side1=>exact CB ((Kd.R_reads' HO_5.out).2.2));(case side2=>exact (Kd.R_reads' HO_5.out).2.1);rintro e w14 ⟨rfl,hb⟩;refine⟨_,rfl,?_⟩;replace HO_5:=K_ (Kd.R_below (RB HO_5.out) hb);replace HB:=zF HB hb;(try clear hb);(try clear hb2);(try clear hk);(try clear hi))|((with_reducible refine zK (f:=69) rfl ?_);refine zW (some 45) rfl rfl Tryz.func69 (by kernel_rfl) rfl #[.string t770] rfl MP ?_;(with_reducible refine (zM.calls kj2 t770 t771 _ A12.out).mono ?_);rintro e w' ⟨rfl,⟨nd,rfl⟩⟩;refine⟨_,rfl,?_⟩))
  go_ret
  exact⟨ER,BL HB⟩
theorem zjZ {s:ByteArray} {k:Nat} (h:s.size≤k):dg s k=0:=by unfold dg;rw[List.getElem?_eq_none (by rw[zjk];omega)]
theorem zmk (p q c:Nat) (hp:p≤9) (hq:q≤9) (hc:c≤1):wrap64 (wrap64 ((p:Int)+(q:Int))+(c:Int))=((p+q+c:Nat):Int):=by
 rw[w64 (x:=(p:Int)+(q:Int)) (by omega) (by omega),w64 (by omega) (by omega)];omega
theorem ziU (n:Nat) (h:n≤1000000000000000000):(wrap64 (48+Int.tmod (n:Int) 10)) % 256=((48+n % 10:Nat):Int):=by
 rw[Int.tmod_eq_emod_of_nonneg (by omega),w64 (by omega) (by omega)];omega
theorem zjp (n:Nat) (h:n≤1000000000000000000):wrap64 (Int.tdiv (n:Int) 10)=((n / 10:Nat):Int):=by
 rw[Int.tdiv_eq_ediv_of_nonneg (by omega),w64 (by omega) (by omega)];omega
theorem zmC (p q c X Y:Nat):c+(p+10 * X)+(q+10 * Y)=(p+q+c) % 10+10 * ((p+q+c) / 10+X+Y):=by omega
theorem zlL (a b:ByteArray) (ha:dB a=true) (hb:dB b=true) (m:Nat) (la:a.size≤m) (lb:b.size≤m) (hm:m≤100000000000):∀ (d k:Nat) (x:List Int) (c:Nat),m+1-k=d→k≤m+1→(k=m+1→c=0)→c≤1→x.length=k→yB (ob x)=true →
  Ev (fun j=>zT.l0 j a b x (c:Int) (k:Int)) (zU (rv (ob x)+10 ^ k * (c+rv ((rs a).drop k)+rv ((rs b).drop k)))):=by
 intro d
 induction d with
 | zero =>
  intro k x c h1 h2 h3 hc hx hd;obtain rfl:=h3 (by omega);refine zak (Ev.step (f:=fun j=>(zT.j1 j a b x ((0:Nat):Int) (k:Int) false)) (fun j=>?_) (Ev.step (fun j=>?_) (zbA (by omega) hd))) ?_
  ·simp only[zT.l0];rw[if_neg (by omega),if_neg (by omega),show decide (((0:Nat):Int)>0)=false from rfl]
  ·simp only[zT.j1];rw[if_neg (by simp)]
  rw[zaL (by omega),zaL (by omega)];simp
 | succ d ih =>
  intro k x c h1 h2 h3 hc hx hd;by_cases hgo:k<a.size∨k<b.size∨0<c
  ·have da:=zfs ha k
   have db:=zfs hb k;have hj:∀ j,zT.l0 (j+1) a b x (c:Int) (k:Int)=zT.j1 j a b x (c:Int) (k:Int) true:=by
    intro j;simp only[zT.l0]
    by_cases g1:k<a.size
    ·rw[if_pos (by omega)]
    rw[if_neg (by omega)];by_cases g2:k<b.size
    ·rw[if_pos (by omega)]
    rw[if_neg (by omega),show decide ((c:Int)>0)=true by rw[decide_eq_true_eq];omega]
   have h10:k=m→dg a k=0∧dg b k=0:=fun e=>⟨zjZ (by omega),zjZ (by omega)⟩
   have hn0:k=m→(dg a k+dg b k+c) / 10=0:=fun e=>by have:=h10 e;omega
   have hn1:(dg a k+dg b k+c) / 10≤1:=by omega
   obtain⟨o1,o2⟩:=zfw x (c:=(dg a k+dg b k+c) % 10) (by omega) hd;refine Ev.step hj (Ev.step (f:=fun j=>zT.l0 j a b (x++[((48+(dg a k+dg b k+c) % 10:Nat):Int)]) (((dg a k+dg b k+c) / 10:Nat):Int) ((k+1:Nat):Int)) (fun j=>?_) ?_)
   ·simp only[zT.j1,if_true]
    rw[zbx ha (by omega) (by omega),zbx hb (by omega) (by omega)];simp only[Option.bind_some]
    rw[if_pos (by omega),zmk _ _ _ da db hc,ziU _ (by omega),zjp _ (by omega),w64 (by omega) (by omega)];rfl
   refine zak (ih (k+1) _ _ (by omega) (by omega) (fun e=>hn0 (by omega)) hn1 (by simp[hx]) o1) ?_;rw[o2,zcV a k,zcV b k,hx,Nat.pow_succ,zmC,Nat.mul_add (10 ^ k) ((dg a k+dg b k+c) % 10),←Nat.mul_assoc,Nat.add_assoc]
  have hc0:c=0:=by omega
  subst hc0;refine zak (Ev.step (f:=fun j=>(zT.j1 j a b x ((0:Nat):Int) (k:Int) false)) (fun j=>?_) (Ev.step (fun j=>?_) (zbA (by omega) hd))) ?_
  ·simp only[zT.l0];rw[if_neg (by omega),if_neg (by omega),show decide (((0:Nat):Int)>0)=false from rfl]
  ·simp only[zT.j1];rw[if_neg (by simp)]
  rw[zaL (by omega),zaL (by omega)];simp
theorem zkm {a b:ByteArray} (ha:dB a=true) (hb:dB b=true) (la:a.size≤100000000000) (lb:b.size≤100000000000):Ev (fun k=>zT.f k a b) (zU (vB a+vB b)):=by
 refine zak (zlL a b ha hb (max a.size b.size) (by omega) (by omega) (by omega) _ 0 [] 0 rfl (by omega) (by omega) (by omega) rfl rfl) ?_;simp[ob,rv,vB,rs]
mutual
def zI.l0:Nat→ByteArray→ByteArray→List Int→Int→Option (ByteArray)
 | 0,_,_,_,_=>none
 | k+1,x0,x1,x5,x6=>if x6<(x0.size:Int) then (zI.l1 k x0 x1 x5 x6 0) else (zI.l2 k x5 ([]:List Int) 0 0)
def zI.l1:Nat→ByteArray→ByteArray→List Int→Int→Int→Option (ByteArray)
 | 0,_,_,_,_,_=>none
 | k+1,x0,x1,x5,x6,x7=>if x7<(x1.size:Int) then (if 0≤(wrap64 (x6+x7)) then (if (wrap64 (x6+x7))<(x5.length:Int) then ((jF.f x0 x6).bind fun t776=>((jF.f x1 x7).bind fun t777=>(zI.l1 k x0 x1 (x5.set ((wrap64 (x6+x7)):Int).toNat (wrap64 ((rd x5 (wrap64 (x6+x7)))+(wrap64 (t776 * t777))))) x6 (wrap64 (x7+1))))) else (none)) else (none)) else (zI.l0 k x0 x1 x5 (wrap64 (x6+1)))
def zI.l2:Nat→List Int→List Int→Int→Int→Option (ByteArray)
 | 0,_,_,_,_=>none
 | k+1,x5,x8,x9,x10=>if x10<(x5.length:Int) then (if 0≤x10 then (if x8.length<140737488355328 then (zI.l2 k x5 (x8++[(wrap64 (48+(Int.tmod (wrap64 ((rd x5 x10)+x9)) 10))) % 256]) (wrap64 (Int.tdiv (wrap64 ((rd x5 x10)+x9)) 10)) (wrap64 (x10+1))) else (none)) else (none)) else ((jA.f k x8).bind fun t783=>((zM.f k t783).bind fun t784=>(some t784)))
end
def zI.f (k:Nat) (a0:ByteArray) (a1:ByteArray):Option (ByteArray):=if 0≤(wrap64 ((wrap64 ((a0.size:Int)+(a1.size:Int)))+1)) then (if (wrap64 ((wrap64 ((a0.size:Int)+(a1.size:Int)))+1):Int).toNat≤35184372088832 then (zI.l0 k a0 a1 (List.replicate (wrap64 ((wrap64 ((a0.size:Int)+(a1.size:Int)))+1):Int).toNat 0) 0) else (none)) else (none)
def zI.T8:Bool×List (List Nat×List Nat):=(true,[([],[]),([],[]),([],[]),([1,2],[1,2]),([],[]),([],[]),([],[]),([5,6],[5,6]),([4,7],[4,7]),([8],[8]),([],[]),([],[]),([10,11],[10,11]),([],[]),([],[]),([13,14,12],[13,14]),([12,15],[12,15]),([9,16],[9,16]),([0,3,0,1,2,3,4,5,6,7,8,9,10,11,12,13,14,15,16,17],[0,3]),([18,17,15,0,1,2,3,4,5,6,7,8,9,10,11,12,13,14,15,16,17],[17,18])])
def zI.B8:List Nat:=[0,0,0,6,0,0,0,96,240,496,0,0,3072,0,0,31744,64512,131056,262143,524287]
theorem zI.tab8:zal .any (zgp Tryz.f112 8)=zI.T8:=by kernel_rfl
theorem zI.bits8:zbF zI.T8.2 zI.B8=true:=by kernel_rfl
set_option maxHeartbeats 8000000 in
set_option maxRecDepth 100000 in
theorem zI.calls (k:Nat) (a0:ByteArray) (a1:ByteArray) (r:ByteArray) (w:World) (h:zI.f k a0 a1=some r) :
  Calls Tryz.prog 112 #[.string a0,.string a1] w fun e w'=>e=.returned (.string r)∧Below w.heap.size w w':=by
 have HB:=K_ (Below.refl w.heap.size w);have H:(if 0≤(wrap64 ((wrap64 ((a0.size:Int)+(a1.size:Int)))+1)) then (if (wrap64 ((wrap64 ((a0.size:Int)+(a1.size:Int)))+1):Int).toNat≤35184372088832 then (zI.l0 k a0 a1 (List.replicate (wrap64 ((wrap64 ((a0.size:Int)+(a1.size:Int)))+1):Int).toNat 0) 0) else (none)) else (none))=some r:=h;clear h;obtain⟨ji3,hji3⟩:∃ j_:Int,(wrap64 ((wrap64 ((a0.size:Int)+(a1.size:Int)))+1))=j_:=⟨_,rfl⟩
 replace H:(if 0≤(ji3) then (if (ji3:Int).toNat≤35184372088832 then (zI.l0 k a0 a1 (List.replicate (ji3:Int).toNat 0) 0) else (none)) else (none))=some r:=by first|(rw[hji3] at H;exact H)|(simp only[hji3] at H ⊢;exact H)
 have hji3w:(IntKind.i64.wrap ((wrap64 ((a0.size:Int)+(a1.size:Int)))+1))=ji3:=(yY _).trans hji3;by_cases c4:0≤(ji3)
 ·rw[if_pos c4] at H
  have c4b0:=eq_true c4;have c4b1:decide (0≤(ji3))=true:=decide_eq_true c4;clear c4;by_cases c5:(ji3:Int).toNat≤35184372088832
  ·rw[if_pos c5] at H
   have c5b0:=eq_true c5;have c5b1:decide ((ji3:Int).toNat≤35184372088832)=true:=decide_eq_true c5;clear c5;obtain⟨y772,hy772⟩:∃ y_:List Int,y_=(List.replicate (ji3:Int).toNat 0):=⟨_,rfl⟩
   replace H:(zI.l0 k a0 a1 y772 0)=some r:=by first|(rw[hy772];with_reducible exact H)|(have H2_:=(Option.bind_some _ _).symm.trans H;rw[hy772];with_reducible exact H2_)|(have H2_:=(Option.bind_some _ _).symm.trans H;with_reducible exact H2_)|with_reducible exact H|(rw[hy772];exact H)|exact H
   have Ny772:=K_ hy772;clear hy772;have H':=K_ H;clear H;go_enter Tryz.func112,Tryz.ntmps112
   go_wp2_with (first|((with_reducible refine zE (N:=18) rfl ?_);refine Kd.R_make (Kd.int .i64) _ 3 rfl (N:=18) rfl 147 _ _ rfl ji3 rfl rfl Tryz.underlying147 (.int .i64 0) 8 zkF rfl (by decide) (by omega) 0 (ok:=fun _=>True) (okp:=fun _=>True) rfl (fun _ hk=>hk) trivial (of_decide_eq_true (by first|(with_reducible assumption)|assumption)) (Nat.le_trans (Nat.mul_le_mul_right _ (of_decide_eq_true (by first|(with_reducible assumption)|assumption):ji3.toNat≤35184372088832)) (by omega)) (Below.refl _ _) (Nat.le_refl _) ?_;intro v773 w6 ho7 hb hg_ hnew_;clear hg_ hnew_;(first|rw[←Ny772.out] at ho7|(simp only[Int.reduceToNat] at ho7;rw[←Ny772.out] at ho7));have HO774:=K_ (Kd.R_lower ho7 (zS (BL HB)));replace HB:=zF HB hb;clear hb ho7))
   go_loopg [6] k (fun kq v6 w'=>∃ (x5_1:List Int) (x6_1:Int),v6=.int .i64 x6_1∧Aside0 (zI.l0 kq a0 a1 x5_1 x6_1=some r)∧Aside0 (kq≤k)∧Aside0 (Kd.R (Kd.int .i64) 3 w' w.heap.size (fun _=>True) v773 x5_1)∧Aside0 (Below w.heap.size w w'))
   case atStart=>exact⟨(y772),(0),SR,H',⟨Nat.le_refl _⟩,⟨RB HO774.out⟩,⟨BL HB⟩⟩
   case round =>
    clear H';try clear c4
    try clear c4b0
    try clear c4b1
    try clear c5
    try clear c5b0
    try clear c5b1
    obtain⟨x5_1,x6_1,rfl,HA,HK1,HO_5,HB⟩:=hrel;obtain _|k1:=gk
    ·exact absurd HA.out (by simp[zI.l0])
    have H:=HA.out;clear HA;simp only[zI.l0] at H
    by_cases c8:x6_1<(a0.size:Int)
    ·rw[if_pos c8] at H
     have c8b0:decide (x6_1<(a0.size:Int))=true:=decide_eq_true c8;clear c8;have H':=K_ H;clear H;go_wp2
     go_loopg [7] k1 (fun kq v7 w'=>∃ (x5_2:List Int) (x7_2:Int),v7=.int .i64 x7_2∧Aside0 (zI.l1 kq a0 a1 x5_2 x6_1 x7_2=some r)∧Aside0 (kq≤k1)∧Aside0 (Kd.R (Kd.int .i64) 3 w' w.heap.size (fun _=>True) v773 x5_2)∧Aside0 (Below w.heap.size w w'))
     case atStart=>exact⟨(x5_1),(0),SR,H',⟨Nat.le_refl _⟩,⟨RB HO_5.out⟩,⟨BL HB⟩⟩
     case round =>
      clear H';try clear c8
      try clear c8b0
      obtain⟨x5_2,x7_2,rfl,HA,HK2,HO_5,HB⟩:=hrel;obtain _|k2:=gk
      ·exact absurd HA.out (by simp[zI.l1])
      have H:=HA.out;clear HA;simp only[zI.l1] at H
      by_cases c9:x7_2<(a1.size:Int)
      ·rw[if_pos c9] at H
       have c9b0:decide (x7_2<(a1.size:Int))=true:=decide_eq_true c9;clear c9;obtain⟨ji10,hji10⟩:∃ j_:Int,(wrap64 (x6_1+x7_2))=j_:=⟨_,rfl⟩
       replace H:(if 0≤(ji10) then (if (ji10)<(x5_2.length:Int) then ((jF.f a0 x6_1).bind fun t776=>((jF.f a1 x7_2).bind fun t777=>(zI.l1 k2 a0 a1 (x5_2.set ((ji10):Int).toNat (wrap64 ((rd x5_2 (ji10))+(wrap64 (t776 * t777))))) x6_1 (wrap64 (x7_2+1))))) else (none)) else (none))=some r:=by first|(rw[hji10] at H;exact H)|(simp only[hji10] at H ⊢;exact H)
       have hji10w:(IntKind.i64.wrap (x6_1+x7_2))=ji10:=(yY _).trans hji10;by_cases c11:0≤(ji10)
       ·rw[if_pos c11] at H
        have c11b0:decide (0≤(ji10))=true:=decide_eq_true c11;clear c11;by_cases c12:(ji10)<(x5_2.length:Int)
        ·rw[if_pos c12] at H
         have c12b0:decide ((ji10)<(x5_2.length:Int))=true:=decide_eq_true c12;clear c12;obtain⟨t776,A130,H⟩:=Option.bind_eq_some_iff.mp H
         (try dsimp -simprocs only at H)
         have A13:=K_ A130;clear A130;obtain⟨t777,A140,H⟩:=Option.bind_eq_some_iff.mp H
         (try dsimp -simprocs only at H)
         have A14:=K_ A140;clear A140;obtain⟨y778,hy778⟩:∃ y_:List Int,y_=(x5_2.set ((ji10):Int).toNat (wrap64 ((rd x5_2 (ji10))+(wrap64 (t776 * t777))))):=⟨_,rfl⟩
         replace H:(zI.l1 k2 a0 a1 y778 x6_1 (wrap64 (x7_2+1)))=some r:=by first|(rw[hy778];with_reducible exact H)|(have H2_:=(Option.bind_some _ _).symm.trans H;rw[hy778];with_reducible exact H2_)|(have H2_:=(Option.bind_some _ _).symm.trans H;with_reducible exact H2_)|with_reducible exact H|(rw[hy778];exact H)|exact H
         have Ny778:=K_ hy778;clear hy778;have H':=K_ H;clear H;try go_wp2
         (try (rw[xQ wr];generalize hq_:World.drewN wr _=wr;replace HO_5:=zpS HO_5 hq_;replace HB:=zde HB hq_;clear hq_))
         replace HO_5:=K_ (Kd.R_drew HO_5.out);replace HB:=K_ (yW HB.out);obtain⟨Ao17,co17,eo17⟩:=Kd.R_slice HO_5.out;(first|subst eo17|(injection eo17 with f1_ f2_ f3_;have f4_:=f1_.symm;have f5_:=f3_.symm;clear f1_ f2_ f3_;subst f4_;subst f5_))
         have p775:0≤((ji10):Int):=of_decide_eq_true (by first|(with_reducible assumption)|assumption);have q775:(ji10)<(x5_2.length:Int):=of_decide_eq_true (by first|(with_reducible assumption)|assumption);obtain⟨ad775,e775,hx775_0⟩:=Kd.at_int (Kd.R_reads' HO_5.out).2.2 (ji10) p775 q775;cases e775;replace p775:=eq_true p775;replace q775:=eq_true q775;refine yA (n:=20) (S:=fun w'=>w'.cell? (ad775.add ((ji10)).toNat)=some (.int .i64 (rd x5_2 (ji10)))) (ds:=[19]) #[false,false,false,false,false,false,false,false,false,false,false,false,false,false,false,false,false,false,false,false] (by kernel_rfl) rfl rfl (hx775_0) (fun hHeld=>?_);refine zch zI.tab8 zI.bits8 (fun HT_ HW_=>?_);generalize wr.drew=w16 at HO_5 HB hx775_0 hHeld ⊢
         refine pu_ 0 (some 31) (bb 20 1) (jM HT_.out (by kernel_rfl)) ?_;refine pu_ 1 (some 32) (bb 20 3) (jM HT_.out (by kernel_rfl)) ?_;refine pu_ 2 (some 33) (bb 20 7) (jM HT_.out (by kernel_rfl)) ?_;refine pu_ 3 (some 34) (bb 20 15) (jM HT_.out (by kernel_rfl)) ?_;refine pu_ 4 (some 35) (bb 20 31) (jM HT_.out (by kernel_rfl)) ?_;refine pu_ 5 (some 36) (bb 20 63) (jM HT_.out (by kernel_rfl)) ?_;refine pu_ 6 (some 37) (bb 20 127) (jM HT_.out (by kernel_rfl)) ?_;refine pu_ 7 (some 38) (bb 20 255) (jM HT_.out (by kernel_rfl)) ?_;refine pu_ 8 (some 39) (bb 20 511) (jM HT_.out (by kernel_rfl)) ?_;refine pu_ 10 (some 41) (bb 20 1535) (jM HT_.out (by kernel_rfl)) ?_;refine pu_ 11 (some 42) (bb 20 3583) (jM HT_.out (by kernel_rfl)) ?_;refine pu_ 13 (some 44) (bb 20 11775) (jM HT_.out (by kernel_rfl)) ?_;refine pu_ 14 (some 45) (bb 20 28159) (jM HT_.out (by kernel_rfl)) ?_;refine take_ (i:=9) (N:=some 40) (v:=?_) (a':=?_) (bb 20 28671) rfl rfl (zbR HT_.out HW_.out (by kernel_rfl)) (fun _ _ _ h=>h) (Or.inl ⟨by rfl,?_⟩) hHeld ?_ ?_;rotate_left
         ·intro w' s0
          go_simp
          with_reducible rfl
         rotate_left
         ·simp only[Act.put,List.setIfInBounds_toArray,List.set_cons_zero,List.set_cons_succ];(try simp only[yY]);(try simp only[qT])
          rfl
         refine zbq (i:=12) (N:=some 43) (bb 20 32767) rfl rfl (zac HT_.out (by kernel_rfl)) (by decide) (fun K hK=>?_);refine gq_ Tryz.func138 #[.string a0,.int .i64 x6_1] ?_;with_reducible refine (jF.calls a0 x6_1 t776 _ A13.out).mono ?_
         rintro e w' ⟨rfl,⟨nd,rfl⟩⟩;refine⟨_,rfl,?_⟩;refine hK.out _ _ (hHeld) (fun hHeld=>?_);clear hK K;refine no_ (some 43) ?_;refine zbq (i:=15) (N:=some 46) (bb 20 65535) rfl rfl (zac HT_.out (by kernel_rfl)) (by decide) (fun K hK=>?_);refine gq_ Tryz.func138 #[.string a1,.int .i64 x7_2] ?_;with_reducible refine (jF.calls a1 x7_2 t777 _ A14.out).mono ?_
         rintro e w' ⟨rfl,⟨nd,rfl⟩⟩;refine⟨_,rfl,?_⟩;have p15:0≤((ji10):Int):=of_decide_eq_true (by first|(with_reducible assumption)|assumption);have q15:((ji10):Int)<((x5_2.length:Int):Int):=of_decide_eq_true (by first|(with_reducible assumption)|assumption);obtain⟨go15,co15,eo15,gb15,gl15,cl15,HG15⟩:=Kd.R_form HO_5.out (by omega);(first|cases eo15|(injection eo15 with ea_ en_ ec_;(first|subst ea_|(injection ea_ with ea_;subst ea_));subst ec_;clear en_))
         have GB15:=K_ gb15;have GG15:=K_ HG15;clear gb15 gl15 HG15;(first|simp only[zbY] at hx775_0|skip)
         obtain⟨hx15_0,hf15_0⟩:=Kd.R_celln 0 HO_5.out ((ji10):Int) p15 q15;replace p15:=eq_true p15;replace q15:=eq_true q15;have HP18:=Kd.R_putn HO_5.out ((ji10):Int) (wrap64 ((rd x5_2 (ji10))+(wrap64 (t776 * t777))));rw[←Ny778.out] at HP18;have HQ18:=K_ HP18;clear HP18;refine hK.out _ _ (hHeld) (fun hHeld=>?_);clear hK K;refine no_ (some 46) ?_;refine pu_ 16 (some 47) (bb 20 131071) (jM HT_.out (by kernel_rfl)) ?_;refine pu_ 17 (some 48) (bb 20 262143) (jM HT_.out (by kernel_rfl)) ?_;refine pu_ 18 (some 49) (bb 20 524287) (jM HT_.out (by kernel_rfl)) ?_;refine zpB (i:=19) (N:=none) (bb 20 1048575) rfl rfl (zac HT_.out (by kernel_rfl)) (by decide) (fun K hK=>?_);refine zaD (w1:=?_) (by rfl) rfl ?_ ?_;rotate_left
         ·go_simp
          rfl
         refine hK.out _ _ ?_;clear hK K;refine yN (zcd HT_.out (by kernel_rfl)) ?_;try go_wp2
         go_roundg k2
         case measure=>have:=HK1.out;have:=HK2.out;omega
         case rel=>exact⟨(y778),(wrap64 (x7_2+1)),SR,H',⟨by have:=HK1.out;have:=HK2.out;omega⟩,⟨RB HQ18.out⟩,⟨by repeat (first|(with_reducible first|exact HB.out|apply yD|apply jW|apply yW|refine xL ?_ GB15.out)|exact HB.out)⟩⟩
        rw[if_neg c12] at H;exact absurd H (by simp)
       rw[if_neg c11] at H;exact absurd H (by simp)
      rw[if_neg c9] at H;have c9b0:decide (x7_2<(a1.size:Int))=false:=decide_eq_false c9;clear c9;have H':=K_ H;clear H;go_wp2
      go_roundg k2
      case measure=>have:=HK1.out;have:=HK2.out;omega
      case rel=>exact⟨(x5_2),(wrap64 (x6_1+1)),SR,H',⟨by have:=HK1.out;have:=HK2.out;omega⟩,⟨RB HO_5.out⟩,⟨BL HB⟩⟩
    rw[if_neg c8] at H;have c8b0:decide (x6_1<(a0.size:Int))=false:=decide_eq_false c8;clear c8;have H':=K_ H;clear H;go_wp2
    go_loopg [8,9,10] k1 (fun kq v8 v9 v10 w'=>∃ (x8_2:List Int) (x9_2:Int) (x10_2:Int),v9=.int .i64 x9_2∧v10=.int .i64 x10_2∧Aside0 (zI.l2 kq x5_1 x8_2 x9_2 x10_2=some r)∧Aside0 (kq≤k1)∧Aside0 (Kd.R (Kd.int .i64) 3 w' w.heap.size (fun _=>True) v773 x5_1)∧Aside0 (Kd.R (Kd.int .u8) 5 w' w.heap.size (fun _=>True) v8 x8_2)∧Aside0 (Below w.heap.size w w'))
    case atStart=>exact⟨(([]:List Int)),(0),(0),SR,SR,H',⟨Nat.le_refl _⟩,⟨RB HO_5.out⟩,⟨by first|exact Kd.R_nil _ _ _ _ _|exact Kd.N_nil _ _ _ _ _|exact Kd.V_nil _ _ _ _ _|exact Kd.Q_nil _ _ _ _ _|exact Kd.S_nil _ _ _ _ _⟩,⟨BL HB⟩⟩
    case round =>
     clear H';try clear c8
     try clear c8b0
     obtain⟨x8_2,x9_2,x10_2,rfl,rfl,HA,HK2,HO_5,HO_8,HB⟩:=hrel;obtain _|k2:=gk
     ·exact absurd HA.out (by simp[zI.l2])
     have H:=HA.out;clear HA;simp only[zI.l2] at H
     by_cases c19:x10_2<(x5_1.length:Int)
     ·rw[if_pos c19] at H
      have c19b0:decide (x10_2<(x5_1.length:Int))=true:=decide_eq_true c19;clear c19;by_cases c20:0≤x10_2
      ·rw[if_pos c20] at H
       have c20b0:decide (0≤x10_2)=true:=decide_eq_true c20;clear c20;by_cases c21:x8_2.length<140737488355328
       ·rw[if_pos c21] at H
        have LMc21:=K_ c21;clear c21;obtain⟨y780,hy780⟩:∃ y_:List Int,y_=(x8_2++[(wrap64 (48+(Int.tmod (wrap64 ((rd x5_1 x10_2)+x9_2)) 10))) % 256]):=⟨_,rfl⟩
        replace H:(zI.l2 k2 x5_1 y780 (wrap64 (Int.tdiv (wrap64 ((rd x5_1 x10_2)+x9_2)) 10)) (wrap64 (x10_2+1)))=some r:=by first|(rw[hy780];with_reducible exact H)|(have H2_:=(Option.bind_some _ _).symm.trans H;rw[hy780];with_reducible exact H2_)|(have H2_:=(Option.bind_some _ _).symm.trans H;with_reducible exact H2_)|with_reducible exact H|(rw[hy780];exact H)|exact H
        have Ny780:=K_ hy780;clear hy780;have H':=K_ H;clear H;obtain⟨Ao22,co22,eo22⟩:=Kd.R_slice HO_5.out;subst eo22;have p779:0≤(x10_2:Int):=of_decide_eq_true (by first|(with_reducible assumption)|assumption);have q779:x10_2<(x5_1.length:Int):=of_decide_eq_true (by first|(with_reducible assumption)|assumption);obtain⟨ad779,e779,hx779_0⟩:=Kd.at_int (Kd.R_reads' HO_5.out).2.2 x10_2 p779 q779;cases e779;replace p779:=eq_true p779;replace q779:=eq_true q779;go_wp2_with (first|((with_reducible refine jH (b:=.append) (xs:=#[.tmp 62,.tmp 67]) rfl ?_);at_builtin;refine Kd.R_append (Kd.int .u8) (w0:=w) w.heap.size rfl (.tmp 62) (.tmp 67) 107 5 (.int .u8 0) 1 rfl Tryz.underlying107 zfv rfl (by decide) (by omega) u8 x8_2 ((wrap64 (48+(Int.tmod (wrap64 ((rd x5_1 x10_2)+x9_2)) 10))) % 256) [.int .u8 ((wrap64 (48+(Int.tmod (wrap64 ((rd x5_1 x10_2)+x9_2)) 10))) % 256)] (fun _=>True) (fun _=>False) rfl rfl ?aP (fun _ hk=>hk.elim) ?aF ?aO ?aB ?aS ?aL ?_;(case aP=>exact rfl);(case aB=>exact (BL HB));(case aF=>exact (fun _ _=>trivial));(case aO=>exact (RB HO_8.out));(case aS=>exact (zS (BL HB)));(case aL=>have:=LMc21.out;omega);intro v781 w23 ho hb hg hat;rw[←Ny780.out] at ho;replace HO_5:=K_ (Kd.R_over' (RB HO_5.out) (Kd.R_typed (RB HO_8.out)) (by decide) hg);replace HB:=K_ (hb);have HO782:=K_ (ho);clear HO_8;clear ho hb hg hat))
        go_roundg k2
        case measure=>have:=HK1.out;have:=HK2.out;omega
        case rel=>exact⟨(y780),(wrap64 (Int.tdiv (wrap64 ((rd x5_1 x10_2)+x9_2)) 10)),(wrap64 (x10_2+1)),SR,SR,H',⟨by have:=HK1.out;have:=HK2.out;omega⟩,⟨RB HO_5.out⟩,⟨RB HO782.out⟩,⟨BL HB⟩⟩
       rw[if_neg c21] at H;exact absurd H (by simp)
      rw[if_neg c20] at H;exact absurd H (by simp)
     rw[if_neg c19] at H;have c19b0:decide (x10_2<(x5_1.length:Int))=false:=decide_eq_false c19;clear c19;obtain⟨t783,A240,H⟩:=Option.bind_eq_some_iff.mp H
     (try dsimp -simprocs only at H)
     have A24:=K_ A240;clear A240;obtain⟨t784,A250,H⟩:=Option.bind_eq_some_iff.mp H
     (try dsimp -simprocs only at H)
     have A25:=K_ A250;clear A250;obtain rfl:=Option.some.inj H;obtain⟨Ao26,co26,eo26⟩:=Kd.R_slice HO_5.out;subst eo26;obtain⟨Ao27,co27,eo27⟩:=Kd.R_slice HO_8.out;subst eo27;go_wp2_with (first|((with_reducible refine zK (f:=139) rfl ?_);refine zW (some 72) rfl rfl Tryz.func139 (by kernel_rfl) rfl #[.slice Ao27 x8_2.length co27] rfl MP ?_;(with_reducible refine (jA.calls k2 _ _ x8_2 t783 _ ?side1 ?side2 A24.out).mono ?_);(case side1=>exact CB ((Kd.R_reads' HO_8.out).2.2));(case side2=>exact (Kd.R_reads' HO_8.out).2.1);rintro e w28 ⟨rfl,hb⟩;refine⟨_,rfl,?_⟩;replace HO_5:=K_ (Kd.R_below (RB HO_5.out) hb);replace HO_8:=K_ (Kd.R_below (RB HO_8.out) hb);replace HB:=zF HB hb;(try clear hb);(try clear hb2);(try clear hk);(try clear hi))|((with_reducible refine zK (f:=69) rfl ?_);refine zW (some 73) rfl rfl Tryz.func69 (by kernel_rfl) rfl #[.string t783] rfl MP ?_;(with_reducible refine (zM.calls k2 t783 t784 _ A25.out).mono ?_);rintro e w' ⟨rfl,⟨nd,rfl⟩⟩;refine⟨_,rfl,?_⟩))
     go_ret
     exact⟨by first|rfl|(simp[vA,vC] <;> rfl)|(simp only[←hji3];first|rfl|(simp[vA,vC] <;> rfl))|(simp[*,vA,vC] <;> rfl),BL HB⟩
  rw[if_neg c5] at H;exact absurd H (by simp)
 rw[if_neg c4] at H;exact absurd H (by simp)
def va:List Int→Nat
 | []=>0
 | x :: l=>x.toNat+10 * va l
theorem zoh {l:List Int} {k:Nat} (h:k<l.length):va (l.drop k)=l[k].toNat+10 * va (l.drop (k+1)):=by
 rw[List.drop_eq_getElem_cons h];rfl
theorem zlK:∀ (l:List Int) (m:Nat) (h:m<l.length) (t:Nat),0≤l[m]→va (l.set m (l[m]+(t:Int)))=va l+10 ^ m * t
 | x :: l,0,h,t,h0=>by
  simp only[List.set_cons_zero,va,List.getElem_cons_zero] at h0 ⊢
  rw[Nat.pow_zero];omega
 | x :: l,m+1,h,t,h0=>by
  simp only[List.set_cons_succ,va,List.getElem_cons_succ] at h0 ⊢
  rw[zlK l m (by simpa using h) t h0,Nat.pow_succ,Nat.mul_add,Nat.mul_comm (10 ^ m) 10,Nat.mul_assoc];omega
theorem zeE (n:Nat):va (List.replicate n 0)=0:=by
 induction n with
 | zero=>rfl
 | succ n ih=>simp[List.replicate_succ,va,ih]
theorem zlI {l:List Int} {m:Nat} {v M:Int} (h:∀ e∈l,0≤e∧e≤M) {M':Int} (hM:M≤M') (hv:0≤v∧v≤M'):∀ e∈l.set m v,0≤e∧e≤M':=by
 intro e he;rcases List.mem_or_eq_of_mem_set he with h1|h1
 ·have:=h e h1;omega
 subst h1;exact hv
theorem zlB (i j:Nat) (hi:i≤1000000) (hj:j≤1000000):wrap64 ((i:Int)+(j:Int))=((i+j:Nat):Int):=by rw[w64 (by omega) (by omega)];omega
theorem zkt (e:Int) (p q:Nat) (h0:0≤e) (h1:e≤100000000000000000) (hp:p≤9) (hq:q≤9):wrap64 (e+wrap64 ((p:Int) * (q:Int)))=e+((p * q:Nat):Int):=by
 have:p * q≤9 * 9:=Nat.mul_le_mul hp hq
 have e2:(p:Int) * (q:Int)=((p * q:Nat):Int):=by simp
 rw[e2];generalize p * q=t at *
 rw[w64 (x:=(t:Int)) (by omega) (by omega),w64 (by omega) (by omega)]
theorem zil (a b:ByteArray) (ha:dB a=true) (hb:dB b=true) (la:a.size≤1000000) (lb:b.size≤1000000) (i:Nat) (hi:i<a.size) (r:ByteArray):∀ (d j M:Nat) (x:List Int),b.size-j=d→j≤b.size→x.length=a.size+b.size+1→(∀ e∈x,0≤e∧e≤(M:Int))→M+81 * d≤100000000000000000 →
  (∀ x',x'.length=a.size+b.size+1→(∀ e∈x',0≤e∧e≤((M+81 * d:Nat):Int))→va x'=va x+10 ^ (i+j) * (dg a i * rv ((rs b).drop j))→Ev (fun k=>zI.l0 k a b x' ((i+1:Nat):Int)) r) →
  Ev (fun k=>zI.l1 k a b x (i:Int) (j:Int)) r
 | 0,j,M,x,h1,h2,hx,hM,hb2,h=>by
  refine Ev.step (f:=fun k=>zI.l0 k a b x ((i+1:Nat):Int)) (fun k=>?_) (h x hx (fun e he=>by have:=hM e he;omega) (by rw[zaL (by omega)];simp))
  simp only[zI.l1];rw[if_neg (by omega),zam _ (by omega)]
 | d+1,j,M,x,h1,h2,hx,hM,hb2,h=>by
  have da:=zfs ha i;have db:=zfs hb j;have hlt:i+j<x.length:=by omega
  have hm:=hM _ (List.getElem_mem hlt);have hpq:dg a i * dg b j≤81:=Nat.mul_le_mul da db
  refine Ev.step (f:=fun k=>zI.l1 k a b (x.set (i+j) (x[i+j]+((dg a i * dg b j:Nat):Int))) (i:Int) ((j+1:Nat):Int)) (fun k=>?_)
   (zil a b ha hb la lb i hi r d (j+1) (M+81) _ (by omega) (by omega) (by simpa using hx) (zlI (M':=((M+81:Nat):Int)) (v:=x[i+j]+((dg a i * dg b j:Nat):Int)) hM (by omega) (by omega)) (by omega) (fun x' h3 h4 h5=>h x' h3 (fun e he=>by have:=h4 e he;omega) ?_))
  ·simp only[zI.l1]
   rw[if_pos (by omega),zlB i j (by omega) (by omega),if_pos (by omega),if_pos (by omega),zbx ha (by omega) (by omega),zbx hb (by omega) (by omega)];simp only[Option.bind_some,Int.toNat_natCast]
   rw[qD hlt,zkt _ _ _ hm.1 (by omega) da db,zam _ (by omega)]
  rw[h5,zlK _ _ hlt _ hm.1,zcV b j,Nat.mul_add (dg a i),Nat.mul_add (10 ^ (i+j)),←Nat.add_assoc i j 1,Nat.pow_succ,←Nat.mul_assoc (dg a i) 10,Nat.mul_comm (dg a i) 10,Nat.mul_assoc (10 ^ (i+j)) 10,Nat.mul_assoc 10,Nat.add_assoc]
theorem zfD (x:List Int) (hx:∀ e∈x,0≤e∧e≤100000000000000000) (lx:x.length≤3000000):∀ (d k:Nat) (t:List Int) (c:Nat),x.length-k=d→k≤x.length→t.length=k→yB (ob t)=true→c≤100000000000000000→rv (ob t)+10 ^ k * (c+va (x.drop k))<10 ^ x.length →
  Ev (fun j=>zI.l2 j x t (c:Int) (k:Int)) (zU (rv (ob t)+10 ^ k * (c+va (x.drop k))))
 | 0,k,t,c,h1,h2,ht,hd,hc,hlt=>by
  have e:x.drop k=[]:=List.drop_of_length_le (by omega);have hk:k=x.length:=by omega
  rw[e,hk] at hlt;simp only[va,Nat.add_zero] at hlt
  have hc0:c=0:=by
   rcases Nat.eq_zero_or_pos c with h|h
   ·exact h
   have:=Nat.mul_le_mul_left (10 ^ x.length) h
   omega
  subst hc0;refine zak (Ev.step (fun j=>?_) (zbA (l:=t) (by omega) hd)) ?_
  ·simp only[zI.l2];rw[if_neg (by omega)]
  rw[e];simp[va]
 | d+1,k,t,c,h1,h2,ht,hd,hc,hlt=>by
  have hkx:k<x.length:=by omega
  have hm:=hx _ (List.getElem_mem hkx);obtain⟨v,hv⟩:∃ v:Nat,x[k]=(v:Int):=⟨x[k].toNat,by omega⟩
  have e:=zoh hkx;rw[hv,Int.toNat_natCast] at e;have hsum:wrap64 (rd x (k:Int)+(c:Int))=((v+c:Nat):Int):=by rw[qD hkx,hv,w64 (by omega) (by omega)];omega
  obtain⟨o1,o2⟩:=zfw t (c:=(v+c) % 10) (by omega) hd;have key:rv (ob t)+10 ^ t.length * ((v+c) % 10)+10 ^ (k+1) * ((v+c) / 10+va (x.drop (k+1)))=rv (ob t)+10 ^ k * (c+va (x.drop k)):=by
   rw[ht,e,Nat.pow_succ,Nat.mul_assoc,Nat.add_assoc,←Nat.mul_add];congr 2;omega
  have hn:(v+c) / 10≤100000000000000000:=by omega
  refine Ev.step (f:=fun j=>zI.l2 j x (t++[((48+(v+c) % 10:Nat):Int)]) (((v+c) / 10:Nat):Int) ((k+1:Nat):Int)) (fun j=>?_)
   (zak (zfD x hx lx d (k+1) _ ((v+c) / 10) (by omega) (by omega) (by simp[ht]) o1 hn (by rw[o2,key];exact hlt)) (by rw[o2,key]))
  simp only[zI.l2]
  rw[if_pos (by omega),if_pos (by omega),if_pos (by omega),hsum,ziU _ (by omega),zjp _ (by omega),zam _ (by omega)]
theorem zhI (a b:ByteArray) (ha:dB a=true) (hb:dB b=true) (la:a.size≤1000000) (lb:b.size≤1000000):∀ (d i:Nat) (x:List Int),a.size-i=d→i≤a.size→x.length=a.size+b.size+1→(∀ e∈x,0≤e∧e≤((81 * b.size * i:Nat):Int))→va x+10 ^ i * (rv ((rs a).drop i) * vB b)<10 ^ x.length →
  Ev (fun k=>zI.l0 k a b x (i:Int)) (zU (va x+10 ^ i * (rv ((rs a).drop i) * vB b)))
 | 0,i,x,h1,h2,hx,hM,hlt=>by
  have hb3:81 * b.size * i≤81 * 1000000 * 1000000:=Nat.mul_le_mul (Nat.mul_le_mul_left _ lb) (by omega);have e0:rv ((rs a).drop i)=0:=zaL (by omega);rw[e0] at hlt ⊢;have:=zfD x (fun e he=>by have:=hM e he;omega) (by omega) x.length 0 [] 0 (by omega) (by omega) rfl rfl (by omega) (by simpa [ob,rv] using hlt)
  refine zak (Ev.step (fun k=>?_) this) (by simp[ob,rv])
  simp only[zI.l0];rw[if_neg (by omega)];rfl
 | d+1,i,x,h1,h2,hx,hM,hlt=>by
  have hb3:81 * b.size * (i+1)≤81 * 1000000 * 1000000:=Nat.mul_le_mul (Nat.mul_le_mul_left _ lb) (by omega);have hb4:81 * b.size * (i+1)=81 * b.size * i+81 * b.size:=Nat.mul_succ _ _;have key:10 ^ (i+0) * (dg a i * rv ((rs b).drop 0))+10 ^ (i+1) * (rv ((rs a).drop (i+1)) * vB b)=10 ^ i * (rv ((rs a).drop i) * vB b):=by
   rw[zcV a i,show rv ((rs b).drop 0)=vB b from rfl,Nat.add_zero,Nat.pow_succ,Nat.mul_assoc (10 ^ i) 10,←Nat.mul_add,Nat.add_mul,Nat.mul_assoc 10]
  refine Ev.step (f:=fun k=>zI.l1 k a b x (i:Int) ((0:Nat):Int)) (fun k=>?_)
   (zil a b ha hb la lb i (by omega) _ b.size 0 (81 * b.size * i) x (by omega) (by omega) hx hM (by omega) (fun x' h3 h4 h5=>zak (zhI a b ha hb la lb d (i+1) x' (by omega) (by omega) h3 (fun e he=>by have:=h4 e he;omega) ?_) ?_))
  ·simp only[zI.l0];rw[if_pos (by omega)];rfl
  ·rw[h5,Nat.add_assoc,key,h3,←hx];exact hlt
  rw[h5,Nat.add_assoc,key]
theorem ziH {a b:ByteArray} (ha:dB a=true) (hb:dB b=true) (la:a.size≤1000000) (lb:b.size≤1000000):Ev (fun k=>zI.f k a b) (zU (vB a * vB b)):=by
 unfold zI.f;rw[zlq _ _ la lb];simp only[Int.toNat_natCast]
 have c1:(0:Int)≤((a.size+b.size+1:Nat):Int):=by omega
 have c2:a.size+b.size+1≤35184372088832:=by omega
 simp only[c1,c2,if_true]
 refine zak (zhI a b ha hb la lb a.size 0 _ (by omega) (by omega) (by simp) (fun e he=>by rw[List.eq_of_mem_replicate he];omega) ?_) ?_
 ·rw[zeE,List.length_replicate]
  have:=Nat.mul_lt_mul'' (zeh ha) (zeh hb)
  rw[←Nat.pow_add] at this;have h2:10 ^ (a.size+b.size)≤10 ^ (a.size+b.size+1):=Nat.pow_le_pow_right (by omega) (by omega);have e:rv ((rs a).drop 0)=vB a:=rfl;rw[e];omega
 rw[zeE,show rv ((rs a).drop 0)=vB a from rfl];simp
theorem zmb (p:Nat) (hp:p≤1000000):wrap64 ((p:Int)+2)=((p+2:Nat):Int):=by rw[w64 (by omega) (by omega)];omega
theorem ziL {a:List Int} {y m:Nat} (ga:jO a=true) (la:a.length≤1000000) (hy:y<1000000000) (hm:m<1000000000):Ev (fun k=>zbX.f k a (y:Int) (m:Int)) (yO (zP a * y+m)):=by
 unfold zbX.f;rw[zmb _ la];have c1:(0:Int)≤((a.length+2:Nat):Int):=by omega
 have c2:a.length+2≤70368744177664:=by omega
 simp only[Int.toNat_natCast,c1,c2,if_true,Option.bind_some]
 have c3:(0:Int)<(((List.replicate (a.length+2) (0:Int)).length:Nat):Int):=by simp;omega
 simp only[c3,if_true]
 have e1:(List.replicate (a.length+2) (0:Int)).set (0:Int).toNat (m:Int)=(m:Int) :: List.replicate (a.length+1) 0:=by rw[List.replicate_succ];rfl
 rw[e1];have g1:jO ((m:Int) :: List.replicate (a.length+1) 0)=true:=vR.2 ⟨by omega,zbk _⟩;have v1:zP ((m:Int) :: List.replicate (a.length+1) 0)=m:=by simp[zP,zbz]
 have l1:((m:Int) :: List.replicate (a.length+1) 0).length=a.length+2:=by simp
 have hlt:zP ((m:Int) :: List.replicate (a.length+1) 0)+1000000000 ^ 0 * (zP a * y)<1000000000 ^ ((m:Int) :: List.replicate (a.length+1) 0).length:=by
  rw[v1,l1,Nat.pow_zero,Nat.one_mul];have va:=zca ga;have h3:zP a * y≤1000000000 ^ a.length * 999999999:=Nat.mul_le_mul (by omega) (by omega);have h4:1000000000 ^ (a.length+2)=1000000000 ^ a.length * 1000000000 * 1000000000:=by rw[Nat.pow_succ,Nat.pow_succ]
  have h5:1≤1000000000 ^ a.length:=Nat.one_le_pow _ _ (by omega);omega
 obtain⟨r,hr,g2,g3,g4⟩:=zoK (p:=0) g1 ga hy (by rw[l1];omega) (by rw[l1];omega) hlt;refine Ev.bind hr ?_;simp only[uB.f]
 rw[zaK g2 (by rw[g3,l1];omega)];refine zak (Ev.now _) ?_;rw[g4,v1,Nat.pow_zero,Nat.one_mul,Nat.add_comm]
section
set_option maxRecDepth 100000
def zcC.f (l0:List Int) (a1:Int):Option (List Int):=if jO l0=true∧l0.length≤500000∧a1≤1000000 then some (yO (zP l0 * 10 ^ a1.toNat)) else none
theorem zjt (W:World) (base m:Nat) (e:TypeId) (hb:base≤W.heap.size) (hm:m≤281474976710656):Kd.R (Kd.int .u32) e (W.alloc (.cells (madeCells #[.int .u32 0] m) e)) base (fun _=>True) (.slice (some ⟨W.heap.size,0,none⟩) m m) (List.replicate m 0):=by
  rw[←Nat.mul_one m,show #[Value.int .u32 0]=(Value.int .u32 0).cells from rfl,Nat.mul_one];refine⟨fun _ _=>trivial,(madeCells (Value.int .u32 0).cells (m * 1)).toList,⟨?_,.inr ⟨W.heap.size,m,_,?_,hb,by simpa using heap_alloc_new W _,?_,?_,?_,?_⟩⟩,Kd.reps_made (z:=.int .u32 0) (size:=1) (z0:=0) rfl (by decide) rfl m⟩
  · simp[size_madeCells,show (Kd.int .u32).sz=1 from rfl]
  · rw[List.length_replicate]
  · rw[List.length_replicate];exact Nat.le_refl _
  · unfold maxLen;omega
  · simp[size_madeCells,show (Kd.int .u32).sz=1 from rfl]
  rw[List.length_replicate,List.take_of_length_le (by simp[size_madeCells,show (Kd.int .u32).sz=1 from rfl]),Nat.mul_one]
set_option maxHeartbeats 4000000 in
theorem zcC.calls (A0:Option Addr) (c0:Nat) (l0:List Int) (a1:Int) (r:List Int) (w:World) (hG:Fig.Glob w) (hr0:Kd.C (Kd.int .u32) w A0 l0.length l0) (hc0:l0.length≤c0) (h:zcC.f l0 a1=some r) :
    Calls Tryz.prog 74 #[.slice A0 l0.length c0,.int .i64 a1] w fun e w'=>∃ v0_:Value,e=.returned (v0_)∧Kd.R (Kd.int .u32) 95 w' w.heap.size (fun _=>True) v0_ r∧Below w.heap.size w w':=by
  unfold zcC.f at h;by_cases hg:jO l0=true∧l0.length≤500000∧a1≤1000000
  · rw[if_pos hg] at h
    obtain rfl:=Option.some.inj h;obtain⟨g0,z0,z1⟩:=hg;obtain⟨m,hm⟩:∃ m:Nat,m=a1.toNat:=⟨_,rfl⟩
    rw[←hm];by_cases ha:a1<0
    · obtain rfl:m=0:=by omega
      have e0:IntKind.i64.wrap 0=0:=by rw[IntKind.wrap_i64];rfl
      have HR0:=K_ hr0;have HC0:=K_ hc0;have HG:=K_ hG;have G0:=K_ g0;have hcell:=hG.pows 0 (by omega);have HT:=K_ (zaK g0 (by omega));have hlt:(yO (zP l0)).length≤l0.length:=zeC (zca g0);clear hr0 hc0 hG g0 h hm;go_enter Tryz.func74,Tryz.ntmps74
      go_wp2_with (first
        | (go_at_call 91;(with_reducible refine (uB.calls A0 c0 l0 (yO (zP l0)) _ ?side1 ?side2 ?side3).mono ?_);(case side3=>exact HT.out);(case side1=>exact HR0.out);(case side2=>exact HC0.out);rintro e w1 ⟨v0,rfl,ho,hb⟩;obtain⟨A1,c1,rfl⟩:=Kd.R_slice ho;have HO:=K_ ho;have HB:=K_ hb;clear ho hb))
      · rename_i hz
        have hz0:yO (zP l0)=[]:=List.eq_nil_of_length_eq_zero (by simpa using hz);have hv:zP l0=0:=by have:=zbZ (zP l0);rw[hz0] at this;exact this.symm
        go_ret
        refine⟨_,rfl,?_,HB.out⟩;rw[hv,Nat.zero_mul,zeo];exact Kd.R_nil _ _ _ _ _
      skip
      have hc1:w1.cell? ⟨0,0,none⟩=some (.int .u32 (([1,10,100,1000,10000,100000,1000000,10000000,100000000]:List Int).getD 0 0)):=(HB.out.cell (World.block_lt_of_cell? w _ hcell)).trans hcell;obtain⟨p,hp⟩:∃ p:Nat,p=10 ^ 0:=⟨_,rfl⟩
      have hpp:([1,10,100,1000,10000,100000,1000000,10000000,100000000]:List Int).getD 0 0=(p:Int):=by rw[hp];rfl
      rw[hpp] at hc1;rw[hpp] at hcell;have HCW:=K_ hcell;have hc2:∀ o:Obj,(w1.alloc o).cell? ⟨0,0,none⟩=some (.int .u32 (p:Int)):=fun o=>(World.cell?_alloc_lt _ _ _ (World.block_lt_of_cell? _ _ hc1)).trans hc1
      obtain⟨i0,hi0,hi1⟩:=info_parts qN;have hmk:∀ W:World,(Instr.makeSlice 81 (.int .i64 0) (.int .i64 0)).run Tryz.prog W=.ok (.slice (some ⟨W.heap.size,0,none⟩) 0 0) (W.alloc (.cells (madeCells (Value.int .u32 0).cells (0 * 1)) 95)):=fun W=>by
        have:=run_make (P:=Tryz.prog) W 81 95 i0 (.int .u32 0) Tryz.underlying81 hi0 hi1.1 .i64 .i64 0 0 (by omega) (by omega) (by rw[hi1.2.2];omega) (by omega)
        rw[hi1.2.1] at this;exact this
      have HPP:=K_ hp;clear hpp hp hcell;obtain⟨y,hy⟩:∃ y,y=List.replicate 0 0++yO (zP l0):=⟨_,rfl⟩
      have HY:=K_ hy;have hyl:y.length≤1000000:=by rw[hy,List.length_append,List.length_replicate];omega
      have hyg:jO y=true:=by rw[hy];exact vP.2 ⟨zbk 0,zcR _⟩
      have hyv:zP y=1000000000 ^ 0 * zP l0:=by rw[hy,zaq,zbz,List.length_replicate,zbZ,Nat.zero_add]
      have hp9:p<1000000000:=by rw[HPP.out];exact Nat.lt_of_lt_of_le (Nat.pow_lt_pow_right (by decide) (show 0<9 by decide)) (by decide)
      obtain⟨k,hk⟩:=Ev.rounds (ziL (m:=0) hyg hyl hp9 (by decide));have HK:=K_ hk;have HL:=K_ (show ((List.replicate 0 (0:Int)).length+(yO (zP l0)).length) * 4≤140737488355328 by rw[List.length_replicate];omega);have HV:=K_ hyv;clear hy hyl hyg hyv hk hlt;go_region_law (first
        | (refine Kd.R_append_rows_step (Kd.int .u32) (w0:=w) w.heap.size (by rfl) (.tmp 14) (.tmp 15) 81 95 (.int .u32 0) 4 rfl Tryz.underlying81 qN rfl (by decide) (by omega) (.slice (some ⟨w1.heap.size,0,none⟩) 0 0) (List.replicate 0 0) (yO (zP l0)) A1 (yO (zP l0)).length c1 (fun _=>True) (fun _=>False) (by simp[Act.eval]) (by simp[Act.eval]) ?aO ?aR (fun _ _ h=>h) (fun _ h=>h.elim) (fun _ _=>trivial) ?aB ?aS ?aL ?_
           (case aO=>exact Kd.R_drew (zjt w1 w.heap.size 0 95 HB.out.size (by omega)))
           (case aR=>exact Kd.C_drew (Kd.C_alloc (Kd.R_reads' HO.out).2.2 _))
           (case aB=>exact (HB.out.alloc HB.out.size _).drew)
           (case aS=>exact ((HB.out.alloc HB.out.size _).drew (B:=w.heap.size)).size)
           (case aL=>exact HL.out)
           intro v1 w2 ho2 hb2 hg2 hat2;rw[←HY.out] at ho2;obtain⟨A2,c2,rfl⟩:=Kd.R_slice ho2;have HO2:=K_ ho2;have HB2:=K_ hb2;have hc3:=(hb2.cell (World.block_lt_of_cell? w _ HCW.out)).trans HCW.out
           clear ho2 hb2 hg2 hat2)
        | (go_simp
           go_wp2_with (go_at_call 99;(with_reducible refine (zbX.calls k A2 c2 y (p:Int) 0 (yO (zP y * p+0)) _ ?side1 ?side2 ?side3).mono ?_);(case side1=>exact (Kd.R_reads' HO2.out).2.2);(case side2=>exact (Kd.R_reads' HO2.out).2.1);(case side3=>exact HK.out);rintro e w3 ⟨v3,rfl,ho3,hb3⟩;have HO3:=K_ ho3;have HB3:=K_ hb3;clear ho3 hb3)))
      all_goals
        go_wp2
        go_ret
        refine⟨_,rfl,?_,HB2.out.trans (HB3.out.mono HB2.out.size)⟩;have e:yO (zP l0 * 10 ^ 0)=yO (zP y * p+0):=by
          rw[HV.out,HPP.out,Nat.add_zero,zfW,Nat.mul_comm (10 ^ (9 * 0)),Nat.mul_assoc,←Nat.pow_add]
        rw[e];exact Kd.R_lower HO3.out HB2.out.size
    obtain rfl:a1=(m:Int):=by omega
    have hm6:m≤1000000:=by omega
    obtain⟨n9,hn9⟩:∃ n9,n9=m / 9:=⟨_,rfl⟩
    obtain⟨q9,hq9⟩:∃ q9,q9=m % 9:=⟨_,rfl⟩
    have e9:IntKind.i64.wrap ((m:Int) / 9)=(n9:Int):=by rw[IntKind.wrap_i64];omega
    have r9:(m:Int).tmod 9=(q9:Int):=by rw[Int.tmod_eq_emod_of_nonneg (by omega)];omega
    have hq:q9<9:=by omega
    have hn:n9≤200000:=by omega
    have HN9:=K_ hn9;have HQ9:=K_ hq9;have HR0:=K_ hr0;have HC0:=K_ hc0;have HG:=K_ hG;have G0:=K_ g0;have hcell:=hG.pows q9 hq;have HT:=K_ (zaK g0 (by omega));have hlt:(yO (zP l0)).length≤l0.length:=zeC (zca g0);clear hr0 hc0 hG g0 h hm hn9 hq9;go_enter Tryz.func74,Tryz.ntmps74
    go_wp2_with (first
      | (go_at_call 91;(with_reducible refine (uB.calls A0 c0 l0 (yO (zP l0)) _ ?side1 ?side2 ?side3).mono ?_);(case side3=>exact HT.out);(case side1=>exact HR0.out);(case side2=>exact HC0.out);rintro e w1 ⟨v0,rfl,ho,hb⟩;obtain⟨A1,c1,rfl⟩:=Kd.R_slice ho;have HO:=K_ ho;have HB:=K_ hb;clear ho hb))
    · rename_i hz
      have hz0:yO (zP l0)=[]:=List.eq_nil_of_length_eq_zero (by simpa using hz);have hv:zP l0=0:=by have:=zbZ (zP l0);rw[hz0] at this;exact this.symm
      go_ret
      refine⟨_,rfl,?_,HB.out⟩;rw[hv,Nat.zero_mul,zeo];exact Kd.R_nil _ _ _ _ _
    skip
    have hc1:w1.cell? ⟨0,q9,none⟩=some (.int .u32 (([1,10,100,1000,10000,100000,1000000,10000000,100000000]:List Int).getD q9 0)):=(HB.out.cell (World.block_lt_of_cell? w _ hcell)).trans hcell;obtain⟨p,hp⟩:∃ p:Nat,p=10 ^ q9:=⟨_,rfl⟩
    have hpp:([1,10,100,1000,10000,100000,1000000,10000000,100000000]:List Int).getD q9 0=(p:Int):=by
      rw[hp]
      match q9,hq with
      | 0,_=>rfl
      | 1,_=>rfl
      | 2,_=>rfl
      | 3,_=>rfl
      | 4,_=>rfl
      | 5,_=>rfl
      | 6,_=>rfl
      | 7,_=>rfl
      | 8,_=>rfl
      | q+9,h=>exact absurd h (by omega)
    rw[hpp] at hc1;rw[hpp] at hcell;have HCW:=K_ hcell;have hc2:∀ o:Obj,(w1.alloc o).cell? ⟨0,q9,none⟩=some (.int .u32 (p:Int)):=fun o=>(World.cell?_alloc_lt _ _ _ (World.block_lt_of_cell? _ _ hc1)).trans hc1
    obtain⟨i0,hi0,hi1⟩:=info_parts qN;have hmk:∀ W:World,(Instr.makeSlice 81 (.int .i64 (n9:Int)) (.int .i64 (n9:Int))).run Tryz.prog W=.ok (.slice (some ⟨W.heap.size,0,none⟩) n9 n9) (W.alloc (.cells (madeCells (Value.int .u32 0).cells (n9 * 1)) 95)):=fun W=>by
      have:=run_make (P:=Tryz.prog) W 81 95 i0 (.int .u32 0) Tryz.underlying81 hi0 hi1.1 .i64 .i64 (n9:Int) (n9:Int) (by omega) (by omega) (by rw[hi1.2.2];omega) (by omega)
      rw[hi1.2.1,Int.toNat_natCast] at this;exact this
    have hd1:decide ((q9:Int)<9)=true:=decide_eq_true (by omega);have hd2:((q9:Int)<9)=True:=eq_true (by omega);have HPP:=K_ hp;clear hpp hp hcell;obtain⟨y,hy⟩:∃ y,y=List.replicate n9 0++yO (zP l0):=⟨_,rfl⟩
    have HY:=K_ hy;have hyl:y.length≤1000000:=by rw[hy,List.length_append,List.length_replicate];omega
    have hyg:jO y=true:=by rw[hy];exact vP.2 ⟨zbk n9,zcR _⟩
    have hyv:zP y=1000000000 ^ n9 * zP l0:=by rw[hy,zaq,zbz,List.length_replicate,zbZ,Nat.zero_add]
    have hp9:p<1000000000:=by rw[HPP.out];exact Nat.lt_of_lt_of_le (Nat.pow_lt_pow_right (by decide) hq) (by decide)
    obtain⟨k,hk⟩:=Ev.rounds (ziL (m:=0) hyg hyl hp9 (by decide));have HK:=K_ hk;have HL:=K_ (show ((List.replicate n9 (0:Int)).length+(yO (zP l0)).length) * 4≤140737488355328 by rw[List.length_replicate];omega);have HV:=K_ hyv;clear hy hyl hyg hyv hk hlt;go_region_law (first
      | (refine Kd.R_append_rows_step (Kd.int .u32) (w0:=w) w.heap.size (by rfl) (.tmp 14) (.tmp 15) 81 95 (.int .u32 0) 4 rfl Tryz.underlying81 qN rfl (by decide) (by omega) (.slice (some ⟨w1.heap.size,0,none⟩) n9 n9) (List.replicate n9 0) (yO (zP l0)) A1 (yO (zP l0)).length c1 (fun _=>True) (fun _=>False) (by simp[Act.eval]) (by simp[Act.eval]) ?aO ?aR (fun _ _ h=>h) (fun _ h=>h.elim) (fun _ _=>trivial) ?aB ?aS ?aL ?_
         (case aO=>exact Kd.R_drew (zjt w1 w.heap.size n9 95 HB.out.size (by omega)))
         (case aR=>exact Kd.C_drew (Kd.C_alloc (Kd.R_reads' HO.out).2.2 _))
         (case aB=>exact (HB.out.alloc HB.out.size _).drew)
         (case aS=>exact ((HB.out.alloc HB.out.size _).drew (B:=w.heap.size)).size)
         (case aL=>exact HL.out)
         intro v1 w2 ho2 hb2 hg2 hat2;rw[←HY.out] at ho2;obtain⟨A2,c2,rfl⟩:=Kd.R_slice ho2;have HO2:=K_ ho2;have HB2:=K_ hb2;have hc3:=(hb2.cell (World.block_lt_of_cell? w _ HCW.out)).trans HCW.out
         clear ho2 hb2 hg2 hat2)
      | (go_simp
         go_wp2_with (go_at_call 99;(with_reducible refine (zbX.calls k A2 c2 y (p:Int) 0 (yO (zP y * p+0)) _ ?side1 ?side2 ?side3).mono ?_);(case side1=>exact (Kd.R_reads' HO2.out).2.2);(case side2=>exact (Kd.R_reads' HO2.out).2.1);(case side3=>exact HK.out);rintro e w3 ⟨v3,rfl,ho3,hb3⟩;have HO3:=K_ ho3;have HB3:=K_ hb3;clear ho3 hb3)))
    all_goals
      go_wp2
      go_ret
      refine⟨_,rfl,?_,HB2.out.trans (HB3.out.mono HB2.out.size)⟩;have e:yO (zP l0 * 10 ^ m)=yO (zP y * p+0):=by
        rw[HV.out,HPP.out,Nat.add_zero,zfW,Nat.mul_comm (10 ^ (9 * n9)),Nat.mul_assoc,←Nat.pow_add,HN9.out,HQ9.out,Nat.div_add_mod]
      rw[e];exact Kd.R_lower HO3.out HB2.out.size
  rw[if_neg hg] at h;cases h
end
def yG.f (a0:Int):Option (Bool):=some (a0 !=a0)
set_option maxHeartbeats 8000000 in
set_option maxRecDepth 100000 in
theorem yG.calls (a0:Int) (r:Bool) (w:World) (h:yG.f a0=some r) :
  Calls Tryz.prog 132 #[.int .i64 a0] w fun e w'=>e=.returned (.bool r)∧zJ w w':=by
 have H:(some (a0 !=a0))=some r:=h;clear h;obtain rfl:=Option.some.inj H;go_enter Tryz.func132,Tryz.ntmps132
 go_wp2
 go_ret
 exact⟨by first|rfl|(simp;done)|(simp[*];done)|(simp[*,Fig.bne_nil];done),by repeat (first|exact zJ.refl _|apply zJ.step)⟩
def zah.f (a0:Int) (a1:Int):Option (Int):=(yG.f a0).bind fun t323=>((yG.f a1).bind fun t324=>(if t323=true then (if t324=true then (some 0) else (some (-1))) else (if t324=true then (some 1) else (if a0<a1 then (some (-1)) else (if a0>a1 then (some 1) else (some 0))))))
set_option maxHeartbeats 8000000 in
set_option maxRecDepth 100000 in
theorem zah.calls (a0:Int) (a1:Int) (r:Int) (w:World) (h:zah.f a0 a1=some r) :
  Calls Tryz.prog 102 #[.int .i64 a0,.int .i64 a1] w fun e w'=>e=.returned (.int .i64 r)∧zJ w w':=by
 have H:((yG.f a0).bind fun t323=>((yG.f a1).bind fun t324=>(if t323=true then (if t324=true then (some 0) else (some (-1))) else (if t324=true then (some 1) else (if a0<a1 then (some (-1)) else (if a0>a1 then (some 1) else (some 0)))))))=some r:=h;clear h;obtain⟨t323,A30,H⟩:=Option.bind_eq_some_iff.mp H
 (try dsimp -simprocs only at H)
 have A3:=K_ A30;clear A30;obtain⟨t324,A40,H⟩:=Option.bind_eq_some_iff.mp H
 (try dsimp -simprocs only at H)
 have A4:=K_ A40;clear A40;by_cases c5:t323=true
 ·subst c5
  rw[if_pos rfl] at H;by_cases c6:t324=true
  ·subst c6
   rw[if_pos rfl] at H;obtain rfl:=Option.some.inj H;go_enter Tryz.func102,Tryz.ntmps102
   go_wp2_with (first|((with_reducible refine zK (f:=132) rfl ?_);refine zW (some 8) rfl rfl Tryz.func132 (by kernel_rfl) rfl #[.int .i64 a0] rfl MP ?_;(with_reducible refine (yG.calls a0 true _ A3.out).mono ?_);rintro e w' ⟨rfl,⟨nd,rfl⟩⟩;refine⟨_,rfl,?_⟩)|((with_reducible refine zK (f:=132) rfl ?_);refine zW (some 10) rfl rfl Tryz.func132 (by kernel_rfl) rfl #[.int .i64 a1] rfl MP ?_;(with_reducible refine (yG.calls a1 true _ A4.out).mono ?_);rintro e w' ⟨rfl,⟨nd,rfl⟩⟩;refine⟨_,rfl,?_⟩))
   go_ret
   exact⟨by first|rfl|(simp;done)|(simp[*];done)|(simp[*,Fig.bne_nil];done),by repeat (first|exact zJ.refl _|apply zJ.step)⟩
  replace c6:=Bool.eq_false_iff.mpr c6;subst c6;rw[if_neg (show ¬ (false=true) by decide)] at H;obtain rfl:=Option.some.inj H;go_enter Tryz.func102,Tryz.ntmps102
  go_wp2_with (first|((with_reducible refine zK (f:=132) rfl ?_);refine zW (some 8) rfl rfl Tryz.func132 (by kernel_rfl) rfl #[.int .i64 a0] rfl MP ?_;(with_reducible refine (yG.calls a0 true _ A3.out).mono ?_);rintro e w' ⟨rfl,⟨nd,rfl⟩⟩;refine⟨_,rfl,?_⟩)|((with_reducible refine zK (f:=132) rfl ?_);refine zW (some 10) rfl rfl Tryz.func132 (by kernel_rfl) rfl #[.int .i64 a1] rfl MP ?_;(with_reducible refine (yG.calls a1 false _ A4.out).mono ?_);rintro e w' ⟨rfl,⟨nd,rfl⟩⟩;refine⟨_,rfl,?_⟩))
  go_ret
  exact⟨by first|rfl|(simp;done)|(simp[*];done)|(simp[*,Fig.bne_nil];done),by repeat (first|exact zJ.refl _|apply zJ.step)⟩
 replace c5:=Bool.eq_false_iff.mpr c5;subst c5;rw[if_neg (show ¬ (false=true) by decide)] at H;by_cases c7:t324=true
 ·subst c7
  rw[if_pos rfl] at H;obtain rfl:=Option.some.inj H;go_enter Tryz.func102,Tryz.ntmps102
  go_wp2_with (first|((with_reducible refine zK (f:=132) rfl ?_);refine zW (some 8) rfl rfl Tryz.func132 (by kernel_rfl) rfl #[.int .i64 a0] rfl MP ?_;(with_reducible refine (yG.calls a0 false _ A3.out).mono ?_);rintro e w' ⟨rfl,⟨nd,rfl⟩⟩;refine⟨_,rfl,?_⟩)|((with_reducible refine zK (f:=132) rfl ?_);refine zW (some 10) rfl rfl Tryz.func132 (by kernel_rfl) rfl #[.int .i64 a1] rfl MP ?_;(with_reducible refine (yG.calls a1 true _ A4.out).mono ?_);rintro e w' ⟨rfl,⟨nd,rfl⟩⟩;refine⟨_,rfl,?_⟩))
  go_ret
  exact⟨by first|rfl|(simp;done)|(simp[*];done)|(simp[*,Fig.bne_nil];done),by repeat (first|exact zJ.refl _|apply zJ.step)⟩
 replace c7:=Bool.eq_false_iff.mpr c7;subst c7;rw[if_neg (show ¬ (false=true) by decide)] at H;by_cases c8:a0<a1
 ·rw[if_pos c8] at H
  have c8b0:decide (a0<a1)=true:=decide_eq_true c8;clear c8;obtain rfl:=Option.some.inj H;go_enter Tryz.func102,Tryz.ntmps102
  go_wp2_with (first|((with_reducible refine zK (f:=132) rfl ?_);refine zW (some 8) rfl rfl Tryz.func132 (by kernel_rfl) rfl #[.int .i64 a0] rfl MP ?_;(with_reducible refine (yG.calls a0 false _ A3.out).mono ?_);rintro e w' ⟨rfl,⟨nd,rfl⟩⟩;refine⟨_,rfl,?_⟩)|((with_reducible refine zK (f:=132) rfl ?_);refine zW (some 10) rfl rfl Tryz.func132 (by kernel_rfl) rfl #[.int .i64 a1] rfl MP ?_;(with_reducible refine (yG.calls a1 false _ A4.out).mono ?_);rintro e w' ⟨rfl,⟨nd,rfl⟩⟩;refine⟨_,rfl,?_⟩))
  go_ret
  exact⟨by first|rfl|(simp;done)|(simp[*];done)|(simp[*,Fig.bne_nil];done),by repeat (first|exact zJ.refl _|apply zJ.step)⟩
 rw[if_neg c8] at H;have c8b0:decide (a0<a1)=false:=decide_eq_false c8;clear c8;by_cases c9:a0>a1
 ·rw[if_pos c9] at H
  have c9b0:decide (a1<a0)=true:=decide_eq_true c9;clear c9;obtain rfl:=Option.some.inj H;go_enter Tryz.func102,Tryz.ntmps102
  go_wp2_with (first|((with_reducible refine zK (f:=132) rfl ?_);refine zW (some 8) rfl rfl Tryz.func132 (by kernel_rfl) rfl #[.int .i64 a0] rfl MP ?_;(with_reducible refine (yG.calls a0 false _ A3.out).mono ?_);rintro e w' ⟨rfl,⟨nd,rfl⟩⟩;refine⟨_,rfl,?_⟩)|((with_reducible refine zK (f:=132) rfl ?_);refine zW (some 10) rfl rfl Tryz.func132 (by kernel_rfl) rfl #[.int .i64 a1] rfl MP ?_;(with_reducible refine (yG.calls a1 false _ A4.out).mono ?_);rintro e w' ⟨rfl,⟨nd,rfl⟩⟩;refine⟨_,rfl,?_⟩))
  go_ret
  exact⟨by first|rfl|(simp;done)|(simp[*];done)|(simp[*,Fig.bne_nil];done),by repeat (first|exact zJ.refl _|apply zJ.step)⟩
 rw[if_neg c9] at H;have c9b0:decide (a1<a0)=false:=decide_eq_false c9;clear c9;obtain rfl:=Option.some.inj H;go_enter Tryz.func102,Tryz.ntmps102
 go_wp2_with (first|((with_reducible refine zK (f:=132) rfl ?_);refine zW (some 8) rfl rfl Tryz.func132 (by kernel_rfl) rfl #[.int .i64 a0] rfl MP ?_;(with_reducible refine (yG.calls a0 false _ A3.out).mono ?_);rintro e w' ⟨rfl,⟨nd,rfl⟩⟩;refine⟨_,rfl,?_⟩)|((with_reducible refine zK (f:=132) rfl ?_);refine zW (some 10) rfl rfl Tryz.func132 (by kernel_rfl) rfl #[.int .i64 a1] rfl MP ?_;(with_reducible refine (yG.calls a1 false _ A4.out).mono ?_);rintro e w' ⟨rfl,⟨nd,rfl⟩⟩;refine⟨_,rfl,?_⟩))
 go_ret
 exact⟨by first|rfl|(simp;done)|(simp[*];done)|(simp[*,Fig.bne_nil];done),by repeat (first|exact zJ.refl _|apply zJ.step)⟩
def jX.f (a0:Int):Option (Bool):=some (a0 !=a0)
set_option maxHeartbeats 8000000 in
set_option maxRecDepth 100000 in
theorem jX.calls (a0:Int) (r:Bool) (w:World) (h:jX.f a0=some r) :
  Calls Tryz.prog 133 #[.int .u32 a0] w fun e w'=>e=.returned (.bool r)∧zJ w w':=by
 have H:(some (a0 !=a0))=some r:=h;clear h;obtain rfl:=Option.some.inj H;go_enter Tryz.func133,Tryz.ntmps133
 go_wp2
 go_ret
 exact⟨by first|rfl|(simp;done)|(simp[*];done)|(simp[*,Fig.bne_nil];done),by repeat (first|exact zJ.refl _|apply zJ.step)⟩
def xJ.f (a0:Int) (a1:Int):Option (Int):=(jX.f a0).bind fun t325=>((jX.f a1).bind fun t326=>(if t325=true then (if t326=true then (some 0) else (some (-1))) else (if t326=true then (some 1) else (if a0<a1 then (some (-1)) else (if a0>a1 then (some 1) else (some 0))))))
set_option maxHeartbeats 8000000 in
set_option maxRecDepth 100000 in
theorem xJ.calls (a0:Int) (a1:Int) (r:Int) (w:World) (h:xJ.f a0 a1=some r) :
  Calls Tryz.prog 103 #[.int .u32 a0,.int .u32 a1] w fun e w'=>e=.returned (.int .i64 r)∧zJ w w':=by
 have H:((jX.f a0).bind fun t325=>((jX.f a1).bind fun t326=>(if t325=true then (if t326=true then (some 0) else (some (-1))) else (if t326=true then (some 1) else (if a0<a1 then (some (-1)) else (if a0>a1 then (some 1) else (some 0)))))))=some r:=h;clear h;obtain⟨t325,A30,H⟩:=Option.bind_eq_some_iff.mp H
 (try dsimp -simprocs only at H)
 have A3:=K_ A30;clear A30;obtain⟨t326,A40,H⟩:=Option.bind_eq_some_iff.mp H
 (try dsimp -simprocs only at H)
 have A4:=K_ A40;clear A40;by_cases c5:t325=true
 ·subst c5
  rw[if_pos rfl] at H;by_cases c6:t326=true
  ·subst c6
   rw[if_pos rfl] at H;obtain rfl:=Option.some.inj H;go_enter Tryz.func103,Tryz.ntmps103
   go_wp2_with (first|((with_reducible refine zK (f:=133) rfl ?_);refine zW (some 8) rfl rfl Tryz.func133 (by kernel_rfl) rfl #[.int .u32 a0] rfl MP ?_;(with_reducible refine (jX.calls a0 true _ A3.out).mono ?_);rintro e w' ⟨rfl,⟨nd,rfl⟩⟩;refine⟨_,rfl,?_⟩)|((with_reducible refine zK (f:=133) rfl ?_);refine zW (some 10) rfl rfl Tryz.func133 (by kernel_rfl) rfl #[.int .u32 a1] rfl MP ?_;(with_reducible refine (jX.calls a1 true _ A4.out).mono ?_);rintro e w' ⟨rfl,⟨nd,rfl⟩⟩;refine⟨_,rfl,?_⟩))
   go_ret
   exact⟨by first|rfl|(simp;done)|(simp[*];done)|(simp[*,Fig.bne_nil];done),by repeat (first|exact zJ.refl _|apply zJ.step)⟩
  replace c6:=Bool.eq_false_iff.mpr c6;subst c6;rw[if_neg (show ¬ (false=true) by decide)] at H;obtain rfl:=Option.some.inj H;go_enter Tryz.func103,Tryz.ntmps103
  go_wp2_with (first|((with_reducible refine zK (f:=133) rfl ?_);refine zW (some 8) rfl rfl Tryz.func133 (by kernel_rfl) rfl #[.int .u32 a0] rfl MP ?_;(with_reducible refine (jX.calls a0 true _ A3.out).mono ?_);rintro e w' ⟨rfl,⟨nd,rfl⟩⟩;refine⟨_,rfl,?_⟩)|((with_reducible refine zK (f:=133) rfl ?_);refine zW (some 10) rfl rfl Tryz.func133 (by kernel_rfl) rfl #[.int .u32 a1] rfl MP ?_;(with_reducible refine (jX.calls a1 false _ A4.out).mono ?_);rintro e w' ⟨rfl,⟨nd,rfl⟩⟩;refine⟨_,rfl,?_⟩))
  go_ret
  exact⟨by first|rfl|(simp;done)|(simp[*];done)|(simp[*,Fig.bne_nil];done),by repeat (first|exact zJ.refl _|apply zJ.step)⟩
 replace c5:=Bool.eq_false_iff.mpr c5;subst c5;rw[if_neg (show ¬ (false=true) by decide)] at H;by_cases c7:t326=true
 ·subst c7
  rw[if_pos rfl] at H;obtain rfl:=Option.some.inj H;go_enter Tryz.func103,Tryz.ntmps103
  go_wp2_with (first|((with_reducible refine zK (f:=133) rfl ?_);refine zW (some 8) rfl rfl Tryz.func133 (by kernel_rfl) rfl #[.int .u32 a0] rfl MP ?_;(with_reducible refine (jX.calls a0 false _ A3.out).mono ?_);rintro e w' ⟨rfl,⟨nd,rfl⟩⟩;refine⟨_,rfl,?_⟩)|((with_reducible refine zK (f:=133) rfl ?_);refine zW (some 10) rfl rfl Tryz.func133 (by kernel_rfl) rfl #[.int .u32 a1] rfl MP ?_;(with_reducible refine (jX.calls a1 true _ A4.out).mono ?_);rintro e w' ⟨rfl,⟨nd,rfl⟩⟩;refine⟨_,rfl,?_⟩))
  go_ret
  exact⟨by first|rfl|(simp;done)|(simp[*];done)|(simp[*,Fig.bne_nil];done),by repeat (first|exact zJ.refl _|apply zJ.step)⟩
 replace c7:=Bool.eq_false_iff.mpr c7;subst c7;rw[if_neg (show ¬ (false=true) by decide)] at H;by_cases c8:a0<a1
 ·rw[if_pos c8] at H
  have c8b0:decide (a0<a1)=true:=decide_eq_true c8;clear c8;obtain rfl:=Option.some.inj H;go_enter Tryz.func103,Tryz.ntmps103
  go_wp2_with (first|((with_reducible refine zK (f:=133) rfl ?_);refine zW (some 8) rfl rfl Tryz.func133 (by kernel_rfl) rfl #[.int .u32 a0] rfl MP ?_;(with_reducible refine (jX.calls a0 false _ A3.out).mono ?_);rintro e w' ⟨rfl,⟨nd,rfl⟩⟩;refine⟨_,rfl,?_⟩)|((with_reducible refine zK (f:=133) rfl ?_);refine zW (some 10) rfl rfl Tryz.func133 (by kernel_rfl) rfl #[.int .u32 a1] rfl MP ?_;(with_reducible refine (jX.calls a1 false _ A4.out).mono ?_);rintro e w' ⟨rfl,⟨nd,rfl⟩⟩;refine⟨_,rfl,?_⟩))
  go_ret
  exact⟨by first|rfl|(simp;done)|(simp[*];done)|(simp[*,Fig.bne_nil];done),by repeat (first|exact zJ.refl _|apply zJ.step)⟩
 rw[if_neg c8] at H;have c8b0:decide (a0<a1)=false:=decide_eq_false c8;clear c8;by_cases c9:a0>a1
 ·rw[if_pos c9] at H
  have c9b0:decide (a1<a0)=true:=decide_eq_true c9;clear c9;obtain rfl:=Option.some.inj H;go_enter Tryz.func103,Tryz.ntmps103
  go_wp2_with (first|((with_reducible refine zK (f:=133) rfl ?_);refine zW (some 8) rfl rfl Tryz.func133 (by kernel_rfl) rfl #[.int .u32 a0] rfl MP ?_;(with_reducible refine (jX.calls a0 false _ A3.out).mono ?_);rintro e w' ⟨rfl,⟨nd,rfl⟩⟩;refine⟨_,rfl,?_⟩)|((with_reducible refine zK (f:=133) rfl ?_);refine zW (some 10) rfl rfl Tryz.func133 (by kernel_rfl) rfl #[.int .u32 a1] rfl MP ?_;(with_reducible refine (jX.calls a1 false _ A4.out).mono ?_);rintro e w' ⟨rfl,⟨nd,rfl⟩⟩;refine⟨_,rfl,?_⟩))
  go_ret
  exact⟨by first|rfl|(simp;done)|(simp[*];done)|(simp[*,Fig.bne_nil];done),by repeat (first|exact zJ.refl _|apply zJ.step)⟩
 rw[if_neg c9] at H;have c9b0:decide (a1<a0)=false:=decide_eq_false c9;clear c9;obtain rfl:=Option.some.inj H;go_enter Tryz.func103,Tryz.ntmps103
 go_wp2_with (first|((with_reducible refine zK (f:=133) rfl ?_);refine zW (some 8) rfl rfl Tryz.func133 (by kernel_rfl) rfl #[.int .u32 a0] rfl MP ?_;(with_reducible refine (jX.calls a0 false _ A3.out).mono ?_);rintro e w' ⟨rfl,⟨nd,rfl⟩⟩;refine⟨_,rfl,?_⟩)|((with_reducible refine zK (f:=133) rfl ?_);refine zW (some 10) rfl rfl Tryz.func133 (by kernel_rfl) rfl #[.int .u32 a1] rfl MP ?_;(with_reducible refine (jX.calls a1 false _ A4.out).mono ?_);rintro e w' ⟨rfl,⟨nd,rfl⟩⟩;refine⟨_,rfl,?_⟩))
 go_ret
 exact⟨by first|rfl|(simp;done)|(simp[*];done)|(simp[*,Fig.bne_nil];done),by repeat (first|exact zJ.refl _|apply zJ.step)⟩
section
set_option maxRecDepth 100000
theorem znO {k:IntKind} {a b:Int} (h:a=b):Ending.returned (.int k a)=.returned (.int k b):=by rw[h]
theorem zob (m n:Nat):zah.f (m:Int) (n:Int)=some (qW m n):=by
 unfold zah.f yG.f qW;simp only[Option.bind_some,bne_self_eq_false]
 repeat' split
 all_goals first|rfl|omega|simp_all
theorem zoe (m n:Nat):xJ.f (m:Int) (n:Int)=some (qW m n):=by
 unfold xJ.f jX.f qW;simp only[Option.bind_some,bne_self_eq_false]
 repeat' split
 all_goals first|rfl|omega|simp_all
def zdI.f (l0:List Int) (l1:List Int):Option Int:=zoS l0 l1
set_option maxHeartbeats 1000000 in
theorem zdI.calls (A0:Option Addr) (c0:Nat) (l0:List Int) (A1:Option Addr) (c1:Nat) (l1:List Int) (r:Int) (w:World) (hr0:Kd.C (Kd.int .u32) w A0 l0.length l0) (hc0:l0.length≤c0) (hr1:Kd.C (Kd.int .u32) w A1 l1.length l1) (hc1:l1.length≤c1) (h:zdI.f l0 l1=some r) :
  Calls Tryz.prog 78 #[.slice A0 l0.length c0,.slice A1 l1.length c1] w fun e w'=>e=.returned (.int .i64 r)∧zJ w w':=by
 unfold zdI.f zoS at h;by_cases hg:jO l0=true∧jO l1=true∧l0.length≤1000000000000∧l1.length≤1000000000000
 ·rw[if_pos hg] at h
  obtain rfl:=Option.some.inj h;obtain⟨g0,g1,z0,z1⟩:=hg;obtain⟨k0,hk0⟩:=ziG (l:=l0) (by omega);obtain⟨k1,hk1⟩:=ziG (l:=l1) (by omega);have ht0:=zeT l0;have ht1:=zeT l1;have hv0:=zeG l0;have hv1:=zeG l1;have hq0:=Fig.take_trim l0;have hq1:=Fig.take_trim l1;have hcl:(qU l0).length≠(qU l1).length→qW (zP l0) (zP l1)=qW (qU l0).length (qU l1).length:=fun hne=>by
   rw[←hv0,←hv1];exact zoa (zee g0) (zee g1) (zdy l0) (zdy l1) hne
  have hst:qW (zP l0) (zP l1)=qW (zP (l0.take (qU l0).length)) (zP (l1.take (qU l1).length)):=by rw[hq0,hq1,hv0,hv1]
  obtain⟨n,hn⟩:∃ n,n=(qU l0).length:=⟨_,rfl⟩
  obtain⟨m,hm⟩:∃ m,m=(qU l1).length:=⟨_,rfl⟩
  rw[←hn] at hk0 ht0 hcl hst;rw[←hm] at hk1 ht1 hcl hst;clear hn hm hq0 hq1 hv0 hv1 h;obtain⟨i0,hi0,_,hsz,_⟩:=info_parts qN;obtain⟨hcutA,_,hcA⟩:=zbP (P:=Tryz.prog) (Value.int .u32) 0 81 95 .i64 Tryz.underlying81 hi0 hsz A0 c0 l0 (n:Int) (by omega) (by omega) hc0;obtain⟨hcutB,_,hcB⟩:=zbP (P:=Tryz.prog) (Value.int .u32) 0 81 95 .i64 Tryz.underlying81 hi0 hsz A1 c1 l1 (m:Int) (by omega) (by omega) hc1;rw[Int.toNat_natCast] at hcutA hcutB;have Hk0:=K_ hk0;have Hk1:=K_ hk1;have HR0:=K_ hr0;have HR1:=K_ hr1;have HC0:=K_ hc0;have HC1:=K_ hc1;have Hcl:=K_ hcl;have Hst:=K_ hst;have G0:=K_ g0;have G1:=K_ g1;clear hk0 hk1 hr0 hr1 hc0 hc1 hcl hst g0 g1 hi0 hsz hcA hcB;by_cases hnm:n=m
  ·have e1:((n:Int)==(m:Int))=true:=by simp[hnm]
   have e2:((n:Int) !=(m:Int))=false:=by simp[hnm]
   have e3:(n==m)=true:=by simp[hnm]
   have e4:(n !=m)=false:=by simp[hnm]
   have Hnm:=K_ hnm;clear hnm;go_enter Tryz.func78,Tryz.ntmps78
   go_wp2
   go_quiet (first|(go_at_call 101;(with_reducible refine (uK.calls k0 _ _ l0 (n:Int) _ ?side1 ?side2 Hk0.out).mono ?_);(case side1=>repeat (first|exact HR0.out|(with_reducible refine Kd.C_drewN ?_ _)|(with_reducible refine Kd.C_drew ?_)));(case side2=>exact HC0.out);rintro e w' ⟨rfl,⟨nd,rfl⟩⟩;(first|exact⟨rfl,_,World.drewN_drewN _ _ _⟩|exact⟨rfl,_,rfl⟩|exact⟨rfl,_,Eq.trans (World.drewN_drewN _ _ _) (congrArg (World.drewN _) (Nat.add_assoc _ _ _))⟩))|(go_at_call 101;(with_reducible refine (uK.calls k1 _ _ l1 (m:Int) _ ?side1 ?side2 Hk1.out).mono ?_);(case side1=>repeat (first|exact HR1.out|(with_reducible refine Kd.C_drewN ?_ _)|(with_reducible refine Kd.C_drew ?_)));(case side2=>exact HC1.out);rintro e w' ⟨rfl,⟨nd,rfl⟩⟩;(first|exact⟨rfl,_,World.drewN_drewN _ _ _⟩|exact⟨rfl,_,rfl⟩|exact⟨rfl,_,Eq.trans (World.drewN_drewN _ _ _) (congrArg (World.drewN _) (Nat.add_assoc _ _ _))⟩)))
   go_wp2
   go_loopg [5] n (fun j v5 w'=>∃ x:Int,v5=.int .i64 x∧Aside0 (x=(j:Int)-1)∧Aside0 (j≤n)∧Aside0 (qW (zP l0) (zP l1)=qW (zP (l0.take j)) (zP (l1.take j)))∧zJ w w')
   case atStart=>exact⟨(n:Int)-1,rfl,⟨rfl⟩,⟨Nat.le_refl _⟩,⟨by rw[Hst.out,←Hnm.out]⟩,by repeat (first|exact zJ.refl _|apply zJ.step)⟩
   case round =>
    obtain⟨x,rfl,HX,HJ,HV,⟨mm,rfl⟩⟩:=hrel
    cases gk with
    | zero =>
     have hx0:=HX.out;have dx:decide (0≤x)=false:=decide_eq_false (by omega);clear hx0;go_wp2
     go_ret
     exact⟨znO (by rw[HV.out];simp[zP,qW]),by repeat (first|exact zJ.refl _|apply zJ.step)⟩
    | succ j =>
     have hx1:0≤x:=by have:=HX.out;omega
     have hx2:x<(n:Int):=by have:=HX.out;have:=HJ.out;omega
     have hx3:x<(m:Int):=by have:=Hnm.out;omega
     obtain⟨ad0,ea0,hc0⟩:=Kd.at_int HR0.out x hx1 (by omega);obtain⟨ad1,ea1,hc1⟩:=Kd.at_int HR1.out x hx1 (by omega);cases ea0;cases ea1;have dx:decide (0≤x)=true:=decide_eq_true hx1;have xj:x=(j:Int):=by have:=HX.out;omega
     have XJ:=K_ xj;have hj0:j<l0.length:=by omega
     have hj1:j<l1.length:=by omega
     have ht0:rd l0 x=l0[j]'hj0:=by rw[xj];exact qD hj0
     have ht1:rd l1 x=l1[j]'hj1:=by rw[xj];exact qD hj1
     have HT0:=K_ ht0;have HT1:=K_ ht1;have p0:=vJ.1 G0.out _ (List.getElem_mem (l:=l0) (n:=j) hj0);have p1:=vJ.1 G1.out _ (List.getElem_mem (l:=l1) (n:=j) hj1);have HP:=K_ (And.intro p0 p1);have s0:=Fig.valL_take_succ (l:=l0) (n:=j) hj0;have s1:=Fig.valL_take_succ (l:=l1) (n:=j) hj1;have HS:=K_ (And.intro s0 s1);clear xj ht0 ht1 p0 p1 s0 s1;have px:=eq_true hx1;have q0:=eq_true hx2;have q1:=eq_true hx3;by_cases he:rd l0 x=rd l1 x
     ·have b0:(rd l0 x==rd l1 x)=true:=by simpa using he
      have b1:(rd l0 x !=rd l1 x)=false:=by simpa using he
      have HE:=K_ he;clear he;go_wp2
      repeat (go_quiet (fail);go_wp2)
      go_roundg j
      case measure=>omega
      case rel=>exact⟨x-1,by first|rfl|simp|(simp[wrap64];omega),⟨by have:=XJ.out;omega⟩,⟨by have:=HJ.out;omega⟩,⟨by rw[HV.out,HS.out.1,HS.out.2];have h1:=HT0.out;have h2:=HT1.out;have h3:=HE.out;rw[h1,h2] at h3;rw[h3];exact (zoj _ _ _).symm⟩,by repeat (first|exact zJ.refl _|apply zJ.step)⟩
     have b0:(rd l0 x==rd l1 x)=false:=by simpa using he
     have b1:(rd l0 x !=rd l1 x)=true:=by simpa using he
     have HV2:=K_ (show qW (rd l0 x).toNat (rd l1 x).toNat=qW (zP l0) (zP l1) by
      have h1:=HT0.out;have h2:=HT1.out;have h3:=HP.out;rw[HV.out,HS.out.1,HS.out.2,h1,h2];rw[h1,h2] at he;exact zoc _ _ _ _ _ (zfa G0.out j) (zfa G1.out j) (by omega))
     have HC2:=K_ (show xJ.f (rd l0 x) (rd l1 x)=some (qW (zP l0) (zP l1)) by
      have h1:=HT0.out;have h2:=HT1.out;have h3:=HP.out;rw[←HV2.out];have:=zoe (rd l0 x).toNat (rd l1 x).toNat
      rwa [Int.toNat_of_nonneg (by rw[h1];exact h3.1.1),Int.toNat_of_nonneg (by rw[h2];exact h3.2.1)] at this)
     clear he;go_wp2
     repeat (go_quiet (first|(go_at_call 103;(with_reducible refine (xJ.calls (rd l0 x) (rd l1 x) _ _ HC2.out).mono ?_);rintro e w' ⟨rfl,⟨nd,rfl⟩⟩;(first|exact⟨rfl,_,World.drewN_drewN _ _ _⟩|exact⟨rfl,_,rfl⟩|exact⟨rfl,_,Eq.trans (World.drewN_drewN _ _ _) (congrArg (World.drewN _) (Nat.add_assoc _ _ _))⟩)));go_wp2)
     go_ret
     exact⟨rfl,by repeat (first|exact zJ.refl _|apply zJ.step)⟩
  have e1:((n:Int)==(m:Int))=false:=by simp;omega
  have e2:((n:Int) !=(m:Int))=true:=by simp;omega
  have e3:(n==m)=false:=by simpa using hnm
  have e4:(n !=m)=true:=by simpa using hnm
  have HC2:=K_ (show zah.f (n:Int) (m:Int)=some (qW (zP l0) (zP l1)) by rw[Hcl.out hnm];exact zob n m);clear hnm;go_enter Tryz.func78,Tryz.ntmps78
  go_wp2
  go_quiet (first|(go_at_call 101;(with_reducible refine (uK.calls k0 _ _ l0 (n:Int) _ ?side1 ?side2 Hk0.out).mono ?_);(case side1=>repeat (first|exact HR0.out|(with_reducible refine Kd.C_drewN ?_ _)|(with_reducible refine Kd.C_drew ?_)));(case side2=>exact HC0.out);rintro e w' ⟨rfl,⟨nd,rfl⟩⟩;(first|exact⟨rfl,_,World.drewN_drewN _ _ _⟩|exact⟨rfl,_,rfl⟩|exact⟨rfl,_,Eq.trans (World.drewN_drewN _ _ _) (congrArg (World.drewN _) (Nat.add_assoc _ _ _))⟩))|(go_at_call 101;(with_reducible refine (uK.calls k1 _ _ l1 (m:Int) _ ?side1 ?side2 Hk1.out).mono ?_);(case side1=>repeat (first|exact HR1.out|(with_reducible refine Kd.C_drewN ?_ _)|(with_reducible refine Kd.C_drew ?_)));(case side2=>exact HC1.out);rintro e w' ⟨rfl,⟨nd,rfl⟩⟩;(first|exact⟨rfl,_,World.drewN_drewN _ _ _⟩|exact⟨rfl,_,rfl⟩|exact⟨rfl,_,Eq.trans (World.drewN_drewN _ _ _) (congrArg (World.drewN _) (Nat.add_assoc _ _ _))⟩)))
  go_wp2_with (go_at_call 102;(with_reducible refine (zah.calls (n:Int) (m:Int) _ _ HC2.out).mono ?_);rintro e w' ⟨rfl,⟨nd,rfl⟩⟩)
  go_ret
  exact⟨rfl,by repeat (first|exact zJ.refl _|apply zJ.step)⟩
 rw[if_neg hg] at h;cases h
end
section
set_option maxRecDepth 100000
def zaX (m:Int) (neg odd:Bool) (half:Int):Bool:=
 if m=0 then !neg else if m=1 then neg else if m=2 then true else if m=3 then false else if m=4 then decide (0<half)||(half==0&&odd) else if m=5 then decide (0≤half) else if m=6 then decide (0<half) else false
def zbu.f (m:Int) (neg odd:Bool) (half:Int):Option Bool:=some (zaX m neg odd half)
set_option maxHeartbeats 4000000 in
theorem zbu.calls (m:Int) (neg odd:Bool) (half:Int) (r:Bool) (w:World) (hG:Fig.Glob w) (h:zbu.f m neg odd half=some r) :
  Calls Tryz.prog 77 #[.int .i64 m,.bool neg,.bool odd,.int .i64 half] w fun e w'=>e=.returned (.bool r)∧zJ w w':=by
 obtain rfl:=Option.some.inj h;clear h;have h0:=hG.ways 0 _ rfl;have h1:=hG.ways 1 _ rfl;have h2:=hG.ways 2 _ rfl;have h3:=hG.ways 3 _ rfl;have h4:=hG.ways 4 _ rfl;have h5:=hG.ways 5 _ rfl;have h6:=hG.ways 6 _ rfl;have h7:=hG.ways 7 _ rfl;clear hG;by_cases hm:0≤m∧m<8
 ·obtain⟨k,rfl⟩:∃ k:Nat,m=k:=⟨m.toNat,by omega⟩
  have hk:k<8:=by omega
  clear hm
  match k,hk with
  | 0,_ =>
   clear h1 h2 h3 h4 h5 h6 h7;go_enter Tryz.func77,Tryz.ntmps77
   go_wp2
   go_ret
   exact⟨by simp[zaX],zJ.refl _⟩
  | 1,_ =>
   clear h0 h2 h3 h4 h5 h6 h7;go_enter Tryz.func77,Tryz.ntmps77
   go_wp2
   go_ret
   exact⟨by simp[zaX],zJ.refl _⟩
  | 2,_ =>
   clear h0 h1 h3 h4 h5 h6 h7;go_enter Tryz.func77,Tryz.ntmps77
   go_wp2
   go_ret
   exact⟨by simp[zaX],zJ.refl _⟩
  | 3,_ =>
   clear h0 h1 h2 h4 h5 h6 h7;go_enter Tryz.func77,Tryz.ntmps77
   go_wp2
   go_ret
   exact⟨by simp[zaX],zJ.refl _⟩
  | 4,_ =>
   clear h0 h1 h2 h3 h5 h6 h7;by_cases hp:0<half
   ·have d1:decide (0<half)=true:=decide_eq_true hp
    go_enter Tryz.func77,Tryz.ntmps77
    go_wp2
    go_ret
    exact⟨by simp[zaX,hp],zJ.refl _⟩
   have d1:decide (0<half)=false:=decide_eq_false hp;by_cases hz:half=0
   ·have d2:(half==0)=true:=by simp[hz]
    go_enter Tryz.func77,Tryz.ntmps77
    go_wp2
    go_ret
    exact⟨by simp[zaX,hz],zJ.refl _⟩
   have d2:(half==0)=false:=by simp[hz]
   go_enter Tryz.func77,Tryz.ntmps77
   go_wp2
   go_ret
   exact⟨by simp[zaX,hp,hz],zJ.refl _⟩
  | 5,_ =>
   clear h0 h1 h2 h3 h4 h6 h7;go_enter Tryz.func77,Tryz.ntmps77
   go_wp2
   go_ret
   exact⟨by simp[zaX],zJ.refl _⟩
  | 6,_ =>
   clear h0 h1 h2 h3 h4 h5 h7;go_enter Tryz.func77,Tryz.ntmps77
   go_wp2
   go_ret
   exact⟨by simp[zaX],zJ.refl _⟩
  | 7,_ =>
   clear h0 h1 h2 h3 h4 h5 h6;go_enter Tryz.func77,Tryz.ntmps77
   go_wp2
   go_ret
   exact⟨by simp[zaX],zJ.refl _⟩
  | n+8,hk=>exact absurd hk (by omega)
 clear h0 h1 h2 h3 h4 h5 h6 h7;have hz:zaX m neg odd half=false:=by unfold zaX;repeat (rw[if_neg (by omega)])
 rw[hz];by_cases h0:0≤m
 ·have d1:decide (0≤m)=true:=decide_eq_true h0
  have d2:decide (m<8)=false:=decide_eq_false (by omega);go_enter Tryz.func77,Tryz.ntmps77
  go_wp2
  go_ret
  exact⟨rfl,zJ.refl _⟩
 have d1:decide (0≤m)=false:=decide_eq_false h0;go_enter Tryz.func77,Tryz.ntmps77
 go_wp2
 go_ret
 exact⟨rfl,zJ.refl _⟩
end
section
set_option maxRecDepth 100000
theorem zeV (v a b P p cy q:Nat) (h:v+P * cy=a+b):v+P * ((p+cy+q) % 1000000000)+P * 1000000000 * ((p+cy+q) / 1000000000)=a+P * p+(b+P * q):=by
 have e:=congrArg (P * ·) (Nat.div_add_mod (p+cy+q) 1000000000);simp only[Nat.mul_add] at e
 rw[Nat.mul_assoc];omega
theorem zgw (v a b P p cy:Nat) (h:v+P * cy=a+b):v+P * ((p+cy) % 1000000000)+P * 1000000000 * ((p+cy) / 1000000000)=a+P * p+b:=by
 have:=zeV v a b P p cy 0 h
 simpa using this
def zbE.f (l0:List Int) (l1:List Int):Option (List Int):=zpm l0 l1
set_option maxHeartbeats 1000000 in
theorem zbE.calls (A0:Option Addr) (c0:Nat) (l0:List Int) (A1:Option Addr) (c1:Nat) (l1:List Int) (r:List Int) (w:World) (hr0:Kd.C (Kd.int .u32) w A0 l0.length l0) (hc0:l0.length≤c0) (hr1:Kd.C (Kd.int .u32) w A1 l1.length l1) (hc1:l1.length≤c1) (h:zbE.f l0 l1=some r) :
  Calls Tryz.prog 79 #[.slice A0 l0.length c0,.slice A1 l1.length c1] w fun e w'=>∃ v0_:Value,e=.returned (v0_)∧Kd.R (Kd.int .u32) 95 w' w.heap.size (fun _=>True) v0_ r∧Below w.heap.size w w':=by
 unfold zbE.f zpm at h;by_cases hg:jO l0=true∧jO l1=true∧l0.length≤1000000000000∧l1.length≤1000000000000
 ·rw[if_pos hg] at h
  obtain rfl:=Option.some.inj h;obtain⟨g0,g1,z0,z1⟩:=hg;have G0:=K_ g0;have G1:=K_ g1;have HR0:=K_ hr0;have HR1:=K_ hr1;have HC0:=K_ hc0;have HC1:=K_ hc1;clear g0 g1 hr0 hr1 hc0 hc1 h;by_cases hsw:l0.length<l1.length
  ·have ds:decide (l0.length<l1.length)=true:=decide_eq_true hsw
   have HZ:=K_ (show l0.length≤1000000000000∧l1.length≤1000000000000∧l0.length≤l1.length by omega);clear hsw;go_enter Tryz.func79,Tryz.ntmps79
   go_wp2_with (first|((with_reducible refine zE (N:=20) rfl ?_);refine zgu (k:=.u32) w.heap.size 95 rfl 81 _ _ rfl (l1.length+1) rfl (by first|rfl|simp) Tryz.underlying81 (.int .u32 0) 4 qN (fun _=>True) trivial (by omega) (by omega) (w0:=w) (by first|exact Below.refl _ _|exact jW (Below.refl _ _) _) (by first|exact Nat.le_refl _|simp) ?_;intro v20 w20 ho20 hb20;have HO:=K_ ho20;have HB:=K_ hb20;clear ho20 hb20))
   go_loopg [5,6,23] l1.length (fun j v5 v6 v23 w'=>∃ (n cy:Nat) (o:List Int),v23=.int .i64 (n:Int)∧v6=.int .u32 (cy:Int)∧Aside0 (n+j=l1.length)∧Aside0 (cy≤1∧jO o=true∧o.length=n∧zP o+1000000000 ^ n * cy=zP (l1.take n)+zP (l0.take n))∧Aside0 (Kd.R (Kd.int .u32) 95 w' w.heap.size (fun _=>True) v5 o)∧Aside0 (Below w.heap.size w w'))
   case atStart=>exact⟨0,0,[],rfl,rfl,⟨by omega⟩,⟨by omega,rfl,rfl,by simp[zP]⟩,HO,HB⟩
   case round =>
    clear HO HB;obtain⟨n,cy,o,rfl,rfl,HN,HI,HO,HB⟩:=hrel
    cases gk with
    | zero =>
     have hn:=HN.out;have hd:decide (n<l1.length)=false:=decide_eq_false (by omega);have HV:=K_ (show jO (o++[(cy:Int)])=true∧(o++[(cy:Int)]).length≤20000000000000∧zP (o++[(cy:Int)])=zP l0+zP l1 by
      obtain⟨i1,i2,i3,i4⟩:=HI.out;have hz:=HZ.out;refine⟨vP.2 ⟨i2,vR.2 ⟨by omega,rfl⟩⟩,by simp;omega,?_⟩;rw[zad,Int.toNat_natCast,i3,i4,List.take_of_length_le (by omega),List.take_of_length_le (by omega)];exact Nat.add_comm _ _)
     have HL:=K_ (show (o.length+1) * 4≤140737488355328 by
      have:=HI.out
      have hz:=HZ.out;omega)
     obtain⟨y,hy⟩:∃ y,y=o++[(cy:Int)]:=⟨_,rfl⟩
     rw[←hy] at HV;have NY:=K_ hy;clear hn hy;go_wp2_with (first
      | ((with_reducible refine jH (b:=.append) (xs:=#[.tmp 49,.tmp 51]) rfl ?_);at_builtin;refine Kd.R_append (Kd.int .u32) (w0:=w) w.heap.size rfl (.tmp 49) (.tmp 51) 81 95 (.int .u32 0) 4 rfl Tryz.underlying81 qN rfl (by decide) (by omega) _ o (cy:Int) [.int .u32 (cy:Int)] (fun _=>True) (fun _=>False) rfl rfl ?aP (fun _ hk=>hk.elim) ?aF ?aO ?aB ?aS ?aL ?_;(case aP=>exact rfl);(case aB=>exact (BL HB));(case aF=>exact (fun _ _=>trivial));(case aO=>exact (RB HO.out));(case aS=>exact (zS (BL HB)));(case aL=>exact HL.out);intro v49 w11 ho hb hg hat;rw[←NY.out] at ho;have n0_:=K_ hb;have n1_:=K_ ho;clear HB;clear HO;have HB:=n0_;have HO:=n1_;clear n0_ n1_;clear ho hb hg hat;obtain⟨A9,c9,rfl⟩:=Kd.R_slice HO.out)
      | (go_at_call 91;(with_reducible refine (uB.calls A9 c9 y (yO (zP l0+zP l1)) _ ?side1 ?side2 ?side3).mono ?_);(case side1=>exact (Kd.R_reads' HO.out).2.2);(case side2=>exact (Kd.R_reads' HO.out).2.1);(case side3=>rw[←HV.out.2.2];exact zaK HV.out.1 HV.out.2.1);rintro e w12 ⟨v0,rfl,ho,hb⟩;have n0_:=K_ (Kd.R_lower ho (zS (BL HB)));have n1_:=zF HB hb;clear ho hb HB HO;have HB:=n1_;have HO:=n0_;clear n0_ n1_))
     go_ret
     exact⟨_,rfl,HO.out,HB.out⟩
    | succ j =>
     have hn:=HN.out;have hnl:n<l1.length:=by omega
     have hd:decide (n<l1.length)=true:=decide_eq_true hnl;obtain⟨ad,ea,hc⟩:=Kd.at_int HR1.out (n:Int) (by omega) (by omega);cases ea;rw[Int.toNat_natCast] at hc;replace hc:=(HB.out.cell (World.block_lt_of_cell? w _ hc)).trans hc;obtain⟨p,hp⟩:∃ p:Nat,rd l1 (n:Int)=(p:Int):=⟨(rd l1 (n:Int)).toNat,by have:=vJ.1 G1.out _ (List.getElem_mem hnl);rw[qD hnl];omega⟩
     have hp9:p<1000000000:=by have:=vJ.1 G1.out _ (List.getElem_mem hnl);rw[qD hnl] at hp;omega
     rw[hp] at hc;have HNL:=K_ hnl;have HP:=K_ (show (l1[n]'HNL.out).toNat=p by rw[qD hnl] at hp;rw[hp];rfl);have HS:=K_ (Fig.valL_take_succ HNL.out);have hcy:cy≤1:=HI.out.1;have HL:=K_ (show (o.length+1) * 4≤140737488355328 by
      have:=HI.out
      have hz:=HZ.out;omega)
     have qn:=eq_true hnl;clear hp hn hnl;by_cases hm:n<l0.length
     ·have hdm:decide (n<l0.length)=true:=decide_eq_true hm
      obtain⟨ad2,ea2,hc2⟩:=Kd.at_int HR0.out (n:Int) (by omega) (by omega);cases ea2;rw[Int.toNat_natCast] at hc2;replace hc2:=(HB.out.cell (World.block_lt_of_cell? w _ hc2)).trans hc2;obtain⟨q,hq⟩:∃ q:Nat,rd l0 (n:Int)=(q:Int):=⟨(rd l0 (n:Int)).toNat,by have:=vJ.1 G0.out _ (List.getElem_mem hm);rw[qD hm];omega⟩
      have hq9:q<1000000000:=by have:=vJ.1 G0.out _ (List.getElem_mem hm);rw[qD hm] at hq;omega
      rw[hq] at hc2;have HM:=K_ hm;have HQ:=K_ (show (l0[n]'HM.out).toNat=q by rw[qD hm] at hq;rw[hq];rfl);have HS2:=K_ (Fig.valL_take_succ HM.out);have qm:=eq_true hm;clear hq hm;go_wp2_with (first
       | ((with_reducible refine jH (b:=.append) (xs:=#[.tmp 43,.tmp 46]) rfl ?_);at_builtin;refine Kd.R_append (Kd.int .u32) (w0:=w) w.heap.size rfl (.tmp 43) (.tmp 46) 81 95 (.int .u32 0) 4 rfl Tryz.underlying81 qN rfl (by decide) (by omega) _ o (((p+cy+q) % 1000000000:Nat):Int) [.int .u32 (((p+cy+q) % 1000000000:Nat):Int)] (fun _=>True) (fun _=>False) rfl rfl ?aP (fun _ hk=>hk.elim) ?aF ?aO ?aB ?aS ?aL ?_;(case aP=>exact rfl);(case aB=>exact (BL HB));(case aF=>exact (fun _ _=>trivial));(case aO=>exact (RB HO.out));(case aS=>exact (zS (BL HB)));(case aL=>exact HL.out);intro v49 w11 ho hb hg hat;have n0_:=K_ hb;have n1_:=K_ ho;clear HB;clear HO;have HB:=n0_;have HO:=n1_;clear n0_ n1_;clear ho hb hg hat))
      go_roundg j
      case measure=>omega
      case rel =>
       exact⟨n+1,(p+cy+q) / 1000000000,_,by rw[zam n (by have:=HN.out;have:=HZ.out;omega)],by first|rfl|go_num,⟨by have:=HN.out;omega⟩,⟨by
        obtain⟨i1,i2,i3,i4⟩:=HI.out;refine⟨by omega,vP.2 ⟨i2,vR.2 ⟨by omega,rfl⟩⟩,by simp[i3],?_⟩;rw[zad,Int.toNat_natCast,i3,Nat.pow_succ,HS.out,HS2.out,HP.out,HQ.out];exact zeV _ _ _ _ _ _ _ i4⟩,HO,HB⟩
     have hdm:decide (n<l0.length)=false:=decide_eq_false hm;have HM:=K_ hm;clear hm;go_wp2_with (first
      | ((with_reducible refine jH (b:=.append) (xs:=#[.tmp 43,.tmp 46]) rfl ?_);at_builtin;refine Kd.R_append (Kd.int .u32) (w0:=w) w.heap.size rfl (.tmp 43) (.tmp 46) 81 95 (.int .u32 0) 4 rfl Tryz.underlying81 qN rfl (by decide) (by omega) _ o (((p+cy) % 1000000000:Nat):Int) [.int .u32 (((p+cy) % 1000000000:Nat):Int)] (fun _=>True) (fun _=>False) rfl rfl ?aP (fun _ hk=>hk.elim) ?aF ?aO ?aB ?aS ?aL ?_;(case aP=>exact rfl);(case aB=>exact (BL HB));(case aF=>exact (fun _ _=>trivial));(case aO=>exact (RB HO.out));(case aS=>exact (zS (BL HB)));(case aL=>exact HL.out);intro v49 w11 ho hb hg hat;have n0_:=K_ hb;have n1_:=K_ ho;clear HB;clear HO;have HB:=n0_;have HO:=n1_;clear n0_ n1_;clear ho hb hg hat))
     go_roundg j
     case measure=>omega
     case rel =>
      exact⟨n+1,(p+cy) / 1000000000,_,by rw[zam n (by have:=HN.out;have:=HZ.out;omega)],by first|rfl|go_num,⟨by have:=HN.out;omega⟩,⟨by
       obtain⟨i1,i2,i3,i4⟩:=HI.out;refine⟨by omega,vP.2 ⟨i2,vR.2 ⟨by omega,rfl⟩⟩,by simp[i3],?_⟩;have hm:=HM.out;have e1:l0.take (n+1)=l0.take n:=by rw[List.take_of_length_le (by omega),List.take_of_length_le (by omega)]
       rw[zad,Int.toNat_natCast,i3,Nat.pow_succ,HS.out,HP.out,e1];exact zgw _ _ _ _ _ _ i4⟩,HO,HB⟩
  have ds:decide (l0.length<l1.length)=false:=decide_eq_false hsw;have HZ:=K_ (show l0.length≤1000000000000∧l1.length≤1000000000000∧l1.length≤l0.length by omega);clear hsw;go_enter Tryz.func79,Tryz.ntmps79
  go_wp2_with (first|((with_reducible refine zE (N:=20) rfl ?_);refine zgu (k:=.u32) w.heap.size 95 rfl 81 _ _ rfl (l0.length+1) rfl (by first|rfl|simp) Tryz.underlying81 (.int .u32 0) 4 qN (fun _=>True) trivial (by omega) (by omega) (w0:=w) (by first|exact Below.refl _ _|exact jW (Below.refl _ _) _) (by first|exact Nat.le_refl _|simp) ?_;intro v20 w20 ho20 hb20;have HO:=K_ ho20;have HB:=K_ hb20;clear ho20 hb20))
  go_loopg [5,6,23] l0.length (fun j v5 v6 v23 w'=>∃ (n cy:Nat) (o:List Int),v23=.int .i64 (n:Int)∧v6=.int .u32 (cy:Int)∧Aside0 (n+j=l0.length)∧Aside0 (cy≤1∧jO o=true∧o.length=n∧zP o+1000000000 ^ n * cy=zP (l0.take n)+zP (l1.take n))∧Aside0 (Kd.R (Kd.int .u32) 95 w' w.heap.size (fun _=>True) v5 o)∧Aside0 (Below w.heap.size w w'))
  case atStart=>exact⟨0,0,[],rfl,rfl,⟨by omega⟩,⟨by omega,rfl,rfl,by simp[zP]⟩,HO,HB⟩
  case round =>
   clear HO HB;obtain⟨n,cy,o,rfl,rfl,HN,HI,HO,HB⟩:=hrel
   cases gk with
   | zero =>
    have hn:=HN.out;have hd:decide (n<l0.length)=false:=decide_eq_false (by omega);have HV:=K_ (show jO (o++[(cy:Int)])=true∧(o++[(cy:Int)]).length≤20000000000000∧zP (o++[(cy:Int)])=zP l0+zP l1 by
     obtain⟨i1,i2,i3,i4⟩:=HI.out;have hz:=HZ.out;refine⟨vP.2 ⟨i2,vR.2 ⟨by omega,rfl⟩⟩,by simp;omega,?_⟩;rw[zad,Int.toNat_natCast,i3,i4,List.take_of_length_le (by omega),List.take_of_length_le (by omega)])
    have HL:=K_ (show (o.length+1) * 4≤140737488355328 by
     have:=HI.out
     have hz:=HZ.out;omega)
    obtain⟨y,hy⟩:∃ y,y=o++[(cy:Int)]:=⟨_,rfl⟩
    rw[←hy] at HV;have NY:=K_ hy;clear hn hy;go_wp2_with (first
     | ((with_reducible refine jH (b:=.append) (xs:=#[.tmp 49,.tmp 51]) rfl ?_);at_builtin;refine Kd.R_append (Kd.int .u32) (w0:=w) w.heap.size rfl (.tmp 49) (.tmp 51) 81 95 (.int .u32 0) 4 rfl Tryz.underlying81 qN rfl (by decide) (by omega) _ o (cy:Int) [.int .u32 (cy:Int)] (fun _=>True) (fun _=>False) rfl rfl ?aP (fun _ hk=>hk.elim) ?aF ?aO ?aB ?aS ?aL ?_;(case aP=>exact rfl);(case aB=>exact (BL HB));(case aF=>exact (fun _ _=>trivial));(case aO=>exact (RB HO.out));(case aS=>exact (zS (BL HB)));(case aL=>exact HL.out);intro v49 w11 ho hb hg hat;rw[←NY.out] at ho;have n0_:=K_ hb;have n1_:=K_ ho;clear HB;clear HO;have HB:=n0_;have HO:=n1_;clear n0_ n1_;clear ho hb hg hat;obtain⟨A9,c9,rfl⟩:=Kd.R_slice HO.out)
     | (go_at_call 91;(with_reducible refine (uB.calls A9 c9 y (yO (zP l0+zP l1)) _ ?side1 ?side2 ?side3).mono ?_);(case side1=>exact (Kd.R_reads' HO.out).2.2);(case side2=>exact (Kd.R_reads' HO.out).2.1);(case side3=>rw[←HV.out.2.2];exact zaK HV.out.1 HV.out.2.1);rintro e w12 ⟨v0,rfl,ho,hb⟩;have n0_:=K_ (Kd.R_lower ho (zS (BL HB)));have n1_:=zF HB hb;clear ho hb HB HO;have HB:=n1_;have HO:=n0_;clear n0_ n1_))
    go_ret
    exact⟨_,rfl,HO.out,HB.out⟩
   | succ j =>
    have hn:=HN.out;have hnl:n<l0.length:=by omega
    have hd:decide (n<l0.length)=true:=decide_eq_true hnl;obtain⟨ad,ea,hc⟩:=Kd.at_int HR0.out (n:Int) (by omega) (by omega);cases ea;rw[Int.toNat_natCast] at hc;replace hc:=(HB.out.cell (World.block_lt_of_cell? w _ hc)).trans hc;obtain⟨p,hp⟩:∃ p:Nat,rd l0 (n:Int)=(p:Int):=⟨(rd l0 (n:Int)).toNat,by have:=vJ.1 G0.out _ (List.getElem_mem hnl);rw[qD hnl];omega⟩
    have hp9:p<1000000000:=by have:=vJ.1 G0.out _ (List.getElem_mem hnl);rw[qD hnl] at hp;omega
    rw[hp] at hc;have HNL:=K_ hnl;have HP:=K_ (show (l0[n]'HNL.out).toNat=p by rw[qD hnl] at hp;rw[hp];rfl);have HS:=K_ (Fig.valL_take_succ HNL.out);have hcy:cy≤1:=HI.out.1;have HL:=K_ (show (o.length+1) * 4≤140737488355328 by
     have:=HI.out
     have hz:=HZ.out;omega)
    have qn:=eq_true hnl;clear hp hn hnl;by_cases hm:n<l1.length
    ·have hdm:decide (n<l1.length)=true:=decide_eq_true hm
     obtain⟨ad2,ea2,hc2⟩:=Kd.at_int HR1.out (n:Int) (by omega) (by omega);cases ea2;rw[Int.toNat_natCast] at hc2;replace hc2:=(HB.out.cell (World.block_lt_of_cell? w _ hc2)).trans hc2;obtain⟨q,hq⟩:∃ q:Nat,rd l1 (n:Int)=(q:Int):=⟨(rd l1 (n:Int)).toNat,by have:=vJ.1 G1.out _ (List.getElem_mem hm);rw[qD hm];omega⟩
     have hq9:q<1000000000:=by have:=vJ.1 G1.out _ (List.getElem_mem hm);rw[qD hm] at hq;omega
     rw[hq] at hc2;have HM:=K_ hm;have HQ:=K_ (show (l1[n]'HM.out).toNat=q by rw[qD hm] at hq;rw[hq];rfl);have HS2:=K_ (Fig.valL_take_succ HM.out);have qm:=eq_true hm;clear hq hm;go_wp2_with (first
      | ((with_reducible refine jH (b:=.append) (xs:=#[.tmp 43,.tmp 46]) rfl ?_);at_builtin;refine Kd.R_append (Kd.int .u32) (w0:=w) w.heap.size rfl (.tmp 43) (.tmp 46) 81 95 (.int .u32 0) 4 rfl Tryz.underlying81 qN rfl (by decide) (by omega) _ o (((p+cy+q) % 1000000000:Nat):Int) [.int .u32 (((p+cy+q) % 1000000000:Nat):Int)] (fun _=>True) (fun _=>False) rfl rfl ?aP (fun _ hk=>hk.elim) ?aF ?aO ?aB ?aS ?aL ?_;(case aP=>exact rfl);(case aB=>exact (BL HB));(case aF=>exact (fun _ _=>trivial));(case aO=>exact (RB HO.out));(case aS=>exact (zS (BL HB)));(case aL=>exact HL.out);intro v49 w11 ho hb hg hat;have n0_:=K_ hb;have n1_:=K_ ho;clear HB;clear HO;have HB:=n0_;have HO:=n1_;clear n0_ n1_;clear ho hb hg hat))
     go_roundg j
     case measure=>omega
     case rel =>
      exact⟨n+1,(p+cy+q) / 1000000000,_,by rw[zam n (by have:=HN.out;have:=HZ.out;omega)],by first|rfl|go_num,⟨by have:=HN.out;omega⟩,⟨by
       obtain⟨i1,i2,i3,i4⟩:=HI.out;refine⟨by omega,vP.2 ⟨i2,vR.2 ⟨by omega,rfl⟩⟩,by simp[i3],?_⟩;rw[zad,Int.toNat_natCast,i3,Nat.pow_succ,HS.out,HS2.out,HP.out,HQ.out];exact zeV _ _ _ _ _ _ _ i4⟩,HO,HB⟩
    have hdm:decide (n<l1.length)=false:=decide_eq_false hm;have HM:=K_ hm;clear hm;go_wp2_with (first
     | ((with_reducible refine jH (b:=.append) (xs:=#[.tmp 43,.tmp 46]) rfl ?_);at_builtin;refine Kd.R_append (Kd.int .u32) (w0:=w) w.heap.size rfl (.tmp 43) (.tmp 46) 81 95 (.int .u32 0) 4 rfl Tryz.underlying81 qN rfl (by decide) (by omega) _ o (((p+cy) % 1000000000:Nat):Int) [.int .u32 (((p+cy) % 1000000000:Nat):Int)] (fun _=>True) (fun _=>False) rfl rfl ?aP (fun _ hk=>hk.elim) ?aF ?aO ?aB ?aS ?aL ?_;(case aP=>exact rfl);(case aB=>exact (BL HB));(case aF=>exact (fun _ _=>trivial));(case aO=>exact (RB HO.out));(case aS=>exact (zS (BL HB)));(case aL=>exact HL.out);intro v49 w11 ho hb hg hat;have n0_:=K_ hb;have n1_:=K_ ho;clear HB;clear HO;have HB:=n0_;have HO:=n1_;clear n0_ n1_;clear ho hb hg hat))
    go_roundg j
    case measure=>omega
    case rel =>
     exact⟨n+1,(p+cy) / 1000000000,_,by rw[zam n (by have:=HN.out;have:=HZ.out;omega)],by first|rfl|go_num,⟨by have:=HN.out;omega⟩,⟨by
      obtain⟨i1,i2,i3,i4⟩:=HI.out;refine⟨by omega,vP.2 ⟨i2,vR.2 ⟨by omega,rfl⟩⟩,by simp[i3],?_⟩;have hm:=HM.out;have e1:l1.take (n+1)=l1.take n:=by rw[List.take_of_length_le (by omega),List.take_of_length_le (by omega)]
      rw[zad,Int.toNat_natCast,i3,Nat.pow_succ,HS.out,HP.out,e1];exact zgw _ _ _ _ _ _ i4⟩,HO,HB⟩
 rw[if_neg hg] at h;cases h
end
section
set_option maxRecDepth 100000
def zcO (n:Nat):Nat→List Int
 | 0=>[]
 | k+1=>((48+n / 10 ^ k % 10:Nat):Int) :: zcO n k
theorem zdb (n:Nat):∀ k,(zcO n k).length=k
 | 0=>rfl
 | k+1=>by rw[zcO,List.length_cons,zdb n k]
def zct (n k:Nat):List Int:=List.replicate (9-k) 0++zcO n k
theorem ziQ (n k:Nat) (hk:k≤9):(zct n k).length=9:=by rw[zct,List.length_append,List.length_replicate,zdb];omega
theorem zmn (n k:Nat) (hk:k<9):(zct n k).set (8-k) ((48+n / 10 ^ k % 10:Nat):Int)=zct n (k+1):=by
 unfold zct;rw[show 9-k=(8-k)+1 by omega,show 9-(k+1)=8-k by omega,List.replicate_succ',List.append_assoc,List.set_append_right _ _ (by simp),List.length_replicate,Nat.sub_self];rfl
set_option maxHeartbeats 4000000 in
theorem zmq.calls (n:Nat) (hn:n<4294967296) (w:World) :
  Calls Tryz.prog 106 #[.int .u32 (n:Int)] w fun e w'=>e=.returned (.string (strOfNums (zcO n 9)))∧Below w.heap.size w w':=by
 go_enter Tryz.func106,Tryz.ntmps106
 go_wp2
 go_loopg [0,5] 9 (fun j v0 v5 w'=>∃ k:Nat,v5=.int .i64 (k:Int)∧Aside0 (k+j=9)∧(∃ p:Nat,v0=.int .u32 (p:Int)∧Aside0 (p=n / 10 ^ k))∧Aside0 (w'=w.alloc (.cells ((zct n k).map (Value.int .u8)).toArray 163)))
 case atStart=>exact⟨0,rfl,⟨rfl⟩,⟨n,rfl,⟨by simp⟩⟩,⟨rfl⟩⟩
 case round =>
  obtain⟨k,rfl,HN,⟨p,rfl,HP⟩,HW⟩:=hrel;have hw:=HW.out;subst hw
  cases gk with
  | zero =>
   obtain rfl:k=9:=by have:=HN.out;omega
   have hcv:=run_convert_bytes_arg (P:=Tryz.prog) (w.alloc (.cells ((zct n 9).map (Value.int .u8)).toArray 163)) 107 5 Tryz.underlying107 Tryz.underlying5 w.heap.size 0 9 9 (zct n 9) (ziQ n 9 (by omega)) (fun i hi=>by
    have hl:=ziQ n 9 (Nat.le_refl _);generalize zct n 9=o at hl
    rw[Nat.zero_add];unfold World.cell? World.alloc;simp[List.getD,List.getElem?_eq_getElem (show i<o.length by omega)]) 9 Tryz.underlying9
   have HR:=K_ (show zct n 9=zcO n 9 by simp[zct]);rw[HR.out] at hcv ⊢;go_wp2
   go_ret
   exact⟨rfl,(Below.refl _ w).alloc (Nat.le_refl _) _⟩
  | succ j =>
   have hk:k<9:=by have:=HN.out;omega
   have hg:(zct n k)[8-k]?=some 0:=by
    unfold zct;rw[List.getElem?_append_left (by rw[List.length_replicate];omega),List.getElem?_replicate,if_pos (by omega)]
   have HS:=K_ (zmn n k hk);have e1:wrap64 (8-(k:Int))=((8-k:Nat):Int):=by rw[w64 (by omega) (by omega)];omega
   have e2:decide ((k:Int)<9)=true:=decide_eq_true (by omega);have HPN:=K_ (show p<4294967296 by have:=HP.out;have:=Nat.div_le_self n (10 ^ k);omega);have HK:=K_ hk;go_wp2
   go_roundg j
   case measure=>omega
   case rel =>
    have hp:=HP.out;have hpn:=HPN.out;have hk:=HK.out;refine⟨k+1,?_,⟨by have:=HN.out;omega⟩,⟨p / 10,?_,⟨by rw[hp,Nat.pow_succ,Nat.div_div_eq_div_mul]⟩⟩,⟨?_⟩⟩
    ·rfl
    ·rw[Int.emod_eq_of_lt (by omega) (by omega)];rfl
    rw[←HS.out,←hp,List.map_set];rfl
end
section
set_option maxRecDepth 100000
theorem znY (b:Nat) (w:World) (h0:w.cell? ⟨b,0,none⟩=some (.pointer (some ⟨b,0,none⟩))) :
  Calls Tryz.prog 129 #[.pointer (some ⟨b,0,none⟩)] w fun e w'=>e=.returned (.tuple #[])∧w'=w:=by
 obtain⟨j,hj,_⟩:=Option.map_eq_some_iff.1 (show (Tryz.prog.info? 118).map (·.size)=some 2 by kernel_rfl);go_enter Tryz.func129,Tryz.ntmps129
 go_wp2
 rw[Lib.run_neq_ptr_same w _ Tryz.underlying116 hj];go_wp2
 go_end0
 exact⟨rfl,rfl⟩
theorem znf (b:Nat) (w:World) (h0:w.cell? ⟨b,0,none⟩=some (.pointer none)) (hsh:w.shape? b=some (118,2)) (hfz:w.frozen? ⟨b,0,none⟩=false) :
  Calls Tryz.prog 129 #[.pointer (some ⟨b,0,none⟩)] w fun e w'=>e=.returned (.tuple #[])∧w'=w.setCell ⟨b,0,none⟩ (.pointer (some ⟨b,0,none⟩)):=by
 obtain⟨j,hj,hjs⟩:=Option.map_eq_some_iff.1 (show (Tryz.prog.info? 118).map (·.size)=some 2 by kernel_rfl);go_enter Tryz.func129,Tryz.ntmps129
 go_wp2
 rw[Lib.run_to_unsafe w ⟨b,0,none⟩ Tryz.underlying116 Tryz.underlying173 hj (by rw[hjs];decide) hsh (Nat.zero_lt_succ 1)];simp only[Result.andThen]
 rw[Oper.upon_value];go_wp2
 rw[run_callFunc_extern Tryz.func146 (by kernel_rfl) (by kernel_rfl) (by kernel_rfl) (e:=Extern.AbiNoEscape.same) (by kernel_rfl)];rw[Lib.run_noEscape];simp only[Result.andThen]
 rw[Oper.upon_value];go_wp2
 rw[Lib.run_from_unsafe w ⟨b,0,none⟩ Tryz.underlying173 Tryz.underlying116 hj hsh (by kernel_rfl)];simp only[Result.andThen]
 rw[Oper.upon_value];go_wp2
 go_end0
 exact⟨rfl,rfl⟩
theorem cc (B b:Nat) (bs:List Value) (w:World) (h:Lib.IsBuilderF 118 5 B b bs w) :
  Calls Tryz.prog 129 #[.pointer (some ⟨b,0,none⟩)] w fun e w'=>e=.returned (.tuple #[])∧Lib.BuilderAtF 118 5 B b (.pointer (some ⟨b,0,none⟩)) bs w'∧Below B w w'∧Lib.OthersKept 5 (some b) w w':=by
 rcases h with h|h
 ·refine (znf b w h.cell0 h.shape h.frozen0).mono ?_
  rintro e w' ⟨rfl,rfl⟩;exact⟨rfl,h.used _,(Below.refl B w).setCell (p:=⟨b,0,none⟩) h.1 _,(Lib.OthersKept.refl _ _ w).setCell ⟨b,0,none⟩ rfl _⟩
 refine (znY b w h.cell0).mono ?_;rintro e w' ⟨rfl,rfl⟩;exact⟨rfl,h,Below.refl B _,Lib.OthersKept.refl _ _ _⟩
set_option maxHeartbeats 2000000 in
theorem zez.calls (B b:Nat) (bs:List Value) (s:ByteArray) (w:World) (h:Lib.IsBuilderF 118 5 B b bs w) (hlen:bs.length+s.size≤140737488355328) (hBw:B≤w.heap.size) :
  Calls Tryz.prog 105 #[.pointer (some ⟨b,0,none⟩),.string s] w fun e w'=>e=.returned (.tuple #[.int .i64 s.size,.nilIface])∧Lib.BuilderAtF 118 5 B b (.pointer (some ⟨b,0,none⟩)) (bs++Lib.strCells s) w'∧Below B w w'∧Lib.OthersKept 5 (some b) w w':=by
 obtain⟨i0,hi,hz0,hz1,hz2⟩:=info_parts (show (Tryz.prog.info? 5).map (fun i=>(i.zero,i.size,i.bytes))=some (some (.int .u8 0),1,1) by kernel_rfl);go_enter Tryz.func105,Tryz.ntmps105
 go_wp2_with (go_at_call 129;refine (cc B b bs _ h).mono ?_)
 rintro e w1 ⟨rfl,h1,hb1,hk1⟩;obtain⟨hB,v,hbk,hown,hne⟩:=h1;have c0:w1.cell? ⟨b,0,none⟩=some (.pointer (some ⟨b,0,none⟩)):=by rw[Lib.cell_of_heap hbk];rfl
 have c1:w1.cell? ⟨b,1,none⟩=some v:=by rw[Lib.cell_of_heap hbk];rfl
 go_wp2_with (at_builtin;refine Lib.wpList_append_own_stringF _ rfl _ _ 107 9 rfl B 5 i0 Tryz.underlying107 Tryz.underlying9 hi hz0 hz1 hz2 _ _ _ rfl hown s rfl ?c3 ?c4 ?c5 ?_)
 case c3=>unfold maxLen;omega
 case c4=>omega
 case c5=>have:=hb1.size;omega
 intro v' w2 hown' hgrow _;have hlt:b<w1.heap.size:=by
  rcases Nat.lt_or_ge b w1.heap.size with h'|h'
  ·exact h'
  simp[Array.getElem?_eq_none h'] at hbk
 have hb2:w2.heap[b]?=some (.cells #[.pointer (some ⟨b,0,none⟩),v] 118 (0,0)):=by
  rw[hgrow.block b hlt (fun e=>hne e.symm)];exact hbk
 have d0:w2.cell? ⟨b,0,none⟩=some (.pointer (some ⟨b,0,none⟩)):=by rw[Lib.cell_of_heap hb2];rfl
 have d1:w2.cell? ⟨b,1,none⟩=some v:=by rw[Lib.cell_of_heap hb2];rfl
 have f1:w2.frozen? ⟨b,1,none⟩=false:=Lib.frozen_of_heap hb2 1;obtain⟨ao,n',cap,rfl⟩:∃ ao n' cap,v'=.slice ao n' cap:=by
  rcases hown'.2 with ⟨hv,_⟩|⟨g,cap,cur,fz,hv,_⟩
  ·exact⟨_,_,_,hv⟩
  exact⟨_,_,_,hv⟩
 go_wp2
 go_ret2
 refine⟨rfl,?_,?_,(hk1.grown hgrow (Lib.ownsRowF_kind hown)).setCell ⟨b,1,none⟩ rfl _⟩
 ·exact Lib.BuilderAtF.put (T:=118) (e:=5) hB hb2 (bs':=bs++Lib.strCells s) (by simpa [Lib.strCells_length] using hown') (by decide)
 exact (hb1.grown hgrow (by have:=hb1.size;omega) (fun k hk=>(hown.lt k hk).1)).setCell (p:=⟨b,1,none⟩) hB _
abbrev U32:={ n:Nat // n<4294967296 }
def toU (x:Int):U32:=⟨x.toNat % 4294967296,Nat.mod_lt _ (by decide)⟩
theorem zof {x:Int} (h:0≤x∧x<4294967296):((toU x).1:Int)=x:=by
 unfold toU;show ((x.toNat % 4294967296:Nat):Int)=x;omega
def bk (zs:List Int) (m:Nat):List (Nat×U32):=(List.range m).map fun j=>(zs.length-1-j,toU (rd zs ((zs.length-1-j:Nat):Int)))
theorem zhq (zs:List Int) (m:Nat):bk zs (m+1)=bk zs m++[(zs.length-1-m,toU (rd zs ((zs.length-1-m:Nat):Int)))]:=by simp[bk,List.range_succ]
theorem zpo (zs:List Int) (m:Nat):(bk zs m).length=m:=by simp[bk]
def KpD (n₀ Bs:Nat) (W W':World):Prop:=Below n₀ W W'∧(∀ cs fz,W.heap[Bs]?=some (.cells cs 81 fz)→W'.heap[Bs]?=some (.cells cs 81 fz))
theorem KpD.trans {n₀ Bs:Nat} {A B C:World} (h:KpD n₀ Bs A B) (k:KpD n₀ Bs B C):KpD n₀ Bs A C:=⟨h.1.trans k.1,fun cs fz e=>k.2 cs fz (h.2 cs fz e)⟩
section
attribute [local go_sem] Oper.semAt_some
set_option maxRecDepth 100000 in
set_option maxHeartbeats 2000000 in
theorem zmw (F:Fence) (n:Nat) (h32:F.fn 134) (hro:F.round=none) (hn:1≤n) (l Bs:Nat) (A:Option Addr) (c:Nat) (zs:List Int) (hz:∀ x∈zs,0≤x∧x<4294967296) (hlen:zs.length≤1000000) (w:World) (hr:Kd.C (Kd.int .u32) w A zs.length zs)
  (J Jx:List (Nat×U32)→World→Prop)
  (hY:∀ pre x W,J pre W→pre.length<zs.length→YieldAt F (n-1) Tryz.prog l #[.int .i64 (x.1:Int),.int .u32 (x.2.1:Int)] W fun e W' =>
   (e=.returned (.bool true)∧J (pre++[x]) W'∧KpD w.heap.size Bs W W')∨(e=.returned (.bool false)∧Jx (pre++[x]) W'))
  (W:World) (hW:Below w.heap.size w W) (hBs:W.heap[Bs]?=some (.cells #[.slice A zs.length c] 81 (0,0))) (h0:J [] W) :
  CallsIn F n Tryz.prog 134 #[.func (.yield l) #[] #[],.pointer (some ⟨Bs,0,none⟩)] W fun e W'=>(∃ v,e=.returned v) ∧
   ((∃ ys,ys=bk zs zs.length∧J ys W')∨(∃ pre,(∃ k,k≤zs.length∧pre=bk zs k)∧Jx pre W')):=by
 have hb0:W.cell? ⟨Bs,0,none⟩=some (.slice A zs.length c):=Lib.cell_of_heap hBs 0;have HB:=K_ hBs;have HW:=K_ hW;clear hBs hW;have HR:=K_ hr;have HZ:=K_ hz;clear hr hz;refine callsIn_of_wp Tryz.func134 rfl h32 ?_ hro;simp only[Tryz.ntmps134,List.size_toArray,List.length_cons,List.length_nil,Nat.reduceAdd,Nat.reduceSub,Array.replicate_succ,Array.replicate_zero,List.push_toArray,List.append_toArray,List.nil_append,List.cons_append]
 have e0:wrap64 ((zs.length:Int)-1)=(zs.length:Int)-1:=by rw[w64 (by omega) (by omega)]
 gi_wp2
 gi_loopw [3] (fun i wr=>∃ q m:Nat,i=.int .i64 ((q:Int)-1)∧Aside0 (q+m=zs.length)∧Aside0 (J (bk zs m) wr)∧Aside0 (KpD w.heap.size Bs W wr))
  (fun i _=>(intOf i+1).toNat)
 case atStart=>exact⟨zs.length,0,rfl,⟨rfl⟩,⟨h0⟩,⟨Below.refl _ _,fun _ _ e=>e⟩⟩
 case round =>
  obtain⟨q,m,rfl,HQ,HJ,HK⟩:=hrel;have hcb:wr.cell? ⟨Bs,0,none⟩=some (.slice A zs.length c):=Lib.cell_of_heap (HK.out.2 _ _ HB.out) 0;clear hb0 h0
  cases q with
  | zero =>
   have e1:(((0:Nat):Int)-1)=-1:=rfl;rw[e1];obtain rfl:m=zs.length:=by have:=HQ.out;omega
   gi_wp2
   go_end0
   exact⟨⟨_,rfl⟩,.inl ⟨_,rfl,HJ.out⟩⟩
  | succ p =>
   have e1:(((p+1:Nat):Int)-1)=(p:Int):=by omega
   rw[e1];have hp:p<zs.length:=by have:=HQ.out;omega
   obtain⟨ad,ea,hc⟩:=Kd.at_int HR.out (p:Int) (by omega) (by omega);subst ea;rw[Int.toNat_natCast] at hc;have hc2:=(HW.out.trans HK.out.1).cell (World.block_lt_of_cell? w _ hc) |>.trans hc
   have hx:zs.length-1-m=p:=by have:=HQ.out;omega
   have hv:((toU (rd zs (p:Int))).1:Int)=rd zs (p:Int):=zof (by rw[qD hp];exact HZ.out _ (List.getElem_mem hp));obtain⟨fn,tmps,assign,body,hy,hR⟩:=hY _ (p,toU (rd zs (p:Int))) wr HJ.out (by rw[zpo];have:=HQ.out;omega);dsimp only at hy;rw[hv] at hy;have hd:decide (p<zs.length)=true:=decide_eq_true hp;have qn:=eq_true hp;clear hc hv hp;gi_wp2
   refine hR.mono ?_;rintro e W3 (⟨rfl,hJ3,hk3⟩|⟨rfl,hJx3⟩)
   ·have HJ3:=K_ hJ3
    have HK3:=K_ hk3;clear hJ3 hk3 hR hy;gi_wp2
    go_roundw
    case rel =>
     refine⟨p,m+1,rfl,⟨by have:=HQ.out;omega⟩,⟨?_⟩,⟨HK.out.trans HK3.out⟩⟩;rw[zhq,hx];exact HJ3.out
    case measure=>simp only[intOf];omega
   have HJ3:=K_ hJx3;clear hJx3 hR hy;gi_wp2
   refine bodyPost_ret (results_none rfl _ _ _) rfl ?_;exact⟨⟨_,rfl⟩,.inr ⟨_,⟨m+1,by have:=HQ.out;omega,rfl⟩,by rw[zhq,hx];exact HJ3.out⟩⟩
set_option maxHeartbeats 1000000 in
theorem znD (F:Fence) (n:Nat) (h23:F.fn 104) (hro:F.round=none) (a:Option Addr) (len cap:Nat) (w:World) :
  CallsIn F n Tryz.prog 104 #[.slice a len cap] w fun e w'=>e=.returned (.func (.func 134) #[] #[.pointer (some ⟨w.heap.size,0,none⟩)])∧w'=w.alloc (.cells #[.slice a len cap] 81):=by
 refine callsIn_of_wp Tryz.func104 rfl h23 ?_ hro;simp only[Tryz.ntmps104,List.size_toArray,List.length_cons,List.length_nil,Nat.reduceAdd,Nat.reduceSub,Array.replicate_succ,Array.replicate_zero,List.push_toArray,List.append_toArray,List.nil_append,List.cons_append]
 gi_wp2
 go_ret
 exact⟨rfl,rfl⟩
theorem zkQ (F:Fence) (n:Nat) (h32:F.fn 134) (hro:F.round=none) (hn:1≤n) (Bs:Nat) (A:Option Addr) (c:Nat) (zs:List Int) (hz:∀ x∈zs,0≤x∧x<4294967296) (hlen:zs.length≤1000000) (w:World) (hr:Kd.C (Kd.int .u32) w A zs.length zs)
  (W0:World) (hW0:Below w.heap.size w W0) (hBl:Bs<W0.heap.size) (hBs:W0.heap[Bs]?=some (.cells #[.slice A zs.length c] 81 (0,0))) :
  SeqStopsK F n Tryz.prog 134 #[.pointer (some ⟨Bs,0,none⟩)] (fun x:Nat×U32=>#[Value.int .i64 (x.1:Int),Value.int .u32 (x.2.1:Int)]) (KpD w.heap.size Bs) (fun ys=>ys=bk zs zs.length)
   (fun pre=>∃ k,k≤zs.length∧pre=bk zs k) zs.length W0:=fun l J Jx W hW _ _ hY h0 =>
 zmw F n h32 hro hn l Bs A c zs hz hlen w hr J Jx hY W (hW0.trans (hW.mono hW0.size)) ((hW.block Bs hBl).trans hBs) h0
end
def zcQ (n:Nat):List UInt8:=(strOfNums (zcO n 9)).data.toList
theorem zhb (n:Nat):∀ k,yB ((zcO n k).map fun x=>UInt8.ofNat x.toNat)=true∧rv ((zcO n k).map fun x=>UInt8.ofNat x.toNat).reverse=n % 10 ^ k
 | 0=>⟨rfl,by simp[zcO,rv,Nat.mod_one]⟩
 | k+1=>by
  obtain⟨h1,h2⟩:=zhb n k;have e:(UInt8.ofNat (48+n / 10 ^ k % 10)).toNat=48+n / 10 ^ k % 10:=by rw[UInt8.toNat_ofNat'];omega
  rw[zcO,List.map_cons,Int.toNat_natCast];refine⟨?_,?_⟩
  ·rw[qH,uD,e];exact⟨by omega,h1⟩
  rw[List.reverse_cons,zar,h2,List.length_reverse,List.length_map,zdb];simp only[rv,e]
  rw[Nat.mul_zero,Nat.add_zero,Nat.add_sub_cancel_left,Nat.pow_succ,Nat.mod_mul]
theorem zlC (n:Nat):yB (zcQ n)=true:=by unfold zcQ;rw[zcX];exact (zhb n 9).1
theorem zlu {n:Nat} (h:n<1000000000):rv (zcQ n).reverse=n:=by unfold zcQ;rw[zcX,(zhb n 9).2];exact Nat.mod_eq_of_lt h
theorem zhx (n:Nat):(zcQ n).length=9:=by unfold zcQ;rw[zcX,List.length_map,zdb]
def zba (pre:List (Nat×U32)):List UInt8:=pre.flatMap fun x=>zcQ x.2.1
theorem zhy (pre:List (Nat×U32)) (x:Nat×U32):zba (pre++[x])=zba pre++zcQ x.2.1:=by simp[zba]
theorem zmY (pre:List (Nat×U32)):(zba pre).length=9 * pre.length:=by
 induction pre with
 | nil=>rfl
 | cons x pre ih=>rw[show zba (x :: pre)=zcQ x.2.1++zba pre from rfl,List.length_append,zhx,ih,List.length_cons];omega
theorem zjL (zs:List Int) (g:jO zs=true):∀ m,m≤zs.length→yB (zba (bk zs m))=true∧rv (zba (bk zs m)).reverse=zP (zs.drop (zs.length-m))
 | 0,_=>⟨rfl,by simp[zba,bk,rv,zP]⟩
 | m+1,hm=>by
  obtain⟨h1,h2⟩:=zjL zs g m (by omega);have hp:zs.length-1-m<zs.length:=by omega
  have hx:=vJ.1 g _ (List.getElem_mem hp);rw[zhq,zhy,zas,h1,zlC,List.reverse_append,zar,h2,List.length_reverse,zhx,qD hp];refine⟨⟨rfl,rfl⟩,?_⟩;have e:(toU (zs[zs.length-1-m]'hp)).1=(zs[zs.length-1-m]'hp).toNat:=by unfold toU;show _ % _=_;omega
  rw[e,zlu (by omega),show zs.length-(m+1)=zs.length-1-m by omega,List.drop_eq_getElem_cons hp,zP,show zs.length-1-m+1=zs.length-m by omega]
def zii (n:Nat):ByteArray:=if n=0 then ⟨#[48]⟩ else zU n
theorem zgG {T e:TypeId} {B b:Nat} {bs:List Value} {w w':World} {row:Option Nat} (h:Lib.IsBuilderF T e B b bs w) (hg:w.grownBy w' row) (hr:∀ r,row=some r→∃ o:Obj,w.heap[r]?=some o∧o.isCells=false):Lib.IsBuilderF T e B b bs w':=by
 have key:∀ (k:Nat) (cs:Array Value) (t:TypeId) (fz:Nat×Nat),w.heap[k]?=some (.cells cs t fz)→w'.heap[k]?=some (.cells cs t fz):=fun k cs t fz hk=>by
  rw[hg.block k (Array.getElem?_eq_some_iff.1 hk).1 (fun he=>by
   obtain⟨o,ho,hc⟩:=hr k he.symm;rw[hk] at ho;cases ho;cases hc)]
  exact hk
 have one:∀ p,Lib.BuilderAtF T e B b p bs w→Lib.BuilderAtF T e B b p bs w':=fun p ⟨hB,v,hb,⟨hl,ho⟩,hne⟩ =>
  ⟨hB,v,key _ _ _ _ hb,⟨hl,ho.imp id fun ⟨g,cap,cur,fz,h1,h2,h3,h4⟩=>⟨g,cap,cur,fz,h1,h2,key _ _ _ _ h3,h4⟩⟩,hne⟩
 exact h.imp (one _) (one _)
theorem zda {T e:TypeId} {B b:Nat} {bs:List Value} {w w':World} (h:Lib.IsBuilderF T e B b bs w) (hg:Below w.heap.size w w'):Lib.IsBuilderF T e B b bs w':=by
 have key:∀ (k:Nat) (cs:Array Value) (t:TypeId) (fz:Nat×Nat),w.heap[k]?=some (.cells cs t fz)→w'.heap[k]?=some (.cells cs t fz):=fun k cs t fz hk=>by
  rw[hg.block k (Array.getElem?_eq_some_iff.1 hk).1];exact hk
 have one:∀ p,Lib.BuilderAtF T e B b p bs w→Lib.BuilderAtF T e B b p bs w':=fun p ⟨hB,v,hb,⟨hl,ho⟩,hne⟩ =>
  ⟨hB,v,key _ _ _ _ hb,⟨hl,ho.imp id fun ⟨g,cap,cur,fz,h1,h2,h3,h4⟩=>⟨g,cap,cur,fz,h1,h2,key _ _ _ _ h3,h4⟩⟩,hne⟩
 exact h.imp (one _) (one _)
theorem zju (s:ByteArray):Lib.strCells s=Lib.byteCells s.data.toList:=rfl
theorem zcZ (a b:List UInt8):Lib.byteCells a++Lib.byteCells b=Lib.byteCells (a++b):=by simp[Lib.byteCells]
section
attribute [local go_sem] Oper.semAt_some
set_option maxRecDepth 100000 in
set_option maxHeartbeats 4000000 in
theorem ziD (A:Option Addr) (c:Nat) (zs:List Int) (g:jO zs=true) (hlen:zs.length≤1000000) (w:World) (hr:Kd.C (Kd.int .u32) w A zs.length zs) :
  Calls Tryz.prog 80 #[.slice A zs.length c] w fun e W'=>e=.returned (.string (zii (zP zs)))∧Below w.heap.size w W':=by
 have hz:∀ x∈zs,0≤x∧x<4294967296:=fun x hx=>by have:=vJ.1 g x hx;omega
 refine (callsIn_wide (n:=5)).1 ?_;obtain⟨F,hF⟩:∃ F,F=Fence.wide:=⟨_,rfl⟩
 have hfn:∀ k,Fence.wide.fn k:=fun _=>trivial
 have hro:Fence.wide.round=none:=rfl;refine callsIn_of_wp_marks Tryz.func80 rfl (hfn 80) ?_ hro;simp only[Tryz.ntmps80,List.size_toArray,List.length_cons,List.length_nil,Nat.reduceAdd,Nat.reduceSub,Array.replicate_succ,Array.replicate_zero,List.push_toArray,List.append_toArray,List.nil_append,List.cons_append]
 have HR:=K_ hr;have HZ:=K_ hz;have HG:=K_ g;clear hr hz g hF F;gi_wp2_with (gi_at_call 104;refine (znD Fence.wide _ (hfn 104) hro _ _ _ _).mono ?_;rintro e w' ⟨rfl,rfl⟩)
 have hB0:Below w.heap.size w ((w.alloc (.cells #[.pointer none,.slice none 0 0] 118)).alloc (.cells #[.slice A zs.length c] 81)):=((Below.refl _ w).alloc (Nat.le_refl _) _).alloc (by simp) _;have hbx:((w.alloc (.cells #[.pointer none,.slice none 0 0] 118)).alloc (.cells #[.slice A zs.length c] 81)).heap[w.heap.size+1]?=some (.cells #[.slice A zs.length c] 81 (0,0)):=by
  have:=World.alloc_heap_new (w.alloc (.cells #[.pointer none,.slice none 0 0] 118)) (.cells #[.slice A zs.length c] 81)
  simpa using this
 have hbd:Lib.IsBuilderF 118 5 w.heap.size w.heap.size (Lib.byteCells (zba [])) ((w.alloc (.cells #[.pointer none,.slice none 0 0] 118)).alloc (.cells #[.slice A zs.length c] 81)):=(Lib.IsBuilderF.of (Lib.fresh_isBuilder 118 5 w)).alloc _
 refine wpIn_rangeFunc_ownF hro (by omega) (gf:=134) (lb:=#[.pointer (some ⟨w.heap.size+1,0,none⟩)]) rfl (hfn 134) (enters_of Tryz.func134 (by kernel_rfl) rfl)
  (zkQ Fence.wide _ (hfn 134) hro (by omega) (w.heap.size+1) A c zs HZ.out hlen w HR.out _ hB0 (by simp) hbx) KpD.trans ?kb (Below.refl _ _) (fun _=>rfl)
  (fun pre W=>Lib.IsBuilderF 118 5 w.heap.size w.heap.size (Lib.byteCells (zba pre)) W∧Below w.heap.size w W)
  (fun _ _ _=>False)
  (OwnFrom.and (Own.from (I:=fun pre W=>Lib.IsBuilderF 118 5 w.heap.size w.heap.size (Lib.byteCells (zba pre)) W) (fun s A B row hs hg hr=>zgG hs hg hr) _) (ownFrom_below (Nat.le_refl _) (by simp;omega)))
  (fun _ _ _ _ _ hs _ _=>hs)
  ⟨hbd,hB0⟩
  (fun x=>{ tmps:=#[.slice A zs.length c,undef,.string { data:=#[] },.pointer (some ⟨w.heap.size,0,none⟩),undef,.int .u32 (x.2.1:Int),undef,.slice A zs.length c,.func (.func 134) #[] #[.pointer (some ⟨w.heap.size+1,0,none⟩)],.int .i64 (x.1:Int),.int .u32 (x.2.1:Int),undef,undef,undef,undef,undef,undef,undef,undef],defers:=[] }) ?assign ?body ?done ?stop
 case kb =>
  intro W l o o' hl hlo ho hk;refine⟨belowK_b (w:=w) (Nat.le_refl _) W l o o' (by simp at hl;omega) hlo ho hk,fun cs fz e=>?_⟩;rw[World.putObj_heap_other (fun he=>by subst he;rw[hlo] at e;cases e;cases ho)];exact e
 case assign =>
  intro l x W K hK;gi_wp2
  exact hK
 case body =>
  rintro l pre x W ⟨hBd,hB⟩ hpre;have HBd:=K_ hBd;have HB:=K_ hB;have HL:=K_ (show (Lib.byteCells (zba pre)).length+(strOfNums (zcO x.2.1 9)).size≤140737488355328 by
   rw[show (Lib.byteCells (zba pre)).length=(zba pre).length by simp[Lib.byteCells],zmY,strOfNums_size,zdb];omega)
  clear hBd hB hbd hbx hB0;gi_wp2_with (first
   | (gi_at_call 106;refine (CallsIn.inRound l (callsIn_wide.2 (zmq.calls x.2.1 x.2.2 _))).mono ?_;rintro e W1 ⟨rfl,hb1⟩;have HB1:=K_ hb1;clear hb1)
   | (gi_at_call 105;refine (CallsIn.inRound l (callsIn_wide.2 (zez.calls w.heap.size w.heap.size _ _ _ (zda HBd.out HB1.out) HL.out (Nat.le_trans HB.out.size HB1.out.size)))).mono ?_;rintro e W2 ⟨rfl,h2,hb2,hk2⟩;have H2:=K_ h2;have HB2:=K_ hb2;have HK2:=K_ hk2;have HB1':=HB1;clear h2 hb2 hk2))
  have hkeep:∀ (k:Nat) (o:Obj),W.heap[k]?=some o→k≠w.heap.size→(∀ cs fz,o≠.cells cs 5 fz)→W2.heap[k]?=some o:=fun k o hk hne ho=>by
   refine HK2.out k o ?_ (fun e=>hne (by cases e;rfl)) ho;rw[HB1.out.block k (Array.getElem?_eq_some_iff.1 hk).1];exact hk
  have hlt:w.heap.size<W.heap.size:=by
   rcases HBd.out with h|h
   ·exact (Array.getElem?_eq_some_iff.1 h.2.choose_spec.1).1
   exact (Array.getElem?_eq_some_iff.1 h.2.choose_spec.1).1
  have hcell:∃ cs t fz,W.heap[w.heap.size]?=some (.cells cs t fz):=by
   rcases HBd.out with h|h
   ·exact⟨_,_,_,h.2.choose_spec.1⟩
   exact⟨_,_,_,h.2.choose_spec.1⟩
  have hB12:Below w.heap.size W W2:=(HB1.out.mono (Nat.le_of_lt hlt)).trans HB2.out
  refine⟨⟨hB12.size,fun k o hk ho=>hkeep k o hk (fun e=>by subst e;obtain⟨cs,t,fz,hc⟩:=hcell;rw[hc] at hk;cases hk;cases ho) (fun cs fz e=>by subst e;cases ho)⟩,
   ⟨hB12,fun cs fz e=>hkeep _ _ e (by omega) (fun cs' fz' e'=>by cases e')⟩,.inr ?_,HB.out.trans hB12⟩
  have h2:=H2.out;rw[zju,zcZ] at h2;rw[zhy];exact h2
 case done =>
  rintro D ys W hD rfl ⟨hBd,hB⟩ hK;have HBd:=K_ hBd;have HB:=K_ hB;have HK:=K_ hK;clear hBd hB hbd hbx hB0 hK;have HV:=K_ (show Lib.trimLeftB (zba (bk zs zs.length)) 48=vL (zP zs) by
   obtain⟨h1,h2⟩:=zjL zs HG.out zs.length (Nat.le_refl _);rw[Nat.sub_self,List.drop_zero] at h2;rw[←h2];exact zhs h1)
  gi_wp2_with (first
   | (gi_at_call 97;refine (callsIn_wide.2 (Tryz.Builder_String_any_k w.heap.size w.heap.size (zba (bk zs zs.length)) _ HBd.out HB.out.size)).mono ?_;rintro e W1 ⟨rfl,h1,hb1,hk1⟩;have HB1:=K_ hb1;have HK1:=K_ (hk1 D _ HK.out (fun e=>by cases e;simp at hD;omega) (fun _ _ e=>by cases e));clear h1 hb1 hk1)
   | (gi_at_call 92;refine (callsIn_wide.2 (Tryz.strings_TrimLeft_one _ 48 (by decide) _)).mono ?_;rintro e W2 ⟨rfl,rfl⟩))
  ·have hne:(!(Lib.trimLeftB (zba (bk zs zs.length)) 48).isEmpty)=true:=by assumption
   rw[HV.out] at hne ⊢;have hz0:zP zs≠0:=fun e=>by rw[e,zce] at hne;cases hne
   refine⟨by simp,.inl ⟨_,_,rfl,run_takeDeferred HK1.out,?_⟩⟩;exact⟨_,results_tmp rfl _ _ _,by rw[zii,if_neg hz0];rfl,(HB.out.trans HB1.out).trans (belowK_b (w:=w) (Nat.le_refl _) _ D _ _ (by simp at hD;omega) HK1.out rfl rfl)⟩
  have hne:(!(Lib.trimLeftB (zba (bk zs zs.length)) 48).isEmpty)=false:=by assumption
  rw[HV.out] at hne ⊢;have hz0:zP zs=0:=zaM.1 (by simpa using hne);refine⟨by simp,.inl ⟨_,_,rfl,run_takeDeferred HK1.out,?_⟩⟩;exact⟨_,results_tmp rfl _ _ _,by rw[zii,if_pos hz0];rfl,(HB.out.trans HB1.out).trans (belowK_b (w:=w) (Nat.le_refl _) _ D _ _ (by simp at hD;omega) HK1.out rfl rfl)⟩
 case stop =>
  rintro D c pre W _ _ h _;exact h.elim
end
def zbe.f (l0:List Int):Option ByteArray:=if jO l0=true∧l0.length≤1000000 then some (zii (zP l0)) else none
theorem zbe.calls (A0:Option Addr) (c0:Nat) (l0:List Int) (r:ByteArray) (w:World) (hr0:Kd.C (Kd.int .u32) w A0 l0.length l0) (hc0:l0.length≤c0) (h:zbe.f l0=some r) :
  Calls Tryz.prog 80 #[.slice A0 l0.length c0] w fun e w'=>e=.returned (.string r)∧Below w.heap.size w w':=by
 unfold zbe.f at h;by_cases hg:jO l0=true∧l0.length≤1000000
 ·rw[if_pos hg] at h
  obtain rfl:=Option.some.inj h;exact ziD A0 c0 l0 hg.1 hg.2 w hr0
 rw[if_neg hg] at h;cases h
end
section
set_option maxRecDepth 100000
theorem zdj {l:List UInt8} (h:yB l=true) (n:Nat):yB (l.take n)=true:=by
 unfold yB at h ⊢;rw[List.all_eq_true] at h ⊢;exact fun x hx=>h x (List.mem_of_mem_take hx)
theorem zgh (n c:Nat) (h1:48≤c) (h2:c≤57) (hn:n<100000000):(((n:Int) * 10 % 4294967296+wrap32 ((c:Int)-48) % 4294967296) % 4294967296)=((10 * n+(c-48):Nat):Int):=by
 have e:wrap32 ((c:Int)-48)=((c-48:Nat):Int):=by unfold wrap32;omega
 rw[e];omega
def zap.f (s:ByteArray):Option (List Int×Bool):=if s.size≤140737488351232 then some (if dB s=true∧s.size≠0 then (yO (vB s),true) else ([],false)) else none
theorem zoy (s:ByteArray) (i:Nat) (h:i<s.size):s.data.toList[i]'(by rw[←zQ];exact h)=s[i]'h:=rfl
theorem zjB (s:ByteArray) (i:Nat) (h:i<s.size):yB (s.data.toList.take (i+1))=(yB (s.data.toList.take i)&&isD (s[i]'h)):=by
 rw[List.take_succ_eq_append_getElem (by rw[←zQ];exact h)];unfold yB;rw[List.all_append];simp;rfl
theorem zkv (s:ByteArray) (i:Nat) (h:i<s.size) (hc:isD (s[i]'h)=false):dB s=false:=by
 unfold dB yB;rw[Bool.eq_false_iff];intro hall;have:=List.all_eq_true.1 hall _ (List.getElem_mem (n:=i) (by rw[←zQ];exact h))
 rw[zoy s i h,hc] at this;cases this
theorem zdD (L:List UInt8) (a e:Nat) (ha:a≤e) (he:e≤L.length):rv (L.drop a).reverse=rv (L.drop e).reverse+10 ^ (L.length-e) * rv ((L.drop a).take (e-a)).reverse:=by
 have h1:L.drop a=(L.drop a).take (e-a)++L.drop e:=by
  have:=(List.take_append_drop (e-a) (L.drop a)).symm
  rwa [List.drop_drop,show a+(e-a)=e by omega] at this
 conv=>lhs;rw[h1]
 rw[List.reverse_append,zar,List.length_reverse,List.length_drop]
theorem zgQ (L:List UInt8) (p:Nat) (h:p<L.length):rv (L.take (p+1)).reverse=((L[p]'h).toNat-48)+10 * rv (L.take p).reverse:=by
 rw[List.take_succ_eq_append_getElem h,List.reverse_append];rfl
set_option maxHeartbeats 8000000 in
theorem zap.calls (s:ByteArray) (r1:List Int) (r2:Bool) (w:World) (h:zap.f s=some (r1,r2)) :
  Calls Tryz.prog 58 #[.string s] w fun e w'=>∃ v0_:Value,e=.returned (.tuple #[v0_,.bool r2])∧Kd.R (Kd.int .u32) 95 w' w.heap.size (fun _=>True) v0_ r1∧Below w.heap.size w w':=by
 unfold zap.f at h;by_cases hs:s.size≤140737488351232
 ·rw[if_pos hs] at h
  have h2:=Option.some.inj h;clear h;by_cases hz:s.size=0
  ·rw[if_neg (fun hh=>hh.2 hz)] at h2
   obtain⟨rfl,rfl⟩:=Prod.mk.inj h2;obtain rfl:s=⟨#[]⟩:=by apply qM;exact List.eq_nil_of_length_eq_zero (by rw[←zQ];exact hz)
   clear hz h2 hs;go_enter Tryz.func58,Tryz.ntmps58
   go_wp2
   go_ret2
   exact⟨_,rfl,Kd.R_nil _ _ _ _ _,Below.refl _ _⟩
  have hne:(s.toList==([]:List UInt8))=false:=by
   rw[beq_eq_false_iff_ne,ByteArray.toList_eq];intro hh;apply hz;rw[zQ,hh];rfl
  have HZ:=K_ hz;have H2:=K_ h2;clear hz h2;go_enter Tryz.func58,Tryz.ntmps58
  go_wp2
  go_loopg [5] s.size (fun j v5 w'=>∃ pos:Nat,Aside0 (pos+j=s.size)∧Aside0 (yB (s.data.toList.take pos)=true)∧Aside0 (w'.heap[w.heap.size]?=some (.stringIter s pos))∧Aside0 (Below w.heap.size w w'))
  case atStart=>exact⟨0,⟨by omega⟩,⟨rfl⟩,⟨by unfold World.iter;exact heap_alloc_new w _⟩,⟨(Below.refl _ w).alloc (Nat.le_refl _) _⟩⟩
  case round =>
   obtain⟨pos,HP,HD,HI,HB⟩:=hrel
   cases gk with
   | zero =>
    have hp:=HP.out;have hnx:=Lib.run_next_end_at (P:=Tryz.prog) wr w.heap.size s pos 0 HI.out (by omega);clear hp;obtain rfl:pos=s.size:=by have:=HP.out;omega
    have hdb:dB s=true:=by have:=HD.out;rw[List.take_of_length_le (by rw[←zQ];exact Nat.le_refl _)] at this;exact this
    have h2:=H2.out;rw[if_pos ⟨hdb,HZ.out⟩] at h2;obtain⟨rfl,rfl⟩:=Prod.mk.inj h2;have HDB:=K_ hdb;clear h2 hdb HD;go_wp2
    go_loopg [6,7,8,10] (s.size / 9+1) (fun j v6 v7 v8 v10 w'=>∃ (i:Nat) (o:List Int),v7=.int .i64 ((s.size:Int)-9 * (i:Int))∧Aside0 (i+j=s.size / 9+1)∧Aside0 (o.length=i∧jO o=true∧zP o=rv (s.data.toList.drop (s.size-9 * i)).reverse)∧Aside0 (Kd.R (Kd.int .u32) 95 w' w.heap.size (fun _=>True) v6 o)∧Aside0 (Below w.heap.size w w'))
    case atStart=>exact⟨0,[],by simp,⟨by omega⟩,⟨rfl,rfl,by rw[Nat.mul_zero,Nat.sub_zero,zQ,List.drop_length];rfl⟩,⟨Kd.R_nil _ _ _ _ _⟩,HB⟩
    case round =>
     clear HB HI hnx;obtain⟨i,o,rfl,HJ,HV,HO,HB⟩:=hrel;by_cases he:9 * i<s.size
     ·obtain _|j:=gk
      ·exact absurd HJ.out (by omega)
      obtain⟨E,hE⟩:∃ E:Nat,(s.size:Int)-9 * (i:Int)=(E:Int):=⟨s.size-9 * i,by omega⟩
      rw[hE];have d1:decide (0<E)=true:=decide_eq_true (by omega);have HE:=K_ hE;rcases Int.lt_trichotomy ((E:Int)-9) 0 with hx|hx|hx
      ·obtain⟨x,hxx⟩:∃ x:Int,(E:Int)-9=x:=⟨_,rfl⟩
       have w9:wrap64 ((E:Int)-9)=x:=by rw[w64 (by omega) (by omega)];exact hxx
       have q1:x<0:=by omega
       have q3:decide (x<0)=true:=decide_eq_true q1;have q2:E≤s.size:=by omega
       have HLO:=K_ (show 0=s.size-9 * (i+1)∧0≤E∧E-0≤9∧E=s.size-9 * i by omega);obtain⟨sub,hsub⟩:∃ sub,sub=s.extract 0 E:=⟨_,rfl⟩
       have HSUB:=K_ hsub;go_wp2
       rw[←HSUB.out];have HDS:=K_ (show yB sub.data.toList=true by
        have hd:=HDB.out;rw[HSUB.out,xT];unfold dB yB at hd;unfold yB;rw[List.all_eq_true] at hd ⊢;exact fun x hx=>hd x (List.mem_of_mem_drop (List.mem_of_mem_take hx)))
       have HSS:=K_ (show sub.size=E-0 by rw[HSUB.out,zQ,xT,List.length_take,List.length_drop,←zQ];have:=HLO.out;omega);have HIT:=K_ (show (wr.iter sub 0).heap[wr.heap.size]?=some (.stringIter sub 0) by unfold World.iter;exact heap_alloc_new wr _);have HBI:=K_ (show Below wr.heap.size wr (wr.iter sub 0) from (Below.refl _ wr).alloc (Nat.le_refl _) _);clear hsub hE;go_loopg [8,10] sub.size (fun j v8 v10 w'=>∃ p n:Nat,v8=.int .u32 (n:Int)∧Aside0 (n=rv (sub.data.toList.take p).reverse)∧Aside0 (p+j=sub.size)∧Aside0 (w'.heap[wr.heap.size]?=some (.stringIter sub p))∧Aside0 (Below wr.heap.size wr w'))
       case atStart=>exact⟨0,0,rfl,⟨rfl⟩,⟨by omega⟩,HIT,HBI⟩
       case round =>
        clear HIT HBI;obtain⟨p,n,rfl,HN,HPP,HIT,HBI⟩:=hrel;have hn9:n<10 ^ p:=by
         rw[HN.out];refine Nat.lt_of_lt_of_le (zes (by rw[vX];exact zdj HDS.out p)) ?_;rw[List.length_reverse,List.length_take];exact Nat.pow_le_pow_right (by omega) (Nat.min_le_left _ _)
        cases gk with
        | zero =>
         have hnx:=Lib.run_next_end_at (P:=Tryz.prog) wr _ sub p 0 HIT.out (by have:=HPP.out;omega);obtain rfl:p=sub.size:=by have:=HPP.out;omega
         have HNV:=K_ (show n=rv sub.data.toList.reverse∧n<1000000000 by
          have h1:=HN.out;rw[List.take_of_length_le (by rw[←zQ];exact Nat.le_refl _)] at h1;exact⟨h1,Nat.lt_of_lt_of_le hn9 (Nat.le_trans (Nat.pow_le_pow_right (by omega) (show sub.size≤9 by rw[HSS.out];exact HLO.out.2.2.1)) (by decide))⟩)
         have HOW:=K_ (Kd.R_below HO.out HBI.out);have HBW:=K_ (HB.out.trans (HBI.out.mono HB.out.size));have HL:=K_ (show (o.length+1) * 4≤140737488355328 by have:=HV.out;have:=HJ.out;omega);clear hn9;go_wp2_with (first
          | ((with_reducible refine jH (b:=.append) (xs:=#[.tmp 46,.tmp 48]) rfl ?_);at_builtin;refine Kd.R_append (Kd.int .u32) (w0:=w) w.heap.size rfl (.tmp 46) (.tmp 48) 81 95 (.int .u32 0) 4 rfl Tryz.underlying81 qN rfl (by decide) (by omega) _ o (n:Int) [.int .u32 (n:Int)] (fun _=>True) (fun _=>False) rfl rfl rfl (fun _ hk=>hk.elim) (fun _ _=>trivial) HOW.out HBW.out HBW.out.size HL.out ?_;intro v49 w11 ho hb hg hat;have HO2:=K_ ho;have HB2:=K_ hb;clear ho hb hg hat))
         go_roundg j
         case measure=>omega
         case rel =>
          refine⟨i+1,_,?_,⟨by have:=HJ.out;omega⟩,⟨?_⟩,HO2,HB2⟩
          ·have h1:=HE.out
           congr 1;omega
          obtain⟨h1,h2,h3⟩:=HV.out;obtain⟨l1,l2,l3,l4⟩:=HLO.out;obtain⟨n1,n2⟩:=HNV.out;refine⟨by rw[List.length_append,h1];rfl,vP.2 ⟨h2,vR.2 ⟨by omega,rfl⟩⟩,?_⟩
          rw[zad,h3,h1,Int.toNat_natCast,n1,HSUB.out,xT,zfW,←l1,zdD s.data.toList _ E l2 (by rw[←zQ];omega),l4,←zQ,show s.size-(s.size-9 * i)=9 * i by omega]
        | succ jj =>
         have hp:p<sub.size:=by have:=HPP.out;omega
         have hcd:isD (sub[p]'hp)=true:=by
          have:=HDS.out
          unfold yB at this;exact List.all_eq_true.1 this _ (List.getElem_mem (n:=p) (by rw[←zQ];exact hp))
         have hc2:=uD.1 hcd;obtain⟨c,hcn⟩:∃ c,c=(sub[p]'hp).toNat:=⟨_,rfl⟩
         have hnx:=Lib.run_next_ascii_at (P:=Tryz.prog) wr _ sub p 0 HIT.out hp (by omega);rw[←hcn] at hnx hc2;have HN2:=K_ (show rv (sub.data.toList.take (p+1)).reverse=(c-48)+10 * n by
          rw[zgQ _ p (by rw[←zQ];exact hp),HN.out,hcn];rfl)
         have HBJ:=K_ (Lib.below_iterAt HBI.out (Nat.le_refl _) sub (p+1));have HIJ:=K_ (Lib.iterAt_heap wr _ sub p (p+1) HIT.out);have hn8:n<100000000:=Nat.lt_of_lt_of_le hn9 (Nat.le_trans (Nat.pow_le_pow_right (by omega) (show p≤8 by have:=HSS.out;have:=HLO.out;omega)) (by decide));have HCC:=K_ (show 48≤c∧c≤57∧n<100000000 from ⟨hc2.1,hc2.2,hn8⟩);clear hcn hc2 hcd hn9 hn8 hp;go_wp2
         go_roundg jj
         case measure=>omega
         case rel =>
          refine⟨p+1,10 * n+(c-48),?_,⟨by rw[HN2.out];exact Nat.add_comm _ _⟩,⟨by have:=HPP.out;omega⟩,HIJ,HBJ⟩;rw[zgh n c HCC.out.1 HCC.out.2.1 HCC.out.2.2]
      ·have w9:wrap64 ((E:Int)-9)=0:=by rw[w64 (by omega) (by omega)];exact hx
       have q2:E≤s.size:=by omega
       have HLO:=K_ (show 0=s.size-9 * (i+1)∧0≤E∧E-0≤9∧E=s.size-9 * i by omega);obtain⟨sub,hsub⟩:∃ sub,sub=s.extract 0 E:=⟨_,rfl⟩
       have HSUB:=K_ hsub;go_wp2
       rw[←HSUB.out];have HDS:=K_ (show yB sub.data.toList=true by
        have hd:=HDB.out;rw[HSUB.out,xT];unfold dB yB at hd;unfold yB;rw[List.all_eq_true] at hd ⊢;exact fun x hx=>hd x (List.mem_of_mem_drop (List.mem_of_mem_take hx)))
       have HSS:=K_ (show sub.size=E-0 by rw[HSUB.out,zQ,xT,List.length_take,List.length_drop,←zQ];have:=HLO.out;omega);have HIT:=K_ (show (wr.iter sub 0).heap[wr.heap.size]?=some (.stringIter sub 0) by unfold World.iter;exact heap_alloc_new wr _);have HBI:=K_ (show Below wr.heap.size wr (wr.iter sub 0) from (Below.refl _ wr).alloc (Nat.le_refl _) _);clear hsub hE;go_loopg [8,10] sub.size (fun j v8 v10 w'=>∃ p n:Nat,v8=.int .u32 (n:Int)∧Aside0 (n=rv (sub.data.toList.take p).reverse)∧Aside0 (p+j=sub.size)∧Aside0 (w'.heap[wr.heap.size]?=some (.stringIter sub p))∧Aside0 (Below wr.heap.size wr w'))
       case atStart=>exact⟨0,0,rfl,⟨rfl⟩,⟨by omega⟩,HIT,HBI⟩
       case round =>
        clear HIT HBI;obtain⟨p,n,rfl,HN,HPP,HIT,HBI⟩:=hrel;have hn9:n<10 ^ p:=by
         rw[HN.out];refine Nat.lt_of_lt_of_le (zes (by rw[vX];exact zdj HDS.out p)) ?_;rw[List.length_reverse,List.length_take];exact Nat.pow_le_pow_right (by omega) (Nat.min_le_left _ _)
        cases gk with
        | zero =>
         have hnx:=Lib.run_next_end_at (P:=Tryz.prog) wr _ sub p 0 HIT.out (by have:=HPP.out;omega);obtain rfl:p=sub.size:=by have:=HPP.out;omega
         have HNV:=K_ (show n=rv sub.data.toList.reverse∧n<1000000000 by
          have h1:=HN.out;rw[List.take_of_length_le (by rw[←zQ];exact Nat.le_refl _)] at h1;exact⟨h1,Nat.lt_of_lt_of_le hn9 (Nat.le_trans (Nat.pow_le_pow_right (by omega) (show sub.size≤9 by rw[HSS.out];exact HLO.out.2.2.1)) (by decide))⟩)
         have HOW:=K_ (Kd.R_below HO.out HBI.out);have HBW:=K_ (HB.out.trans (HBI.out.mono HB.out.size));have HL:=K_ (show (o.length+1) * 4≤140737488355328 by have:=HV.out;have:=HJ.out;omega);clear hn9;go_wp2_with (first
          | ((with_reducible refine jH (b:=.append) (xs:=#[.tmp 46,.tmp 48]) rfl ?_);at_builtin;refine Kd.R_append (Kd.int .u32) (w0:=w) w.heap.size rfl (.tmp 46) (.tmp 48) 81 95 (.int .u32 0) 4 rfl Tryz.underlying81 qN rfl (by decide) (by omega) _ o (n:Int) [.int .u32 (n:Int)] (fun _=>True) (fun _=>False) rfl rfl rfl (fun _ hk=>hk.elim) (fun _ _=>trivial) HOW.out HBW.out HBW.out.size HL.out ?_;intro v49 w11 ho hb hg hat;have HO2:=K_ ho;have HB2:=K_ hb;clear ho hb hg hat))
         go_roundg j
         case measure=>omega
         case rel =>
          refine⟨i+1,_,?_,⟨by have:=HJ.out;omega⟩,⟨?_⟩,HO2,HB2⟩
          ·have h1:=HE.out
           congr 1;omega
          obtain⟨h1,h2,h3⟩:=HV.out;obtain⟨l1,l2,l3,l4⟩:=HLO.out;obtain⟨n1,n2⟩:=HNV.out;refine⟨by rw[List.length_append,h1];rfl,vP.2 ⟨h2,vR.2 ⟨by omega,rfl⟩⟩,?_⟩
          rw[zad,h3,h1,Int.toNat_natCast,n1,HSUB.out,xT,zfW,←l1,zdD s.data.toList _ E l2 (by rw[←zQ];omega),l4,←zQ,show s.size-(s.size-9 * i)=9 * i by omega]
        | succ jj =>
         have hp:p<sub.size:=by have:=HPP.out;omega
         have hcd:isD (sub[p]'hp)=true:=by
          have:=HDS.out
          unfold yB at this;exact List.all_eq_true.1 this _ (List.getElem_mem (n:=p) (by rw[←zQ];exact hp))
         have hc2:=uD.1 hcd;obtain⟨c,hcn⟩:∃ c,c=(sub[p]'hp).toNat:=⟨_,rfl⟩
         have hnx:=Lib.run_next_ascii_at (P:=Tryz.prog) wr _ sub p 0 HIT.out hp (by omega);rw[←hcn] at hnx hc2;have HN2:=K_ (show rv (sub.data.toList.take (p+1)).reverse=(c-48)+10 * n by
          rw[zgQ _ p (by rw[←zQ];exact hp),HN.out,hcn];rfl)
         have HBJ:=K_ (Lib.below_iterAt HBI.out (Nat.le_refl _) sub (p+1));have HIJ:=K_ (Lib.iterAt_heap wr _ sub p (p+1) HIT.out);have hn8:n<100000000:=Nat.lt_of_lt_of_le hn9 (Nat.le_trans (Nat.pow_le_pow_right (by omega) (show p≤8 by have:=HSS.out;have:=HLO.out;omega)) (by decide));have HCC:=K_ (show 48≤c∧c≤57∧n<100000000 from ⟨hc2.1,hc2.2,hn8⟩);clear hcn hc2 hcd hn9 hn8 hp;go_wp2
         go_roundg jj
         case measure=>omega
         case rel =>
          refine⟨p+1,10 * n+(c-48),?_,⟨by rw[HN2.out];exact Nat.add_comm _ _⟩,⟨by have:=HPP.out;omega⟩,HIJ,HBJ⟩;rw[zgh n c HCC.out.1 HCC.out.2.1 HCC.out.2.2]
      obtain⟨e,hee⟩:∃ e:Nat,(E:Int)-9=(e:Int):=⟨E-9,by omega⟩
      have w9:wrap64 ((E:Int)-9)=(e:Int):=by rw[w64 (by omega) (by omega)];exact hee
      have q1:0<e:=by omega
      have q3:e≤E:=by omega
      have q2:E≤s.size:=by omega
      have HLO:=K_ (show e=s.size-9 * (i+1)∧e≤E∧E-e≤9∧E=s.size-9 * i by omega);obtain⟨sub,hsub⟩:∃ sub,sub=s.extract e E:=⟨_,rfl⟩
      have HSUB:=K_ hsub;go_wp2
      rw[←HSUB.out];have HDS:=K_ (show yB sub.data.toList=true by
       have hd:=HDB.out;rw[HSUB.out,xT];unfold dB yB at hd;unfold yB;rw[List.all_eq_true] at hd ⊢;exact fun x hx=>hd x (List.mem_of_mem_drop (List.mem_of_mem_take hx)))
      have HSS:=K_ (show sub.size=E-e by rw[HSUB.out,zQ,xT,List.length_take,List.length_drop,←zQ];have:=HLO.out;omega);have HIT:=K_ (show (wr.iter sub 0).heap[wr.heap.size]?=some (.stringIter sub 0) by unfold World.iter;exact heap_alloc_new wr _);have HBI:=K_ (show Below wr.heap.size wr (wr.iter sub 0) from (Below.refl _ wr).alloc (Nat.le_refl _) _);clear hsub hE;go_loopg [8,10] sub.size (fun j v8 v10 w'=>∃ p n:Nat,v8=.int .u32 (n:Int)∧Aside0 (n=rv (sub.data.toList.take p).reverse)∧Aside0 (p+j=sub.size)∧Aside0 (w'.heap[wr.heap.size]?=some (.stringIter sub p))∧Aside0 (Below wr.heap.size wr w'))
      case atStart=>exact⟨0,0,rfl,⟨rfl⟩,⟨by omega⟩,HIT,HBI⟩
      case round =>
       clear HIT HBI;obtain⟨p,n,rfl,HN,HPP,HIT,HBI⟩:=hrel;have hn9:n<10 ^ p:=by
        rw[HN.out];refine Nat.lt_of_lt_of_le (zes (by rw[vX];exact zdj HDS.out p)) ?_;rw[List.length_reverse,List.length_take];exact Nat.pow_le_pow_right (by omega) (Nat.min_le_left _ _)
       cases gk with
       | zero =>
        have hnx:=Lib.run_next_end_at (P:=Tryz.prog) wr _ sub p 0 HIT.out (by have:=HPP.out;omega);obtain rfl:p=sub.size:=by have:=HPP.out;omega
        have HNV:=K_ (show n=rv sub.data.toList.reverse∧n<1000000000 by
         have h1:=HN.out;rw[List.take_of_length_le (by rw[←zQ];exact Nat.le_refl _)] at h1;exact⟨h1,Nat.lt_of_lt_of_le hn9 (Nat.le_trans (Nat.pow_le_pow_right (by omega) (show sub.size≤9 by rw[HSS.out];exact HLO.out.2.2.1)) (by decide))⟩)
        have HOW:=K_ (Kd.R_below HO.out HBI.out);have HBW:=K_ (HB.out.trans (HBI.out.mono HB.out.size));have HL:=K_ (show (o.length+1) * 4≤140737488355328 by have:=HV.out;have:=HJ.out;omega);clear hn9;go_wp2_with (first
         | ((with_reducible refine jH (b:=.append) (xs:=#[.tmp 46,.tmp 48]) rfl ?_);at_builtin;refine Kd.R_append (Kd.int .u32) (w0:=w) w.heap.size rfl (.tmp 46) (.tmp 48) 81 95 (.int .u32 0) 4 rfl Tryz.underlying81 qN rfl (by decide) (by omega) _ o (n:Int) [.int .u32 (n:Int)] (fun _=>True) (fun _=>False) rfl rfl rfl (fun _ hk=>hk.elim) (fun _ _=>trivial) HOW.out HBW.out HBW.out.size HL.out ?_;intro v49 w11 ho hb hg hat;have HO2:=K_ ho;have HB2:=K_ hb;clear ho hb hg hat))
        go_roundg j
        case measure=>omega
        case rel =>
         refine⟨i+1,_,?_,⟨by have:=HJ.out;omega⟩,⟨?_⟩,HO2,HB2⟩
         ·have h1:=HE.out
          congr 1;omega
         obtain⟨h1,h2,h3⟩:=HV.out;obtain⟨l1,l2,l3,l4⟩:=HLO.out;obtain⟨n1,n2⟩:=HNV.out;refine⟨by rw[List.length_append,h1];rfl,vP.2 ⟨h2,vR.2 ⟨by omega,rfl⟩⟩,?_⟩
         rw[zad,h3,h1,Int.toNat_natCast,n1,HSUB.out,xT,zfW,←l1,zdD s.data.toList _ E l2 (by rw[←zQ];omega),l4,←zQ,show s.size-(s.size-9 * i)=9 * i by omega]
       | succ jj =>
        have hp:p<sub.size:=by have:=HPP.out;omega
        have hcd:isD (sub[p]'hp)=true:=by
         have:=HDS.out
         unfold yB at this;exact List.all_eq_true.1 this _ (List.getElem_mem (n:=p) (by rw[←zQ];exact hp))
        have hc2:=uD.1 hcd;obtain⟨c,hcn⟩:∃ c,c=(sub[p]'hp).toNat:=⟨_,rfl⟩
        have hnx:=Lib.run_next_ascii_at (P:=Tryz.prog) wr _ sub p 0 HIT.out hp (by omega);rw[←hcn] at hnx hc2;have HN2:=K_ (show rv (sub.data.toList.take (p+1)).reverse=(c-48)+10 * n by
         rw[zgQ _ p (by rw[←zQ];exact hp),HN.out,hcn];rfl)
        have HBJ:=K_ (Lib.below_iterAt HBI.out (Nat.le_refl _) sub (p+1));have HIJ:=K_ (Lib.iterAt_heap wr _ sub p (p+1) HIT.out);have hn8:n<100000000:=Nat.lt_of_lt_of_le hn9 (Nat.le_trans (Nat.pow_le_pow_right (by omega) (show p≤8 by have:=HSS.out;have:=HLO.out;omega)) (by decide));have HCC:=K_ (show 48≤c∧c≤57∧n<100000000 from ⟨hc2.1,hc2.2,hn8⟩);clear hcn hc2 hcd hn9 hn8 hp;go_wp2
        go_roundg jj
        case measure=>omega
        case rel =>
         refine⟨p+1,10 * n+(c-48),?_,⟨by rw[HN2.out];exact Nat.add_comm _ _⟩,⟨by have:=HPP.out;omega⟩,HIJ,HBJ⟩;rw[zgh n c HCC.out.1 HCC.out.2.1 HCC.out.2.2]
     have d1:decide (0<(s.size:Int)-9 * (i:Int))=false:=decide_eq_false (by omega);obtain⟨A6,c6,rfl⟩:=Kd.R_slice HO.out;have HF:=K_ (show zgD o=some (yO (vB s)) by
      obtain⟨h1,h2,h3⟩:=HV.out;rw[show s.size-9 * i=0 by omega,List.drop_zero] at h3;rw[show vB s=zP o from h3.symm];have hj:=HJ.out;exact zaK h2 (by omega))
     go_wp2_with (go_at_call 91;(with_reducible refine (uB.calls A6 c6 o (yO (vB s)) _ ?side1 ?side2 ?side3).mono ?_);(case side1=>exact (Kd.R_reads' HO.out).2.2);(case side2=>exact (Kd.R_reads' HO.out).2.1);(case side3=>exact HF.out);rintro e w3 ⟨v3,rfl,ho3,hb3⟩;have HO3:=K_ ho3;have HB3:=K_ hb3;clear ho3 hb3)
     go_ret2
     exact⟨_,rfl,Kd.R_lower HO3.out HB.out.size,HB.out.trans (HB3.out.mono HB.out.size)⟩
   | succ j =>
    have hp:pos<s.size:=by have:=HP.out;omega
    have HPS:=K_ hp;have hB2:∀ q,Below w.heap.size w (wr.iterAt w.heap.size s q):=fun q=>Lib.below_iterAt HB.out (Nat.le_refl _) s q
    have hI2:∀ q,(wr.iterAt w.heap.size s q).heap[w.heap.size]?=some (.stringIter s q):=fun q=>Lib.iterAt_heap wr w.heap.size s pos q HI.out
    have HB2:=K_ hB2;have HI2:=K_ hI2;clear hB2 hI2;by_cases hc:isD (s[pos]'HPS.out)=true
    ·have hc2:=uD.1 hc
     obtain⟨c,hcn⟩:∃ c,c=(s[pos]'HPS.out).toNat:=⟨_,rfl⟩
     have hnx:=Lib.run_next_ascii_at (P:=Tryz.prog) wr w.heap.size s pos 0 HI.out HPS.out (by omega);rw[←hcn] at hnx hc2;have d1:decide ((c:Int)<48)=false:=decide_eq_false (by omega);have d2:decide (57<(c:Int))=false:=decide_eq_false (by omega);have HC:=K_ hc;clear hc hcn hc2 hp;go_wp2
     go_roundg j
     case measure=>omega
     case rel =>
      exact⟨pos+1,⟨by have:=HP.out;omega⟩,⟨by rw[zjB s pos HPS.out,HD.out,HC.out];rfl⟩,⟨HI2.out _⟩,⟨HB2.out _⟩⟩
    have HND:=K_ (zkv s pos HPS.out (by simpa using hc));obtain⟨c,q,hcn,hc2⟩:∃ c q:Nat,(Utf8.decode s pos=(c,q))∧(c<48∨57<c):=by
     by_cases ha:(s[pos]'HPS.out).toNat<128
     ·refine⟨_,_,decode_ascii s pos HPS.out ha,?_⟩
      have:¬ (48≤(s[pos]'HPS.out).toNat∧(s[pos]'HPS.out).toNat≤57):=fun h=>hc (uD.2 h)
      omega
     exact⟨(Utf8.decode s pos).1,(Utf8.decode s pos).2,rfl,.inr (by have:=(decode_high s pos HPS.out (by omega)).1;omega)⟩
    have hnx:=Lib.run_next_any_at (P:=Tryz.prog) wr w.heap.size s pos 0 HI.out HPS.out;rw[hcn] at hnx;have h2:=H2.out;rw[if_neg (fun hh=>by rw[HND.out] at hh;cases hh.1)] at h2;obtain⟨rfl,rfl⟩:=Prod.mk.inj h2;clear hc hcn hp h2;rcases hc2 with hc2|hc2
    ·have d1:decide ((c:Int)<48)=true:=decide_eq_true (by omega)
     clear hc2;go_wp2
     go_ret2
     exact⟨_,rfl,Kd.R_nil _ _ _ _ _,HB2.out _⟩
    have d1:decide ((c:Int)<48)=false:=decide_eq_false (by omega);have d2:decide (57<(c:Int))=true:=decide_eq_true (by omega);clear hc2;go_wp2
    go_ret2
    exact⟨_,rfl,Kd.R_nil _ _ _ _ _,HB2.out _⟩
 rw[if_neg hs] at h;cases h
end
def zdh.f (a0_0:Bool) (a0_1:ByteArray) (a0_2:Int):Option (List Int):=(zap.f a0_1).bind fun bt366=>(some bt366.1)
set_option maxHeartbeats 8000000 in
set_option maxRecDepth 100000 in
theorem zdh.calls (a0_0:Bool) (a0_1:ByteArray) (a0_2:Int) (r:List Int) (w:World) (h:zdh.f a0_0 a0_1 a0_2=some r) :
  Calls Tryz.prog 76 #[.agg #[.bool a0_0,.string a0_1,.int .i64 a0_2]] w fun e w'=>∃ v0_:Value,e=.returned (v0_)∧Kd.R (Kd.int .u32) 95 w' w.heap.size (fun _=>True) v0_ r∧Below w.heap.size w w':=by
 have hu23:=Tryz.underlying23;have HB:=K_ (Below.refl w.heap.size w);have H:((zap.f a0_1).bind fun bt366=>(some bt366.1))=some r:=h;clear h;replace H:=Option.bind_eq_some_iff.mp H;obtain⟨⟨t366,t367⟩,A20,H⟩:=H;replace H:(some t366)=some r:=H;have A2:=K_ A20;clear A20;obtain rfl:=Option.some.inj H;go_enter Tryz.func76,Tryz.ntmps76
 go_wp2_with (first|(refine be_ 1 #[.bool a0_0,.string a0_1,.int .i64 a0_2] 23 ?_;intro gb365 hg w3 hbox hb;have n0_:=zF HB hb;have n1_:=K_ (hbox);have n2_:=ge_ hg HB;have n3_:=ge_ hg HB;clear HB;have HB:=n0_;have BK365:=n1_;have GW365:=n2_;have GE365:=n3_;clear n0_ n1_ n2_ n3_;clear hb hbox hg;have hcz4_0:w3.cell? ⟨gb365,0,none⟩=some (.bool a0_0):=(zA BK365.out 0).trans rfl;have hcz4_1:w3.cell? ⟨gb365,1,none⟩=some (.string a0_1):=(zA BK365.out 1).trans rfl;have hcz4_2:w3.cell? ⟨gb365,2,none⟩=some (.int .i64 a0_2):=(zA BK365.out 2).trans rfl;have hfz4_0:=zL BK365.out 0;have hfz4_1:=zL BK365.out 1;have hfz4_2:=zL BK365.out 2)|((with_reducible refine zK (f:=58) rfl ?_);refine zW (some 8) rfl rfl Tryz.func58 (by kernel_rfl) rfl #[.string a0_1] rfl MP ?_;(with_reducible refine (zap.calls a0_1 t366 t367 _ A2.out).mono ?_);rintro e w5 ⟨v368,rfl,ho0,hb⟩;refine⟨_,rfl,?_⟩;have n0_:=K_ (Kd.R_lower ho0 (zS (BL HB)));have n1_:=zC BK365 hb;have n2_:=zF HB hb;clear BK365;clear HB;have HO369:=n0_;have BK365:=n1_;have HB:=n2_;clear n0_ n1_ n2_;(try clear hb);(try clear hb2);(try clear hk);(try clear hi);(try clear ho0)))
 go_ret
 exact⟨_,ER,by (with_reducible repeat (first|apply Kd.R_alloc|apply Kd.R_drewN|apply Kd.R_drew));exact HO369.out,BL HB⟩
def uA.l0:Nat→List Int→Int→List Int→Int→Int→Option (List Int×Int×Bool)
 | 0,_,_,_,_,_=>none
 | k+1,x0,x1,x4,x7,x8=>if x8 ≥ 0 then (if 0≤x8 then (if x8<(x0.length:Int) then (if (IntKind.u64.wrap (x1))=0 then (none) else (if x8<(x4.length:Int) then (uA.l0 k x0 x1 (x4.set (x8:Int).toNat ((IntKind.u64.wrap (Int.tdiv (IntKind.u64.wrap ((IntKind.u64.wrap (x7 * 1000000000))+(IntKind.u64.wrap (rd x0 x8)))) (IntKind.u64.wrap (x1)))) % 4294967296)) (Int.tmod (IntKind.u64.wrap ((IntKind.u64.wrap (x7 * 1000000000))+(IntKind.u64.wrap (rd x0 x8)))) (IntKind.u64.wrap (x1))) (wrap64 (x8-1))) else (none))) else (none)) else (none)) else ((uB.f x4).bind fun t440=>(some (t440,(x7) % 4294967296,true)))
def uA.f (k:Nat) (l0:List Int) (a1:Int):Option (List Int×Int×Bool):=if a1=0 then (some (([]:List Int),0,false)) else (if 0≤(l0.length:Int) then (if ((l0.length:Int):Int).toNat≤70368744177664 then (uA.l0 k l0 a1 (List.replicate ((l0.length:Int):Int).toNat 0) 0 (wrap64 ((l0.length:Int)-1))) else (none)) else (none))
set_option maxHeartbeats 8000000 in
set_option maxRecDepth 100000 in
theorem uA.calls (k:Nat) (A0:Option Addr) (c0:Nat) (l0:List Int) (a1:Int) (r1:List Int) (r2:Int) (r3:Bool) (w:World) (hr0:Kd.C (Kd.int .u32) w A0 l0.length l0) (hc0:l0.length≤c0) (h:uA.f k l0 a1=some (r1,r2,r3)) :
  Calls Tryz.prog 135 #[.slice A0 l0.length c0,.int .u32 a1] w fun e w'=>∃ v0_:Value,e=.returned (.tuple #[v0_,.int .u32 r2,.bool r3])∧Kd.R (Kd.int .u32) 95 w' w.heap.size (fun _=>True) v0_ r1∧Below w.heap.size w w':=by
 have HR0:=K_ hr0;have HC0:=K_ hc0;clear hr0 hc0;have HB:=K_ (Below.refl w.heap.size w);have H:(if a1=0 then (some (([]:List Int),0,false)) else (if 0≤(l0.length:Int) then (if ((l0.length:Int):Int).toNat≤70368744177664 then (uA.l0 k l0 a1 (List.replicate ((l0.length:Int):Int).toNat 0) 0 (wrap64 ((l0.length:Int)-1))) else (none)) else (none)))=some (r1,r2,r3):=h;clear h;by_cases c3:a1=0
 ·rw[if_pos c3] at H
  have c3b0:(a1==0)=true:=beq_iff_eq.mpr c3;have c3b1:(a1 !=0)=false:=bne_eq_false_iff_eq.mpr c3;clear c3;simp only[Option.some.injEq,Prod.mk.injEq] at H
  obtain⟨rfl,rfl,rfl⟩:=H;go_enter Tryz.func135,Tryz.ntmps135
  go_wp2
  go_ret3
  exact⟨_,ER,by first|exact Kd.R_nil _ _ _ _ _|exact Kd.N_nil _ _ _ _ _|exact Kd.V_nil _ _ _ _ _|exact Kd.Q_nil _ _ _ _ _|exact Kd.S_nil _ _ _ _ _,BL HB⟩
 rw[if_neg c3] at H;have c3b0:(a1==0)=false:=beq_eq_false_iff_ne.mpr c3;have c3b1:(a1 !=0)=true:=bne_iff_ne.mpr c3;by_cases c4:0≤(l0.length:Int)
 ·rw[if_pos c4] at H
  have c4b0:=eq_true c4;have c4b1:decide (0≤(l0.length:Int))=true:=decide_eq_true c4;clear c4;by_cases c5:((l0.length:Int):Int).toNat≤70368744177664
  ·rw[if_pos c5] at H
   have c5b0:=eq_true c5;have c5b1:decide (((l0.length:Int):Int).toNat≤70368744177664)=true:=decide_eq_true c5;clear c5;obtain⟨y435,hy435⟩:∃ y_:List Int,y_=(List.replicate ((l0.length:Int):Int).toNat 0):=⟨_,rfl⟩
   replace H:(uA.l0 k l0 a1 y435 0 (wrap64 ((l0.length:Int)-1)))=some (r1,r2,r3):=by first|(rw[hy435];with_reducible exact H)|(have H2_:=(Option.bind_some _ _).symm.trans H;rw[hy435];with_reducible exact H2_)|(have H2_:=(Option.bind_some _ _).symm.trans H;with_reducible exact H2_)|with_reducible exact H|(rw[hy435];exact H)|exact H
   have Ny435:=K_ hy435;clear hy435;have H':=K_ H;clear H;go_enter Tryz.func135,Tryz.ntmps135
   go_wp2_with (first|((with_reducible refine zE (N:=13) rfl ?_);refine Kd.R_make (Kd.int .u32) _ 95 rfl (N:=13) rfl 81 _ _ rfl (l0.length:Int) rfl rfl Tryz.underlying81 (.int .u32 0) 4 qN rfl (by decide) (by omega) 0 (ok:=fun _=>True) (okp:=fun _=>True) rfl (fun _ hk=>hk) trivial (of_decide_eq_true (by first|(with_reducible assumption)|assumption)) (Nat.le_trans (Nat.mul_le_mul_right _ (of_decide_eq_true (by first|(with_reducible assumption)|assumption):(l0.length:Int).toNat≤70368744177664)) (by omega)) (Below.refl _ _) (Nat.le_refl _) ?_;intro v436 w6 ho7 hb hg_ hnew_;clear hg_ hnew_;(first|rw[←Ny435.out] at ho7|(simp only[Int.reduceToNat] at ho7;rw[←Ny435.out] at ho7));have HO437:=K_ (Kd.R_lower ho7 (zS (BL HB)));replace HB:=zF HB hb;clear hb ho7))
   go_loopg [7,8] k (fun kq v7 v8 w'=>∃ (x4_1:List Int) (x7_1:Int) (x8_1:Int),v7=.int .u64 x7_1∧v8=.int .i64 x8_1∧Aside0 (uA.l0 kq l0 a1 x4_1 x7_1 x8_1=some (r1,r2,r3))∧Aside0 (kq≤k)∧Aside0 (Kd.R (Kd.int .u32) 95 w' w.heap.size (fun _=>True) v436 x4_1)∧Aside0 (Below w.heap.size w w'))
   case atStart=>exact⟨(y435),(0),(wrap64 ((l0.length:Int)-1)),SR,SR,H',⟨Nat.le_refl _⟩,⟨RB HO437.out⟩,⟨BL HB⟩⟩
   case round =>
    clear H';try clear c3
    try clear c3b0
    try clear c3b1
    try clear c4
    try clear c4b0
    try clear c4b1
    try clear c5
    try clear c5b0
    try clear c5b1
    obtain⟨x4_1,x7_1,x8_1,rfl,rfl,HA,HK1,HO_4,HB⟩:=hrel;obtain _|k1:=gk
    ·exact absurd HA.out (by simp[uA.l0])
    have H:=HA.out;clear HA;simp only[uA.l0] at H
    by_cases c8:x8_1 ≥ 0
    ·rw[if_pos c8] at H
     have c8b0:decide (0≤x8_1)=true:=decide_eq_true c8;clear c8;by_cases c9:0≤x8_1
     ·rw[if_pos c9] at H
      have c9b0:decide (0≤x8_1)=true:=decide_eq_true c9;clear c9;by_cases c10:x8_1<(l0.length:Int)
      ·rw[if_pos c10] at H
       have c10b0:decide (x8_1<(l0.length:Int))=true:=decide_eq_true c10;clear c10;by_cases c11:(IntKind.u64.wrap (a1))=0
       ·rw[if_pos c11] at H
        exact absurd H (by simp)
       rw[if_neg c11] at H;have c11b0:((IntKind.u64.wrap (a1))==0)=false:=beq_eq_false_iff_ne.mpr c11;have c11b1:((IntKind.u64.wrap (a1)) !=0)=true:=bne_iff_ne.mpr c11;by_cases c12:x8_1<(x4_1.length:Int)
       ·rw[if_pos c12] at H
        have c12b0:decide (x8_1<(x4_1.length:Int))=true:=decide_eq_true c12;clear c12;obtain⟨y439,hy439⟩:∃ y_:List Int,y_=(x4_1.set (x8_1:Int).toNat ((IntKind.u64.wrap (Int.tdiv (IntKind.u64.wrap ((IntKind.u64.wrap (x7_1 * 1000000000))+(IntKind.u64.wrap (rd l0 x8_1)))) (IntKind.u64.wrap (a1)))) % 4294967296)):=⟨_,rfl⟩
        replace H:(uA.l0 k1 l0 a1 y439 (Int.tmod (IntKind.u64.wrap ((IntKind.u64.wrap (x7_1 * 1000000000))+(IntKind.u64.wrap (rd l0 x8_1)))) (IntKind.u64.wrap (a1))) (wrap64 (x8_1-1)))=some (r1,r2,r3):=by first|(rw[hy439];with_reducible exact H)|(have H2_:=(Option.bind_some _ _).symm.trans H;rw[hy439];with_reducible exact H2_)|(have H2_:=(Option.bind_some _ _).symm.trans H;with_reducible exact H2_)|with_reducible exact H|(rw[hy439];exact H)|exact H
        have Ny439:=K_ hy439;clear hy439;have H':=K_ H;clear H;have p438:0≤(x8_1:Int):=of_decide_eq_true (by first|(with_reducible assumption)|assumption);have q438:x8_1<(l0.length:Int):=of_decide_eq_true (by first|(with_reducible assumption)|assumption);obtain⟨ad438,e438,hx438_0⟩:=Kd.at_int HR0.out x8_1 p438 q438;cases e438;replace hx438_0:=(HB.out.cell (World.block_lt_of_cell? w _ hx438_0)).trans hx438_0;replace p438:=eq_true p438;replace q438:=eq_true q438;have p13:0≤(x8_1:Int):=of_decide_eq_true (by first|(with_reducible assumption)|assumption);have q13:(x8_1:Int)<((x4_1.length:Int):Int):=of_decide_eq_true (by first|(with_reducible assumption)|assumption);obtain⟨go13,co13,eo13,gb13,gl13,cl13,HG13⟩:=Kd.R_form HO_4.out (by omega);(first|cases eo13|(injection eo13 with ea_ en_ ec_;(first|subst ea_|(injection ea_ with ea_;subst ea_));subst ec_;clear en_))
        have GB13:=K_ gb13;have GG13:=K_ HG13;clear gb13 gl13 HG13;obtain⟨hx13_0,hf13_0⟩:=Kd.R_celln 0 HO_4.out (x8_1:Int) p13 q13;replace p13:=eq_true p13;replace q13:=eq_true q13;have HP14:=Kd.R_putg HO_4.out (x8_1:Int) ((IntKind.u64.wrap (Int.tdiv (IntKind.u64.wrap ((IntKind.u64.wrap (x7_1 * 1000000000))+(IntKind.u64.wrap (rd l0 x8_1)))) (IntKind.u64.wrap (a1)))) % 4294967296);go_wp2_with (first|((with_reducible refine zY (t:=95) (p:=36) rfl ?_);refine zcx (t:=95) (p:=36) (v:=?vo_w15) (w1:=(wr.setCell ⟨go13,(x8_1:Int).toNat,none⟩ (.int .u32 ((IntKind.u64.wrap (Int.tdiv (IntKind.u64.wrap ((IntKind.u64.wrap (x7_1 * 1000000000))+(IntKind.u64.wrap (rd l0 x8_1)))) (IntKind.u64.wrap (a1)))) % 4294967296)))) ?hg ?ho ?hn ?hr ?_;(case ho=>rfl);(case hg=>rfl);(case hn=>rfl);(case hr=>first|(go_simp;done)|(go_simp;rfl));intro w15 hw;have hg:wr.grownBy w15 (some go13):=(by rw[hw];exact HP14.2);have hp_:Kd.R (Kd.int .u32) 95 w15 w.heap.size (fun _=>True) (.slice (some ⟨go13,0,none⟩) x4_1.length co13) y439:=(by rw[hw,Ny439.out];exact HP14.1);clear HP14;replace HO_4:=K_ (hp_);replace HB:=K_ ((by rw[hw];exact xL (HB.out) GB13.out:Below w.heap.size w w15));clear hg hw hp_))
        go_roundg k1
        case measure=>have:=HK1.out;omega
        case rel=>exact⟨(y439),(Int.tmod (IntKind.u64.wrap ((IntKind.u64.wrap (x7_1 * 1000000000))+(IntKind.u64.wrap (rd l0 x8_1)))) (IntKind.u64.wrap (a1))),(wrap64 (x8_1-1)),SR,SR,H',⟨by have:=HK1.out;omega⟩,⟨RB HO_4.out⟩,⟨BL HB⟩⟩
       rw[if_neg c12] at H;exact absurd H (by simp)
      rw[if_neg c10] at H;exact absurd H (by simp)
     rw[if_neg c9] at H;exact absurd H (by simp)
    rw[if_neg c8] at H;have c8b0:decide (0≤x8_1)=false:=decide_eq_false c8;clear c8;obtain⟨t440,A160,H⟩:=Option.bind_eq_some_iff.mp H
    (try dsimp -simprocs only at H)
    have A16:=K_ A160;clear A160;simp only[Option.some.injEq,Prod.mk.injEq] at H
    obtain⟨rfl,rfl,rfl⟩:=H;obtain⟨Ao17,co17,eo17⟩:=Kd.R_slice HO_4.out;subst eo17;go_wp2_with (first|((with_reducible refine zK (f:=91) rfl ?_);refine zW (some 42) rfl rfl Tryz.func91 (by kernel_rfl) rfl #[.slice Ao17 x4_1.length co17] rfl MP ?_;(with_reducible refine (uB.calls _ _ x4_1 t440 _ ?side1 ?side2 A16.out).mono ?_);(case side1=>exact CB ((Kd.R_reads' HO_4.out).2.2));(case side2=>exact (Kd.R_reads' HO_4.out).2.1);rintro e w18 ⟨v441,rfl,ho0,hb⟩;refine⟨_,rfl,?_⟩;have HO442:=K_ (Kd.R_lower (Kd.R_new' ho0 (Kd.R_lt (RB HO_4.out))) (zS (BL HB)));replace HO_4:=K_ (Kd.R_elder' (RB HO_4.out) (Kd.R_base ho0) hb);replace HB:=zF HB hb;(try clear hb);(try clear hb2);(try clear hk);(try clear hi);(try clear ho0)))
    go_ret3
    exact⟨_,ER,by (with_reducible repeat (first|apply Kd.R_alloc|apply Kd.R_drewN|apply Kd.R_drew));exact Kd.R_mono HO442.out (fun _ hk=>trivial),BL HB⟩
  rw[if_neg c5] at H;exact absurd H (by simp)
 rw[if_neg c4] at H;exact absurd H (by simp)
theorem zos {x:Nat} (h:x<1000000000):(0:Int)≤(x:Int)∧(x:Int)<1000000000:=by omega
theorem zlo (r p y:Nat) (hy0:0<y) (hy:y<1000000000) (hr:r<y) (hp:p<1000000000):IntKind.u64.wrap ((IntKind.u64.wrap ((r:Int) * 1000000000))+(IntKind.u64.wrap (p:Int)))=((r * 1000000000+p:Nat):Int):=by
 rw[zcs (x:=(r:Int) * 1000000000) (by omega) (by omega),zcs (x:=(p:Int)) (by omega) (by omega),zcs (by omega) (by omega)];omega
theorem znt (r p y:Nat) (hy0:0<y) (hy:y<1000000000) (hr:r<y) (hp:p<1000000000):(r * 1000000000+p) / y<1000000000:=by
 rw[Nat.div_lt_iff_lt_mul hy0];have:(r+1) * 1000000000≤y * 1000000000:=Nat.mul_le_mul_right _ hr
 rw[Nat.mul_comm];omega
theorem zkq (p:Nat) (hp:p≤18446744073709551615):IntKind.u64.wrap (p:Int)=(p:Int):=zcs (by omega) (by omega)
theorem zmZ (t y:Nat) (ht:t≤18446744073709551615) (h:t / y<1000000000):(IntKind.u64.wrap (Int.tdiv (t:Int) (y:Int))) % 4294967296=((t / y:Nat):Int):=by
 rw[←Int.ofNat_tdiv,zkq _ (by have:=Nat.div_le_self t y;omega)];generalize t / y=u at *;omega
theorem znu (t y:Nat):Int.tmod (t:Int) (y:Int)=((t % y:Nat):Int):=(Int.ofNat_tmod t y).symm
theorem zew:∀ (q:List Int) (n:Nat) (v:Int),n<q.length→(q.set n v).drop n=v :: q.drop (n+1)
 | x :: q,0,v,h=>rfl
 | x :: q,n+1,v,h=>by simpa using zew q n v (by simpa using h)
theorem znd (A V y p r X:Nat) (hy:0<y) (h:X * y+r=V):(((r * 1000000000+p) / y)+1000000000 * X) * y+(r * 1000000000+p) % y=p+1000000000 * V:=by
 have:=Nat.div_add_mod (r * 1000000000+p) y
 rw[Nat.add_mul,Nat.mul_assoc,Nat.mul_comm _ y,←h,Nat.mul_add];omega
theorem zdR (a:List Int) (ga:jO a=true) (la:a.length≤1000000000000) (y:Nat) (hy0:0<y) (hy:y<1000000000):∀ (n:Nat) (q:List Int) (r:Nat),n≤a.length→q.length=a.length→jO q=true→r<y→zP (q.drop n) * y+r=zP (a.drop n) →
  Ev (fun k=>uA.l0 k a (y:Int) q (r:Int) ((n:Int)-1)) (yO (zP a / y),((zP a % y:Nat):Int),true)
 | 0,q,r,hn,hq,gq,hr,hv=>by
  rw[List.drop_zero,List.drop_zero] at hv;have e1:zP q=zP a / y:=by rw[←hv,Nat.mul_comm,Nat.mul_add_div hy0,Nat.div_eq_of_lt hr];rfl
  have e2:r=zP a % y:=by rw[←hv,Nat.mul_comm,Nat.mul_add_mod,Nat.mod_eq_of_lt hr]
  refine zak (Ev.step (f:=fun _=>(uB.f q).bind fun t=>some (t,((r:Nat):Int) % 4294967296,true)) (fun k=>?_) (Ev.bind (zpj fun _=>zaK gq (by omega)) (Ev.now _))) ?_
  ·simp only[uA.l0];rw[if_neg (by omega)]
  rw[e1,←e2];have:((r:Nat):Int) % 4294967296=(r:Int):=by omega
  rw[this]
 | n+1,q,r,hn,hq,gq,hr,hv=>by
  have hna:n<a.length:=by omega
  have hnq:n<q.length:=by omega
  have pa:=vJ.1 ga _ (List.getElem_mem hna);obtain⟨p,hp⟩:∃ v:Nat,a[n]=(v:Int):=⟨a[n].toNat,by omega⟩
  have hp9:p<1000000000:=by omega
  have hqb:=znt r p y hy0 hy hr hp9;have hmod:=Nat.mod_lt (r * 1000000000+p) hy0;have ht:r * 1000000000+p≤18446744073709551615:=by omega
  have ex:(((n+1:Nat):Int)-1)=(n:Int):=by omega
  refine Ev.step (f:=fun k=>uA.l0 k a (y:Int) (q.set n (((r * 1000000000+p) / y:Nat):Int)) (((r * 1000000000+p) % y:Nat):Int) ((n:Int)-1)) (fun k=>?_) (zdR a ga la y hy0 hy n _ _ (by omega) (by simpa using hq) (zeI gq n (zos hqb)) hmod ?_)
  ·simp only[ex,uA.l0]
   rw[if_pos (by omega),if_pos (by omega),if_pos (by omega),zkq y (by omega),if_neg (by omega),if_pos (by omega),qD hna,hp,zlo r p y hy0 hy hr hp9,zmZ _ _ ht hqb,znu,w64 (x:=(n:Int)-1) (by omega) (by omega),Int.toNat_natCast]
  rw[zew q n _ hnq,List.drop_eq_getElem_cons hna,hp];exact znd 0 _ y p r _ hy0 hv
theorem zfC {a:List Int} {y:Nat} (ga:jO a=true) (la:a.length≤1000000000000) (hy0:0<y) (hy:y<1000000000):Ev (fun k=>uA.f k a (y:Int)) (yO (zP a / y),((zP a % y:Nat):Int),true):=by
 have h0:¬ (y:Int)=0:=by omega
 have h1:(0:Int)≤(a.length:Int):=by omega
 have h2:a.length≤70368744177664:=by omega
 unfold uA.f;simp only[h0,h1,if_true,if_false,Int.toNat_natCast,h2]
 rw[w64 (by omega) (by omega)];refine zdR a ga la y hy0 hy a.length _ 0 (Nat.le_refl _) (by simp) (zbk _) hy0 ?_;rw[List.drop_of_length_le (by simp),List.drop_of_length_le (Nat.le_refl _)];simp[zP]
section
set_option maxRecDepth 100000
theorem zoO (w:World):Kd.R (Kd.int .u32) 95 (w.alloc (.cells #[] 95)) w.heap.size (fun _=>True) (.slice (some ⟨w.heap.size,0,none⟩) 0 0) []:=by
 have:=zjt w w.heap.size 0 95 (Nat.le_refl _) (by omega)
 rw[show madeCells #[Value.int .u32 0] 0=#[] from Array.eq_empty_of_size_eq_zero (size_madeCells _ _)] at this;exact this
set_option maxHeartbeats 2000000 in
theorem zfN (A:Option Addr) (c:Nat) (xs:List Int) (w:World) (hr:Kd.C (Kd.int .u32) w A xs.length xs) (hlen:xs.length≤1000000) :
  Calls Tryz.prog 136 #[.slice A xs.length c] w fun e w'=>∃ v:Value,e=.returned v∧Kd.R (Kd.int .u32) 95 w' w.heap.size (fun _=>True) v xs∧Below w.heap.size w w':=by
 have HR:=K_ hr
 cases A with
 | none =>
  have h0:xs=[]:=by
   cases xs with
   | nil=>rfl
   | cons x xs=>exact absurd (hr.2.2 (by simp)) (by rintro⟨ad,h,_⟩;cases h)
  subst h0;clear hr;have hq:=fun W=>Lib.run_eql_slice_nil (P:=Tryz.prog) W 81 95 none 0 c 0 0 Tryz.underlying81
  go_enter Tryz.func136,Tryz.ntmps136
  go_wp2
  go_ret
  exact⟨_,rfl,Kd.R_nil _ _ _ _ _,Below.refl _ _⟩
 | some ad =>
  have HL:=K_ (show (([]:List Int).length+xs.length) * 4≤140737488355328 by simp;omega);clear hr;have hq:=fun W=>Lib.run_eql_slice_nil (P:=Tryz.prog) W 81 95 (some ad) xs.length c 0 0 Tryz.underlying81
  go_enter Tryz.func136,Tryz.ntmps136
  go_wp2_with ((with_reducible refine jH (b:=.append) (xs:=#[.tmp 5,.tmp 6]) rfl ?_);at_builtin;(refine Kd.R_append_rows (Kd.int .u32) (w0:=w) w.heap.size rfl (.tmp 5) (.tmp 6) 81 95 (.int .u32 0) 4 rfl Tryz.underlying81 qN rfl (by decide) (by omega) (.slice (some ⟨w.heap.size,0,none⟩) 0 0) [] xs (some ad) xs.length c (fun _=>True) (fun _=>False) rfl rfl ?aO ?aR (fun _ _ h=>h) (fun _ h=>h.elim) (fun _ _=>trivial) ?aB ?aS ?aL ?_;(case aO=>exact zoO w);(case aR=>exact Kd.C_alloc HR.out _);(case aB=>exact (Below.refl _ w).alloc (Nat.le_refl _) _);(case aS=>exact ((Below.refl w.heap.size w).alloc (Nat.le_refl _) _).size);(case aL=>exact HL.out);intro v1 w2 ho2 hb2 hg2 hat2;rw[List.nil_append] at ho2;have HO2:=K_ ho2;have HB2:=K_ hb2;clear ho2 hb2 hg2 hat2))
  go_ret
  exact⟨_,rfl,HO2.out,HB2.out⟩
theorem zjS (q p:Nat) (hq:q<9) (hp:p=10 ^ q):([1,10,100,1000,10000,100000,1000000,10000000,100000000]:List Int).getD q 0=(p:Int):=by
 rw[hp]
 match q,hq with
 | 0,_=>rfl
 | 1,_=>rfl
 | 2,_=>rfl
 | 3,_=>rfl
 | 4,_=>rfl
 | 5,_=>rfl
 | 6,_=>rfl
 | 7,_=>rfl
 | 8,_=>rfl
 | q+9,h=>exact absurd h (by omega)
def zcT.f (l0:List Int) (a1:Int):Option (List Int×List Int):=if jO l0=true∧l0.length≤500000∧a1≤1000000 then some (yO (zP l0 / 10 ^ a1.toNat),yO (zP l0 % 10 ^ a1.toNat)) else none
set_option maxHeartbeats 4000000 in
theorem zcT.calls (A0:Option Addr) (c0:Nat) (l0:List Int) (a1:Int) (r1 r2:List Int) (w:World) (hG:Fig.Glob w) (hr0:Kd.C (Kd.int .u32) w A0 l0.length l0) (hc0:l0.length≤c0) (h:zcT.f l0 a1=some (r1,r2)) :
  Calls Tryz.prog 108 #[.slice A0 l0.length c0,.int .i64 a1] w fun e w'=>∃ v0_ v1_:Value,e=.returned (.tuple #[v0_,v1_])∧Kd.R (Kd.int .u32) 95 w' w.heap.size (fun k_=>some k_≠(v1_:Value).ownBlock) v0_ r1∧Kd.R (Kd.int .u32) 95 w' w.heap.size (fun k_=>some k_≠(v0_:Value).ownBlock) v1_ r2∧Below w.heap.size w w':=by
 unfold zcT.f at h;by_cases hg:jO l0=true∧l0.length≤500000∧a1≤1000000
 ·rw[if_pos hg] at h
  obtain⟨rfl,rfl⟩:=Prod.mk.inj (Option.some.inj h);obtain⟨g0,z0,z1⟩:=hg;obtain⟨m,hm⟩:∃ m:Nat,m=a1.toNat:=⟨_,rfl⟩
  rw[←hm];have HR0:=K_ hr0;have HC0:=K_ hc0;have HG:=K_ hG;have G0:=K_ g0;have HT:=K_ (zaK g0 (by omega));by_cases ha:a1<0
  ·obtain rfl:m=0:=by omega
   have e0:IntKind.i64.wrap 0=0:=by rw[IntKind.wrap_i64];rfl
   have hcell:=hG.pows 0 (by omega);have hle:0≤l0.length:=by omega
   obtain⟨i0,hi0,hi1,hsz,_⟩:=info_parts qN;obtain⟨A1,hdr,hdc,hdl⟩:=zey (P:=Tryz.prog) (Value.int .u32) 0 81 95 .i64 Tryz.underlying81 hi0 hsz A0 c0 l0 0 (by omega) (by omega) hc0;obtain⟨htr,htc,htl⟩:=zbP (P:=Tryz.prog) (Value.int .u32) 0 81 95 .i64 Tryz.underlying81 hi0 hsz A0 c0 l0 0 (by omega) (by omega) hc0;rw[show (0:Int).toNat=0 from rfl] at hdr hdc hdl htr htc htl;have HCD:=K_ (Kd.C_of_reads (d:=(0:Int)) (h1:=fun _=>rfl) (hdc w (Kd.reads_of_C (enc:=Value.int .u32) (d:=(0:Int)) (h1:=fun _=>rfl) hr0)));have HCT:=K_ (Kd.C_of_reads (d:=(0:Int)) (h1:=fun _=>rfl) (htc w (Kd.reads_of_C (enc:=Value.int .u32) (d:=(0:Int)) (h1:=fun _=>rfl) hr0)));have HDL:=K_ hdl;have HTL:=K_ htl;obtain⟨p,hp⟩:∃ p:Nat,p=10 ^ 0:=⟨_,rfl⟩
   rw[zjS 0 p (by decide) hp] at hcell;obtain⟨y,hy⟩:∃ y,y=l0.drop 0:=⟨_,rfl⟩
   obtain⟨x,hx⟩:∃ x,x=l0.take 0:=⟨_,rfl⟩
   rw[←hy] at hdr HCD HDL;rw[←hx] at htr HCT HTL;have hyg:jO y=true:=by rw[hy];exact zgl g0 0
   have hxg:jO x=true:=by rw[hx];exact zdY g0 0
   have hyl:y.length≤500000:=by rw[hy,List.length_drop];omega
   have hxl:x.length=0:=by rw[hx,List.length_take];omega
   have hxy:zP l0=zP x+1000000000 ^ 0 * zP y:=by
    have e:=zaq x y;rw[hxl,hx,hy,List.take_append_drop] at e;rw[e,hx,hy]
   have hp0:0<p:=by rw[hp];exact Nat.pow_pos (by decide)
   have hp9:p<1000000000:=by rw[hp];exact Nat.lt_of_lt_of_le (Nat.pow_lt_pow_right (by decide) (show 0<9 by decide)) (by decide)
   obtain⟨k,hk⟩:=Ev.rounds (zfC hyg (by omega) hp0 hp9);have HK:=K_ hk;have HXG:=K_ hxg;have HXY:=K_ hxy;have HXL:=K_ hxl;have HPP:=K_ (And.intro hp (And.intro hp0 hp9));have hc1:w.drew.cell? ⟨0,0,none⟩=some (.int .u32 (p:Int)):=hcell;clear hr0 hc0 hG g0 h hm hdc htc hdl htl hy hx hyg hxg hyl hxl hxy hp0 hp9 hk hp;go_enter Tryz.func108,Tryz.ntmps108
   go_wp2
   go_region_law (go_simp;go_wp2_with (go_at_call 135;(with_reducible refine (uA.calls k A1 c0 y (p:Int) (yO (zP y / p)) ((zP y % p:Nat):Int) true _ ?side1 ?side2 ?side3).mono ?_);(case side1=>exact Kd.C_drew HCD.out);(case side2=>exact HDL.out);(case side3=>exact HK.out);rintro e w1 ⟨v0,rfl,ho,hb⟩;have HO:=K_ ho;have HB:=K_ hb;clear ho hb))
   have HB1:=K_ (((Below.refl w.heap.size w).drew).trans HB.out);have HLX:=K_ (show x.length≤1000000∧(x.length+1) * 4≤140737488355328∧jO (x++[((zP y % p:Nat):Int)])=true∧(x++[((zP y % p:Nat):Int)]).length≤20000000000000 by
    have h1:=HXL.out;have h2:=HPP.out;have h3:=Nat.mod_lt (zP y) h2.2.1;refine⟨by omega,by omega,vP.2 ⟨HXG.out,vR.2 ⟨by omega,rfl⟩⟩,by simp;omega⟩)
   obtain⟨l,hl⟩:∃ l,l=zP y % p:=⟨_,rfl⟩
   obtain⟨z,hz⟩:∃ z,z=x++[(l:Int)]:=⟨_,rfl⟩
   rw[←hl,←hz] at HLX;have HLL:=K_ hl;have HZ:=K_ hz;have hl2:((zP y:Int) % (p:Int))=(l:Int):=by rw[hl];rfl
   clear hl hz;go_wp2_with (first
    | (go_at_call 136;go_loud ((with_reducible refine (zfN A0 c0 x _ ?side1 ?side2).mono ?_);(case side1=>exact Kd.C_below HCT.out HB1.out);(case side2=>exact HLX.out.1);rintro e w2 ⟨v2,rfl,ho,hb⟩;have HO2:=K_ ho;have HB2:=K_ hb;clear ho hb))
    | ((with_reducible refine jH (b:=.append) (xs:=#[.tmp 39,.tmp 41]) rfl ?_);at_builtin;go_loud (refine Kd.R_append (Kd.int .u32) (w0:=w1) w1.heap.size rfl (.tmp 39) (.tmp 41) 81 95 (.int .u32 0) 4 rfl Tryz.underlying81 qN rfl (by decide) (by omega) v2 x (l:Int) [.int .u32 (l:Int)] (fun _=>True) (fun _=>False) rfl rfl rfl (fun _ hk=>hk.elim) (fun _ _=>trivial) HO2.out HB2.out HB2.out.size HLX.out.2.1 ?_;intro v3 w3 ho hb hg hat;rw[←HZ.out] at ho;obtain⟨A3,c3,rfl⟩:=Kd.R_slice ho;have HO3:=K_ ho;have HB3:=K_ hb;clear ho hb hg hat))
    | (go_at_call 91;go_loud ((with_reducible refine (uB.calls A3 c3 z (yO (zP z)) _ ?side1 ?side2 ?side3).mono ?_);(case side3=>exact zaK HLX.out.2.2.1 HLX.out.2.2.2);(case side1=>exact (Kd.R_reads' HO3.out).2.2);(case side2=>exact (Kd.R_reads' HO3.out).2.1);rintro e w4 ⟨v4,rfl,ho,hb⟩;have HO4:=K_ ho;have HB4:=K_ hb;clear ho hb)))
   have hq:=Kd.R_bound HO.out;have hr:=Kd.R_bound HO4.out;have hb14:Below w1.heap.size w1 w4:=HB3.out.trans (HB4.out.mono HB3.out.size);have hvz:zP z=zP x+1000000000 ^ 0 * l:=by
    rw[HZ.out,zaq,HXL.out];simp[zP]
   have hp1:p=1:=HPP.out.1;have hx0:zP x=0:=by have:=zca HXG.out;rw[HXL.out] at this;simpa using this
   have ed:zP l0 / 10 ^ 0=zP y / p:=by rw[HXY.out,hx0,hp1];simp
   have em:zP l0 % 10 ^ 0=zP z:=by rw[hvz,HXY.out,hx0,HLL.out,hp1];simp[Nat.mod_one]
   go_ret2
   rw[ed,em];refine⟨v0,v4,rfl,?_,?_,HB1.out.trans (hb14.mono HB1.out.size)⟩
   ·refine Kd.R_mono (Kd.R_below hq hb14) (fun k_ hk he=>?_)
    have:=hr.1 k_ he.symm
    have h3:=HB3.out.size;omega
   refine Kd.R_mono (Kd.R_lower hr (Nat.le_trans HB1.out.size HB3.out.size)) (fun k_ hk he=>?_);have:=hq.1 k_ he.symm
   have h3:=HB3.out.size;omega
  obtain rfl:a1=(m:Int):=by omega
  have hm6:m≤1000000:=by omega
  obtain⟨n9,hn9⟩:∃ n9,n9=m / 9:=⟨_,rfl⟩
  obtain⟨q9,hq9⟩:∃ q9,q9=m % 9:=⟨_,rfl⟩
  have e9:IntKind.i64.wrap ((m:Int) / 9)=(n9:Int):=by rw[IntKind.wrap_i64];omega
  have r9:(m:Int).tmod 9=(q9:Int):=by rw[Int.tmod_eq_emod_of_nonneg (by omega)];omega
  have hq:q9<9:=by omega
  have hn:n9≤200000:=by omega
  have HN9:=K_ hn9;have HQ9:=K_ hq9;have hcell:=hG.pows q9 hq;by_cases hnl:l0.length<n9
  ·have d1:decide (l0.length<n9)=true:=decide_eq_true hnl
   clear hr0 hc0 hG g0 h hm hn9 hq9 hcell;go_enter Tryz.func108,Tryz.ntmps108
   go_wp2_with (go_at_call 91;(with_reducible refine (uB.calls A0 c0 l0 (yO (zP l0)) _ ?side1 ?side2 ?side3).mono ?_);(case side3=>exact HT.out);(case side1=>exact HR0.out);(case side2=>exact HC0.out);rintro e w1 ⟨v0,rfl,ho,hb⟩;have HO:=K_ ho;have HB:=K_ hb;clear ho hb)
   have hlt:zP l0<10 ^ m:=by
    refine Nat.lt_of_lt_of_le (zca G0.out) ?_;rw[zfW];exact Nat.pow_le_pow_right (by decide) (by have:=HN9.out;omega)
   go_ret2
   refine⟨_,v0,rfl,?_,?_,HB.out⟩
   ·rw[Nat.div_eq_of_lt hlt,zeo];exact Kd.R_nil _ _ _ _ _
   rw[Nat.mod_eq_of_lt hlt];exact Kd.R_mono HO.out (fun k_ _=>by simp[Value.ownBlock])
  have d1:decide (l0.length<n9)=false:=decide_eq_false hnl;have hle:n9≤l0.length:=by omega
  obtain⟨i0,hi0,hi1,hsz,_⟩:=info_parts qN;obtain⟨A1,hdr,hdc,hdl⟩:=zey (P:=Tryz.prog) (Value.int .u32) 0 81 95 .i64 Tryz.underlying81 hi0 hsz A0 c0 l0 (n9:Int) (by omega) (by omega) hc0;obtain⟨htr,htc,htl⟩:=zbP (P:=Tryz.prog) (Value.int .u32) 0 81 95 .i64 Tryz.underlying81 hi0 hsz A0 c0 l0 (n9:Int) (by omega) (by omega) hc0;rw[Int.toNat_natCast] at hdr hdc hdl htr htc htl;have HCD:=K_ (Kd.C_of_reads (d:=(0:Int)) (h1:=fun _=>rfl) (hdc w (Kd.reads_of_C (enc:=Value.int .u32) (d:=(0:Int)) (h1:=fun _=>rfl) hr0)));have HCT:=K_ (Kd.C_of_reads (d:=(0:Int)) (h1:=fun _=>rfl) (htc w (Kd.reads_of_C (enc:=Value.int .u32) (d:=(0:Int)) (h1:=fun _=>rfl) hr0)));have HDL:=K_ hdl;have HTL:=K_ htl;obtain⟨p,hp⟩:∃ p:Nat,p=10 ^ q9:=⟨_,rfl⟩
  rw[zjS q9 p hq hp] at hcell;have hd2:((q9:Int)<9)=True:=eq_true (by omega);obtain⟨y,hy⟩:∃ y,y=l0.drop n9:=⟨_,rfl⟩
  obtain⟨x,hx⟩:∃ x,x=l0.take n9:=⟨_,rfl⟩
  rw[←hy] at hdr HCD HDL;rw[←hx] at htr HCT HTL;have hyg:jO y=true:=by rw[hy];exact zgl g0 n9
  have hxg:jO x=true:=by rw[hx];exact zdY g0 n9
  have hyl:y.length≤500000:=by rw[hy,List.length_drop];omega
  have hxl:x.length=n9:=by rw[hx,List.length_take];omega
  have hxy:zP l0=zP x+1000000000 ^ n9 * zP y:=by
   have e:=zaq x y;rw[hxl,hx,hy,List.take_append_drop] at e;rw[e,hx,hy]
  have hp0:0<p:=by rw[hp];exact Nat.pow_pos (by decide)
  have hp9:p<1000000000:=by rw[hp];exact Nat.lt_of_lt_of_le (Nat.pow_lt_pow_right (by decide) hq) (by decide)
  obtain⟨k,hk⟩:=Ev.rounds (zfC hyg (by omega) hp0 hp9);have HK:=K_ hk;have HXG:=K_ hxg;have HXY:=K_ hxy;have HXL:=K_ hxl;have HPP:=K_ (And.intro hp (And.intro hp0 hp9));have hc1:w.drew.cell? ⟨0,q9,none⟩=some (.int .u32 (p:Int)):=hcell;clear hr0 hc0 hG g0 h hm hn9 hq9 hnl hdc htc hdl htl hy hx hyg hxg hyl hxl hxy hp0 hp9 hk hp;go_enter Tryz.func108,Tryz.ntmps108
  go_wp2
  go_region_law (go_simp;go_wp2_with (go_at_call 135;(with_reducible refine (uA.calls k A1 (c0-n9) y (p:Int) (yO (zP y / p)) ((zP y % p:Nat):Int) true _ ?side1 ?side2 ?side3).mono ?_);(case side1=>exact Kd.C_drew HCD.out);(case side2=>exact HDL.out);(case side3=>exact HK.out);rintro e w1 ⟨v0,rfl,ho,hb⟩;have HO:=K_ ho;have HB:=K_ hb;clear ho hb))
  have HB1:=K_ (((Below.refl w.heap.size w).drew).trans HB.out);have HLX:=K_ (show x.length≤1000000∧(x.length+1) * 4≤140737488355328∧jO (x++[((zP y % p:Nat):Int)])=true∧(x++[((zP y % p:Nat):Int)]).length≤20000000000000 by
   have h1:=HXL.out;have h2:=HPP.out;have h3:=Nat.mod_lt (zP y) h2.2.1;refine⟨by omega,by omega,vP.2 ⟨HXG.out,vR.2 ⟨by omega,rfl⟩⟩,by simp;omega⟩)
  obtain⟨l,hl⟩:∃ l,l=zP y % p:=⟨_,rfl⟩
  obtain⟨z,hz⟩:∃ z,z=x++[(l:Int)]:=⟨_,rfl⟩
  rw[←hl,←hz] at HLX;have HLL:=K_ hl;have HZ:=K_ hz;have hl2:((zP y:Int) % (p:Int))=(l:Int):=by rw[hl];rfl
  clear hl hz;go_wp2_with (first
   | (go_at_call 136;go_loud ((with_reducible refine (zfN A0 c0 x _ ?side1 ?side2).mono ?_);(case side1=>exact Kd.C_below HCT.out HB1.out);(case side2=>exact HLX.out.1);rintro e w2 ⟨v2,rfl,ho,hb⟩;have HO2:=K_ ho;have HB2:=K_ hb;clear ho hb))
   | ((with_reducible refine jH (b:=.append) (xs:=#[.tmp 39,.tmp 41]) rfl ?_);at_builtin;go_loud (refine Kd.R_append (Kd.int .u32) (w0:=w1) w1.heap.size rfl (.tmp 39) (.tmp 41) 81 95 (.int .u32 0) 4 rfl Tryz.underlying81 qN rfl (by decide) (by omega) v2 x (l:Int) [.int .u32 (l:Int)] (fun _=>True) (fun _=>False) rfl rfl rfl (fun _ hk=>hk.elim) (fun _ _=>trivial) HO2.out HB2.out HB2.out.size HLX.out.2.1 ?_;intro v3 w3 ho hb hg hat;rw[←HZ.out] at ho;obtain⟨A3,c3,rfl⟩:=Kd.R_slice ho;have HO3:=K_ ho;have HB3:=K_ hb;clear ho hb hg hat))
   | (go_at_call 91;go_loud ((with_reducible refine (uB.calls A3 c3 z (yO (zP z)) _ ?side1 ?side2 ?side3).mono ?_);(case side3=>exact zaK HLX.out.2.2.1 HLX.out.2.2.2);(case side1=>exact (Kd.R_reads' HO3.out).2.2);(case side2=>exact (Kd.R_reads' HO3.out).2.1);rintro e w4 ⟨v4,rfl,ho,hb⟩;have HO4:=K_ ho;have HB4:=K_ hb;clear ho hb)))
  have hq:=Kd.R_bound HO.out;have hr:=Kd.R_bound HO4.out;have hb14:Below w1.heap.size w1 w4:=HB3.out.trans (HB4.out.mono HB3.out.size);have hvz:zP z=zP x+1000000000 ^ n9 * l:=by
   rw[HZ.out,zaq,HXL.out];simp[zP]
  have e1:10 ^ m=1000000000 ^ n9 * p:=by
   rw[zfW,HPP.out.1,←Nat.pow_add,HN9.out,HQ9.out,Nat.div_add_mod]
  have hxlt:zP x<1000000000 ^ n9:=by have:=zca HXG.out;rwa [HXL.out] at this
  have hB0:0<1000000000 ^ n9:=Nat.pow_pos (by decide);have ed:zP l0 / 10 ^ m=zP y / p:=by
   rw[HXY.out,e1,←Nat.div_div_eq_div_mul,Nat.add_mul_div_left _ _ hB0,Nat.div_eq_of_lt hxlt,Nat.zero_add]
  have em:zP l0 % 10 ^ m=zP z:=by
   rw[hvz,HXY.out,e1,Nat.mod_mul,Nat.add_mul_mod_self_left,Nat.mod_eq_of_lt hxlt,Nat.add_mul_div_left _ _ hB0,Nat.div_eq_of_lt hxlt,Nat.zero_add,HLL.out]
  go_ret2
  rw[ed,em];refine⟨v0,v4,rfl,?_,?_,HB1.out.trans (hb14.mono HB1.out.size)⟩
  ·refine Kd.R_mono (Kd.R_below hq hb14) (fun k_ hk he=>?_)
   have:=hr.1 k_ he.symm
   have h3:=HB3.out.size;omega
  refine Kd.R_mono (Kd.R_lower hr (Nat.le_trans HB1.out.size HB3.out.size)) (fun k_ hk he=>?_);have:=hq.1 k_ he.symm
  have h3:=HB3.out.size;omega
 rw[if_neg hg] at h;cases h
end
def qI.f (a0_0:Bool) (a0_1:ByteArray) (a0_2:Int) (a1:Int):Option (List Int×List Int):=(zdh.f a0_0 a0_1 a0_2).bind fun t444=>((zcT.f t444 (wrap64 (a1-a0_2))).bind fun bt447=>(some (bt447.1,bt447.2)))
def qI.T1:Bool×List (List Nat×List Nat):=(true,[([],[]),([0],[0]),([],[]),([],[]),([3],[3]),([2,4],[2,4]),([1,5,1],[1,5]),([6],[6]),([6],[6]),([7,6,0,1,2,3,4,5,6,7,8],[7]),([8,9,0,1,2,3,4,5,6,7,8,9],[8])])
def qI.B1:List Nat:=[0,1,0,0,8,28,63,127,127,511,1023]
theorem qI.tab1:zal .any (zgp Tryz.f82 1)=qI.T1:=by kernel_rfl
theorem qI.bits1:zbF qI.T1.2 qI.B1=true:=by kernel_rfl
set_option maxHeartbeats 8000000 in
set_option maxRecDepth 100000 in
theorem qI.calls (a0_0:Bool) (a0_1:ByteArray) (a0_2:Int) (a1:Int) (r1:List Int) (r2:List Int) (w:World) (hG:Fig.Glob w) (h:qI.f a0_0 a0_1 a0_2 a1=some (r1,r2)) :
  Calls Tryz.prog 82 #[.agg #[.bool a0_0,.string a0_1,.int .i64 a0_2],.int .i64 a1] w fun e w'=>∃ v0_ v1_:Value,e=.returned (.tuple #[v0_,v1_])∧Kd.R (Kd.int .u32) 95 w' w.heap.size (fun k_=>some k_≠(v1_:Value).ownBlock) v0_ r1∧Kd.R (Kd.int .u32) 95 w' w.heap.size (fun k_=>some k_≠(v0_:Value).ownBlock) v1_ r2∧Below w.heap.size w w':=by
 have hu23:=Tryz.underlying23;have HG:=K_ hG;clear hG;have HB:=K_ (Below.refl w.heap.size w);have H:((zdh.f a0_0 a0_1 a0_2).bind fun t444=>((zcT.f t444 (wrap64 (a1-a0_2))).bind fun bt447=>(some (bt447.1,bt447.2))))=some (r1,r2):=h;clear h;obtain⟨t444,A30,H⟩:=Option.bind_eq_some_iff.mp H
 (try dsimp -simprocs only at H)
 have A3:=K_ A30;clear A30;obtain⟨⟨t447,t448⟩,A40,H⟩:=Option.bind_eq_some_iff.mp H
 (try dsimp -simprocs only at H)
 have A4:=K_ A40;clear A40;simp only[Option.some.injEq,Prod.mk.injEq] at H
 obtain⟨rfl,rfl⟩:=H;go_enter Tryz.func82,Tryz.ntmps82
 try go_wp2_with (first|(refine be_ 2 #[.bool a0_0,.string a0_1,.int .i64 a0_2] 23 ?_;intro gb443 hg w5 hbox hb;have BK443:=K_ (hbox);have GW443:=ge_ hg HB;have GE443:=ge_ hg HB;replace HB:=zF HB hb;clear hb hbox hg))
 (try (rw[xQ w5];generalize hq_:World.drewN w5 _=w5;replace BK443:=zbt BK443 hq_;replace HB:=zde HB hq_;clear hq_))
 replace BK443:=K_ (jS BK443.out);replace HB:=K_ (yW HB.out);refine yA (n:=11) (S:=fun w'=>w'.cell? ⟨gb443,0,none⟩=some (.bool a0_0)∧w'.cell? ⟨gb443,1,none⟩=some (.string a0_1)∧w'.cell? ⟨gb443,2,none⟩=some (.int .i64 a0_2)) (ds:=[]) #[false,false,false,false,false,false,false,false,false,false,false] (by kernel_rfl) rfl rfl CE (fun hHeld=>?_);refine zch qI.tab1 qI.bits1 (fun HT_ HW_=>?_);generalize w5.drew=w6 at BK443 HB hHeld ⊢
 refine pu_ 2 (some 8) (bb 11 4) (jM HT_.out (by kernel_rfl)) ?_;refine pu_ 3 (some 9) (bb 11 12) (jM HT_.out (by kernel_rfl)) ?_;refine tk_ 0 (some 6) (bb 11 13) (zbR HT_.out HW_.out (by kernel_rfl)) hHeld ?_;refine tk_ 4 (some 10) (bb 11 29) (zbR HT_.out HW_.out (by kernel_rfl)) hHeld ?_;refine pu_ 5 (some 11) (bb 11 61) (jM HT_.out (by kernel_rfl)) ?_;refine zbq (i:=1) (N:=some 7) (bb 11 63) rfl rfl (zac HT_.out (by kernel_rfl)) (by decide) (fun K hK=>?_);refine gq_ Tryz.func76 #[.agg #[.bool a0_0,.string a0_1,.int .i64 a0_2]] ?_;with_reducible refine (zdh.calls a0_0 a0_1 a0_2 t444 _ A3.out).mono ?_
 rintro e w7 ⟨v445,rfl,ho0,hb⟩;refine⟨_,rfl,?_⟩;have HO446:=K_ (Kd.R_lower ho0 (zS (BL HB)));replace BK443:=zC BK443 hb;replace HB:=zF HB hb
 (try clear hb)
 (try clear hb2)
 (try clear hk)
 (try clear hi)
 (try clear ho0)
 obtain⟨Ao8,co8,eo8⟩:=Kd.R_slice HO446.out;(first|subst eo8|(injection eo8 with f1_ f2_ f3_;have f4_:=f1_.symm;have f5_:=f3_.symm;clear f1_ f2_ f3_;subst f4_;subst f5_))
 refine hK.out _ _ CE (fun hHeld=>?_);clear hK K;refine no_ (some 7) ?_;refine zbq (i:=6) (N:=some 12) (bb 11 127) rfl rfl (zac HT_.out (by kernel_rfl)) (by decide) (fun K hK=>?_);refine gq_ Tryz.func108 #[.slice Ao8 t444.length co8,.int .i64 (wrap64 (a1-a0_2))] ?_;with_reducible refine (zcT.calls _ _ t444 (wrap64 (a1-a0_2)) t447 t448 _ ?side1 ?side2 ?side3 A4.out).mono ?_
 (case side1=>exact Fig.Glob.below HG.out (BL HB))
 (case side2=>exact CB ((Kd.R_reads' HO446.out).2.2))
 (case side3=>exact (Kd.R_reads' HO446.out).2.1)
 rintro e w9 ⟨v449,v451,rfl,ho0,ho1,hb⟩;refine⟨_,rfl,?_⟩;have HO450:=K_ (Kd.R_lower (Kd.R_new' ho0 (Kd.R_lt (RB HO446.out))) (zS (BL HB)));have HO452:=K_ (Kd.R_lower (Kd.R_new' ho1 (Kd.R_lt (RB HO446.out))) (zS (BL HB)));replace HO446:=K_ (Kd.R_mono (Kd.R_told (Kd.R_told (Kd.R_old (RB HO446.out) hb) (Kd.R_base ho0)) (Kd.R_base ho1)) (fun _ h_=>h_.1));replace BK443:=zC BK443 hb;replace HB:=zF HB hb
 (try clear hb)
 (try clear hb2)
 (try clear hk)
 (try clear hi)
 (try clear ho0)
 (try clear ho1)
 refine hK.out _ _ CE (fun hHeld=>?_);clear hK K;refine no_ (some 12) ?_;refine pu_ 7 (some 13) (bb 11 255) (jM HT_.out (by kernel_rfl)) ?_;refine pu_ 8 (some 14) (bb 11 511) (jM HT_.out (by kernel_rfl)) ?_;refine pu_ 9 (some 4) (bb 11 1023) (jM HT_.out (by kernel_rfl)) ?_;refine pu_ 10 (some 5) (bb 11 2047) (jM HT_.out (by kernel_rfl)) ?_;refine yN (zcd HT_.out (by kernel_rfl)) ?_;try go_wp2
 go_ret2
 exact⟨_,_,ER,by (with_reducible repeat (first|apply Kd.R_alloc|apply Kd.R_drewN|apply Kd.R_drew));exact Kd.R_mono HO450.out (fun _ hk=>hk.1),by (with_reducible repeat (first|apply Kd.R_alloc|apply Kd.R_drewN|apply Kd.R_drew));exact Kd.R_mono HO452.out (fun _ hk=>hk.1),BL HB⟩
def zbd.f (a0_0:Bool) (a0_1:ByteArray) (a0_2:Int) (a1:Int):Option (Bool):=if a1≤a0_2 then (some true) else ((qI.f a0_0 a0_1 a0_2 a1).bind fun bt454=>(some ((bt454.2.length:Int)==0)))
set_option maxHeartbeats 8000000 in
set_option maxRecDepth 100000 in
theorem zbd.calls (a0_0:Bool) (a0_1:ByteArray) (a0_2:Int) (a1:Int) (r:Bool) (w:World) (hG:Fig.Glob w) (h:zbd.f a0_0 a0_1 a0_2 a1=some r) :
  Calls Tryz.prog 48 #[.agg #[.bool a0_0,.string a0_1,.int .i64 a0_2],.int .i64 a1] w fun e w'=>e=.returned (.bool r)∧Below w.heap.size w w':=by
 have hu23:=Tryz.underlying23;have HG:=K_ hG;clear hG;have HB:=K_ (Below.refl w.heap.size w);have H:(if a1≤a0_2 then (some true) else ((qI.f a0_0 a0_1 a0_2 a1).bind fun bt454=>(some ((bt454.2.length:Int)==0))))=some r:=h;clear h;by_cases c3:a1≤a0_2
 ·rw[if_pos c3] at H
  have c3b0:decide (a1≤a0_2)=true:=decide_eq_true c3;clear c3;obtain rfl:=Option.some.inj H;go_enter Tryz.func48,Tryz.ntmps48
  go_wp2_with (first|(refine be_ 2 #[.bool a0_0,.string a0_1,.int .i64 a0_2] 23 ?_;intro gb453 hg w4 hbox hb;have BK453:=K_ (hbox);have GW453:=ge_ hg HB;have GE453:=ge_ hg HB;replace HB:=zF HB hb;clear hb hbox hg;obtain⟨⟨hcz5_0,hcz5_1,hcz5_2⟩,hfz5_0,hfz5_1,hfz5_2⟩:=ce3 BK453))
  go_ret
  exact⟨ER,BL HB⟩
 rw[if_neg c3] at H;have c3b0:decide (a1≤a0_2)=false:=decide_eq_false c3;clear c3;obtain⟨⟨t454,t457⟩,A60,H⟩:=Option.bind_eq_some_iff.mp H
 (try dsimp -simprocs only at H)
 have A6:=K_ A60;clear A60;obtain rfl:=Option.some.inj H;go_enter Tryz.func48,Tryz.ntmps48
 go_wp2_with (first|(refine be_ 2 #[.bool a0_0,.string a0_1,.int .i64 a0_2] 23 ?_;intro gb453 hg w7 hbox hb;have BK453:=K_ (hbox);have GW453:=ge_ hg HB;have GE453:=ge_ hg HB;replace HB:=zF HB hb;clear hb hbox hg;obtain⟨⟨hcz8_0,hcz8_1,hcz8_2⟩,hfz8_0,hfz8_1,hfz8_2⟩:=ce3 BK453)|((with_reducible refine zK (f:=82) rfl ?_);refine zW (some 14) rfl rfl Tryz.func82 (by kernel_rfl) rfl #[.agg #[.bool a0_0,.string a0_1,.int .i64 a0_2],.int .i64 a1] rfl MP ?_;(with_reducible refine (qI.calls a0_0 a0_1 a0_2 a1 t454 t457 _ ?side1 A6.out).mono ?_);(case side1=>exact Fig.Glob.below HG.out (BL HB));rintro e w9 ⟨v455,v458,rfl,ho0,ho1,hb⟩;refine⟨_,rfl,?_⟩;have HO456:=K_ (Kd.R_lower ho0 (zS (BL HB)));have HO459:=K_ (Kd.R_lower ho1 (zS (BL HB)));replace BK453:=zC BK453 hb;replace HB:=zF HB hb;(try clear hb);(try clear hb2);(try clear hk);(try clear hi);(try clear ho0);(try clear ho1);obtain⟨Ao10,co10,eo10⟩:=Kd.R_slice HO459.out;subst eo10))
 go_ret
 exact⟨ER,BL HB⟩
def xN.j0:Nat→Int→List Int→Bool→Bool→ByteArray→Int→Option (Bool×ByteArray×Int×Int)
 | 0,_,_,_,_,_,_=>none
 | k+1,x2,x8,x56,x461000,x461001,x461002=>if x56=true then ((zbE.f x8 (([1]:List Int))).bind fun t489=>((zbe.f t489).bind fun t492=>((vH.f x461000 t492 x2).bind fun bt493=>(some (bt493.1,bt493.2.1,bt493.2.2,0))))) else ((zbe.f x8).bind fun t496=>((vH.f x461000 t496 x2).bind fun bt497=>(some (bt497.1,bt497.2.1,bt497.2.2,0))))
def xN.f (k:Nat) (a0:Int) (a1_0:Bool) (a1_1:ByteArray) (a1_2:Int) (a2:Int):Option (Bool×ByteArray×Int×Int):=(xK.f a0).bind fun t462=>(if t462=true then ((zbd.f a1_0 a1_1 a1_2 a2).bind fun t463=>(if t463=true then ((vH.f a1_0 a1_1 a1_2).bind fun bt464=>(some (bt464.1,bt464.2.1,bt464.2.2,0))) else (if a0=7 then (some (false,(⟨#[]⟩:ByteArray),0,11)) else ((qI.f a1_0 a1_1 a1_2 a2).bind fun bt467=>((zbE.f bt467.2 bt467.2).bind fun t473=>((zcC.f (([1]:List Int)) (wrap64 (a2-a1_2))).bind fun t479=>((zdI.f t473 t479).bind fun t482=>(if (bt467.1.length:Int)>0 then (if 0<(bt467.1.length:Int) then ((zbu.f a0 a1_0 ((Int.tmod (rd bt467.1 0) 2)==1) t482).bind fun t484=>(xN.j0 k a2 bt467.1 t484 a1_0 a1_1 a1_2)) else (none)) else ((zbu.f a0 a1_0 false t482).bind fun t485=>(xN.j0 k a2 bt467.1 t485 a1_0 a1_1 a1_2)))))))))) else (some (false,(⟨#[]⟩:ByteArray),0,1)))
set_option maxHeartbeats 8000000 in
set_option maxRecDepth 100000 in
theorem xN.calls (k:Nat) (m:Int) (b:Bool) (s:ByteArray) (e:Int) (p:Int) (r1:Bool) (r2:ByteArray) (r3:Int) (r4:Int) (w:World) (hG:Fig.Glob w) (h:xN.f k m b s e p=some (r1,r2,r3,r4)) :
  Calls Tryz.prog 63 #[.int .i64 m,.agg #[.bool b,.string s,.int .i64 e],.int .i64 p] w fun e w'=>e=.returned (.tuple #[.agg #[.bool r1,.string r2,.int .i64 r3],.int .i64 r4])∧Below w.heap.size w w':=by
 unfold xN.f at h;have HB:=K_ (Below.refl w.heap.size w);have HG:=K_ hG;clear hG;obtain⟨t1,A1,h⟩:=Option.bind_eq_some_iff.mp h;try dsimp -simprocs only at h
 replace A1:=K_ A1;cases t1
 ·rw[if_neg (by decide)] at h
  simp only[Option.some.injEq,Prod.mk.injEq] at h
  obtain⟨rfl,rfl,rfl,rfl⟩:=h;go_enter Tryz.func63,Tryz.ntmps63
  go_wp2_with (first|((with_reducible refine zE (N:=4) rfl ?_);refine bx_ 4 (#[.bool b,.string s,.int .i64 e]) 23 ?_ rfl rfl rfl rfl rfl;intro g4 hg w2 hbox hb;have BK4:=K_ hbox;have GE4:=ge_ hg HB;replace HB:=zF HB hb;clear hb hbox hg)|((with_reducible refine zE (N:=6) rfl ?_);refine be_ 6 (#[.bool false,.string (⟨#[]⟩:ByteArray),.int .i64 0]) 23 ?_;intro g6 hg w2 hbox hb;have BK6:=K_ hbox;have GE6:=ge_ hg HB;have NB4_6:=nb_ hg BK4;replace BK4:=zC BK4 hb;replace HB:=zF HB hb;clear hb hbox hg)|(go_at_call 32;refine (xK.calls m _ _ A1.out).mono ?_;rintro e9 w' ⟨rfl,⟨nd,rfl⟩⟩)|((with_reducible refine zY (p:=6) rfl ?_);refine so_ (g:=g6) (cs:=#[.bool false,.string (⟨#[]⟩:ByteArray),.int .i64 0]) (#[.bool false,.string (⟨#[]⟩:ByteArray),.int .i64 0]) ⟨BK BK6⟩ ?_ rfl rfl rfl rfl rfl zbG rfl rfl;intro w9 hbk hfar hbel;replace BK4:=K_ (hfar _ _ (by first|exact NB4_6.out|exact Ne.symm NB6_4.out) (BK BK4));replace BK6:=K_ hbk;replace HB:=K_ (hbel _ _ GE6.out (BL HB));clear hbk hfar hbel))
  refine bodyPost_ret (jE rfl _ _ g6 23 #[.bool false,.string (⟨#[]⟩:ByteArray),.int .i64 0] (0,0) _ rfl BK6.out Tryz.underlying23 rfl zbG) rfl ?_;exact⟨rfl,BL HB⟩
 rw[if_pos rfl] at h;obtain⟨t2,A2,h⟩:=Option.bind_eq_some_iff.mp h;try dsimp -simprocs only at h
 replace A2:=K_ A2;cases t2
 case true =>
  rw[if_pos rfl] at h;obtain⟨⟨n1,n2,n3⟩,A3,h⟩:=Option.bind_eq_some_iff.mp h;try dsimp -simprocs only at h
  replace A3:=K_ A3;simp only[Option.some.injEq,Prod.mk.injEq] at h
  obtain⟨rfl,rfl,rfl,rfl⟩:=h;go_enter Tryz.func63,Tryz.ntmps63
  go_wp2_with (first|((with_reducible refine zE (N:=4) rfl ?_);refine bx_ 4 (#[.bool b,.string s,.int .i64 e]) 23 ?_ rfl rfl rfl rfl rfl;intro g4 hg w2 hbox hb;have BK4:=K_ hbox;have GE4:=ge_ hg HB;replace HB:=zF HB hb;clear hb hbox hg)|((with_reducible refine zE (N:=6) rfl ?_);refine be_ 6 (#[.bool false,.string (⟨#[]⟩:ByteArray),.int .i64 0]) 23 ?_;intro g6 hg w2 hbox hb;have BK6:=K_ hbox;have GE6:=ge_ hg HB;have NB4_6:=nb_ hg BK4;replace BK4:=zC BK4 hb;replace HB:=zF HB hb;clear hb hbox hg)|(go_at_call 32;refine (xK.calls m _ _ A1.out).mono ?_;rintro e9 w' ⟨rfl,⟨nd,rfl⟩⟩)|((with_reducible refine zE (N:=17) rfl ?_);refine lo_ (g:=g4) (cs:=#[.bool b,.string s,.int .i64 e]) _ ⟨BK BK4⟩ ?_ rfl rfl rfl Tryz.underlying23 rfl zbG)|(go_at_call 48;refine (zbd.calls b s e p _ _ (Fig.Glob.below HG.out (BL HB)) A2.out).mono ?_;rintro e9 w' ⟨rfl,hb⟩;replace HB:=zF HB hb;replace BK4:=zC BK4 hb;replace BK6:=zC BK6 hb;clear hb)|((with_reducible refine zE (N:=20) rfl ?_);refine lo_ (g:=g4) (cs:=#[.bool b,.string s,.int .i64 e]) _ ⟨BK BK4⟩ ?_ rfl rfl rfl Tryz.underlying23 rfl zbG)|(go_at_call 59;refine (vH.calls b s e n1 n2 n3 _ A3.out).mono ?_;rintro e9 w' ⟨rfl,hb⟩;replace HB:=zF HB hb;replace BK4:=zC BK4 hb;replace BK6:=zC BK6 hb;clear hb)|((with_reducible refine zY (p:=6) rfl ?_);refine so_ (g:=g6) (cs:=#[.bool false,.string (⟨#[]⟩:ByteArray),.int .i64 0]) (#[.bool n1,.string n2,.int .i64 n3]) ⟨BK BK6⟩ ?_ rfl rfl rfl rfl rfl zbG rfl rfl;intro w9 hbk hfar hbel;replace BK4:=K_ (hfar _ _ (by first|exact NB4_6.out|exact Ne.symm NB6_4.out) (BK BK4));replace BK6:=K_ hbk;replace HB:=K_ (hbel _ _ GE6.out (BL HB));clear hbk hfar hbel))
  refine bodyPost_ret (jE rfl _ _ g6 23 #[.bool n1,.string n2,.int .i64 n3] (0,0) _ rfl BK6.out Tryz.underlying23 rfl zbG) rfl ?_;exact⟨rfl,BL HB⟩
 rw[if_neg (by decide)] at h;by_cases h7:m=7
 ·rw[if_pos h7] at h
  have d7:(m==7)=true:=beq_iff_eq.2 h7;clear h7;simp only[Option.some.injEq,Prod.mk.injEq] at h
  obtain⟨rfl,rfl,rfl,rfl⟩:=h;go_enter Tryz.func63,Tryz.ntmps63
  go_wp2_with (first|((with_reducible refine zE (N:=4) rfl ?_);refine bx_ 4 (#[.bool b,.string s,.int .i64 e]) 23 ?_ rfl rfl rfl rfl rfl;intro g4 hg w2 hbox hb;have BK4:=K_ hbox;have GE4:=ge_ hg HB;replace HB:=zF HB hb;clear hb hbox hg)|((with_reducible refine zE (N:=6) rfl ?_);refine be_ 6 (#[.bool false,.string (⟨#[]⟩:ByteArray),.int .i64 0]) 23 ?_;intro g6 hg w2 hbox hb;have BK6:=K_ hbox;have GE6:=ge_ hg HB;have NB4_6:=nb_ hg BK4;replace BK4:=zC BK4 hb;replace HB:=zF HB hb;clear hb hbox hg)|(go_at_call 32;refine (xK.calls m _ _ A1.out).mono ?_;rintro e9 w' ⟨rfl,⟨nd,rfl⟩⟩)|((with_reducible refine zE (N:=17) rfl ?_);refine lo_ (g:=g4) (cs:=#[.bool b,.string s,.int .i64 e]) _ ⟨BK BK4⟩ ?_ rfl rfl rfl Tryz.underlying23 rfl zbG)|(go_at_call 48;refine (zbd.calls b s e p _ _ (Fig.Glob.below HG.out (BL HB)) A2.out).mono ?_;rintro e9 w' ⟨rfl,hb⟩;replace HB:=zF HB hb;replace BK4:=zC BK4 hb;replace BK6:=zC BK6 hb;clear hb)|((with_reducible refine zY (p:=6) rfl ?_);refine so_ (g:=g6) (cs:=#[.bool false,.string (⟨#[]⟩:ByteArray),.int .i64 0]) (#[.bool false,.string (⟨#[]⟩:ByteArray),.int .i64 0]) ⟨BK BK6⟩ ?_ rfl rfl rfl rfl rfl zbG rfl rfl;intro w9 hbk hfar hbel;replace BK4:=K_ (hfar _ _ (by first|exact NB4_6.out|exact Ne.symm NB6_4.out) (BK BK4));replace BK6:=K_ hbk;replace HB:=K_ (hbel _ _ GE6.out (BL HB));clear hbk hfar hbel))
  refine bodyPost_ret (jE rfl _ _ g6 23 #[.bool false,.string (⟨#[]⟩:ByteArray),.int .i64 0] (0,0) _ rfl BK6.out Tryz.underlying23 rfl zbG) rfl ?_;exact⟨rfl,BL HB⟩
 rw[if_neg h7] at h;have d7:(m==7)=false:=beq_eq_false_iff_ne.2 h7;obtain⟨⟨l1,l2⟩,A3,h⟩:=Option.bind_eq_some_iff.mp h;try dsimp -simprocs only at h
 replace A3:=K_ A3;obtain⟨t3,A4,h⟩:=Option.bind_eq_some_iff.mp h;try dsimp -simprocs only at h
 replace A4:=K_ A4;obtain⟨t4,A5,h⟩:=Option.bind_eq_some_iff.mp h;try dsimp -simprocs only at h
 replace A5:=K_ A5;obtain⟨t5,A6,h⟩:=Option.bind_eq_some_iff.mp h;try dsimp -simprocs only at h
 replace A6:=K_ A6;have hj:∃ u:Bool,Aside0 (zbu.f m b (if (l1.length:Int)>0 then ((Int.tmod (rd l1 0) 2)==1) else false) t5=some u)∧Aside0 (xN.j0 k p l1 u b s e=some (r1,r2,r3,r4)):=by
  by_cases hl:(l1.length:Int)>0
  ·rw[if_pos hl,if_pos hl] at h
   obtain⟨u,a,h⟩:=Option.bind_eq_some_iff.mp h;exact⟨u,⟨by rw[if_pos hl];exact a⟩,⟨h⟩⟩
  rw[if_neg hl] at h;obtain⟨u,a,h⟩:=Option.bind_eq_some_iff.mp h;exact⟨u,⟨by rw[if_neg hl];exact a⟩,⟨h⟩⟩
 clear h;obtain⟨u,A7,HJ⟩:=hj;go_enter Tryz.func63,Tryz.ntmps63
 go_upto_region 8 with (first|((with_reducible refine zE (N:=4) rfl ?_);refine bx_ 4 (#[.bool b,.string s,.int .i64 e]) 23 ?_ rfl rfl rfl rfl rfl;intro g4 hg w2 hbox hb;have BK4:=K_ hbox;have GE4:=ge_ hg HB;replace HB:=zF HB hb;clear hb hbox hg)|((with_reducible refine zE (N:=6) rfl ?_);refine be_ 6 (#[.bool false,.string (⟨#[]⟩:ByteArray),.int .i64 0]) 23 ?_;intro g6 hg w2 hbox hb;have BK6:=K_ hbox;have GE6:=ge_ hg HB;have NB4_6:=nb_ hg BK4;replace BK4:=zC BK4 hb;replace HB:=zF HB hb;clear hb hbox hg)|(go_at_call 32;refine (xK.calls m _ _ A1.out).mono ?_;rintro e9 w' ⟨rfl,⟨nd,rfl⟩⟩)|((with_reducible refine zE (N:=17) rfl ?_);refine lo_ (g:=g4) (cs:=#[.bool b,.string s,.int .i64 e]) _ ⟨BK BK4⟩ ?_ rfl rfl rfl Tryz.underlying23 rfl zbG)|(go_at_call 48;refine (zbd.calls b s e p _ _ (Fig.Glob.below HG.out (BL HB)) A2.out).mono ?_;rintro e9 w' ⟨rfl,hb⟩;replace HB:=zF HB hb;replace BK4:=zC BK4 hb;replace BK6:=zC BK6 hb;clear hb)|((with_reducible refine zE (N:=27) rfl ?_);refine lo_ (g:=g4) (cs:=#[.bool b,.string s,.int .i64 e]) _ ⟨BK BK4⟩ ?_ rfl rfl rfl Tryz.underlying23 rfl zbG)|(go_at_call 82;refine (qI.calls b s e p l1 l2 _ (Fig.Glob.below HG.out (BL HB)) A3.out).mono ?_;rintro e9 w' ⟨v0,v1,rfl,ho1,ho2,hb⟩;obtain⟨A8,c8,rfl⟩:=Kd.R_slice ho1;obtain⟨A9,c9,rfl⟩:=Kd.R_slice ho2;have HC8:=K_ (slc ho1);have HC9:=K_ (slc ho2);replace HB:=zF HB hb;replace BK4:=zC BK4 hb;replace BK6:=zC BK6 hb;clear hb ho1 ho2))
 refine yA (n:=11) (S:=fun W=>W.cell? ⟨g4,2,none⟩=some (.int .i64 e)) (ds:=[]) #[false,false,false,false,false,false,false,false,false,false,false] (by kernel_rfl) rfl rfl ((zA (BK BK4) 2).trans rfl) (fun hHeld=>?_);refine jG (fun W=>W.heap[g4]?=some (.cells #[.bool b,.string s,.int .i64 e] 23 (0,0))∧W.heap[g6]?=some (.cells #[.bool false,.string (⟨#[]⟩:ByteArray),.int .i64 0] 23 (0,0))∧SLc W A8 c8 l1∧SLc W A9 c9 l2∧Below w.heap.size w W) ⟨BK BK4,BK BK6,HC8.out.below (zbC (Below.refl _ _)),HC9.out.below (zbC (Below.refl _ _)),BL HB⟩ ?_;clear hHeld BK4 BK6 HC8 HC9 HB;rintro W ⟨hBK4,hBK6,hHC8,hHC9,hHB⟩;have BK4:=K_ hBK4;have BK6:=K_ hBK6;have HC8:=K_ hHC8;have HC9:=K_ hHC9;have HB:=K_ hHB;clear hBK4 hBK6 hHC8 hHC9 hHB;have hHeld:=(show W.cell? ⟨g4,2,none⟩=some (.int .i64 e) from ((zA BK4.out 2).trans rfl))
 refine pw_ 0 32 #[true,false,false,false,false,false,false,false,false,false,false] ?_;refine pw_ 1 33 #[true,true,false,false,false,false,false,false,false,false,false] ?_;refine pw_ 4 36 #[true,true,false,false,true,false,false,false,false,false,false] ?_;refine pw_ 5 37 #[true,true,false,false,true,true,false,false,false,false,false] ?_;refine tw_ 6 38 #[true,true,false,false,true,true,true,false,false,false,false] hHeld ?_;refine pw_ 7 39 #[true,true,false,false,true,true,true,true,false,false,false] ?_;refine zaC (σ:=Option Addr×Nat×Nat×Option Addr×Nat) 0 #[true,true,true,true,true,true,true,true,true,true,true] (fun s_=>[(34,(.slice s_.1 t3.length s_.2.1)),(35,(.slice (some ⟨s_.2.2.1,0,none⟩) 1 1)),(40,(.slice s_.2.2.2.1 t4.length s_.2.2.2.2)),(41,(.int .i64 t5)),(10,(.int .i64 t5))]) (fun s_ W=>SLc W s_.1 s_.2.1 t3∧W.heap[s_.2.2.1]?=some (.cells (#[.int .u32 1]) 95 (0,0))∧SLc W s_.2.2.2.1 s_.2.2.2.2 t4∧W.heap[g4]?=some (.cells (#[.bool b,.string s,.int .i64 e]) 23 (0,0))∧W.heap[g6]?=some (.cells (#[.bool false,.string (⟨#[]⟩:ByteArray),.int .i64 0]) 23 (0,0))∧SLc W A8 c8 l1∧SLc W A9 c9 l2∧Below w.heap.size w W) ?hcj ?hrj
 case hrj =>
  intro J_2_3_8_9;refine zaC (σ:=Option Addr×Nat×Nat×Option Addr×Nat) 2 #[true,true,true,true,true,true,true,true,true,false,false] (fun s_=>[(34,(.slice s_.1 t3.length s_.2.1)),(35,(.slice (some ⟨s_.2.2.1,0,none⟩) 1 1)),(40,(.slice s_.2.2.2.1 t4.length s_.2.2.2.2))]) (fun s_ W=>SLc W s_.1 s_.2.1 t3∧W.heap[s_.2.2.1]?=some (.cells (#[.int .u32 1]) 95 (0,0))∧SLc W s_.2.2.2.1 s_.2.2.2.2 t4∧W.heap[g4]?=some (.cells (#[.bool b,.string s,.int .i64 e]) 23 (0,0))∧W.heap[g6]?=some (.cells (#[.bool false,.string (⟨#[]⟩:ByteArray),.int .i64 0]) 23 (0,0))∧SLc W A8 c8 l1∧SLc W A9 c9 l2∧Below w.heap.size w W) ?_ ?_
  ·skip
   clear hHeld;rintro⟨A34,c34,g35,A40,c40⟩ W8 ⟨hHC34,hBK35,hHC40,hBK4,hBK6,hHC8,hHC9,hHB⟩;have HC34:=K_ hHC34;have BK35:=K_ hBK35;have HC40:=K_ hHC40;have BK4:=K_ hBK4;have BK6:=K_ hBK6;have HC8:=K_ hHC8;have HC9:=K_ hHC9;have HB:=K_ hHB;clear hHC34 hBK35 hHC40 hBK4 hBK6 hHC8 hHC9 hHB;refine np_ ?_;refine on_ 9 (some 41) #[true,true,true,true,true,true,true,true,true,true,false] (fun K hK=>?_);refine gq_ Tryz.func78 #[.slice A34 t3.length c34,.slice A40 t4.length c40] ?_;refine (zdI.calls A34 c34 t3 A40 c40 t4 t5 _ HC34.out.1 HC34.out.2 HC40.out.1 HC40.out.2 A6.out).mono ?_;rintro e9 w' ⟨rfl,hd9⟩;have hb:=zjD hd9;refine⟨_,rfl,?_⟩;replace HC34:=K_ (HC34.out.below hb);replace BK35:=zC BK35 hb;replace HC40:=K_ (HC40.out.below hb);replace BK4:=zC BK4 hb;replace BK6:=zC BK6 hb;replace HC8:=K_ (HC8.out.below hb);replace HC9:=K_ (HC9.out.below hb);replace HB:=zF HB hb;clear hb hd9;refine hK.out _ _ ((zA BK4.out 2).trans rfl) (fun hHeld=>?_);clear hK K;refine no_ (some 41) ?_;refine pw_ 10 10 #[true,true,true,true,true,true,true,true,true,true,true] ?_;exact nj_ (J_2_3_8_9 (A34,c34,g35,A40,c40) _ ⟨HC34.out,BK35.out,HC40.out,BK4.out,BK6.out,HC8.out,HC9.out,HB.out⟩)
  intro J_2_3_8;refine zaC (σ:=Option Addr×Nat×Nat) 3 #[true,true,true,true,true,true,true,true,false,false,false] (fun s_=>[(34,(.slice s_.1 t3.length s_.2.1)),(35,(.slice (some ⟨s_.2.2,0,none⟩) 1 1))]) (fun s_ W=>SLc W s_.1 s_.2.1 t3∧W.heap[s_.2.2]?=some (.cells (#[.int .u32 1]) 95 (0,0))∧W.heap[g4]?=some (.cells (#[.bool b,.string s,.int .i64 e]) 23 (0,0))∧W.heap[g6]?=some (.cells (#[.bool false,.string (⟨#[]⟩:ByteArray),.int .i64 0]) 23 (0,0))∧SLc W A8 c8 l1∧SLc W A9 c9 l2∧Below w.heap.size w W) ?_ ?_
  ·skip
   clear hHeld;rintro⟨A34,c34,g35⟩ W8 ⟨hHC34,hBK35,hBK4,hBK6,hHC8,hHC9,hHB⟩;have HC34:=K_ hHC34;have BK35:=K_ hBK35;have BK4:=K_ hBK4;have BK6:=K_ hBK6;have HC8:=K_ hHC8;have HC9:=K_ hHC9;have HB:=K_ hHB;clear hHC34 hBK35 hBK4 hBK6 hHC8 hHC9 hHB;refine np_ ?_;refine on_ 8 (some 40) #[true,true,true,true,true,true,true,true,true,false,false] (fun K hK=>?_);refine gq_ Tryz.func74 #[.slice (some ⟨g35,0,none⟩) 1 1,.int .i64 (wrap64 (p-e))] ?_;refine (zcC.calls (some ⟨g35,0,none⟩) 1 [1] (wrap64 (p-e)) t4 _ (Fig.Glob.below HG.out HB.out) (zjY BK35.out).1 (Nat.le_refl _) A5.out).mono ?_;rintro e9 w' ⟨v9,rfl,ho,hb⟩;obtain⟨A40,c40,rfl⟩:=Kd.R_slice ho;have HC40:=K_ (slc ho);refine⟨_,rfl,?_⟩;replace HC34:=K_ (HC34.out.below hb);replace BK35:=zC BK35 hb;replace BK4:=zC BK4 hb;replace BK6:=zC BK6 hb;replace HC8:=K_ (HC8.out.below hb);replace HC9:=K_ (HC9.out.below hb);replace HB:=zF HB hb;clear hb ho;refine hK.out _ _ ((zA BK4.out 2).trans rfl) (fun hHeld=>?_);clear hK K;refine no_ (some 40) ?_;exact nj_ (J_2_3_8 (A34,c34,g35,A40,c40) _ ⟨HC34.out,BK35.out,HC40.out,BK4.out,BK6.out,HC8.out,HC9.out,HB.out⟩)
  intro J_2_3;refine zaC (σ:=Option Addr×Nat) 4 #[true,true,true,false,true,true,true,true,false,false,false] (fun s_=>[(34,(.slice s_.1 t3.length s_.2))]) (fun s_ W=>SLc W s_.1 s_.2 t3∧W.heap[g4]?=some (.cells (#[.bool b,.string s,.int .i64 e]) 23 (0,0))∧W.heap[g6]?=some (.cells (#[.bool false,.string (⟨#[]⟩:ByteArray),.int .i64 0]) 23 (0,0))∧SLc W A8 c8 l1∧SLc W A9 c9 l2∧Below w.heap.size w W) ?_ ?_
  ·skip
   clear hHeld;rintro⟨A34,c34⟩ W8 ⟨hHC34,hBK4,hBK6,hHC8,hHC9,hHB⟩;have HC34:=K_ hHC34;have BK4:=K_ hBK4;have BK6:=K_ hBK6;have HC8:=K_ hHC8;have HC9:=K_ hHC9;have HB:=K_ hHB;clear hHC34 hBK4 hBK6 hHC8 hHC9 hHB;refine np_ ?_;refine on_ 3 (some 35) #[true,true,true,true,true,true,true,true,false,false,false] (fun K hK=>?_);refine zhu ?hg (N:=35) ?hd ?hr ?_;(case hd=>rfl);(case hg=>rfl);(case hr=>first|(go_simp;done)|(go_simp;rfl));intro g35 hg w' hbox hb;have BK35:=K_ hbox;replace HC34:=K_ (HC34.out.below hb);replace BK4:=zC BK4 hb;replace BK6:=zC BK6 hb;replace HC8:=K_ (HC8.out.below hb);replace HC9:=K_ (HC9.out.below hb);replace HB:=zF HB hb;clear hb hbox hg;refine hK.out _ _ ((zA BK4.out 2).trans rfl) (fun hHeld=>?_);clear hK K;refine no_ (some 35) ?_;exact nj_ (J_2_3 (A34,c34,g35) _ ⟨HC34.out,BK35.out,BK4.out,BK6.out,HC8.out,HC9.out,HB.out⟩)
  intro J_2;refine zaC (σ:=Nat) 4 #[true,true,false,true,true,true,true,true,false,false,false] (fun s_=>[(35,(.slice (some ⟨s_,0,none⟩) 1 1))]) (fun s_ W=>W.heap[s_]?=some (.cells (#[.int .u32 1]) 95 (0,0))∧W.heap[g4]?=some (.cells (#[.bool b,.string s,.int .i64 e]) 23 (0,0))∧W.heap[g6]?=some (.cells (#[.bool false,.string (⟨#[]⟩:ByteArray),.int .i64 0]) 23 (0,0))∧SLc W A8 c8 l1∧SLc W A9 c9 l2∧Below w.heap.size w W) ?_ ?_
  ·skip
   clear hHeld;rintro g35 W8 ⟨hBK35,hBK4,hBK6,hHC8,hHC9,hHB⟩;have BK35:=K_ hBK35;have BK4:=K_ hBK4;have BK6:=K_ hBK6;have HC8:=K_ hHC8;have HC9:=K_ hHC9;have HB:=K_ hHB;clear hBK35 hBK4 hBK6 hHC8 hHC9 hHB;refine np_ ?_;refine on_ 2 (some 34) #[true,true,true,true,true,true,true,true,false,false,false] (fun K hK=>?_);refine gq_ Tryz.func79 #[.slice A9 l2.length c9,.slice A9 l2.length c9] ?_;refine (zbE.calls A9 c9 l2 A9 c9 l2 t3 _ HC9.out.1 HC9.out.2 HC9.out.1 HC9.out.2 A4.out).mono ?_;rintro e9 w' ⟨v9,rfl,ho,hb⟩;obtain⟨A34,c34,rfl⟩:=Kd.R_slice ho;have HC34:=K_ (slc ho);refine⟨_,rfl,?_⟩;replace BK35:=zC BK35 hb;replace BK4:=zC BK4 hb;replace BK6:=zC BK6 hb;replace HC8:=K_ (HC8.out.below hb);replace HC9:=K_ (HC9.out.below hb);replace HB:=zF HB hb;clear hb ho;refine hK.out _ _ ((zA BK4.out 2).trans rfl) (fun hHeld=>?_);clear hK K;refine no_ (some 34) ?_;exact nj_ (J_2_3 (A34,c34,g35) _ ⟨HC34.out,BK35.out,BK4.out,BK6.out,HC8.out,HC9.out,HB.out⟩)
  intro J_3;clear hHeld;refine zcJ (i:=2) (j:=3) (Ni:=some 34) (Nj:=some 35) #[true,true,true,false,true,true,true,true,false,false,false] #[true,true,false,true,true,true,true,true,false,false,false] rfl rfl rfl rfl (by kernel_rfl) (by decide) (by decide) (fun K hK=>?_) (fun K hK=>?_)
  ·skip
   refine gq_ Tryz.func79 #[.slice A9 l2.length c9,.slice A9 l2.length c9] ?_;refine (zbE.calls A9 c9 l2 A9 c9 l2 t3 _ HC9.out.1 HC9.out.2 HC9.out.1 HC9.out.2 A4.out).mono ?_;rintro e9 w' ⟨v9,rfl,ho,hb⟩;obtain⟨A34,c34,rfl⟩:=Kd.R_slice ho;have HC34:=K_ (slc ho);refine⟨_,rfl,?_⟩;replace BK4:=zC BK4 hb;replace BK6:=zC BK6 hb;replace HC8:=K_ (HC8.out.below hb);replace HC9:=K_ (HC9.out.below hb);replace HB:=zF HB hb;clear hb ho;refine hK.out _ _ ((zA BK4.out 2).trans rfl) (fun hHeld=>?_);clear hK K;refine no_ (some 34) ?_;exact nj_ (J_2 (A34,c34) _ ⟨HC34.out,BK4.out,BK6.out,HC8.out,HC9.out,HB.out⟩)
  skip
  refine zhu ?hg (N:=35) ?hd ?hr ?_;(case hd=>rfl);(case hg=>rfl);(case hr=>first|(go_simp;done)|(go_simp;rfl));intro g35 hg w' hbox hb;have BK35:=K_ hbox;replace BK4:=zC BK4 hb;replace BK6:=zC BK6 hb;replace HC8:=K_ (HC8.out.below hb);replace HC9:=K_ (HC9.out.below hb);replace HB:=zF HB hb;clear hb hbox hg;refine hK.out _ _ ((zA BK4.out 2).trans rfl) (fun hHeld=>?_);clear hK K;refine no_ (some 35) ?_;exact nj_ (J_3 g35 _ ⟨BK35.out,BK4.out,BK6.out,HC8.out,HC9.out,HB.out⟩)
 case hcj =>
  clear hHeld;rintro⟨A34,c34,g35,A40,c40⟩ W8 ⟨hHC34,hBK35,hHC40,hBK4,hBK6,hHC8,hHC9,hHB⟩;have HC34:=K_ hHC34;have BK35:=K_ hBK35;have HC40:=K_ hHC40;have BK4:=K_ hBK4;have BK6:=K_ hBK6;have HC8:=K_ hHC8;have HC9:=K_ hHC9;have HB:=K_ hHB;clear hHC34 hBK35 hHC40 hBK4 hBK6 hHC8 hHC9 hHB;refine np_ ?_;refine yN (by kernel_rfl) ?_;go_upto_region 9 with (fail)
  go_cut [56] from 42 to 56 (fun v56 wx=>v56=.bool u∧wx.heap[g4]?=some (.cells #[.bool b,.string s,.int .i64 e] 23 (0,0))∧wx.heap[g6]?=some (.cells #[.bool false,.string (⟨#[]⟩:ByteArray),.int .i64 0] 23 (0,0))∧SLc wx A8 c8 l1∧Below w.heap.size w wx)
  case first =>
   by_cases hl:(l1.length:Int)>0
   ·have dl:decide (0<l1.length)=true:=decide_eq_true (by omega)
    rw[if_pos hl] at A7;have qi:(0<l1.length)=True:=eq_true (by omega);obtain⟨ad,rfl,hcell⟩:=Kd.at_int (HC8.out.below (zbC (Below.refl _ _))).1 0 (by omega) (by omega);rw[show ((0:Int)).toNat=0 from rfl,Addr.add_zero'] at hcell;clear hl;refine yA (n:=15) (S:=fun W=>W.cell? ⟨g4,0,none⟩=some (.bool b)∧W.cell? ad=some (.int .u32 (rd l1 0))) (ds:=[]) #[false,false,false,false,false,false,false,false,false,false,false,false,false,false,false] (by kernel_rfl) rfl rfl ⟨(zA (BK BK4) 0).trans rfl,hcell⟩ (fun hHeld=>?_);refine pw_ 0 42 #[true,false,false,false,false,false,false,false,false,false,false,false,false,false,false] ?_;refine pw_ 1 43 #[true,true,false,false,false,false,false,false,false,false,false,false,false,false,false] ?_;refine tw_ 2 44 #[true,true,true,false,false,false,false,false,false,false,false,false,false,false,false] hHeld ?_;refine pw_ 3 45 #[true,true,true,true,false,false,false,false,false,false,false,false,false,false,false] ?_;refine pw_ 4 46 #[true,true,true,true,true,false,false,false,false,false,false,false,false,false,false] ?_;refine jI (i:=5) (N:=some 47) (v:=.bool true) #[true,true,true,true,true,true,false,false,false,false,false,false,false,false,false] rfl rfl (by kernel_rfl) (fun _ _ _ h=>h) (Or.inl ⟨by rfl,fun w'=>by first|(go_simp;done)|(go_simp;rw[dl];done)|(go_simp;rw[dl];rfl)|(go_simp;simp[dl];done)⟩) (by simp only[Act.put,List.setIfInBounds_toArray,List.set_cons_zero,List.set_cons_succ];rfl) ?_;refine pw_ 6 48 #[true,true,true,true,true,true,true,false,false,false,false,false,false,false,false] ?_
    refine pw_ 7 49 #[true,true,true,true,true,true,true,true,false,false,false,false,false,false,false] ?_;refine pw_ 8 50 #[true,true,true,true,true,true,true,true,true,false,false,false,false,false,false] ?_;refine tw_ 9 51 #[true,true,true,true,true,true,true,true,true,true,false,false,false,false,false] hHeld ?_;refine pw_ 10 52 #[true,true,true,true,true,true,true,true,true,true,true,false,false,false,false] ?_;refine pw_ 11 53 #[true,true,true,true,true,true,true,true,true,true,true,true,false,false,false] ?_;refine pw_ 12 54 #[true,true,true,true,true,true,true,true,true,true,true,true,true,false,false] ?_;refine pw_ 13 55 #[true,true,true,true,true,true,true,true,true,true,true,true,true,true,false] ?_;refine on_ 14 (some 56) #[true,true,true,true,true,true,true,true,true,true,true,true,true,true,true] (fun K hK=>?_);refine gq_ Tryz.func77 #[.int .i64 m,.bool b,.bool ((Int.tmod (rd l1 0) 2)==1),.int .i64 t5] ?_;refine (zbu.calls m b ((Int.tmod (rd l1 0) 2)==1) t5 u _ (Fig.Glob.below HG.out (BL HB)) A7.out).mono ?_;rintro e9 w' ⟨rfl,⟨nd,rfl⟩⟩;refine⟨_,rfl,?_⟩;clear hHeld;refine hK.out _ _ ⟨(zA (BK BK4) 0).trans rfl,hcell⟩ (fun hHeld=>?_);clear hK K;refine no_ (some 56) ?_;refine yN (by kernel_rfl) ?_;go_wp2_with (fail)
    go_meet
    case rel=>exact⟨rfl,BK BK4,BK BK6,HC8.out.below (jW (Below.refl _ _) _),BL HB⟩
   have dl:decide (0<l1.length)=false:=decide_eq_false (by omega);rw[if_neg hl] at A7;clear hl;refine yA (n:=15) (S:=fun W=>W.cell? ⟨g4,0,none⟩=some (.bool b)) (ds:=[]) #[false,false,false,false,false,false,false,false,false,false,false,false,false,false,false] (by kernel_rfl) rfl rfl ((zA (BK BK4) 0).trans rfl) (fun hHeld=>?_);refine pw_ 0 42 #[true,false,false,false,false,false,false,false,false,false,false,false,false,false,false] ?_;refine pw_ 1 43 #[true,true,false,false,false,false,false,false,false,false,false,false,false,false,false] ?_;refine tw_ 2 44 #[true,true,true,false,false,false,false,false,false,false,false,false,false,false,false] hHeld ?_;refine pw_ 3 45 #[true,true,true,true,false,false,false,false,false,false,false,false,false,false,false] ?_;refine pw_ 4 46 #[true,true,true,true,true,false,false,false,false,false,false,false,false,false,false] ?_;refine jI (i:=5) (N:=some 47) (v:=.bool false) #[true,true,true,true,true,true,false,false,false,false,false,false,false,false,false] rfl rfl (by kernel_rfl) (fun _ _ _ h=>h) (Or.inl ⟨by rfl,fun w'=>by first|(go_simp;done)|(go_simp;rw[dl];done)|(go_simp;rw[dl];rfl)|(go_simp;simp[dl];done)⟩) (by simp only[Act.put,List.setIfInBounds_toArray,List.set_cons_zero,List.set_cons_succ];rfl) ?_;refine pw_ 6 48 #[true,true,true,true,true,true,true,false,false,false,false,false,false,false,false] ?_;refine jI (i:=7) (N:=some 49) (v:=undef) #[true,true,true,true,true,true,true,true,false,false,false,false,false,false,false] rfl rfl (by kernel_rfl) (fun _ _ _ h=>h) (Or.inr ⟨by rfl,rfl⟩) (by simp only[Act.put,List.setIfInBounds_toArray,List.set_cons_zero,List.set_cons_succ];rfl) ?_
   refine jI (i:=8) (N:=some 50) (v:=undef) #[true,true,true,true,true,true,true,true,true,false,false,false,false,false,false] rfl rfl (by kernel_rfl) (fun _ _ _ h=>h) (Or.inr ⟨by rfl,rfl⟩) (by simp only[Act.put,List.setIfInBounds_toArray,List.set_cons_zero,List.set_cons_succ];rfl) ?_;refine jI (i:=9) (N:=some 51) (v:=undef) #[true,true,true,true,true,true,true,true,true,true,false,false,false,false,false] rfl rfl (by kernel_rfl) (fun _ _ _ h=>h) (Or.inr ⟨by rfl,rfl⟩) (by simp only[Act.put,List.setIfInBounds_toArray,List.set_cons_zero,List.set_cons_succ];rfl) ?_;refine jI (i:=10) (N:=some 52) (v:=undef) #[true,true,true,true,true,true,true,true,true,true,true,false,false,false,false] rfl rfl (by kernel_rfl) (fun _ _ _ h=>h) (Or.inr ⟨by rfl,rfl⟩) (by simp only[Act.put,List.setIfInBounds_toArray,List.set_cons_zero,List.set_cons_succ];rfl) ?_;refine jI (i:=11) (N:=some 53) (v:=undef) #[true,true,true,true,true,true,true,true,true,true,true,true,false,false,false] rfl rfl (by kernel_rfl) (fun _ _ _ h=>h) (Or.inr ⟨by rfl,rfl⟩) (by simp only[Act.put,List.setIfInBounds_toArray,List.set_cons_zero,List.set_cons_succ];rfl) ?_;refine pw_ 12 54 #[true,true,true,true,true,true,true,true,true,true,true,true,true,false,false] ?_;refine pw_ 13 55 #[true,true,true,true,true,true,true,true,true,true,true,true,true,true,false] ?_;refine on_ 14 (some 56) #[true,true,true,true,true,true,true,true,true,true,true,true,true,true,true] (fun K hK=>?_);refine gq_ Tryz.func77 #[.int .i64 m,.bool b,.bool false,.int .i64 t5] ?_
   refine (zbu.calls m b false t5 u _ (Fig.Glob.below HG.out (BL HB)) A7.out).mono ?_;rintro e9 w' ⟨rfl,⟨nd,rfl⟩⟩;refine⟨_,rfl,?_⟩;clear hHeld;refine hK.out _ _ ((zA (BK BK4) 0).trans rfl) (fun hHeld=>?_);clear hK K;refine no_ (some 56) ?_;refine yN (by kernel_rfl) ?_;go_wp2_with (fail)
   go_meet
   case rel=>exact⟨rfl,BK BK4,BK BK6,HC8.out.below (jW (Below.refl _ _) _),BL HB⟩
  case rest =>
   obtain⟨rfl,hb4,hb6,hc8,hbw⟩:=hcut;replace BK4:=K_ hb4;replace BK6:=K_ hb6;replace HC8:=K_ hc8;replace HB:=K_ hbw;clear hb4 hb6 hc8 hbw HC34 BK35 HC40 HC9 A7 A6 A5 A4 A3;obtain⟨lq,tx,HU,A8_,A9_,q4⟩:∃ (lq:List Int) (tx:ByteArray),Aside0 ((u=true→zbE.f l1 [1]=some lq)∧(u=false→lq=l1))∧Aside0 (zbe.f lq=some tx)∧Aside0 (vH.f b tx p=some (r1,r2,r3))∧r4=0:=by
    have h:=HJ.out
    cases k with
    | zero=>cases h
    | succ k =>
     rw[xN.j0] at h;cases u
     ·rw[if_neg (by decide)] at h
      obtain⟨tx,a,h⟩:=Option.bind_eq_some_iff.mp h;obtain⟨⟨n1,n2,n3⟩,a2,h⟩:=Option.bind_eq_some_iff.mp h;simp only[Option.some.injEq,Prod.mk.injEq] at h
      obtain⟨rfl,rfl,rfl,rfl⟩:=h;exact⟨l1,tx,⟨⟨(fun h=>by cases h),fun _=>rfl⟩⟩,⟨a⟩,⟨a2⟩,rfl⟩
     rw[if_pos rfl] at h;obtain⟨lq,a0,h⟩:=Option.bind_eq_some_iff.mp h;obtain⟨tx,a,h⟩:=Option.bind_eq_some_iff.mp h;obtain⟨⟨n1,n2,n3⟩,a2,h⟩:=Option.bind_eq_some_iff.mp h;simp only[Option.some.injEq,Prod.mk.injEq] at h
     obtain⟨rfl,rfl,rfl,rfl⟩:=h;exact⟨lq,tx,⟨⟨fun _=>a0,(fun h=>by cases h)⟩⟩,⟨a⟩,⟨a2⟩,rfl⟩
   subst q4;clear HJ;go_upto_if 56 with (fail)
   go_cut [8] from 57 to 59 (fun v8 wx=>(∃ A c,v8=.slice A lq.length c∧SLc wx A c lq)∧wx.heap[g4]?=some (.cells #[.bool b,.string s,.int .i64 e] 23 (0,0))∧wx.heap[g6]?=some (.cells #[.bool false,.string (⟨#[]⟩:ByteArray),.int .i64 0] 23 (0,0))∧Below w.heap.size w wx)
   case first =>
    cases u
    ·obtain rfl:=HU.out.2 rfl
     go_wp2
     go_meet
     case rel=>exact⟨⟨A8,c8,rfl,HC8.out⟩,BK BK4,BK BK6,BL HB⟩
    have AU:=K_ (HU.out.1 rfl);go_wp2_with (first|((with_reducible refine zE (N:=58) rfl ?_);refine zpG 58 ?_;intro g58 hg w2 hbox hb;have BK58:=K_ hbox;replace HC8:=K_ (HC8.out.below hb);replace BK4:=zC BK4 hb;replace BK6:=zC BK6 hb;replace HB:=zF HB hb;clear hb hbox hg)|(go_at_call 79;refine (zbE.calls A8 c8 l1 (some ⟨g58,0,none⟩) 1 [1] lq _ HC8.out.1 HC8.out.2 (zjY BK58.out).1 (Nat.le_refl _) AU.out).mono ?_;rintro e9 w' ⟨v9,rfl,ho,hb⟩;obtain⟨AQ,cQ,rfl⟩:=Kd.R_slice ho;have HCQ:=K_ (slc ho);replace BK4:=zC BK4 hb;replace BK6:=zC BK6 hb;replace HB:=zF HB hb;clear hb ho))
    go_meet
    case rel=>exact⟨⟨AQ,cQ,rfl,HCQ.out⟩,BK BK4,BK BK6,BL HB⟩
   case rest =>
    obtain⟨⟨A8,c8,rfl,hc8⟩,hb4,hb6,hbw⟩:=hcut;replace BK4:=K_ hb4;replace BK6:=K_ hb6;replace HC8:=K_ hc8;replace HB:=K_ hbw;clear hb4 hb6 hc8 hbw HU;go_upto_region 11 with (fail)
    refine yA (n:=9) (S:=fun W=>W.cell? ⟨g4,0,none⟩=some (.bool b)) (ds:=[]) #[false,false,false,false,false,false,false,false,false] (by kernel_rfl) rfl rfl ((zA (BK BK4) 0).trans rfl) (fun hHeld=>?_);refine pw_ 0 60 #[true,false,false,false,false,false,false,false,false] ?_;refine tw_ 1 61 #[true,true,false,false,false,false,false,false,false] hHeld ?_;refine pw_ 2 62 #[true,true,true,false,false,false,false,false,false] ?_;refine pw_ 4 64 #[true,true,true,false,true,false,false,false,false] ?_;refine on_ 3 (some 63) #[true,true,true,true,true,false,false,false,false] (fun K hK=>?_);refine gq_ Tryz.func80 #[.slice A8 lq.length c8] ?_;refine (zbe.calls A8 c8 lq tx _ (Kd.C_below HC8.out.1 (zbC (Below.refl _ _))) HC8.out.2 A8_.out).mono ?_;rintro e9 w' ⟨rfl,hb⟩;refine⟨_,rfl,?_⟩;replace HB:=zF HB hb;replace BK4:=zC BK4 hb;replace BK6:=zC BK6 hb;clear hb;clear hHeld;refine hK.out _ _ ((zA BK4.out 0).trans rfl) (fun hHeld=>?_);clear hK K;refine no_ (some 63) ?_;refine pw_ 5 65 #[true,true,true,true,true,true,false,false,false] ?_;refine on_ 6 (some 66) #[true,true,true,true,true,true,true,false,false] (fun K hK=>?_);refine gq_ Tryz.func59 #[.agg #[.bool b,.string tx,.int .i64 p]] ?_;refine (vH.calls b tx p r1 r2 r3 _ A9_.out).mono ?_;rintro e9 w' ⟨rfl,hb⟩;refine⟨_,rfl,?_⟩;replace HB:=zF HB hb;replace BK4:=zC BK4 hb;replace BK6:=zC BK6 hb;clear hb;clear hHeld;refine hK.out _ _ ((zA BK4.out 0).trans rfl) (fun hHeld=>?_);clear hK K;refine no_ (some 66) ?_;refine on_ 7 none #[true,true,true,true,true,true,true,true,false] (fun K hK=>?_)
    refine yL (g:=g6) (cs:=#[.bool false,.string (⟨#[]⟩:ByteArray),.int .i64 0]) (#[.bool r1,.string r2,.int .i64 r3]) BK6 ?_ rfl rfl rfl rfl rfl zbG rfl rfl;intro w9 hbk hfar hbel;replace BK4:=K_ (hfar _ _ NB4_6.out BK4.out);replace BK6:=K_ hbk;replace HB:=K_ (hbel _ _ GE6.out HB.out);refine hK.out _ _ ((zA BK4.out 0).trans rfl) (fun _=>?_);clear hK K hbk hfar hbel;refine pw_ 8 7 #[true,true,true,true,true,true,true,true,true] ?_;refine yN (by kernel_rfl) ?_;go_wp2_with (fail)
    refine bodyPost_ret (jE rfl _ _ g6 23 #[.bool r1,.string r2,.int .i64 r3] (0,0) _ rfl BK6.out Tryz.underlying23 rfl zbG) rfl ?_;exact⟨rfl,BL HB⟩
def zaE.f (a0_0:Bool) (a0_1:ByteArray) (a0_2:Int):Option (Int):=(vH.f a0_0 a0_1 a0_2).bind fun bt289=>(if bt289.2.1.toList=([48]:List UInt8) then (some 0) else (some (wrap64 ((wrap64 (bt289.2.2+(bt289.2.1.size:Int)))-1))))
set_option maxHeartbeats 8000000 in
set_option maxRecDepth 100000 in
theorem zaE.calls (a0_0:Bool) (a0_1:ByteArray) (a0_2:Int) (r:Int) (w:World) (h:zaE.f a0_0 a0_1 a0_2=some r) :
  Calls Tryz.prog 60 #[.agg #[.bool a0_0,.string a0_1,.int .i64 a0_2]] w fun e w'=>e=.returned (.int .i64 r)∧Below w.heap.size w w':=by
 have hu23:=Tryz.underlying23;have HB:=K_ (Below.refl w.heap.size w);have H:((vH.f a0_0 a0_1 a0_2).bind fun bt289=>(if bt289.2.1.toList=([48]:List UInt8) then (some 0) else (some (wrap64 ((wrap64 (bt289.2.2+(bt289.2.1.size:Int)))-1)))))=some r:=h;clear h;obtain⟨⟨t289,t290,t291⟩,A20,H⟩:=Option.bind_eq_some_iff.mp H
 (try dsimp -simprocs only at H)
 have A2:=K_ A20;clear A20;by_cases c3:t290.toList=([48]:List UInt8)
 ·rw[if_pos c3] at H
  have c3b0:(t290.toList==([48]:List UInt8))=true:=beq_iff_eq.mpr c3;have c3b1:(t290.toList !=([48]:List UInt8))=false:=bne_eq_false_iff_eq.mpr c3;clear c3;obtain rfl:=Option.some.inj H;go_enter Tryz.func60,Tryz.ntmps60
  go_wp2_with (first|(refine be_ 1 #[.bool a0_0,.string a0_1,.int .i64 a0_2] 23 ?_;intro gb288 hg w4 hbox hb;have BK288:=K_ (hbox);have GW288:=ge_ hg HB;have GE288:=ge_ hg HB;replace HB:=zF HB hb;clear hb hbox hg;obtain⟨⟨hcz5_0,hcz5_1,hcz5_2⟩,hfz5_0,hfz5_1,hfz5_2⟩:=ce3 BK288)|((with_reducible refine zK (f:=59) rfl ?_);refine zW (some 4) rfl rfl Tryz.func59 (by kernel_rfl) rfl #[.agg #[.bool a0_0,.string a0_1,.int .i64 a0_2]] rfl MP ?_;(with_reducible refine (vH.calls a0_0 a0_1 a0_2 t289 t290 t291 _ A2.out).mono ?_);rintro e w6 ⟨rfl,hb⟩;refine⟨_,rfl,?_⟩;replace BK288:=zC BK288 hb;replace HB:=zF HB hb;(try clear hb);(try clear hb2);(try clear hk);(try clear hi);obtain⟨⟨hcz7_0,hcz7_1,hcz7_2⟩,hfz7_0,hfz7_1,hfz7_2⟩:=ce3 BK288))
  go_ret
  exact⟨ER,BL HB⟩
 rw[if_neg c3] at H;have c3b0:(t290.toList==([48]:List UInt8))=false:=beq_eq_false_iff_ne.mpr c3;have c3b1:(t290.toList !=([48]:List UInt8))=true:=bne_iff_ne.mpr c3;obtain rfl:=Option.some.inj H;go_enter Tryz.func60,Tryz.ntmps60
 go_wp2_with (first|(refine be_ 1 #[.bool a0_0,.string a0_1,.int .i64 a0_2] 23 ?_;intro gb288 hg w8 hbox hb;have BK288:=K_ (hbox);have GW288:=ge_ hg HB;have GE288:=ge_ hg HB;replace HB:=zF HB hb;clear hb hbox hg;obtain⟨⟨hcz9_0,hcz9_1,hcz9_2⟩,hfz9_0,hfz9_1,hfz9_2⟩:=ce3 BK288)|((with_reducible refine zK (f:=59) rfl ?_);refine zW (some 4) rfl rfl Tryz.func59 (by kernel_rfl) rfl #[.agg #[.bool a0_0,.string a0_1,.int .i64 a0_2]] rfl MP ?_;(with_reducible refine (vH.calls a0_0 a0_1 a0_2 t289 t290 t291 _ A2.out).mono ?_);rintro e w10 ⟨rfl,hb⟩;refine⟨_,rfl,?_⟩;replace BK288:=zC BK288 hb;replace HB:=zF HB hb;(try clear hb);(try clear hb2);(try clear hk);(try clear hi);obtain⟨⟨hcz11_0,hcz11_1,hcz11_2⟩,hfz11_0,hfz11_1,hfz11_2⟩:=ce3 BK288))
 go_ret
 exact⟨ER,BL HB⟩
def zdw.f (a0_0:Bool) (a0_1:ByteArray) (a0_2:Int) (a1:Int):Option (Int):=(zaE.f a0_0 a0_1 a0_2).bind fun t501=>(some (wrap64 ((wrap64 (t501-(mx a1 1)))+1)))
set_option maxHeartbeats 8000000 in
set_option maxRecDepth 100000 in
theorem zdw.calls (a0_0:Bool) (a0_1:ByteArray) (a0_2:Int) (a1:Int) (r:Int) (w:World) (h:zdw.f a0_0 a0_1 a0_2 a1=some r) :
  Calls Tryz.prog 71 #[.agg #[.bool a0_0,.string a0_1,.int .i64 a0_2],.int .i64 a1] w fun e w'=>e=.returned (.int .i64 r)∧Below w.heap.size w w':=by
 have hu23:=Tryz.underlying23;have HB:=K_ (Below.refl w.heap.size w);have H:((zaE.f a0_0 a0_1 a0_2).bind fun t501=>(some (wrap64 ((wrap64 (t501-(mx a1 1)))+1))))=some r:=h;clear h;replace H:=Option.bind_eq_some_iff.mp H;obtain⟨t501,A30,H⟩:=H;replace H:(some (wrap64 ((wrap64 (t501-(mx a1 1)))+1)))=some r:=H;have A3:=K_ A30;clear A30;obtain⟨ji4,hji4⟩:∃ j_:Int,(mx a1 1)=j_:=⟨_,rfl⟩
 replace H:(some (wrap64 ((wrap64 (t501-(ji4)))+1)))=some r:=by first|(rw[hji4] at H;exact H)|(simp only[hji4] at H ⊢;exact H)
 (try rw[hji4] at A3)
 (try (have hji4l:1≤ji4:=by (rw[←hji4];unfold mx;(repeat' split) <;> omega)))
 (try (have hji4m:0≤ji4:=by omega))
 have hji4_:(if a1<1 then 1 else a1)=ji4:=hji4;obtain rfl:=Option.some.inj H;go_enter Tryz.func71,Tryz.ntmps71
 go_wp2_with (first|(refine be_ 2 #[.bool a0_0,.string a0_1,.int .i64 a0_2] 23 ?_;intro gb500 hg w5 hbox hb;have n0_:=zF HB hb;have n1_:=K_ (hbox);have n2_:=ge_ hg HB;have n3_:=ge_ hg HB;clear HB;have HB:=n0_;have BK500:=n1_;have GW500:=n2_;have GE500:=n3_;clear n0_ n1_ n2_ n3_;clear hb hbox hg;have hcz6_0:w5.cell? ⟨gb500,0,none⟩=some (.bool a0_0):=(zA BK500.out 0).trans rfl;have hcz6_1:w5.cell? ⟨gb500,1,none⟩=some (.string a0_1):=(zA BK500.out 1).trans rfl;have hcz6_2:w5.cell? ⟨gb500,2,none⟩=some (.int .i64 a0_2):=(zA BK500.out 2).trans rfl;have hfz6_0:=zL BK500.out 0;have hfz6_1:=zL BK500.out 1;have hfz6_2:=zL BK500.out 2)|((with_reducible refine zK (f:=60) rfl ?_);refine zW (some 6) rfl rfl Tryz.func60 (by kernel_rfl) rfl #[.agg #[.bool a0_0,.string a0_1,.int .i64 a0_2]] rfl MP ?_;(with_reducible refine (zaE.calls a0_0 a0_1 a0_2 t501 _ A3.out).mono ?_);rintro e w7 ⟨rfl,hb⟩;refine⟨_,rfl,?_⟩;have n0_:=zC BK500 hb;have n1_:=zF HB hb;clear BK500;clear HB;have BK500:=n0_;have HB:=n1_;clear n0_ n1_;(try clear hb);(try clear hb2);(try clear hk);(try clear hi)))
 go_ret
 exact⟨by first|rfl|(simp[vA,vC] <;> rfl)|(simp only[←hji4];first|rfl|(simp[vA,vC] <;> rfl))|(simp[*,vA,vC] <;> rfl),BL HB⟩
def vI.j0:Nat→Int→Int→Bool→Bool→ByteArray→Int→Option (Bool×ByteArray×Int×Int)
 | 0,_,_,_,_,_,_=>none
 | k+1,x0,x2,x14,x503000,x503001,x503002=>if x14=true then (some (false,(⟨#[]⟩:ByteArray),0,1)) else ((zdw.f x503000 x503001 x503002 x2).bind fun t505=>((xN.f k x0 x503000 x503001 x503002 t505).bind fun bt506=>(some (bt506.1,bt506.2.1,bt506.2.2.1,bt506.2.2.2))))
def vI.f (k:Nat) (a0:Int) (a1_0:Bool) (a1_1:ByteArray) (a1_2:Int) (a2:Int):Option (Bool×ByteArray×Int×Int):=(xK.f a0).bind fun t504=>(if t504=true then (vI.j0 k a0 a2 (decide (a2<1)) a1_0 a1_1 a1_2) else (vI.j0 k a0 a2 true a1_0 a1_1 a1_2))
def vI.T3:Bool×List (List Nat×List Nat):=(true,[([],[]),([],[]),([],[]),([],[]),([2,3],[2,3]),([0,1,4,4],[0,1,4]),([5],[5]),([5],[5]),([6,5,0,1,2,3,4,5,6,7],[6]),([7,8,0,1,2,3,4,5,6,7,8],[7])])
def vI.B3:List Nat:=[0,0,0,0,12,31,63,63,255,511]
theorem vI.tab3:zal .any (zgp Tryz.f62 3)=vI.T3:=by kernel_rfl
theorem vI.bits3:zbF vI.T3.2 vI.B3=true:=by kernel_rfl
set_option maxHeartbeats 8000000 in
set_option maxRecDepth 100000 in
theorem vI.calls (k:Nat) (a0:Int) (a1_0:Bool) (a1_1:ByteArray) (a1_2:Int) (a2:Int) (r1:Bool) (r2:ByteArray) (r3:Int) (r4:Int) (w:World) (hG:Fig.Glob w) (h:vI.f k a0 a1_0 a1_1 a1_2 a2=some (r1,r2,r3,r4)) :
  Calls Tryz.prog 62 #[.int .i64 a0,.agg #[.bool a1_0,.string a1_1,.int .i64 a1_2],.int .i64 a2] w fun e w'=>e=.returned (.tuple #[.agg #[.bool r1,.string r2,.int .i64 r3],.int .i64 r4])∧Below w.heap.size w w':=by
 have hu23:=Tryz.underlying23;have HG:=K_ hG;clear hG;have HB:=K_ (Below.refl w.heap.size w);have H:((xK.f a0).bind fun t504=>(if t504=true then (vI.j0 k a0 a2 (decide (a2<1)) a1_0 a1_1 a1_2) else (vI.j0 k a0 a2 true a1_0 a1_1 a1_2)))=some (r1,r2,r3,r4):=h;clear h;have HC4:=K_ H;clear H;go_enter Tryz.func62,Tryz.ntmps62
 go_upto_region 1 with (first|(refine be_ 4 #[.bool a1_0,.string a1_1,.int .i64 a1_2] 23 ?_;intro gb502 hg w5 hbox hb;have BK502:=K_ (hbox);have GW502:=ge_ hg HB;have GE502:=ge_ hg HB;replace HB:=zF HB hb;clear hb hbox hg)|(refine be_ 6 #[.bool false,.string (⟨#[]⟩:ByteArray),.int .i64 0] 23 ?_;intro gb503 hg w6 hbox hb;have BK503:=K_ (hbox);have GW503:=ge_ hg HB;have GE503:=ge_ hg HB;replace HB:=zF HB hb;have NB502_503:=nb_ hg BK502;have NB503_502:=nc_ hg BK502;replace BK502:=zC BK502 hb;clear hb hbox hg))
 (try simp only[Act.put,List.setIfInBounds_toArray,List.set_cons_zero,List.set_cons_succ])
 go_cut [14] (fun v14 wc=>∃ (kq:Nat) (x14_3:Bool),v14=.bool x14_3∧Aside0 (vI.j0 kq a0 a2 x14_3 a1_0 a1_1 a1_2=some (r1,r2,r3,r4))∧Aside0 (kq≤k)∧Aside0 (wc.heap[gb502]?=some (.cells #[.bool a1_0,.string a1_1,.int .i64 a1_2] 23 (0,0)))∧Aside0 (wc.heap[gb503]?=some (.cells #[.bool false,.string (⟨#[]⟩:ByteArray),.int .i64 0] 23 (0,0)))∧Aside0 (Below w.heap.size w wc))
 case first =>
  have H:=HC4.out;clear HC4;obtain⟨t504,A70,H⟩:=Option.bind_eq_some_iff.mp H
  (try dsimp -simprocs only at H)
  have A7:=K_ A70;clear A70;by_cases c8:t504=true
  ·subst c8
   rw[if_pos rfl] at H;have H':=K_ H;clear H;go_wp2_with (first|((with_reducible refine zK (f:=32) rfl ?_);refine zW (some 9) rfl rfl Tryz.func32 (by kernel_rfl) rfl #[.int .i64 a0] rfl MP ?_;(with_reducible refine (xK.calls a0 true _ A7.out).mono ?_);rintro e w' ⟨rfl,⟨nd,rfl⟩⟩;refine⟨_,rfl,?_⟩))
   go_meet
   case rel=>exact⟨_,(decide (a2<1)),SR,H',⟨by first|omega|exact Nat.le_refl _⟩,⟨BK BK502⟩,⟨BK BK503⟩,⟨BL HB⟩⟩
  replace c8:=Bool.eq_false_iff.mpr c8;subst c8;rw[if_neg (show ¬ (false=true) by decide)] at H;have H':=K_ H;clear H;go_wp2_with (first|((with_reducible refine zK (f:=32) rfl ?_);refine zW (some 9) rfl rfl Tryz.func32 (by kernel_rfl) rfl #[.int .i64 a0] rfl MP ?_;(with_reducible refine (xK.calls a0 false _ A7.out).mono ?_);rintro e w' ⟨rfl,⟨nd,rfl⟩⟩;refine⟨_,rfl,?_⟩))
  go_meet
  case rel=>exact⟨_,(true),SR,H',⟨by first|omega|exact Nat.le_refl _⟩,⟨BK BK502⟩,⟨BK BK503⟩,⟨BL HB⟩⟩
 clear HC4;obtain⟨kq,x14_3,rfl,HA,HJ3,BK502,BK503,HB⟩:=hcut;obtain _|kj3:=kq
 ·exact absurd HA.out (by simp[vI.j0])
 have H:=HA.out;clear HA;simp only[vI.j0] at H
 by_cases c9:x14_3=true
 ·subst c9
  rw[if_pos rfl] at H;simp only[Option.some.injEq,Prod.mk.injEq] at H
  obtain⟨rfl,rfl,rfl,rfl⟩:=H;have hnb10:=NB503_502.out;have hnc10:=NB502_503.out;obtain⟨⟨hcz11_0,hcz11_1,hcz11_2⟩,hfz11_0,hfz11_1,hfz11_2⟩:=ce3 BK503;go_wp2
  refine bodyPost_ret (jE rfl _ _ gb503 23 #[.bool false,.string (⟨#[]⟩:ByteArray),.int .i64 0] (0,0) _ rfl (BP BK503) Tryz.underlying23 rfl (by kernel_rfl)) rfl ?_;exact⟨ER,BL HB⟩
 replace c9:=Bool.eq_false_iff.mpr c9;subst c9;rw[if_neg (show ¬ (false=true) by decide)] at H;obtain⟨t505,A120,H⟩:=Option.bind_eq_some_iff.mp H
 (try dsimp -simprocs only at H)
 have A12:=K_ A120;clear A120;obtain⟨⟨t506,t507,t508,t509⟩,A130,H⟩:=Option.bind_eq_some_iff.mp H
 (try dsimp -simprocs only at H)
 have A13:=K_ A130;clear A130;simp only[Option.some.injEq,Prod.mk.injEq] at H
 obtain⟨rfl,rfl,rfl,rfl⟩:=H;try go_wp2
 (try (rw[xQ wc];generalize hq_:World.drewN wc _=wc;replace BK502:=zbt BK502 hq_;replace BK503:=zbt BK503 hq_;replace HB:=zde HB hq_;clear hq_))
 replace BK502:=K_ (jS BK502.out);replace BK503:=K_ (jS BK503.out);replace HB:=K_ (yW HB.out);refine yA (n:=10) (S:=fun w'=>w'.cell? ⟨gb502,0,none⟩=some (.bool a1_0)∧w'.cell? ⟨gb502,1,none⟩=some (.string a1_1)∧w'.cell? ⟨gb502,2,none⟩=some (.int .i64 a1_2)) (ds:=[]) #[false,false,false,false,false,false,false,false,false,false] (by kernel_rfl) rfl rfl CE (fun hHeld=>?_);refine zch vI.tab3 vI.bits3 (fun HT_ HW_=>?_);generalize wc.drew=w14 at BK502 BK503 HB hHeld ⊢
 refine pu_ 0 (some 16) (bb 10 1) (jM HT_.out (by kernel_rfl)) ?_;refine pu_ 3 (some 19) (bb 10 9) (jM HT_.out (by kernel_rfl)) ?_;refine tk_ 1 (some 17) (bb 10 11) (zbR HT_.out HW_.out (by kernel_rfl)) hHeld ?_;refine tk_ 2 (some 18) (bb 10 15) (zbR HT_.out HW_.out (by kernel_rfl)) hHeld ?_;refine zbq (i:=4) (N:=some 20) (bb 10 31) rfl rfl (zac HT_.out (by kernel_rfl)) (by decide) (fun K hK=>?_);refine gq_ Tryz.func71 #[.agg #[.bool a1_0,.string a1_1,.int .i64 a1_2],.int .i64 a2] ?_;with_reducible refine (zdw.calls a1_0 a1_1 a1_2 a2 t505 _ A12.out).mono ?_
 rintro e w15 ⟨rfl,hb⟩;refine⟨_,rfl,?_⟩;replace BK502:=zC BK502 hb;replace BK503:=zC BK503 hb;replace HB:=zF HB hb
 (try clear hb)
 (try clear hb2)
 (try clear hk)
 (try clear hi)
 refine hK.out _ _ CE (fun hHeld=>?_);clear hK K;refine no_ (some 20) ?_;refine zbq (i:=5) (N:=some 21) (bb 10 63) rfl rfl (zac HT_.out (by kernel_rfl)) (by decide) (fun K hK=>?_);refine gq_ Tryz.func63 #[.int .i64 a0,.agg #[.bool a1_0,.string a1_1,.int .i64 a1_2],.int .i64 t505] ?_;with_reducible refine (xN.calls kj3 a0 a1_0 a1_1 a1_2 t505 t506 t507 t508 t509 _ ?side1 A13.out).mono ?_
 (case side1=>exact Fig.Glob.below HG.out (BL HB))
 rintro e w16 ⟨rfl,hb⟩;refine⟨_,rfl,?_⟩;replace BK502:=zC BK502 hb;replace BK503:=zC BK503 hb;replace HB:=zF HB hb
 (try clear hb)
 (try clear hb2)
 (try clear hk)
 (try clear hi)
 refine hK.out _ _ CE (fun hHeld=>?_);clear hK K;refine no_ (some 21) ?_;refine pu_ 6 (some 22) (bb 10 127) (jM HT_.out (by kernel_rfl)) ?_;refine pu_ 7 (some 23) (bb 10 255) (jM HT_.out (by kernel_rfl)) ?_;refine zbq (i:=8) (N:=none) (bb 10 511) rfl rfl (zac HT_.out (by kernel_rfl)) (by decide) (fun K hK=>?_);have hs17:w16.cell? ⟨gb503,0,none⟩=some (.bool false):=(zA BK503.out 0).trans rfl;have hfs17:=zL BK503.out 0;have hns17_0:=NB502_503.out;have hms17_0:=NB503_502.out;have hs18:w16.cell? ⟨gb503,1,none⟩=some (.string (⟨#[]⟩:ByteArray)):=(zA BK503.out 1).trans rfl;have hfs18:=zL BK503.out 1;have hns18_0:=NB502_503.out;have hms18_0:=NB503_502.out;have hs19:w16.cell? ⟨gb503,2,none⟩=some (.int .i64 0):=(zA BK503.out 2).trans rfl;have hfs19:=zL BK503.out 2;have hns19_0:=NB502_503.out;have hms19_0:=NB503_502.out;refine zaD (w1:=?_) (by rfl) rfl ?_ ?_;rotate_left
 ·go_simp
  rfl
 refine hK.out _ _ ⟨((yK (p:=⟨gb503,_,none⟩) NB502_503.out _).trans (((yK (p:=⟨gb503,_,none⟩) NB502_503.out _).trans (((yK (p:=⟨gb503,_,none⟩) NB502_503.out _).trans (hHeld.1)))))),((yK (p:=⟨gb503,_,none⟩) NB502_503.out _).trans (((yK (p:=⟨gb503,_,none⟩) NB502_503.out _).trans (((yK (p:=⟨gb503,_,none⟩) NB502_503.out _).trans (hHeld.2.1)))))),((yK (p:=⟨gb503,_,none⟩) NB502_503.out _).trans (((yK (p:=⟨gb503,_,none⟩) NB502_503.out _).trans (((yK (p:=⟨gb503,_,none⟩) NB502_503.out _).trans (hHeld.2.2))))))⟩ (fun hHeld=>?_);clear hK K;refine pu_ 9 (some 7) (bb 10 1023) (jM HT_.out (by kernel_rfl)) ?_;refine yN (zcd HT_.out (by kernel_rfl)) ?_;try go_wp2
 refine bodyPost_ret (jE rfl _ _ gb503 23 #[.bool t506,.string t507,.int .i64 t508] (0,0) _ rfl (BP BK503) Tryz.underlying23 rfl (by kernel_rfl)) rfl ?_;exact⟨ER,BL HB⟩
def zbI.f (a0_0:Bool) (a0_1:ByteArray) (a0_2:Int):Option (Bool):=(vH.f a0_0 a0_1 a0_2).bind fun bt293=>(if bt293.2.1.toList=([48]:List UInt8) then (some true) else (if bt293.2.2 ≥ (-300) then ((zaE.f bt293.1 bt293.2.1 bt293.2.2).bind fun t296=>(some (decide (t296<300)))) else (some false)))
set_option maxHeartbeats 8000000 in
set_option maxRecDepth 100000 in
theorem zbI.calls (a0_0:Bool) (a0_1:ByteArray) (a0_2:Int) (r:Bool) (w:World) (h:zbI.f a0_0 a0_1 a0_2=some r) :
  Calls Tryz.prog 34 #[.agg #[.bool a0_0,.string a0_1,.int .i64 a0_2]] w fun e w'=>e=.returned (.bool r)∧Below w.heap.size w w':=by
 have hu23:=Tryz.underlying23;have HB:=K_ (Below.refl w.heap.size w);have H:((vH.f a0_0 a0_1 a0_2).bind fun bt293=>(if bt293.2.1.toList=([48]:List UInt8) then (some true) else (if bt293.2.2 ≥ (-300) then ((zaE.f bt293.1 bt293.2.1 bt293.2.2).bind fun t296=>(some (decide (t296<300)))) else (some false))))=some r:=h;clear h;obtain⟨⟨t293,t294,t295⟩,A20,H⟩:=Option.bind_eq_some_iff.mp H
 (try dsimp -simprocs only at H)
 have A2:=K_ A20;clear A20;by_cases c3:t294.toList=([48]:List UInt8)
 ·rw[if_pos c3] at H
  have c3b0:(t294.toList==([48]:List UInt8))=true:=beq_iff_eq.mpr c3;have c3b1:(t294.toList !=([48]:List UInt8))=false:=bne_eq_false_iff_eq.mpr c3;clear c3;obtain rfl:=Option.some.inj H;go_enter Tryz.func34,Tryz.ntmps34
  go_wp2_with (first|(refine be_ 1 #[.bool a0_0,.string a0_1,.int .i64 a0_2] 23 ?_;intro gb292 hg w4 hbox hb;have BK292:=K_ (hbox);have GW292:=ge_ hg HB;have GE292:=ge_ hg HB;replace HB:=zF HB hb;clear hb hbox hg;obtain⟨⟨hcz5_0,hcz5_1,hcz5_2⟩,hfz5_0,hfz5_1,hfz5_2⟩:=ce3 BK292)|((with_reducible refine zK (f:=59) rfl ?_);refine zW (some 4) rfl rfl Tryz.func59 (by kernel_rfl) rfl #[.agg #[.bool a0_0,.string a0_1,.int .i64 a0_2]] rfl MP ?_;(with_reducible refine (vH.calls a0_0 a0_1 a0_2 t293 t294 t295 _ A2.out).mono ?_);rintro e w6 ⟨rfl,hb⟩;refine⟨_,rfl,?_⟩;replace BK292:=zC BK292 hb;replace HB:=zF HB hb;(try clear hb);(try clear hb2);(try clear hk);(try clear hi);obtain⟨⟨hcz7_0,hcz7_1,hcz7_2⟩,hfz7_0,hfz7_1,hfz7_2⟩:=ce3 BK292))
  go_ret
  exact⟨ER,BL HB⟩
 rw[if_neg c3] at H;have c3b0:(t294.toList==([48]:List UInt8))=false:=beq_eq_false_iff_ne.mpr c3;have c3b1:(t294.toList !=([48]:List UInt8))=true:=bne_iff_ne.mpr c3;by_cases c8:t295 ≥ (-300)
 ·rw[if_pos c8] at H
  have c8b0:decide ((-300)≤t295)=true:=decide_eq_true c8;clear c8;obtain⟨t296,A90,H⟩:=Option.bind_eq_some_iff.mp H
  (try dsimp -simprocs only at H)
  have A9:=K_ A90;clear A90;obtain rfl:=Option.some.inj H;go_enter Tryz.func34,Tryz.ntmps34
  go_wp2_with (first|(refine be_ 1 #[.bool a0_0,.string a0_1,.int .i64 a0_2] 23 ?_;intro gb292 hg w10 hbox hb;have BK292:=K_ (hbox);have GW292:=ge_ hg HB;have GE292:=ge_ hg HB;replace HB:=zF HB hb;clear hb hbox hg;obtain⟨⟨hcz11_0,hcz11_1,hcz11_2⟩,hfz11_0,hfz11_1,hfz11_2⟩:=ce3 BK292)|((with_reducible refine zK (f:=59) rfl ?_);refine zW (some 4) rfl rfl Tryz.func59 (by kernel_rfl) rfl #[.agg #[.bool a0_0,.string a0_1,.int .i64 a0_2]] rfl MP ?_;(with_reducible refine (vH.calls a0_0 a0_1 a0_2 t293 t294 t295 _ A2.out).mono ?_);rintro e w12 ⟨rfl,hb⟩;refine⟨_,rfl,?_⟩;replace BK292:=zC BK292 hb;replace HB:=zF HB hb;(try clear hb);(try clear hb2);(try clear hk);(try clear hi);obtain⟨⟨hcz13_0,hcz13_1,hcz13_2⟩,hfz13_0,hfz13_1,hfz13_2⟩:=ce3 BK292)|((with_reducible refine zE (N:=14) rfl ?_);(refine vG (by rfl) ?_;dsimp only);(with_reducible refine zK (f:=60) rfl ?_);refine zW (some 14) rfl rfl Tryz.func60 (by kernel_rfl) rfl #[.agg #[.bool t293,.string t294,.int .i64 t295]] rfl MP ?_;(with_reducible refine (zaE.calls t293 t294 t295 t296 _ A9.out).mono ?_);rintro e w14 ⟨rfl,hb⟩;refine⟨_,rfl,?_⟩;replace BK292:=K_ (zcg (g:=gb292) (o:=.cells #[.bool t293,.string t294,.int .i64 t295] 23 (0,0)) (BP BK292) hb);replace HB:=zF HB hb;(try clear hb);(try clear hb2);(try clear hk);(try clear hi)))
  go_ret
  exact⟨ER,BL HB⟩
 rw[if_neg c8] at H;have c8b0:decide ((-300)≤t295)=false:=decide_eq_false c8;clear c8;obtain rfl:=Option.some.inj H;go_enter Tryz.func34,Tryz.ntmps34
 go_wp2_with (first|(refine be_ 1 #[.bool a0_0,.string a0_1,.int .i64 a0_2] 23 ?_;intro gb292 hg w15 hbox hb;have BK292:=K_ (hbox);have GW292:=ge_ hg HB;have GE292:=ge_ hg HB;replace HB:=zF HB hb;clear hb hbox hg;obtain⟨⟨hcz16_0,hcz16_1,hcz16_2⟩,hfz16_0,hfz16_1,hfz16_2⟩:=ce3 BK292)|((with_reducible refine zK (f:=59) rfl ?_);refine zW (some 4) rfl rfl Tryz.func59 (by kernel_rfl) rfl #[.agg #[.bool a0_0,.string a0_1,.int .i64 a0_2]] rfl MP ?_;(with_reducible refine (vH.calls a0_0 a0_1 a0_2 t293 t294 t295 _ A2.out).mono ?_);rintro e w17 ⟨rfl,hb⟩;refine⟨_,rfl,?_⟩;replace BK292:=zC BK292 hb;replace HB:=zF HB hb;(try clear hb);(try clear hb2);(try clear hk);(try clear hi);obtain⟨⟨hcz18_0,hcz18_1,hcz18_2⟩,hfz18_0,hfz18_1,hfz18_2⟩:=ce3 BK292))
 go_ret
 exact⟨ER,BL HB⟩
end Go.Proofs.YtcmgdjnjmobkoaaGreatDoor.Px
