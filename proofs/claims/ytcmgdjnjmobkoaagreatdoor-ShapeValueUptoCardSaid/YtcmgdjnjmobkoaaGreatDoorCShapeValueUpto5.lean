/- The functions that the law ShapeValueUpto reaches, told as plain functions, with what is proved of them, and the words they need (part 5). -/
import Derived.Test.YtcmgdjnjmobkoaaGreatDoorCShapeValueUpto0
import Derived.Test.YtcmgdjnjmobkoaaGreatDoorCShapeValueUpto4
import Derived.Test.YtcmgdjnjmobkoaaGreatDoorCShapeValueUpto2
import Derived.Test.YtcmgdjnjmobkoaaGreatDoorCShapeValueUpto3
import Derived.SizedLaws
import Derived.ChangeSlices
import Derived.LaidMore
import Derived.LaidHandle
import Derived.LaidSub
import Derived.OpenShut
import Derived.ChangeSame
import Derived.Lay
import Derived.Lib.LaidTab
import Derived.Test.YtcmgdjnjmobkoaaGreatDoorRows
import Derived.Stop.LaidErr
import Derived.Lib.SmallJoins
import Derived.ChangeMaps5
set_option linter.unusedVariables false
set_option linter.unusedSimpArgs false
namespace Go.Proofs.YtcmgdjnjmobkoaaGreatDoor.Px
open Fig Go.RowKit Go.Proofs.YtcmgdjnjmobkoaaGreatDoorW.PrintWords Go.Proofs.YtcmgdjnjmobkoaaGreatDoorW.PrintLast Go.Proofs.YtcmgdjnjmobkoaaGreatDoorW.PrintMore
attribute [local go_sem] yS yR vN vM yF yE yU yT
attribute [local go_sem] uX uQ uP uU uV uO qA uR uZ uM uT uN uY uW
def yP.f (a0:ByteArray) (a1:ByteArray):Option (Bool):=if (a0.size:Int)=(a1.size:Int) then (some (Op.bytesLess a0.toList a1.toList)) else (some (decide ((a0.size:Int)<(a1.size:Int))))
set_option maxHeartbeats 8000000 in
set_option maxRecDepth 100000 in
theorem yP.calls (a0:ByteArray) (a1:ByteArray) (r:Bool) (w:World) (h:yP.f a0 a1=some r) :
  Calls Tryz.prog 43 #[.string a0,.string a1] w fun e w'=>e=.returned (.bool r)∧zJ w w':=by
 have H:(if (a0.size:Int)=(a1.size:Int) then (some (Op.bytesLess a0.toList a1.toList)) else (some (decide ((a0.size:Int)<(a1.size:Int)))))=some r:=h;clear h;by_cases c3:(a0.size:Int)=(a1.size:Int)
 ·rw[if_pos c3] at H
  have c3b0:((a0.size:Int)==(a1.size:Int))=true:=beq_iff_eq.mpr c3;have c3b1:((a0.size:Int) !=(a1.size:Int))=false:=bne_eq_false_iff_eq.mpr c3;have c3b2:(a0.size==a1.size)=true:=by first|simpa using c3|(simp at c3 ⊢;omega)
  clear c3;obtain rfl:=Option.some.inj H;go_enter Tryz.func43,Tryz.ntmps43
  go_wp2
  go_ret
  exact⟨by first|rfl|(simp;done)|(simp[*];done)|(simp[*,Fig.bne_nil];done),by repeat (first|exact zJ.refl _|apply zJ.step)⟩
 rw[if_neg c3] at H;have c3b0:((a0.size:Int)==(a1.size:Int))=false:=beq_eq_false_iff_ne.mpr c3;have c3b1:((a0.size:Int) !=(a1.size:Int))=true:=bne_iff_ne.mpr c3;have c3b2:(a0.size==a1.size)=false:=by first|simpa using c3|(simp at c3 ⊢;omega)
 obtain rfl:=Option.some.inj H;go_enter Tryz.func43,Tryz.ntmps43
 go_wp2
 go_ret
 exact⟨by first|rfl|(simp;done)|(simp[*];done)|(simp[*,Fig.bne_nil];done),by repeat (first|exact zJ.refl _|apply zJ.step)⟩
def yH.f (k:Nat) (a0:Bool) (a1:ByteArray) (a2:Int):Option (Bool×ByteArray×Int):=if 1+a1.size≤9223372036854775807 then ((zX.f k a0 ((⟨#[48]⟩:ByteArray)++a1) a2).bind fun bt741=>(some (bt741.1,bt741.2.1,bt741.2.2))) else (none)
set_option maxHeartbeats 8000000 in
set_option maxRecDepth 100000 in
theorem yH.calls (k:Nat) (a0:Bool) (a1:ByteArray) (a2:Int) (r1:Bool) (r2:ByteArray) (r3:Int) (w:World) (h:yH.f k a0 a1 a2=some (r1,r2,r3)) :
  Calls Tryz.prog 29 #[.bool a0,.string a1,.int .i64 a2] w fun e w'=>e=.returned (.agg #[.bool r1,.string r2,.int .i64 r3])∧Below w.heap.size w w':=by
 have hu23:=Tryz.underlying23;have HB:=K_ (Below.refl w.heap.size w);have H:(if 1+a1.size≤9223372036854775807 then ((zX.f k a0 ((⟨#[48]⟩:ByteArray)++a1) a2).bind fun bt741=>(some (bt741.1,bt741.2.1,bt741.2.2))) else (none))=some (r1,r2,r3):=h;clear h;by_cases c4:1+a1.size≤9223372036854775807
 ·rw[if_pos c4] at H
  have c4b0:=eq_true c4;have c4b1:decide (1+a1.size≤9223372036854775807)=true:=decide_eq_true c4;try have c4b2:(9223372036854775807<1+a1.size)=False:=eq_false (Nat.not_lt.2 c4)
  replace H:=Option.bind_eq_some_iff.mp H;obtain⟨⟨t741,t742,t743⟩,A50,H⟩:=H;replace H:(some (t741,t742,t743))=some (r1,r2,r3):=H;have A5:=K_ A50;clear A50;simp only[Option.some.injEq,Prod.mk.injEq] at H
  obtain⟨rfl,rfl,rfl⟩:=H;go_enter Tryz.func29,Tryz.ntmps29
  go_wp2_with (first|(refine be_ 6 #[.bool false,.string (⟨#[]⟩:ByteArray),.int .i64 0] 23 ?_;intro gb740 hg w6 hbox hb;have n0_:=zF HB hb;have n1_:=K_ (hbox);have n2_:=ge_ hg HB;have n3_:=ge_ hg HB;clear HB;have HB:=n0_;have BK740:=n1_;have GW740:=n2_;have GE740:=n3_;clear n0_ n1_ n2_ n3_;clear hb hbox hg)|((with_reducible refine zK (f:=50) rfl ?_);refine zW (some 12) rfl rfl Tryz.func50 (by kernel_rfl) rfl #[.agg #[.bool a0,.string ((⟨#[48]⟩:ByteArray)++a1),.int .i64 a2]] rfl MP ?_;(with_reducible refine (zX.calls k a0 ((⟨#[48]⟩:ByteArray)++a1) a2 t741 t742 t743 _ A5.out).mono ?_);rintro e w7 ⟨rfl,hb⟩;refine⟨_,rfl,?_⟩;have n0_:=zC BK740 hb;have n1_:=zF HB hb;clear BK740;clear HB;have BK740:=n0_;have HB:=n1_;clear n0_ n1_;(try clear hb);(try clear hb2);(try clear hk);(try clear hi);have hcz8_0:w7.cell? ⟨gb740,0,none⟩=some (.bool false):=(zA BK740.out 0).trans rfl;have hcz8_1:w7.cell? ⟨gb740,1,none⟩=some (.string (⟨#[]⟩:ByteArray)):=(zA BK740.out 1).trans rfl;have hcz8_2:w7.cell? ⟨gb740,2,none⟩=some (.int .i64 0):=(zA BK740.out 2).trans rfl;have hfz8_0:=zL BK740.out 0;have hfz8_1:=zL BK740.out 1;have hfz8_2:=zL BK740.out 2))
  refine bodyPost_ret (results_cell_row rfl _ _ gb740 23 #[.bool t741,.string t742,.int .i64 t743] (0,0) _ rfl (BP BK740) Tryz.underlying23 rfl (by kernel_rfl)) rfl ?_;exact⟨ER,BL HB⟩
 rw[if_neg c4] at H;exact absurd H (by simp)
def jD.l0:Nat→ByteArray→ByteArray→List Int→Int→Int→Option (ByteArray)
 | 0,_,_,_,_,_=>none
 | k+1,x0,x1,x5,x6,x7=>if x7<(x0.size:Int) then ((jF.f x0 x7).bind fun t750=>((jF.f x1 x7).bind fun t751=>(if (wrap64 ((wrap64 (t750-t751))-x6))<0 then (if x5.length<140737488355328 then (jD.l0 k x0 x1 (x5++[(wrap64 (48+(wrap64 ((wrap64 ((wrap64 (t750-t751))-x6))+10)))) % 256]) 1 (wrap64 (x7+1))) else (none)) else (if x5.length<140737488355328 then (jD.l0 k x0 x1 (x5++[(wrap64 (48+(wrap64 ((wrap64 (t750-t751))-x6)))) % 256]) 0 (wrap64 (x7+1))) else (none))))) else ((jA.f k x5).bind fun t748=>((zM.f k t748).bind fun t749=>(some t749)))
def jD.f (k:Nat) (a0:ByteArray) (a1:ByteArray):Option (ByteArray):=jD.l0 k a0 a1 ([]:List Int) 0 0
set_option maxHeartbeats 8000000 in
set_option maxRecDepth 100000 in
theorem jD.calls (k:Nat) (a0:ByteArray) (a1:ByteArray) (r:ByteArray) (w:World) (h:jD.f k a0 a1=some r) :
  Calls Tryz.prog 137 #[.string a0,.string a1] w fun e w'=>e=.returned (.string r)∧Below w.heap.size w w':=by
 have HB:=K_ (Below.refl w.heap.size w);have H:(jD.l0 k a0 a1 ([]:List Int) 0 0)=some r:=h;clear h;have H':=K_ H;clear H;go_enter Tryz.func137,Tryz.ntmps137
 go_wp2
 go_loopg [5,6,7] k (fun kq v5 v6 v7 w'=>∃ (x5_1:List Int) (x6_1:Int) (x7_1:Int),v6=.int .i64 x6_1∧v7=.int .i64 x7_1∧Aside0 (jD.l0 kq a0 a1 x5_1 x6_1 x7_1=some r)∧Aside0 (kq≤k)∧Aside0 (Kd.R (Kd.int .u8) 5 w' w.heap.size (fun _=>True) v5 x5_1)∧Aside0 (Below w.heap.size w w'))
 case atStart=>exact⟨(([]:List Int)),(0),(0),SR,SR,H',⟨Nat.le_refl _⟩,⟨by first|exact Kd.R_nil _ _ _ _ _|exact Kd.N_nil _ _ _ _ _|exact Kd.V_nil _ _ _ _ _|exact Kd.Q_nil _ _ _ _ _|exact Kd.S_nil _ _ _ _ _⟩,⟨BL HB⟩⟩
 case round =>
  clear H';obtain⟨x5_1,x6_1,x7_1,rfl,rfl,HA,HK1,HO_5,HB⟩:=hrel;obtain _|k1:=gk
  ·exact absurd HA.out (by simp[jD.l0])
  have H:=HA.out;clear HA;simp only[jD.l0] at H
  by_cases c3:x7_1<(a0.size:Int)
  ·rw[if_pos c3] at H
   have c3b0:decide (x7_1<(a0.size:Int))=true:=decide_eq_true c3;clear c3;obtain⟨t750,A40,H⟩:=Option.bind_eq_some_iff.mp H
   (try dsimp -simprocs only at H)
   have A4:=K_ A40;clear A40;obtain⟨t751,A50,H⟩:=Option.bind_eq_some_iff.mp H
   (try dsimp -simprocs only at H)
   have A5:=K_ A50;clear A50;by_cases c6:(wrap64 ((wrap64 (t750-t751))-x6_1))<0
   ·rw[if_pos c6] at H
    have c6b0:decide ((wrap64 ((wrap64 (t750-t751))-x6_1))<0)=true:=decide_eq_true c6;clear c6;by_cases c7:x5_1.length<140737488355328
    ·rw[if_pos c7] at H
     have LMc7:=K_ c7;clear c7;obtain⟨y752,hy752⟩:∃ y_:List Int,y_=(x5_1++[(wrap64 (48+(wrap64 ((wrap64 ((wrap64 (t750-t751))-x6_1))+10)))) % 256]):=⟨_,rfl⟩
     replace H:(jD.l0 k1 a0 a1 y752 1 (wrap64 (x7_1+1)))=some r:=by first|(rw[hy752];with_reducible exact H)|(have H2_:=(Option.bind_some _ _).symm.trans H;rw[hy752];with_reducible exact H2_)|(have H2_:=(Option.bind_some _ _).symm.trans H;with_reducible exact H2_)|with_reducible exact H|(rw[hy752];exact H)|exact H
     have Ny752:=K_ hy752;clear hy752;have H':=K_ H;clear H;go_wp2_with (first|((with_reducible refine zK (f:=138) rfl ?_);refine zW (some 17) rfl rfl Tryz.func138 (by kernel_rfl) rfl #[.string a0,.int .i64 x7_1] rfl MP ?_;(with_reducible refine (jF.calls a0 x7_1 t750 _ A4.out).mono ?_);rintro e w' ⟨rfl,⟨nd,rfl⟩⟩;refine⟨_,rfl,?_⟩)|((with_reducible refine zK (f:=138) rfl ?_);refine zW (some 20) rfl rfl Tryz.func138 (by kernel_rfl) rfl #[.string a1,.int .i64 x7_1] rfl MP ?_;(with_reducible refine (jF.calls a1 x7_1 t751 _ A5.out).mono ?_);rintro e w' ⟨rfl,⟨nd,rfl⟩⟩;refine⟨_,rfl,?_⟩)|((with_reducible refine jH (b:=.append) (xs:=#[.tmp 28,.tmp 32]) rfl ?_);at_builtin;refine Kd.R_append (Kd.int .u8) (w0:=w) w.heap.size rfl (.tmp 28) (.tmp 32) 107 5 (.int .u8 0) 1 rfl Tryz.underlying107 zfv rfl (by decide) (by omega) u5 x5_1 ((wrap64 (48+(wrap64 ((wrap64 ((wrap64 (t750-t751))-x6_1))+10)))) % 256) [.int .u8 ((wrap64 (48+(wrap64 ((wrap64 ((wrap64 (t750-t751))-x6_1))+10)))) % 256)] (fun _=>True) (fun _=>False) rfl rfl ?aP (fun _ hk=>hk.elim) ?aF ?aO ?aB ?aS ?aL ?_;(case aP=>exact rfl);(case aB=>exact (BL HB));(case aF=>exact (fun _ _=>trivial));(case aO=>exact (RB HO_5.out));(case aS=>exact (zS (BL HB)));(case aL=>have:=LMc7.out;omega);intro v753 w8 ho hb hg hat;rw[←Ny752.out] at ho;replace HB:=K_ (hb);have HO754:=K_ (ho);clear HO_5;clear ho hb hg hat))
     go_roundg k1
     case measure=>have:=HK1.out;omega
     case rel=>exact⟨(y752),(1),(wrap64 (x7_1+1)),SR,SR,H',⟨by have:=HK1.out;omega⟩,⟨RB HO754.out⟩,⟨BL HB⟩⟩
    rw[if_neg c7] at H;exact absurd H (by simp)
   rw[if_neg c6] at H;have c6b0:decide ((wrap64 ((wrap64 (t750-t751))-x6_1))<0)=false:=decide_eq_false c6;clear c6;by_cases c9:x5_1.length<140737488355328
   ·rw[if_pos c9] at H
    have LMc9:=K_ c9;clear c9;obtain⟨y755,hy755⟩:∃ y_:List Int,y_=(x5_1++[(wrap64 (48+(wrap64 ((wrap64 (t750-t751))-x6_1)))) % 256]):=⟨_,rfl⟩
    replace H:(jD.l0 k1 a0 a1 y755 0 (wrap64 (x7_1+1)))=some r:=by first|(rw[hy755];with_reducible exact H)|(have H2_:=(Option.bind_some _ _).symm.trans H;rw[hy755];with_reducible exact H2_)|(have H2_:=(Option.bind_some _ _).symm.trans H;with_reducible exact H2_)|with_reducible exact H|(rw[hy755];exact H)|exact H
    have Ny755:=K_ hy755;clear hy755;have H':=K_ H;clear H;go_wp2_with (first|((with_reducible refine zK (f:=138) rfl ?_);refine zW (some 17) rfl rfl Tryz.func138 (by kernel_rfl) rfl #[.string a0,.int .i64 x7_1] rfl MP ?_;(with_reducible refine (jF.calls a0 x7_1 t750 _ A4.out).mono ?_);rintro e w' ⟨rfl,⟨nd,rfl⟩⟩;refine⟨_,rfl,?_⟩)|((with_reducible refine zK (f:=138) rfl ?_);refine zW (some 20) rfl rfl Tryz.func138 (by kernel_rfl) rfl #[.string a1,.int .i64 x7_1] rfl MP ?_;(with_reducible refine (jF.calls a1 x7_1 t751 _ A5.out).mono ?_);rintro e w' ⟨rfl,⟨nd,rfl⟩⟩;refine⟨_,rfl,?_⟩)|((with_reducible refine jH (b:=.append) (xs:=#[.tmp 28,.tmp 32]) rfl ?_);at_builtin;refine Kd.R_append (Kd.int .u8) (w0:=w) w.heap.size rfl (.tmp 28) (.tmp 32) 107 5 (.int .u8 0) 1 rfl Tryz.underlying107 zfv rfl (by decide) (by omega) u5 x5_1 ((wrap64 (48+(wrap64 ((wrap64 (t750-t751))-x6_1)))) % 256) [.int .u8 ((wrap64 (48+(wrap64 ((wrap64 (t750-t751))-x6_1)))) % 256)] (fun _=>True) (fun _=>False) rfl rfl ?aP (fun _ hk=>hk.elim) ?aF ?aO ?aB ?aS ?aL ?_;(case aP=>exact rfl);(case aB=>exact (BL HB));(case aF=>exact (fun _ _=>trivial));(case aO=>exact (RB HO_5.out));(case aS=>exact (zS (BL HB)));(case aL=>have:=LMc9.out;omega);intro v756 w10 ho hb hg hat;rw[←Ny755.out] at ho;replace HB:=K_ (hb);have HO757:=K_ (ho);clear HO_5;clear ho hb hg hat))
    go_roundg k1
    case measure=>have:=HK1.out;omega
    case rel=>exact⟨(y755),(0),(wrap64 (x7_1+1)),SR,SR,H',⟨by have:=HK1.out;omega⟩,⟨RB HO757.out⟩,⟨BL HB⟩⟩
   rw[if_neg c9] at H;exact absurd H (by simp)
  rw[if_neg c3] at H;have c3b0:decide (x7_1<(a0.size:Int))=false:=decide_eq_false c3;clear c3;obtain⟨t748,A110,H⟩:=Option.bind_eq_some_iff.mp H
  (try dsimp -simprocs only at H)
  have A11:=K_ A110;clear A110;obtain⟨t749,A120,H⟩:=Option.bind_eq_some_iff.mp H
  (try dsimp -simprocs only at H)
  have A12:=K_ A120;clear A120;obtain rfl:=Option.some.inj H;obtain⟨Ao13,co13,eo13⟩:=Kd.R_slice HO_5.out;subst eo13;go_wp2_with (first|((with_reducible refine zK (f:=139) rfl ?_);refine zW (some 35) rfl rfl Tryz.func139 (by kernel_rfl) rfl #[.slice Ao13 x5_1.length co13] rfl MP ?_;(with_reducible refine (jA.calls k1 _ _ x5_1 t748 _ ?side1 ?side2 A11.out).mono ?_);(case side1=>exact CB ((Kd.R_reads' HO_5.out).2.2));(case side2=>exact (Kd.R_reads' HO_5.out).2.1);rintro e w14 ⟨rfl,hb⟩;refine⟨_,rfl,?_⟩;replace HO_5:=K_ (Kd.R_below (RB HO_5.out) hb);replace HB:=zF HB hb;(try clear hb);(try clear hb2);(try clear hk);(try clear hi))|((with_reducible refine zK (f:=69) rfl ?_);refine zW (some 36) rfl rfl Tryz.func69 (by kernel_rfl) rfl #[.string t748] rfl MP ?_;(with_reducible refine (zM.calls k1 t748 t749 _ A12.out).mono ?_);rintro e w' ⟨rfl,⟨nd,rfl⟩⟩;refine⟨_,rfl,?_⟩))
  go_ret
  exact⟨ER,BL HB⟩
mutual
def zV.l0:Nat→ByteArray→ByteArray→ByteArray→ByteArray→Int→Option (ByteArray×ByteArray)
 | 0,_,_,_,_,_=>none
 | k+1,x0,x1,x6,x7,x8=>if x8<(x0.size:Int) then (if 0≤x8 then (if x8≤(wrap64 (x8+1)) then (if (wrap64 (x8+1))≤(x0.size:Int) then (if x7.size+(x0.extract (x8:Int).toNat ((wrap64 (x8+1)):Int).toNat).size≤9223372036854775807 then ((zM.f k (x7++(x0.extract (x8:Int).toNat ((wrap64 (x8+1)):Int).toNat))).bind fun t759=>(zV.l1 k x0 x1 x6 t759 x8 0)) else (none)) else (none)) else (none)) else (none)) else ((zM.f k x6).bind fun t758=>(some (t758,x7)))
def zV.l1:Nat→ByteArray→ByteArray→ByteArray→ByteArray→Int→Int→Option (ByteArray×ByteArray)
 | 0,_,_,_,_,_,_=>none
 | k+1,x0,x1,x6,x7,x8,x9=>(yP.f x7 x1).bind fun t760=>(if t760=true then ((some (([(wrap64 (48+x9)) % 256]:List Int):List Int)).bind fun y761=>(if x6.size+(strOfNums y761).size≤9223372036854775807 then (zV.l0 k x0 x1 (x6++(strOfNums y761)) x7 (wrap64 (x8+1))) else (none))) else ((jD.f k x7 x1).bind fun t764=>(zV.l1 k x0 x1 x6 t764 x8 (wrap64 (x9+1)))))
end
def zV.f (k:Nat) (a0:ByteArray) (a1:ByteArray):Option (ByteArray×ByteArray):=zV.l0 k a0 a1 (⟨#[]⟩:ByteArray) (⟨#[]⟩:ByteArray) 0
set_option maxHeartbeats 8000000 in
set_option maxRecDepth 100000 in
theorem zV.calls (k:Nat) (a0:ByteArray) (a1:ByteArray) (r1:ByteArray) (r2:ByteArray) (w:World) (h:zV.f k a0 a1=some (r1,r2)) :
  Calls Tryz.prog 109 #[.string a0,.string a1] w fun e w'=>e=.returned (.tuple #[.string r1,.string r2])∧Below w.heap.size w w':=by
 have HB:=K_ (Below.refl w.heap.size w);have H:(zV.l0 k a0 a1 (⟨#[]⟩:ByteArray) (⟨#[]⟩:ByteArray) 0)=some (r1,r2):=h;clear h;have H':=K_ H;clear H;go_enter Tryz.func109,Tryz.ntmps109
 go_wp2
 go_loopg [6,7,8] k (fun kq v6 v7 v8 w'=>∃ (x6_1:ByteArray) (x7_1:ByteArray) (x8_1:Int),v6=.string x6_1∧v7=.string x7_1∧v8=.int .i64 x8_1∧Aside0 (zV.l0 kq a0 a1 x6_1 x7_1 x8_1=some (r1,r2))∧Aside0 (kq≤k)∧Aside0 (Below w.heap.size w w'))
 case atStart=>exact⟨((⟨#[]⟩:ByteArray)),((⟨#[]⟩:ByteArray)),(0),SR,SR,SR,H',⟨Nat.le_refl _⟩,⟨BL HB⟩⟩
 case round =>
  clear H';obtain⟨x6_1,x7_1,x8_1,rfl,rfl,rfl,HA,HK1,HB⟩:=hrel;obtain _|k1:=gk
  ·exact absurd HA.out (by simp[zV.l0])
  have H:=HA.out;clear HA;simp only[zV.l0] at H
  by_cases c3:x8_1<(a0.size:Int)
  ·rw[if_pos c3] at H
   have c3b0:decide (x8_1<(a0.size:Int))=true:=decide_eq_true c3;clear c3;by_cases c4:0≤x8_1
   ·rw[if_pos c4] at H
    have c4b0:=eq_true c4;have c4b1:decide (0≤x8_1)=true:=decide_eq_true c4;clear c4;by_cases c5:x8_1≤(wrap64 (x8_1+1))
    ·rw[if_pos c5] at H
     have c5b0:=eq_true c5;have c5b1:decide (x8_1≤(wrap64 (x8_1+1)))=true:=decide_eq_true c5;by_cases c6:(wrap64 (x8_1+1))≤(a0.size:Int)
     ·rw[if_pos c6] at H
      have c6b0:=eq_true c6;have c6b1:decide ((wrap64 (x8_1+1))≤(a0.size:Int))=true:=decide_eq_true c6;by_cases c7:x7_1.size+(a0.extract (x8_1:Int).toNat ((wrap64 (x8_1+1)):Int).toNat).size≤9223372036854775807
      ·rw[if_pos c7] at H
       have c7b0:=eq_true c7;have c7b1:decide (x7_1.size+(a0.extract (x8_1:Int).toNat ((wrap64 (x8_1+1)):Int).toNat).size≤9223372036854775807)=true:=decide_eq_true c7;try have c7b2:(9223372036854775807<x7_1.size+(a0.extract (x8_1:Int).toNat ((wrap64 (x8_1+1)):Int).toNat).size)=False:=eq_false (Nat.not_lt.2 c7)
       obtain⟨t759,A80,H⟩:=Option.bind_eq_some_iff.mp H
       (try dsimp -simprocs only at H)
       have A8:=K_ A80;clear A80;have H':=K_ H;clear H;go_wp2_with (first|((with_reducible refine zK (f:=69) rfl ?_);refine zW (some 23) rfl rfl Tryz.func69 (by kernel_rfl) rfl #[.string (x7_1++(a0.extract (x8_1:Int).toNat ((wrap64 (x8_1+1)):Int).toNat))] rfl MP ?_;(with_reducible refine (zM.calls k1 (x7_1++(a0.extract (x8_1:Int).toNat ((wrap64 (x8_1+1)):Int).toNat)) t759 _ A8.out).mono ?_);rintro e w' ⟨rfl,⟨nd,rfl⟩⟩;refine⟨_,rfl,?_⟩))
       go_loopg [7,9] k1 (fun kq v7 v9 w'=>∃ (x7_2:ByteArray) (x9_2:Int),v7=.string x7_2∧v9=.int .i64 x9_2∧Aside0 (zV.l1 kq a0 a1 x6_1 x7_2 x8_1 x9_2=some (r1,r2))∧Aside0 (kq≤k1)∧Aside0 (Below w.heap.size w w'))
       case atStart=>exact⟨(t759),(0),SR,SR,H',⟨Nat.le_refl _⟩,⟨BL HB⟩⟩
       case round =>
        clear H';try clear c3
        try clear c3b0
        try clear c4
        try clear c4b0
        try clear c4b1
        try clear c5
        try clear c5b0
        try clear c5b1
        try clear c6
        try clear c6b0
        try clear c6b1
        try clear c7
        try clear c7b0
        try clear c7b1
        try clear c7b2
        obtain⟨x7_2,x9_2,rfl,rfl,HA,HK2,HB⟩:=hrel;obtain _|k2:=gk
        ·exact absurd HA.out (by simp[zV.l1])
        have H:=HA.out;clear HA;simp only[zV.l1] at H
        obtain⟨t760,A90,H⟩:=Option.bind_eq_some_iff.mp H
        (try dsimp -simprocs only at H)
        have A9:=K_ A90;clear A90;by_cases c10:t760=true
        ·subst c10
         rw[if_pos rfl] at H;obtain⟨y761,hy761⟩:∃ y_:List Int,y_=(([(wrap64 (48+x9_2)) % 256]:List Int)):=⟨_,rfl⟩
         replace H:(if x6_1.size+(strOfNums y761).size≤9223372036854775807 then (zV.l0 k2 a0 a1 (x6_1++(strOfNums y761)) x7_2 (wrap64 (x8_1+1))) else (none))=some (r1,r2):=by first|(rw[hy761];with_reducible exact H)|(have H2_:=(Option.bind_some _ _).symm.trans H;rw[hy761];with_reducible exact H2_)|(have H2_:=(Option.bind_some _ _).symm.trans H;with_reducible exact H2_)|with_reducible exact H|(rw[hy761];exact H)|exact H
         have Ny761:=K_ hy761;clear hy761;by_cases c11:x6_1.size+(strOfNums y761).size≤9223372036854775807
         ·rw[if_pos c11] at H
          have c11b0:=eq_true c11;have c11b1:decide (x6_1.size+(strOfNums y761).size≤9223372036854775807)=true:=decide_eq_true c11;try have c11b2:(9223372036854775807<x6_1.size+(strOfNums y761).size)=False:=eq_false (Nat.not_lt.2 c11)
          have H':=K_ H;clear H;go_wp2_with (first|((with_reducible refine zK (f:=43) rfl ?_);refine zW (some 26) rfl rfl Tryz.func43 (by kernel_rfl) rfl #[.string x7_2,.string a1] rfl MP ?_;(with_reducible refine (yP.calls x7_2 a1 true _ A9.out).mono ?_);rintro e w' ⟨rfl,⟨nd,rfl⟩⟩;refine⟨_,rfl,?_⟩)|((with_reducible refine zE (N:=37) rfl ?_);refine Kd.R_lit (Kd.int .u8) _ 5 ?hg (N:=37) ?hd (xs:=([(wrap64 (48+x9_2)) % 256]:List Int)) (inner:=[.int .u8 ((wrap64 (48+x9_2)) % 256)]) (ok:=fun _=>True) (okp:=fun _=>True) ?hr ?hp (fun _ hk=>hk) trivial (Below.refl _ _) (Nat.le_refl _) (by simp) ?_;(case hd=>rfl);(case hg=>rfl);(case hr=>first|(go_simp;done)|(go_simp;rfl));(case hp=>exact (jP.one (show Kd.M (Kd.int .u8) _ _ _ ((wrap64 (48+x9_2)) % 256) [.int .u8 ((wrap64 (48+x9_2)) % 256)] from rfl) (jP.none _ _)));intro v762 w12 ho13 hb hg_ hnew_;clear hg_ hnew_;(first|rw[←Ny761.out] at ho13|(simp only[Int.reduceToNat] at ho13;rw[←Ny761.out] at ho13));have HO763:=K_ (Kd.R_lower ho13 (zS (BL HB)));replace HB:=zF HB hb;clear hb ho13;have hcv14:=zcS (P:=Tryz.prog) Tryz.underlying107 Tryz.underlying5 Tryz.underlying9 (Kd.own_of_R HO763.out)))
          go_roundg k2
          case measure=>have:=HK1.out;have:=HK2.out;omega
          case rel=>exact⟨(x6_1++(strOfNums y761)),(x7_2),(wrap64 (x8_1+1)),SR,SR,SR,H',⟨by have:=HK1.out;have:=HK2.out;omega⟩,⟨BL HB⟩⟩
         rw[if_neg c11] at H;exact absurd H (by simp)
        replace c10:=Bool.eq_false_iff.mpr c10;subst c10;rw[if_neg (show ¬ (false=true) by decide)] at H;obtain⟨t764,A150,H⟩:=Option.bind_eq_some_iff.mp H
        (try dsimp -simprocs only at H)
        have A15:=K_ A150;clear A150;have H':=K_ H;clear H;go_wp2_with (first|((with_reducible refine zK (f:=43) rfl ?_);refine zW (some 26) rfl rfl Tryz.func43 (by kernel_rfl) rfl #[.string x7_2,.string a1] rfl MP ?_;(with_reducible refine (yP.calls x7_2 a1 false _ A9.out).mono ?_);rintro e w' ⟨rfl,⟨nd,rfl⟩⟩;refine⟨_,rfl,?_⟩)|((with_reducible refine zK (f:=137) rfl ?_);refine zW (some 30) rfl rfl Tryz.func137 (by kernel_rfl) rfl #[.string x7_2,.string a1] rfl MP ?_;(with_reducible refine (jD.calls k2 x7_2 a1 t764 _ A15.out).mono ?_);rintro e w16 ⟨rfl,hb⟩;refine⟨_,rfl,?_⟩;replace HB:=zF HB hb;(try clear hb);(try clear hb2);(try clear hk);(try clear hi)))
        go_roundg k2
        case measure=>have:=HK1.out;have:=HK2.out;omega
        case rel=>exact⟨(t764),(wrap64 (x9_2+1)),SR,SR,H',⟨by have:=HK1.out;have:=HK2.out;omega⟩,⟨BL HB⟩⟩
      rw[if_neg c7] at H;exact absurd H (by simp)
     rw[if_neg c6] at H;exact absurd H (by simp)
    rw[if_neg c5] at H;exact absurd H (by simp)
   rw[if_neg c4] at H;exact absurd H (by simp)
  rw[if_neg c3] at H;have c3b0:decide (x8_1<(a0.size:Int))=false:=decide_eq_false c3;clear c3;obtain⟨t758,A170,H⟩:=Option.bind_eq_some_iff.mp H
  (try dsimp -simprocs only at H)
  have A17:=K_ A170;clear A170;simp only[Option.some.injEq,Prod.mk.injEq] at H
  obtain⟨rfl,rfl⟩:=H;go_wp2_with (first|((with_reducible refine zK (f:=69) rfl ?_);refine zW (some 41) rfl rfl Tryz.func69 (by kernel_rfl) rfl #[.string x6_1] rfl MP ?_;(with_reducible refine (zM.calls k1 x6_1 t758 _ A17.out).mono ?_);rintro e w' ⟨rfl,⟨nd,rfl⟩⟩;refine⟨_,rfl,?_⟩))
  go_ret2
  exact⟨ER,BL HB⟩
def uJ.f (a0:Int) (a1:Bool) (a2:Bool) (a3:Int):Option (Bool):=if a0=0 then (some (!a1)) else (if a0=1 then (some a1) else (if a0=2 then (some true) else (if a0=4 then (if a3>0 then (some true) else (if a3=0 then (some a2) else (some false))) else (if a0=5 then (some (decide (a3 ≥ 0))) else (if a0=6 then (some (decide (a3>0))) else (some false))))))
set_option maxHeartbeats 8000000 in
set_option maxRecDepth 100000 in
theorem uJ.calls (a0:Int) (a1:Bool) (a2:Bool) (a3:Int) (r:Bool) (w:World) (h:uJ.f a0 a1 a2 a3=some r) :
  Calls Tryz.prog 111 #[.int .i64 a0,.bool a1,.bool a2,.int .i64 a3] w fun e w'=>e=.returned (.bool r)∧zJ w w':=by
 have H:(if a0=0 then (some (!a1)) else (if a0=1 then (some a1) else (if a0=2 then (some true) else (if a0=4 then (if a3>0 then (some true) else (if a3=0 then (some a2) else (some false))) else (if a0=5 then (some (decide (a3 ≥ 0))) else (if a0=6 then (some (decide (a3>0))) else (some false)))))))=some r:=h;clear h;by_cases c5:a0=0
 ·rw[if_pos c5] at H
  have c5b0:(a0==0)=true:=beq_iff_eq.mpr c5;have c5b1:(a0 !=0)=false:=bne_eq_false_iff_eq.mpr c5;clear c5;obtain rfl:=Option.some.inj H;go_enter Tryz.func111,Tryz.ntmps111
  go_wp2
  go_ret
  exact⟨by first|rfl|(simp;done)|(simp[*];done)|(simp[*,Fig.bne_nil];done),by repeat (first|exact zJ.refl _|apply zJ.step)⟩
 rw[if_neg c5] at H;have c5b0:(a0==0)=false:=beq_eq_false_iff_ne.mpr c5;have c5b1:(a0 !=0)=true:=bne_iff_ne.mpr c5;by_cases c6:a0=1
 ·rw[if_pos c6] at H
  have c6b0:(a0==1)=true:=beq_iff_eq.mpr c6;have c6b1:(a0 !=1)=false:=bne_eq_false_iff_eq.mpr c6;clear c6;obtain rfl:=Option.some.inj H;go_enter Tryz.func111,Tryz.ntmps111
  go_wp2
  go_ret
  exact⟨by first|rfl|(simp;done)|(simp[*];done)|(simp[*,Fig.bne_nil];done),by repeat (first|exact zJ.refl _|apply zJ.step)⟩
 rw[if_neg c6] at H;have c6b0:(a0==1)=false:=beq_eq_false_iff_ne.mpr c6;have c6b1:(a0 !=1)=true:=bne_iff_ne.mpr c6;by_cases c7:a0=2
 ·rw[if_pos c7] at H
  have c7b0:(a0==2)=true:=beq_iff_eq.mpr c7;have c7b1:(a0 !=2)=false:=bne_eq_false_iff_eq.mpr c7;clear c7;obtain rfl:=Option.some.inj H;go_enter Tryz.func111,Tryz.ntmps111
  go_wp2
  go_ret
  exact⟨by first|rfl|(simp;done)|(simp[*];done)|(simp[*,Fig.bne_nil];done),by repeat (first|exact zJ.refl _|apply zJ.step)⟩
 rw[if_neg c7] at H;have c7b0:(a0==2)=false:=beq_eq_false_iff_ne.mpr c7;have c7b1:(a0 !=2)=true:=bne_iff_ne.mpr c7;by_cases c8:a0=4
 ·rw[if_pos c8] at H
  have c8b0:(a0==4)=true:=beq_iff_eq.mpr c8;have c8b1:(a0 !=4)=false:=bne_eq_false_iff_eq.mpr c8;clear c8;by_cases c9:a3>0
  ·rw[if_pos c9] at H
   have c9b0:decide (0<a3)=true:=decide_eq_true c9;clear c9;obtain rfl:=Option.some.inj H;go_enter Tryz.func111,Tryz.ntmps111
   go_wp2
   go_ret
   exact⟨by first|rfl|(simp;done)|(simp[*];done)|(simp[*,Fig.bne_nil];done),by repeat (first|exact zJ.refl _|apply zJ.step)⟩
  rw[if_neg c9] at H;have c9b0:decide (0<a3)=false:=decide_eq_false c9;clear c9;by_cases c10:a3=0
  ·rw[if_pos c10] at H
   have c10b0:(a3==0)=true:=beq_iff_eq.mpr c10;have c10b1:(a3 !=0)=false:=bne_eq_false_iff_eq.mpr c10;clear c10;obtain rfl:=Option.some.inj H;go_enter Tryz.func111,Tryz.ntmps111
   go_wp2
   go_ret
   exact⟨by first|rfl|(simp;done)|(simp[*];done)|(simp[*,Fig.bne_nil];done),by repeat (first|exact zJ.refl _|apply zJ.step)⟩
  rw[if_neg c10] at H;have c10b0:(a3==0)=false:=beq_eq_false_iff_ne.mpr c10;have c10b1:(a3 !=0)=true:=bne_iff_ne.mpr c10;obtain rfl:=Option.some.inj H;go_enter Tryz.func111,Tryz.ntmps111
  go_wp2
  go_ret
  exact⟨by first|rfl|(simp;done)|(simp[*];done)|(simp[*,Fig.bne_nil];done),by repeat (first|exact zJ.refl _|apply zJ.step)⟩
 rw[if_neg c8] at H;have c8b0:(a0==4)=false:=beq_eq_false_iff_ne.mpr c8;have c8b1:(a0 !=4)=true:=bne_iff_ne.mpr c8;by_cases c11:a0=5
 ·rw[if_pos c11] at H
  have c11b0:(a0==5)=true:=beq_iff_eq.mpr c11;have c11b1:(a0 !=5)=false:=bne_eq_false_iff_eq.mpr c11;clear c11;obtain rfl:=Option.some.inj H;go_enter Tryz.func111,Tryz.ntmps111
  go_wp2
  go_ret
  exact⟨by first|rfl|(simp;done)|(simp[*];done)|(simp[*,Fig.bne_nil];done),by repeat (first|exact zJ.refl _|apply zJ.step)⟩
 rw[if_neg c11] at H;have c11b0:(a0==5)=false:=beq_eq_false_iff_ne.mpr c11;have c11b1:(a0 !=5)=true:=bne_iff_ne.mpr c11;by_cases c12:a0=6
 ·rw[if_pos c12] at H
  have c12b0:(a0==6)=true:=beq_iff_eq.mpr c12;have c12b1:(a0 !=6)=false:=bne_eq_false_iff_eq.mpr c12;clear c12;obtain rfl:=Option.some.inj H;go_enter Tryz.func111,Tryz.ntmps111
  go_wp2
  go_ret
  exact⟨by first|rfl|(simp;done)|(simp[*];done)|(simp[*,Fig.bne_nil];done),by repeat (first|exact zJ.refl _|apply zJ.step)⟩
 rw[if_neg c12] at H;have c12b0:(a0==6)=false:=beq_eq_false_iff_ne.mpr c12;have c12b1:(a0 !=6)=true:=bne_iff_ne.mpr c12;obtain rfl:=Option.some.inj H;go_enter Tryz.func111,Tryz.ntmps111
 go_wp2
 go_ret
 exact⟨by first|rfl|(simp;done)|(simp[*];done)|(simp[*,Fig.bne_nil];done),by repeat (first|exact zJ.refl _|apply zJ.step)⟩
mutual
def zH.j0:Nat→Int→ByteArray→Int→Int→Bool→ByteArray→Int→Option (Bool×ByteArray×Int×Int)
 | 0,_,_,_,_,_,_,_=>none
 | k+1,x0,x2,x3,x10,x786000,x786001,x786002=>(zM.f k x2).bind fun t787=>((jC.f k (wrap64 (x3-x10))).bind fun t788=>(if t787.size+t788.size≤9223372036854775807 then ((uI.f k x786000 x786001 x786002 x10).bind fun t789=>((zV.f k t789 (t787++t788)).bind fun bt790=>(if bt790.2.toList=([]:List UInt8) then ((zX.f k x786000 x786001 x786002).bind fun bt792=>(some (bt792.1,bt792.2.1,bt792.2.2,0))) else (if x0=7 then (some (false,(⟨#[]⟩:ByteArray),0,11)) else ((zT.f k bt790.2 bt790.2).bind fun t795=>((yP.f t795 (t787++t788)).bind fun t796=>(if t796=true then (zH.j1 k x0 x10 (t787++t788) bt790.1 t795 (-1) x786000 x786001 x786002) else (zH.j1 k x0 x10 (t787++t788) bt790.1 t795 0 x786000 x786001 x786002)))))))) else (none)))
def zH.j1:Nat→Int→Int→ByteArray→ByteArray→ByteArray→Int→Bool→ByteArray→Int→Option (Bool×ByteArray×Int×Int)
 | 0,_,_,_,_,_,_,_,_,_=>none
 | k+1,x0,x10,x11,x12,x14,x15,x786000,x786001,x786002=>(yP.f x11 x14).bind fun t797=>(if t797=true then (zH.j2 k x0 x10 x11 x12 1 x786000 x786001 x786002) else (zH.j2 k x0 x10 x11 x12 x15 x786000 x786001 x786002))
def zH.j2:Nat→Int→Int→ByteArray→ByteArray→Int→Bool→ByteArray→Int→Option (Bool×ByteArray×Int×Int)
 | 0,_,_,_,_,_,_,_,_=>none
 | k+1,x0,x10,x11,x12,x15,x786000,x786001,x786002=>if (x12.size:Int)>0 then (if 0≤(wrap64 ((x12.size:Int)-1)) then (if (wrap64 ((x12.size:Int)-1))<(x12.size:Int) then (zH.j3 k x0 x10 x11 x12 x15 (((((bt x12 (wrap64 ((x12.size:Int)-1)))-48) % 256) % 2)==1) x786000 x786001 x786002) else (none)) else (none)) else (zH.j3 k x0 x10 x11 x12 x15 false x786000 x786001 x786002)
def zH.j3:Nat→Int→Int→ByteArray→ByteArray→Int→Bool→Bool→ByteArray→Int→Option (Bool×ByteArray×Int×Int)
 | 0,_,_,_,_,_,_,_,_,_=>none
 | k+1,x0,x10,x11,x12,x15,x16,x786000,x786001,x786002=>(uJ.f x0 x786000 x16 x15).bind fun t798=>(if t798=true then ((zT.f k x12 (⟨#[49]⟩:ByteArray)).bind fun t799=>((zI.f k t799 x11).bind fun t800=>((yH.f k x786000 t800 x10).bind fun bt801=>(some (bt801.1,bt801.2.1,bt801.2.2,0))))) else ((zI.f k x12 x11).bind fun t804=>((yH.f k x786000 t804 x10).bind fun bt805=>(some (bt805.1,bt805.2.1,bt805.2.2,0)))))
end
def zH.f (k:Nat) (a0:Int) (a1_0:Bool) (a1_1:ByteArray) (a1_2:Int) (a2:ByteArray) (a3:Int):Option (Bool×ByteArray×Int×Int):=if a3<a1_2 then (zH.j0 k a0 a2 a3 a3 a1_0 a1_1 a1_2) else (zH.j0 k a0 a2 a3 a1_2 a1_0 a1_1 a1_2)
def zH.T19:Bool×List (List Nat×List Nat):=(true,[([],[]),([0],[0]),([],[]),([],[]),([2,3],[2,3]),([],[]),([1,4,5,4],[1,4,5]),([6,6,0,1,2,3,4,5,6],[6]),([7,0,1,2,3,4,5,6,7],[])])
def zH.B19:List Nat:=[0,1,0,0,12,0,63,127,255]
theorem zH.tab19:zal .any (zgp Tryz.f83 19)=zH.T19:=by kernel_rfl
theorem zH.bits19:zbF zH.T19.2 zH.B19=true:=by kernel_rfl
set_option maxHeartbeats 8000000 in
set_option maxRecDepth 100000 in
theorem zH.calls (k:Nat) (a0:Int) (a1_0:Bool) (a1_1:ByteArray) (a1_2:Int) (a2:ByteArray) (a3:Int) (r1:Bool) (r2:ByteArray) (r3:Int) (r4:Int) (w:World) (h:zH.f k a0 a1_0 a1_1 a1_2 a2 a3=some (r1,r2,r3,r4)) :
  Calls Tryz.prog 83 #[.int .i64 a0,.agg #[.bool a1_0,.string a1_1,.int .i64 a1_2],.string a2,.int .i64 a3] w fun e w'=>e=.returned (.tuple #[.agg #[.bool r1,.string r2,.int .i64 r3],.int .i64 r4])∧Below w.heap.size w w':=by
 have hu23:=Tryz.underlying23;have HB:=K_ (Below.refl w.heap.size w);have H:(if a3<a1_2 then (zH.j0 k a0 a2 a3 a3 a1_0 a1_1 a1_2) else (zH.j0 k a0 a2 a3 a1_2 a1_0 a1_1 a1_2))=some (r1,r2,r3,r4):=h;clear h;have HC5:=K_ H;clear H;go_enter Tryz.func83,Tryz.ntmps83
 go_upto_if 21 with (first|((with_reducible refine zE (N:=5) rfl ?_);(try (refine vG (by rfl) ?_;dsimp only));refine be_ 5 #[.bool a1_0,.string a1_1,.int .i64 a1_2] 23 ?_;intro gb785 hg w6 hbox hb;have BK785:=K_ (hbox);have GW785:=ge_ hg HB;have GE785:=ge_ hg HB;replace HB:=zF HB hb;clear hb hbox hg)|((with_reducible refine zE (N:=8) rfl ?_);(try (refine vG (by rfl) ?_;dsimp only));refine be_ 8 #[.bool false,.string (⟨#[]⟩:ByteArray),.int .i64 0] 23 ?_;intro gb786 hg w7 hbox hb;have BK786:=K_ (hbox);have GW786:=ge_ hg HB;have GE786:=ge_ hg HB;replace HB:=zF HB hb;have NB785_786:=nb_ hg BK785;have NB786_785:=nc_ hg BK785;replace BK785:=zC BK785 hb;clear hb hbox hg;have hnb8:=NB785_786.out;have hnc8:=NB786_785.out;obtain⟨⟨hcz9_0,hcz9_1,hcz9_2⟩,hfz9_0,hfz9_1,hfz9_2⟩:=ce3 BK785))
 (try simp only[Act.put,List.setIfInBounds_toArray,List.set_cons_zero,List.set_cons_succ])
 go_cut [10] (fun v10 wc=>∃ (kq:Nat) (x10_4:Int),v10=.int .i64 x10_4∧Aside0 (zH.j0 kq a0 a2 a3 x10_4 a1_0 a1_1 a1_2=some (r1,r2,r3,r4))∧Aside0 (kq≤k)∧Aside0 (wc.heap[gb785]?=some (.cells #[.bool a1_0,.string a1_1,.int .i64 a1_2] 23 (0,0)))∧Aside0 (wc.heap[gb786]?=some (.cells #[.bool false,.string (⟨#[]⟩:ByteArray),.int .i64 0] 23 (0,0)))∧Aside0 (Below w.heap.size w wc))
 case first =>
  have H:=HC5.out;clear HC5;by_cases c10:a3<a1_2
  ·rw[if_pos c10] at H
   have c10b0:decide (a3<a1_2)=true:=decide_eq_true c10;clear c10;(first|rw[c10b0]|(simp only[yY,qT];rw[c10b0])|skip)
   have H':=K_ H;clear H;go_wp2
   go_meet
   case rel=>exact⟨_,(a3),SR,H',⟨by first|omega|exact Nat.le_refl _⟩,⟨BK BK785⟩,⟨BK BK786⟩,⟨BL HB⟩⟩
  rw[if_neg c10] at H;have c10b0:decide (a3<a1_2)=false:=decide_eq_false c10;clear c10;(first|rw[c10b0]|(simp only[yY,qT];rw[c10b0])|skip)
  have H':=K_ H;clear H;go_wp2
  go_meet
  case rel=>exact⟨_,(a1_2),SR,H',⟨by first|omega|exact Nat.le_refl _⟩,⟨BK BK785⟩,⟨BK BK786⟩,⟨BL HB⟩⟩
 clear HC5;try clear hcz9_0
 try clear hcz9_1
 try clear hcz9_2
 try clear hfz9_0
 try clear hfz9_1
 try clear hfz9_2
 obtain⟨kq,x10_4,rfl,HA,HJ4,BK785,BK786,HB⟩:=hcut;obtain _|kj4:=kq
 ·exact absurd HA.out (by simp[zH.j0])
 have H:=HA.out;clear HA;simp only[zH.j0] at H
 obtain⟨t787,A110,H⟩:=Option.bind_eq_some_iff.mp H
 (try dsimp -simprocs only at H)
 have A11:=K_ A110;clear A110;obtain⟨t788,A120,H⟩:=Option.bind_eq_some_iff.mp H
 (try dsimp -simprocs only at H)
 have A12:=K_ A120;clear A120;by_cases c13:t787.size+t788.size≤9223372036854775807
 ·rw[if_pos c13] at H
  have c13b0:=eq_true c13;have c13b1:decide (t787.size+t788.size≤9223372036854775807)=true:=decide_eq_true c13;try have c13b2:(9223372036854775807<t787.size+t788.size)=False:=eq_false (Nat.not_lt.2 c13)
  obtain⟨t789,A140,H⟩:=Option.bind_eq_some_iff.mp H
  (try dsimp -simprocs only at H)
  have A14:=K_ A140;clear A140;obtain⟨⟨t790,t791⟩,A150,H⟩:=Option.bind_eq_some_iff.mp H
  (try dsimp -simprocs only at H)
  have A15:=K_ A150;clear A150;by_cases c16:t791.toList=([]:List UInt8)
  ·rw[if_pos c16] at H
   have c16b0:(t791.toList==([]:List UInt8))=true:=beq_iff_eq.mpr c16;have c16b1:(t791.toList !=([]:List UInt8))=false:=bne_eq_false_iff_eq.mpr c16;clear c16;obtain⟨⟨t792,t793,t794⟩,A170,H⟩:=Option.bind_eq_some_iff.mp H
   (try dsimp -simprocs only at H)
   have A17:=K_ A170;clear A170;simp only[Option.some.injEq,Prod.mk.injEq] at H
   obtain⟨rfl,rfl,rfl,rfl⟩:=H;go_wp2_with (first|((with_reducible refine zK (f:=69) rfl ?_);refine zW (some 24) rfl rfl Tryz.func69 (by kernel_rfl) rfl #[.string a2] rfl MP ?_;(with_reducible refine (zM.calls kj4 a2 t787 _ A11.out).mono ?_);rintro e w' ⟨rfl,⟨nd,rfl⟩⟩;refine⟨_,rfl,?_⟩;(try (rw[xQ wc];generalize hq_:World.drewN wc _=wc;replace BK785:=zbt BK785 hq_;replace BK786:=zbt BK786 hq_;replace HB:=zde HB hq_;clear hq_));(try (obtain⟨⟨hcz9068_0,hcz9068_1,hcz9068_2⟩,hfz9068_0,hfz9068_1,hfz9068_2⟩:=ce3 BK785));(try (obtain⟨⟨hcz9069_0,hcz9069_1,hcz9069_2⟩,hfz9069_0,hfz9069_1,hfz9069_2⟩:=ce3 BK786)))|((with_reducible refine zK (f:=70) rfl ?_);refine zW (some 28) rfl rfl Tryz.func70 (by kernel_rfl) rfl #[.int .i64 (wrap64 (a3-x10_4))] rfl MP ?_;(with_reducible refine (jC.calls kj4 (wrap64 (a3-x10_4)) t788 _ A12.out).mono ?_);rintro e w18 ⟨rfl,hb⟩;refine⟨_,rfl,?_⟩;replace BK785:=zC BK785 hb;replace BK786:=zC BK786 hb;replace HB:=zF HB hb;(try clear hb);(try clear hb2);(try clear hk);(try clear hi);have hnb19:=NB785_786.out;have hnc19:=NB786_785.out;obtain⟨⟨hcz20_0,hcz20_1,hcz20_2⟩,hfz20_0,hfz20_1,hfz20_2⟩:=ce3 BK785)|((with_reducible refine zK (f:=42) rfl ?_);refine zW (some 33) rfl rfl Tryz.func42 (by kernel_rfl) rfl #[.agg #[.bool a1_0,.string a1_1,.int .i64 a1_2],.int .i64 x10_4] rfl MP ?_;(with_reducible refine (uI.calls kj4 a1_0 a1_1 a1_2 x10_4 t789 _ A14.out).mono ?_);rintro e w21 ⟨rfl,hb⟩;refine⟨_,rfl,?_⟩;replace BK785:=zC BK785 hb;replace BK786:=zC BK786 hb;replace HB:=zF HB hb;(try clear hb);(try clear hb2);(try clear hk);(try clear hi))|((with_reducible refine zK (f:=109) rfl ?_);refine zW (some 35) rfl rfl Tryz.func109 (by kernel_rfl) rfl #[.string t789,.string (t787++t788)] rfl MP ?_;(with_reducible refine (zV.calls kj4 t789 (t787++t788) t790 t791 _ A15.out).mono ?_);rintro e w22 ⟨rfl,hb⟩;refine⟨_,rfl,?_⟩;replace BK785:=zC BK785 hb;replace BK786:=zC BK786 hb;replace HB:=zF HB hb;(try clear hb);(try clear hb2);(try clear hk);(try clear hi);obtain⟨⟨hcz23_0,hcz23_1,hcz23_2⟩,hfz23_0,hfz23_1,hfz23_2⟩:=ce3 BK785)|((with_reducible refine zK (f:=50) rfl ?_);refine zW (some 41) rfl rfl Tryz.func50 (by kernel_rfl) rfl #[.agg #[.bool a1_0,.string a1_1,.int .i64 a1_2]] rfl MP ?_;(with_reducible refine (zX.calls kj4 a1_0 a1_1 a1_2 t792 t793 t794 _ A17.out).mono ?_);rintro e w24 ⟨rfl,hb⟩;refine⟨_,rfl,?_⟩;replace BK785:=zC BK785 hb;replace BK786:=zC BK786 hb;replace HB:=zF HB hb;(try clear hb);(try clear hb2);(try clear hk);(try clear hi);obtain⟨⟨hcz25_0,hcz25_1,hcz25_2⟩,hfz25_0,hfz25_1,hfz25_2⟩:=ce3 BK786))
   refine bodyPost_ret (jE rfl _ _ gb786 23 #[.bool t792,.string t793,.int .i64 t794] (0,0) _ rfl (BP BK786) Tryz.underlying23 rfl (by kernel_rfl)) rfl ?_;exact⟨ER,BL HB⟩
  rw[if_neg c16] at H;have c16b0:(t791.toList==([]:List UInt8))=false:=beq_eq_false_iff_ne.mpr c16;have c16b1:(t791.toList !=([]:List UInt8))=true:=bne_iff_ne.mpr c16;by_cases c26:a0=7
  ·rw[if_pos c26] at H
   have c26b0:(a0==7)=true:=beq_iff_eq.mpr c26;have c26b1:(a0 !=7)=false:=bne_eq_false_iff_eq.mpr c26;clear c26;simp only[Option.some.injEq,Prod.mk.injEq] at H
   obtain⟨rfl,rfl,rfl,rfl⟩:=H;go_wp2_with (first|((with_reducible refine zK (f:=69) rfl ?_);refine zW (some 24) rfl rfl Tryz.func69 (by kernel_rfl) rfl #[.string a2] rfl MP ?_;(with_reducible refine (zM.calls kj4 a2 t787 _ A11.out).mono ?_);rintro e w' ⟨rfl,⟨nd,rfl⟩⟩;refine⟨_,rfl,?_⟩;(try (rw[xQ wc];generalize hq_:World.drewN wc _=wc;replace BK785:=zbt BK785 hq_;replace BK786:=zbt BK786 hq_;replace HB:=zde HB hq_;clear hq_));(try (obtain⟨⟨hcz9070_0,hcz9070_1,hcz9070_2⟩,hfz9070_0,hfz9070_1,hfz9070_2⟩:=ce3 BK785));(try (obtain⟨⟨hcz9071_0,hcz9071_1,hcz9071_2⟩,hfz9071_0,hfz9071_1,hfz9071_2⟩:=ce3 BK786)))|((with_reducible refine zK (f:=70) rfl ?_);refine zW (some 28) rfl rfl Tryz.func70 (by kernel_rfl) rfl #[.int .i64 (wrap64 (a3-x10_4))] rfl MP ?_;(with_reducible refine (jC.calls kj4 (wrap64 (a3-x10_4)) t788 _ A12.out).mono ?_);rintro e w27 ⟨rfl,hb⟩;refine⟨_,rfl,?_⟩;replace BK785:=zC BK785 hb;replace BK786:=zC BK786 hb;replace HB:=zF HB hb;(try clear hb);(try clear hb2);(try clear hk);(try clear hi);have hnb28:=NB785_786.out;have hnc28:=NB786_785.out;obtain⟨⟨hcz29_0,hcz29_1,hcz29_2⟩,hfz29_0,hfz29_1,hfz29_2⟩:=ce3 BK785)|((with_reducible refine zK (f:=42) rfl ?_);refine zW (some 33) rfl rfl Tryz.func42 (by kernel_rfl) rfl #[.agg #[.bool a1_0,.string a1_1,.int .i64 a1_2],.int .i64 x10_4] rfl MP ?_;(with_reducible refine (uI.calls kj4 a1_0 a1_1 a1_2 x10_4 t789 _ A14.out).mono ?_);rintro e w30 ⟨rfl,hb⟩;refine⟨_,rfl,?_⟩;replace BK785:=zC BK785 hb;replace BK786:=zC BK786 hb;replace HB:=zF HB hb;(try clear hb);(try clear hb2);(try clear hk);(try clear hi))|((with_reducible refine zK (f:=109) rfl ?_);refine zW (some 35) rfl rfl Tryz.func109 (by kernel_rfl) rfl #[.string t789,.string (t787++t788)] rfl MP ?_;(with_reducible refine (zV.calls kj4 t789 (t787++t788) t790 t791 _ A15.out).mono ?_);rintro e w31 ⟨rfl,hb⟩;refine⟨_,rfl,?_⟩;replace BK785:=zC BK785 hb;replace BK786:=zC BK786 hb;replace HB:=zF HB hb;(try clear hb);(try clear hb2);(try clear hk);(try clear hi);obtain⟨⟨hcz32_0,hcz32_1,hcz32_2⟩,hfz32_0,hfz32_1,hfz32_2⟩:=ce3 BK786))
   refine bodyPost_ret (jE rfl _ _ gb786 23 #[.bool false,.string (⟨#[]⟩:ByteArray),.int .i64 0] (0,0) _ rfl (BP BK786) Tryz.underlying23 rfl (by kernel_rfl)) rfl ?_;exact⟨ER,BL HB⟩
  rw[if_neg c26] at H;have c26b0:(a0==7)=false:=beq_eq_false_iff_ne.mpr c26;have c26b1:(a0 !=7)=true:=bne_iff_ne.mpr c26;obtain⟨t795,A330,H⟩:=Option.bind_eq_some_iff.mp H
  (try dsimp -simprocs only at H)
  have A33:=K_ A330;clear A330;obtain⟨t796,A340,H⟩:=Option.bind_eq_some_iff.mp H
  (try dsimp -simprocs only at H)
  have A34:=K_ A340;clear A340;have HC35:=K_ H;clear H;go_upto_if 50 with (first|((with_reducible refine zK (f:=69) rfl ?_);refine zW (some 24) rfl rfl Tryz.func69 (by kernel_rfl) rfl #[.string a2] rfl MP ?_;(with_reducible refine (zM.calls kj4 a2 t787 _ A11.out).mono ?_);rintro e w' ⟨rfl,⟨nd,rfl⟩⟩;refine⟨_,rfl,?_⟩)|((with_reducible refine zK (f:=70) rfl ?_);refine zW (some 28) rfl rfl Tryz.func70 (by kernel_rfl) rfl #[.int .i64 (wrap64 (a3-x10_4))] rfl MP ?_;(with_reducible refine (jC.calls kj4 (wrap64 (a3-x10_4)) t788 _ A12.out).mono ?_);rintro e w36 ⟨rfl,hb⟩;refine⟨_,rfl,?_⟩;replace BK785:=zC BK785 hb;replace BK786:=zC BK786 hb;replace HB:=zF HB hb;(try clear hb);(try clear hb2);(try clear hk);(try clear hi);have hnb37:=NB785_786.out;have hnc37:=NB786_785.out;obtain⟨⟨hcz38_0,hcz38_1,hcz38_2⟩,hfz38_0,hfz38_1,hfz38_2⟩:=ce3 BK785)|((with_reducible refine zK (f:=42) rfl ?_);refine zW (some 33) rfl rfl Tryz.func42 (by kernel_rfl) rfl #[.agg #[.bool a1_0,.string a1_1,.int .i64 a1_2],.int .i64 x10_4] rfl MP ?_;(with_reducible refine (uI.calls kj4 a1_0 a1_1 a1_2 x10_4 t789 _ A14.out).mono ?_);rintro e w39 ⟨rfl,hb⟩;refine⟨_,rfl,?_⟩;replace BK785:=zC BK785 hb;replace BK786:=zC BK786 hb;replace HB:=zF HB hb;(try clear hb);(try clear hb2);(try clear hk);(try clear hi))|((with_reducible refine zK (f:=109) rfl ?_);refine zW (some 35) rfl rfl Tryz.func109 (by kernel_rfl) rfl #[.string t789,.string (t787++t788)] rfl MP ?_;(with_reducible refine (zV.calls kj4 t789 (t787++t788) t790 t791 _ A15.out).mono ?_);rintro e w40 ⟨rfl,hb⟩;refine⟨_,rfl,?_⟩;replace BK785:=zC BK785 hb;replace BK786:=zC BK786 hb;replace HB:=zF HB hb;(try clear hb);(try clear hb2);(try clear hk);(try clear hi))|((with_reducible refine zK (f:=110) rfl ?_);refine zW (some 47) rfl rfl Tryz.func110 (by kernel_rfl) rfl #[.string t791,.string t791] rfl MP ?_;(with_reducible refine (zT.calls kj4 t791 t791 t795 _ A33.out).mono ?_);rintro e w41 ⟨rfl,hb⟩;refine⟨_,rfl,?_⟩;replace BK785:=zC BK785 hb;replace BK786:=zC BK786 hb;replace HB:=zF HB hb;(try clear hb);(try clear hb2);(try clear hk);(try clear hi))|((with_reducible refine zK (f:=43) rfl ?_);refine zW (some 50) rfl rfl Tryz.func43 (by kernel_rfl) rfl #[.string t795,.string (t787++t788)] rfl MP ?_;(with_reducible refine (yP.calls t795 (t787++t788) t796 _ A34.out).mono ?_);rintro e w' ⟨rfl,⟨nd,rfl⟩⟩;refine⟨_,rfl,?_⟩))
  (try simp only[Act.put,List.setIfInBounds_toArray,List.set_cons_zero,List.set_cons_succ])
  go_cut [15] (fun v15 wc=>∃ (kq:Nat) (x15_34:Int),v15=.int .i64 x15_34∧Aside0 (zH.j1 kq a0 x10_4 (t787++t788) t790 t795 x15_34 a1_0 a1_1 a1_2=some (r1,r2,r3,r4))∧Aside0 (kq≤kj4)∧Aside0 (wc.heap[gb785]?=some (.cells #[.bool a1_0,.string a1_1,.int .i64 a1_2] 23 (0,0)))∧Aside0 (wc.heap[gb786]?=some (.cells #[.bool false,.string (⟨#[]⟩:ByteArray),.int .i64 0] 23 (0,0)))∧Aside0 (Below w.heap.size w wc))
  case first =>
   have H:=HC35.out;clear HC35;by_cases c42:t796=true
   ·subst c42
    rw[if_pos rfl] at H;have H':=K_ H;clear H;go_wp2
    go_meet
    case rel=>exact⟨_,((-1)),SR,H',⟨by have:=HJ4.out;first|omega|exact Nat.le_refl _⟩,⟨BK BK785⟩,⟨BK BK786⟩,⟨BL HB⟩⟩
   replace c42:=Bool.eq_false_iff.mpr c42;subst c42;rw[if_neg (show ¬ (false=true) by decide)] at H;have H':=K_ H;clear H;go_wp2
   go_meet
   case rel=>exact⟨_,(0),SR,H',⟨by have:=HJ4.out;first|omega|exact Nat.le_refl _⟩,⟨BK BK785⟩,⟨BK BK786⟩,⟨BL HB⟩⟩
  clear HC35;try clear c13
  try clear c13b0
  try clear c13b1
  try clear c13b2
  try clear c16
  try clear c16b0
  try clear c16b1
  try clear c26
  try clear c26b0
  try clear c26b1
  try clear hcz38_0
  try clear hcz38_1
  try clear hcz38_2
  try clear hfz38_0
  try clear hfz38_1
  try clear hfz38_2
  obtain⟨kq,x15_34,rfl,HA,HJ34,BK785,BK786,HB⟩:=hcut;obtain _|kj34:=kq
  ·exact absurd HA.out (by simp[zH.j1])
  have H:=HA.out;clear HA;simp only[zH.j1] at H
  obtain⟨t797,A430,H⟩:=Option.bind_eq_some_iff.mp H
  (try dsimp -simprocs only at H)
  have A43:=K_ A430;clear A430;have HC44:=K_ H;clear H;go_upto_if 53 with (first|((with_reducible refine zK (f:=43) rfl ?_);refine zW (some 53) rfl rfl Tryz.func43 (by kernel_rfl) rfl #[.string (t787++t788),.string t795] rfl MP ?_;(with_reducible refine (yP.calls (t787++t788) t795 t797 _ A43.out).mono ?_);rintro e w' ⟨rfl,⟨nd,rfl⟩⟩;refine⟨_,rfl,?_⟩))
  (try simp only[Act.put,List.setIfInBounds_toArray,List.set_cons_zero,List.set_cons_succ])
  go_cut [15] (fun v15 wc=>∃ (kq:Nat) (x15_43:Int),v15=.int .i64 x15_43∧Aside0 (zH.j2 kq a0 x10_4 (t787++t788) t790 x15_43 a1_0 a1_1 a1_2=some (r1,r2,r3,r4))∧Aside0 (kq≤kj34)∧Aside0 (wc.heap[gb785]?=some (.cells #[.bool a1_0,.string a1_1,.int .i64 a1_2] 23 (0,0)))∧Aside0 (wc.heap[gb786]?=some (.cells #[.bool false,.string (⟨#[]⟩:ByteArray),.int .i64 0] 23 (0,0)))∧Aside0 (Below w.heap.size w wc))
  case first =>
   have H:=HC44.out;clear HC44;by_cases c45:t797=true
   ·subst c45
    rw[if_pos rfl] at H;have H':=K_ H;clear H;go_wp2
    go_meet
    case rel=>exact⟨_,(1),SR,H',⟨by have:=HJ4.out;have:=HJ34.out;first|omega|exact Nat.le_refl _⟩,⟨BK BK785⟩,⟨BK BK786⟩,⟨BL HB⟩⟩
   replace c45:=Bool.eq_false_iff.mpr c45;subst c45;rw[if_neg (show ¬ (false=true) by decide)] at H;have H':=K_ H;clear H;go_wp2
   go_meet
   case rel=>exact⟨_,(x15_34),SR,H',⟨by have:=HJ4.out;have:=HJ34.out;first|omega|exact Nat.le_refl _⟩,⟨BK BK785⟩,⟨BK BK786⟩,⟨BL HB⟩⟩
  clear HC44;obtain⟨kq,x15_43,rfl,HA,HJ43,BK785,BK786,HB⟩:=hcut;obtain _|kj43:=kq
  ·exact absurd HA.out (by simp[zH.j2])
  have H:=HA.out;clear HA;simp only[zH.j2] at H
  have HC46:=K_ H;clear H;go_upto_region 16 with (fail)
  go_cut [16] (fun v16 wc=>∃ (kq:Nat) (x16_45:Bool),v16=.bool x16_45∧Aside0 (zH.j3 kq a0 x10_4 (t787++t788) t790 x15_43 x16_45 a1_0 a1_1 a1_2=some (r1,r2,r3,r4))∧Aside0 (kq≤kj43)∧Aside0 (wc.heap[gb785]?=some (.cells #[.bool a1_0,.string a1_1,.int .i64 a1_2] 23 (0,0)))∧Aside0 (wc.heap[gb786]?=some (.cells #[.bool false,.string (⟨#[]⟩:ByteArray),.int .i64 0] 23 (0,0)))∧Aside0 (Below w.heap.size w wc))
  case first =>
   have H:=HC46.out;clear HC46;by_cases c47:(t790.size:Int)>0
   ·rw[if_pos c47] at H
    have c47b0:decide (0<(t790.size:Int))=true:=decide_eq_true c47;have c47b1:decide (0<t790.size)=true:=decide_eq_true (by omega);clear c47;(first|rw[c47b0]|(simp only[yY,qT];rw[c47b0])|skip)
    obtain⟨ji48,hji48⟩:∃ j_:Int,(wrap64 ((t790.size:Int)-1))=j_:=⟨_,rfl⟩
    replace H:(if 0≤(ji48) then (if (ji48)<(t790.size:Int) then (zH.j3 kj43 a0 x10_4 (t787++t788) t790 x15_43 (((((bt t790 (ji48))-48) % 256) % 2)==1) a1_0 a1_1 a1_2) else (none)) else (none))=some (r1,r2,r3,r4):=by first|(rw[hji48] at H;exact H)|(simp only[hji48] at H ⊢;exact H)
    have hji48w:(IntKind.i64.wrap ((t790.size:Int)-1))=ji48:=(yY _).trans hji48;by_cases c49:0≤(ji48)
    ·rw[if_pos c49] at H
     have c49b0:decide (0≤(ji48))=true:=decide_eq_true c49;clear c49;by_cases c50:(ji48)<(t790.size:Int)
     ·rw[if_pos c50] at H
      have c50b0:decide ((ji48)<(t790.size:Int))=true:=decide_eq_true c50;clear c50;have H':=K_ H;clear H;have p51:0≤((ji48):Int):=of_decide_eq_true (by first|(with_reducible assumption)|assumption);have q51:(ji48)<(t790.size:Int):=of_decide_eq_true (by first|(with_reducible assumption)|assumption);have hx51:=xV t790 (ji48);replace p51:=eq_true p51;replace q51:=eq_true q51;go_wp2
      go_meet
      case rel=>exact⟨_,((((((bt t790 (ji48))-48) % 256) % 2)==1)),(by first|rfl|(simp;done)|(simp only[←hji48] <;> (first|rfl|simp))|(simp[*];done)|(simp[*,Fig.bne_nil];done)),H',⟨by have:=HJ4.out;have:=HJ34.out;have:=HJ43.out;first|omega|exact Nat.le_refl _⟩,⟨BK BK785⟩,⟨BK BK786⟩,⟨BL HB⟩⟩
     rw[if_neg c50] at H;exact absurd H (by simp)
    rw[if_neg c49] at H;exact absurd H (by simp)
   rw[if_neg c47] at H;have c47b0:decide (0<(t790.size:Int))=false:=decide_eq_false c47;have c47b1:decide (0<t790.size)=false:=decide_eq_false (by omega);clear c47;(first|rw[c47b0]|(simp only[yY,qT];rw[c47b0])|skip)
   have H':=K_ H;clear H;go_wp2
   go_meet
   case rel=>exact⟨_,(false),SR,H',⟨by have:=HJ4.out;have:=HJ34.out;have:=HJ43.out;first|omega|exact Nat.le_refl _⟩,⟨BK BK785⟩,⟨BK BK786⟩,⟨BL HB⟩⟩
  clear HC46;obtain⟨kq,x16_45,rfl,HA,HJ45,BK785,BK786,HB⟩:=hcut;obtain _|kj45:=kq
  ·exact absurd HA.out (by simp[zH.j3])
  have H:=HA.out;clear HA;simp only[zH.j3] at H
  obtain⟨t798,A520,H⟩:=Option.bind_eq_some_iff.mp H
  (try dsimp -simprocs only at H)
  have A52:=K_ A520;clear A520;by_cases c53:t798=true
  ·subst c53
   rw[if_pos rfl] at H;obtain⟨t799,A540,H⟩:=Option.bind_eq_some_iff.mp H
   (try dsimp -simprocs only at H)
   have A54:=K_ A540;clear A540;obtain⟨t800,A550,H⟩:=Option.bind_eq_some_iff.mp H
   (try dsimp -simprocs only at H)
   have A55:=K_ A550;clear A550;obtain⟨⟨t801,t802,t803⟩,A560,H⟩:=Option.bind_eq_some_iff.mp H
   (try dsimp -simprocs only at H)
   have A56:=K_ A560;clear A560;simp only[Option.some.injEq,Prod.mk.injEq] at H
   obtain⟨rfl,rfl,rfl,rfl⟩:=H;have hnb57:=NB785_786.out;have hnc57:=NB786_785.out;obtain⟨⟨hcz58_0,hcz58_1,hcz58_2⟩,hfz58_0,hfz58_1,hfz58_2⟩:=ce3 BK785;try go_wp2_with (first|((with_reducible refine zK (f:=111) rfl ?_);refine zW (some 72) rfl rfl Tryz.func111 (by kernel_rfl) rfl #[.int .i64 a0,.bool a1_0,.bool x16_45,.int .i64 x15_43] rfl MP ?_;(with_reducible refine (uJ.calls a0 a1_0 x16_45 x15_43 true _ A52.out).mono ?_);rintro e w' ⟨rfl,⟨nd,rfl⟩⟩;refine⟨_,rfl,?_⟩;(try (rw[xQ wc];generalize hq_:World.drewN wc _=wc;replace BK785:=zbt BK785 hq_;replace BK786:=zbt BK786 hq_;replace HB:=zde HB hq_;clear hq_));(try (obtain⟨⟨hcz9072_0,hcz9072_1,hcz9072_2⟩,hfz9072_0,hfz9072_1,hfz9072_2⟩:=ce3 BK785));(try (obtain⟨⟨hcz9073_0,hcz9073_1,hcz9073_2⟩,hfz9073_0,hfz9073_1,hfz9073_2⟩:=ce3 BK786)))|((with_reducible refine zK (f:=110) rfl ?_);refine zW (some 74) rfl rfl Tryz.func110 (by kernel_rfl) rfl #[.string t790,.string (⟨#[49]⟩:ByteArray)] rfl MP ?_;(with_reducible refine (zT.calls kj45 t790 (⟨#[49]⟩:ByteArray) t799 _ A54.out).mono ?_);rintro e w59 ⟨rfl,hb⟩;refine⟨_,rfl,?_⟩;replace BK785:=zC BK785 hb;replace BK786:=zC BK786 hb;replace HB:=zF HB hb;(try clear hb);(try clear hb2);(try clear hk);(try clear hi)))
   (try (rw[xQ w59];generalize hq_:World.drewN w59 _=w59;replace BK785:=zbt BK785 hq_;replace BK786:=zbt BK786 hq_;replace HB:=zde HB hq_;clear hq_))
   replace BK785:=K_ (jS BK785.out);replace BK786:=K_ (jS BK786.out);replace HB:=K_ (yW HB.out);refine yA (n:=9) (S:=fun w'=>w'.cell? ⟨gb785,0,none⟩=some (.bool a1_0)∧w'.cell? ⟨gb785,1,none⟩=some (.string a1_1)∧w'.cell? ⟨gb785,2,none⟩=some (.int .i64 a1_2)) (ds:=[]) #[false,false,false,false,false,false,false,false,false] (by kernel_rfl) rfl rfl CE (fun hHeld=>?_);refine zch zH.tab19 zH.bits19 (fun HT_ HW_=>?_);generalize w59.drew=w60 at BK785 BK786 HB hHeld ⊢
   refine pu_ 0 (some 75) (bb 9 1) (jM HT_.out (by kernel_rfl)) ?_;refine pu_ 2 (some 77) (bb 9 5) (jM HT_.out (by kernel_rfl)) ?_;refine pu_ 3 (some 78) (bb 9 13) (jM HT_.out (by kernel_rfl)) ?_;refine pu_ 5 (some 80) (bb 9 45) (jM HT_.out (by kernel_rfl)) ?_;refine tk_ 1 (some 76) (bb 9 47) (zbR HT_.out HW_.out (by kernel_rfl)) hHeld ?_;refine zbq (i:=4) (N:=some 79) (bb 9 63) rfl rfl (zac HT_.out (by kernel_rfl)) (by decide) (fun K hK=>?_);refine gq_ Tryz.func112 #[.string t799,.string (t787++t788)] ?_;with_reducible refine (zI.calls kj45 t799 (t787++t788) t800 _ A55.out).mono ?_
   rintro e w61 ⟨rfl,hb⟩;refine⟨_,rfl,?_⟩;replace BK785:=zC BK785 hb;replace BK786:=zC BK786 hb;replace HB:=zF HB hb
   (try clear hb)
   (try clear hb2)
   (try clear hk)
   (try clear hi)
   refine hK.out _ _ CE (fun hHeld=>?_);clear hK K;refine no_ (some 79) ?_;refine zbq (i:=6) (N:=some 81) (bb 9 127) rfl rfl (zac HT_.out (by kernel_rfl)) (by decide) (fun K hK=>?_);refine gq_ Tryz.func29 #[.bool a1_0,.string t800,.int .i64 x10_4] ?_;with_reducible refine (yH.calls kj45 a1_0 t800 x10_4 t801 t802 t803 _ A56.out).mono ?_
   rintro e w62 ⟨rfl,hb⟩;refine⟨_,rfl,?_⟩;replace BK785:=zC BK785 hb;replace BK786:=zC BK786 hb;replace HB:=zF HB hb
   (try clear hb)
   (try clear hb2)
   (try clear hk)
   (try clear hi)
   refine hK.out _ _ CE (fun hHeld=>?_);clear hK K;refine no_ (some 81) ?_;refine zbq (i:=7) (N:=none) (bb 9 255) rfl rfl (zac HT_.out (by kernel_rfl)) (by decide) (fun K hK=>?_);have hs63:w62.cell? ⟨gb786,0,none⟩=some (.bool false):=(zA BK786.out 0).trans rfl;have hfs63:=zL BK786.out 0;have hns63_0:=NB785_786.out;have hms63_0:=NB786_785.out;have hs64:w62.cell? ⟨gb786,1,none⟩=some (.string (⟨#[]⟩:ByteArray)):=(zA BK786.out 1).trans rfl;have hfs64:=zL BK786.out 1;have hns64_0:=NB785_786.out;have hms64_0:=NB786_785.out;have hs65:w62.cell? ⟨gb786,2,none⟩=some (.int .i64 0):=(zA BK786.out 2).trans rfl;have hfs65:=zL BK786.out 2;have hns65_0:=NB785_786.out;have hms65_0:=NB786_785.out;refine zaD (w1:=?_) (by rfl) rfl ?_ ?_;rotate_left
   ·go_simp
    rfl
   refine hK.out _ _ ⟨((yK (p:=⟨gb786,_,none⟩) NB785_786.out _).trans (((yK (p:=⟨gb786,_,none⟩) NB785_786.out _).trans (((yK (p:=⟨gb786,_,none⟩) NB785_786.out _).trans (hHeld.1)))))),((yK (p:=⟨gb786,_,none⟩) NB785_786.out _).trans (((yK (p:=⟨gb786,_,none⟩) NB785_786.out _).trans (((yK (p:=⟨gb786,_,none⟩) NB785_786.out _).trans (hHeld.2.1)))))),((yK (p:=⟨gb786,_,none⟩) NB785_786.out _).trans (((yK (p:=⟨gb786,_,none⟩) NB785_786.out _).trans (((yK (p:=⟨gb786,_,none⟩) NB785_786.out _).trans (hHeld.2.2))))))⟩ (fun hHeld=>?_);clear hK K;refine pu_ 8 (some 9) (bb 9 511) (jM HT_.out (by kernel_rfl)) ?_;refine yN (zcd HT_.out (by kernel_rfl)) ?_;try go_wp2
   refine bodyPost_ret (jE rfl _ _ gb786 23 #[.bool t801,.string t802,.int .i64 t803] (0,0) _ rfl (BP BK786) Tryz.underlying23 rfl (by kernel_rfl)) rfl ?_;exact⟨ER,BL HB⟩
  replace c53:=Bool.eq_false_iff.mpr c53;subst c53;rw[if_neg (show ¬ (false=true) by decide)] at H;obtain⟨t804,A660,H⟩:=Option.bind_eq_some_iff.mp H
  (try dsimp -simprocs only at H)
  have A66:=K_ A660;clear A660;obtain⟨⟨t805,t806,t807⟩,A670,H⟩:=Option.bind_eq_some_iff.mp H
  (try dsimp -simprocs only at H)
  have A67:=K_ A670;clear A670;simp only[Option.some.injEq,Prod.mk.injEq] at H
  obtain⟨rfl,rfl,rfl,rfl⟩:=H;have hnb68:=NB785_786.out;have hnc68:=NB786_785.out;obtain⟨⟨hcz69_0,hcz69_1,hcz69_2⟩,hfz69_0,hfz69_1,hfz69_2⟩:=ce3 BK785;try go_wp2_with (first|((with_reducible refine zK (f:=111) rfl ?_);refine zW (some 72) rfl rfl Tryz.func111 (by kernel_rfl) rfl #[.int .i64 a0,.bool a1_0,.bool x16_45,.int .i64 x15_43] rfl MP ?_;(with_reducible refine (uJ.calls a0 a1_0 x16_45 x15_43 false _ A52.out).mono ?_);rintro e w' ⟨rfl,⟨nd,rfl⟩⟩;refine⟨_,rfl,?_⟩;(try (rw[xQ wc];generalize hq_:World.drewN wc _=wc;replace BK785:=zbt BK785 hq_;replace BK786:=zbt BK786 hq_;replace HB:=zde HB hq_;clear hq_));(try (obtain⟨⟨hcz9074_0,hcz9074_1,hcz9074_2⟩,hfz9074_0,hfz9074_1,hfz9074_2⟩:=ce3 BK785));(try (obtain⟨⟨hcz9075_0,hcz9075_1,hcz9075_2⟩,hfz9075_0,hfz9075_1,hfz9075_2⟩:=ce3 BK786))))
  (try (rw[xQ wc];generalize hq_:World.drewN wc _=wc;replace BK785:=zbt BK785 hq_;replace BK786:=zbt BK786 hq_;replace HB:=zde HB hq_;clear hq_))
  replace BK785:=K_ (jS BK785.out);replace BK786:=K_ (jS BK786.out);replace HB:=K_ (yW HB.out);refine yA (n:=9) (S:=fun w'=>w'.cell? ⟨gb785,0,none⟩=some (.bool a1_0)∧w'.cell? ⟨gb785,1,none⟩=some (.string a1_1)∧w'.cell? ⟨gb785,2,none⟩=some (.int .i64 a1_2)) (ds:=[]) #[false,false,false,false,false,false,false,false,false] (by kernel_rfl) rfl rfl CE (fun hHeld=>?_);refine zch zH.tab19 zH.bits19 (fun HT_ HW_=>?_);generalize wc.drew=w70 at BK785 BK786 HB hHeld ⊢
  refine pu_ 0 (some 75) (bb 9 1) (jM HT_.out (by kernel_rfl)) ?_;refine pu_ 2 (some 77) (bb 9 5) (jM HT_.out (by kernel_rfl)) ?_;refine pu_ 3 (some 78) (bb 9 13) (jM HT_.out (by kernel_rfl)) ?_;refine pu_ 5 (some 80) (bb 9 45) (jM HT_.out (by kernel_rfl)) ?_;refine tk_ 1 (some 76) (bb 9 47) (zbR HT_.out HW_.out (by kernel_rfl)) hHeld ?_;refine zbq (i:=4) (N:=some 79) (bb 9 63) rfl rfl (zac HT_.out (by kernel_rfl)) (by decide) (fun K hK=>?_);refine gq_ Tryz.func112 #[.string t790,.string (t787++t788)] ?_;with_reducible refine (zI.calls kj45 t790 (t787++t788) t804 _ A66.out).mono ?_
  rintro e w71 ⟨rfl,hb⟩;refine⟨_,rfl,?_⟩;replace BK785:=zC BK785 hb;replace BK786:=zC BK786 hb;replace HB:=zF HB hb
  (try clear hb)
  (try clear hb2)
  (try clear hk)
  (try clear hi)
  refine hK.out _ _ CE (fun hHeld=>?_);clear hK K;refine no_ (some 79) ?_;refine zbq (i:=6) (N:=some 81) (bb 9 127) rfl rfl (zac HT_.out (by kernel_rfl)) (by decide) (fun K hK=>?_);refine gq_ Tryz.func29 #[.bool a1_0,.string t804,.int .i64 x10_4] ?_;with_reducible refine (yH.calls kj45 a1_0 t804 x10_4 t805 t806 t807 _ A67.out).mono ?_
  rintro e w72 ⟨rfl,hb⟩;refine⟨_,rfl,?_⟩;replace BK785:=zC BK785 hb;replace BK786:=zC BK786 hb;replace HB:=zF HB hb
  (try clear hb)
  (try clear hb2)
  (try clear hk)
  (try clear hi)
  refine hK.out _ _ CE (fun hHeld=>?_);clear hK K;refine no_ (some 81) ?_;refine zbq (i:=7) (N:=none) (bb 9 255) rfl rfl (zac HT_.out (by kernel_rfl)) (by decide) (fun K hK=>?_);have hs73:w72.cell? ⟨gb786,0,none⟩=some (.bool false):=(zA BK786.out 0).trans rfl;have hfs73:=zL BK786.out 0;have hns73_0:=NB785_786.out;have hms73_0:=NB786_785.out;have hs74:w72.cell? ⟨gb786,1,none⟩=some (.string (⟨#[]⟩:ByteArray)):=(zA BK786.out 1).trans rfl;have hfs74:=zL BK786.out 1;have hns74_0:=NB785_786.out;have hms74_0:=NB786_785.out;have hs75:w72.cell? ⟨gb786,2,none⟩=some (.int .i64 0):=(zA BK786.out 2).trans rfl;have hfs75:=zL BK786.out 2;have hns75_0:=NB785_786.out;have hms75_0:=NB786_785.out;refine zaD (w1:=?_) (by rfl) rfl ?_ ?_;rotate_left
  ·go_simp
   rfl
  refine hK.out _ _ ⟨((yK (p:=⟨gb786,_,none⟩) NB785_786.out _).trans (((yK (p:=⟨gb786,_,none⟩) NB785_786.out _).trans (((yK (p:=⟨gb786,_,none⟩) NB785_786.out _).trans (hHeld.1)))))),((yK (p:=⟨gb786,_,none⟩) NB785_786.out _).trans (((yK (p:=⟨gb786,_,none⟩) NB785_786.out _).trans (((yK (p:=⟨gb786,_,none⟩) NB785_786.out _).trans (hHeld.2.1)))))),((yK (p:=⟨gb786,_,none⟩) NB785_786.out _).trans (((yK (p:=⟨gb786,_,none⟩) NB785_786.out _).trans (((yK (p:=⟨gb786,_,none⟩) NB785_786.out _).trans (hHeld.2.2))))))⟩ (fun hHeld=>?_);clear hK K;refine pu_ 8 (some 9) (bb 9 511) (jM HT_.out (by kernel_rfl)) ?_;refine yN (zcd HT_.out (by kernel_rfl)) ?_;try go_wp2
  refine bodyPost_ret (jE rfl _ _ gb786 23 #[.bool t805,.string t806,.int .i64 t807] (0,0) _ rfl (BP BK786) Tryz.underlying23 rfl (by kernel_rfl)) rfl ?_;exact⟨ER,BL HB⟩
 rw[if_neg c13] at H;exact absurd H (by simp)
theorem zgy (m:Nat) (hm:m≤1000000):∀ (d n:Nat),m-n=d→n≤m→Ev (fun k=>jC.l0 k (m:Int) (List.replicate n 48) (n:Int)) (strOfNums (List.replicate m 48))
 | 0,n,hd,hn=>by
  obtain rfl:n=m:=by omega
  refine zaP (r':=strOfNums (List.replicate n 48)) (fun k=>?_) rfl
  simp only[jC.l0];rw[if_neg (by omega)]
 | d+1,n,hd,hn=>by
  refine Ev.step (f:=fun k=>jC.l0 k (m:Int) (List.replicate (n+1) 48) ((n+1:Nat):Int)) (fun k=>?_) (zgy m hm d (n+1) (by omega) (by omega));simp only[jC.l0]
  rw[if_pos (by omega),if_pos (by rw[List.length_replicate];omega),List.replicate_succ',w64 (by omega) (by omega)];rfl
def zdV (m:Nat):ByteArray:=strOfNums (List.replicate m 48)
theorem ziE {m:Nat} (hm:m≤1000000):Ev (fun k=>jC.f k (m:Int)) (zdV m):=zgy m hm m 0 (by omega) (by omega)
theorem zdz (m:Nat):(zdV m).data.toList=List.replicate m 48:=by rw[zdV,zcX,List.map_replicate];rfl
theorem zfO (m:Nat):(zdV m).size=m:=by rw[zQ,zdz,List.length_replicate]
theorem znC {b:Bool} {s:ByteArray} {e x:Int} (h:OkD s e) (h1:x≤e) (h2:-100000≤x):Ev (fun k=>uI.f k b s e x) (zU (atE (vB s) e x)):=by
 have hs:=h.sz;have hl:=h.lo;have hh:=h.hi;have hz:=h.val;unfold uI.f;refine Ev.bind (zby (by omega) h.d) ?_;by_cases h0:vB s=0
 ·simp only[uH.2 h0,if_true]
  rw[h0,zmL,zdp];exact Ev.now _
 have h3:¬ (zU (vB s)).toList=([]:List UInt8):=fun hh=>h0 (uH.1 hh)
 obtain⟨m,hm⟩:∃ m:Nat,m=(e-x).toNat:=⟨_,rfl⟩
 have hw:wrap64 (e-x)=(m:Int):=by rw[w64 (by omega) (by omega)];omega
 simp only[h3,if_false,hw]
 refine Ev.bind (ziE (by omega)) ?_;have hc:(zU (vB s)).size+(zdV m).size≤9223372036854775807:=by rw[zfO];omega
 simp only[hc,if_true]
 refine zak (Ev.now _) ?_;apply qM
 rw[zcv,xU,xU,zdz];unfold atE;rw[zer h0,←hm]
theorem zfx (m n:Nat):yP.f (zU m) (zU n)=some (decide (m<n)):=by
 unfold yP.f;rw[xI,xI];by_cases h:(vL m).length=(vL n).length
 ·rw[if_pos (by omega)]
  rw[ByteArray.toList_eq,ByteArray.toList_eq,xU,xU,zhN (zbw m) (zbw n) h,zaY,zaY]
 rw[if_neg (by omega)];congr 1
 rw[decide_eq_decide];constructor
 ·intro h1;exact zfP (by omega)
 intro h1;rcases Nat.lt_or_ge (vL m).length (vL n).length with h2|h2
 ·omega
 have:=zfP (m:=n) (n:=m) (by omega);omega
theorem zfZ (s:ByteArray):vB ((⟨#[48]⟩:ByteArray)++s)=vB s:=by
 rw[zdt,show vB (⟨#[48]⟩:ByteArray)=0 from rfl,Nat.zero_mul,Nat.zero_add]
theorem zkh {b:Bool} {s:ByteArray} {e:Int} (hd:dB s=true) (hz:s.size≤900000) (h1:-1000000≤e) (h2:e≤1000000):Ev (fun k=>yH.f k b s e) (b,nD (vB s),nE (vB s) e):=by
 unfold yH.f;refine evT (by omega) ?_;have hs:((⟨#[48]⟩:ByteArray)++s).size=1+s.size:=by rw[ByteArray.size_append];rfl
 have:=zgq (b:=b) (s:=(⟨#[48]⟩:ByteArray)++s) (e:=e) (zfh.2 ⟨rfl,hd⟩) (by omega) h1 h2
 rw[zfZ] at this;exact Ev.bind this (Ev.now _)
theorem zjl {b:Bool} {n:Nat} {e:Int} (hz:(zU n).size≤900000) (h1:-1000000≤e) (h2:e≤1000000):Ev (fun k=>yH.f k b (zU n) e) (b,nD n,nE n e):=by
 have:=zkh (b:=b) (s:=zU n) (e:=e) (zaj n) hz h1 h2
 rwa [xS] at this
theorem zjr (p q c:Nat) (hp:p≤9) (hq:q≤9) (hc:c≤1):wrap64 (wrap64 ((p:Int)-(q:Int))-(c:Int))=(p:Int)-(q:Int)-(c:Int):=by
 rw[w64 (x:=(p:Int)-(q:Int)) (by omega) (by omega),w64 (by omega) (by omega)]
theorem zok (p q c:Nat) (hp:p≤9) (hq:q≤9) (hc:c≤1) (h:p<q+c):(wrap64 (48+wrap64 ((p:Int)-(q:Int)-(c:Int)+10))) % 256=((48+(p+10-q-c):Nat):Int):=by
 rw[w64 (x:=(p:Int)-(q:Int)-(c:Int)+10) (by omega) (by omega),w64 (by omega) (by omega)];omega
theorem znU (p q c:Nat) (hp:p≤9) (hq:q≤9) (hc:c≤1) (h:q+c≤p):(wrap64 (48+((p:Int)-(q:Int)-(c:Int)))) % 256=((48+(p-q-c):Nat):Int):=by
 rw[w64 (by omega) (by omega)];omega
theorem zdX (a b:ByteArray) (ha:dB a=true) (hb:dB b=true) (la:a.size≤100000000000) (lb:b.size≤100000000000):∀ (d k:Nat) (x:List Int) (c:Nat),a.size-k=d→k≤a.size→c≤1→x.length=k→yB (ob x)=true→c+rv ((rs b).drop k)≤rv ((rs a).drop k) →
  Ev (fun j=>jD.l0 j a b x (c:Int) (k:Int)) (zU (rv (ob x)+10 ^ k * (rv ((rs a).drop k)-rv ((rs b).drop k)-c)))
 | 0,k,x,c,h1,h2,hc,hx,hd,hle=>by
  refine zak (Ev.step (fun j=>?_) (zbA (l:=x) (by omega) hd)) ?_
  ·simp only[jD.l0];rw[if_neg (by omega)]
  rw[zaL (s:=a) (by omega)];simp
 | d+1,k,x,c,h1,h2,hc,hx,hd,hle=>by
  have da:=zfs ha k;have db:=zfs hb k;rw[zcV a k,zcV b k] at hle ⊢;by_cases hneg:dg a k<dg b k+c
  ·obtain⟨o1,o2⟩:=zfw x (c:=dg a k+10-dg b k-c) (by omega) hd
   refine Ev.step (f:=fun j=>jD.l0 j a b (x++[((48+(dg a k+10-dg b k-c):Nat):Int)]) ((1:Nat):Int) ((k+1:Nat):Int)) (fun j=>?_) ?_
   ·simp only[jD.l0]
    rw[if_pos (by omega),zbx ha (by omega) (by omega),zbx hb (by omega) (by omega)];simp only[Option.bind_some]
    rw[zjr _ _ _ da db hc,if_pos (by omega),if_pos (by omega),zok _ _ _ da db hc hneg,w64 (by omega) (by omega)];rfl
   refine zak (zdX a b ha hb la lb d (k+1) _ 1 (by omega) (by omega) (by omega) (by simp[hx]) o1 (by omega)) ?_;rw[o2,hx,Nat.pow_succ,Nat.mul_assoc,Nat.add_assoc,←Nat.mul_add];congr 2;congr 1;omega
  obtain⟨o1,o2⟩:=zfw x (c:=dg a k-dg b k-c) (by omega) hd;refine Ev.step (f:=fun j=>jD.l0 j a b (x++[((48+(dg a k-dg b k-c):Nat):Int)]) ((0:Nat):Int) ((k+1:Nat):Int)) (fun j=>?_) ?_
  ·simp only[jD.l0]
   rw[if_pos (by omega),zbx ha (by omega) (by omega),zbx hb (by omega) (by omega)];simp only[Option.bind_some]
   rw[zjr _ _ _ da db hc,if_neg (by omega),if_pos (by omega),znU _ _ _ da db hc (by omega),w64 (by omega) (by omega)];rfl
  refine zak (zdX a b ha hb la lb d (k+1) _ 0 (by omega) (by omega) (by omega) (by simp[hx]) o1 (by omega)) ?_;rw[o2,hx,Nat.pow_succ,Nat.mul_assoc,Nat.add_assoc,←Nat.mul_add];congr 2;congr 1;omega
theorem zmA {a b:ByteArray} (ha:dB a=true) (hb:dB b=true) (la:a.size≤100000000000) (lb:b.size≤100000000000) (hle:vB b≤vB a):Ev (fun k=>jD.f k a b) (zU (vB a-vB b)):=by
 refine zak (zdX a b ha hb la lb a.size 0 [] 0 (by omega) (by omega) (by omega) rfl rfl (by simpa [rs,vB] using hle)) ?_;simp[ob,rv,vB,rs]
theorem zns (j:Nat) (h:j≤9):(wrap64 (48+(j:Int))) % 256=((48+j:Nat):Int):=by rw[w64 (by omega) (by omega)];omega
theorem zjq {c:Nat} (h:c≤9):dB (strOfNums [((48+c:Nat):Int)])=true∧vB (strOfNums [((48+c:Nat):Int)])=c∧(strOfNums [((48+c:Nat):Int)]).size=1:=by
  have e2:(UInt8.ofNat (48+c)).toNat=48+c:=by rw[UInt8.toNat_ofNat'];omega
  refine⟨?_,?_,?_⟩
  · unfold dB;rw[zcX];simp only[List.map_cons,List.map_nil,Int.toNat_natCast];rw[qH,uD,e2];exact⟨by omega,rfl⟩
  · unfold vB;rw[zcX];simp only[List.map_cons,List.map_nil,Int.toNat_natCast,List.reverse_singleton,rv,e2];omega
  rw[strOfNums_size];rfl
theorem zki (a:ByteArray) (n:Nat) (hn:0<n) (ln:(zU n).size≤1000000) (q:ByteArray) (hq:q.size≤1000000000000) (i:Nat) (hi:i<1000000000000) (t:Nat) (ht:t<10 * n) (r:ByteArray×ByteArray):∀ (d j:Nat),t / n-j=d→j≤t / n →
    Ev (fun k=>zV.l0 k a (zU n) (q++strOfNums [((48+t / n:Nat):Int)]) (zU (t % n)) ((i+1:Nat):Int)) r→Ev (fun k=>zV.l1 k a (zU n) q (zU (t-j * n)) (i:Int) (j:Int)) r
  | 0,j,h1,h2,h=>by
    have hj:j=t / n:=by omega
    have hq9 : t / n ≤ 9 := by have:t / n<10:=by rw[Nat.div_lt_iff_lt_mul hn];exact ht
                               omega
    have e:t-j * n=t % n:=by
      have:=Nat.div_add_mod t n
      rw[←hj,Nat.mul_comm] at this;omega
    rw[e];refine Ev.step (fun k=>?_) h;have hm:=Nat.mod_lt t hn;obtain⟨c1,c2,c3⟩:=zjq hq9;simp only[zV.l1,zfx,hm,decide_true,Option.bind_some,if_true]
    rw[hj,zns _ hq9,if_pos (by omega),zam _ (by omega)]
  | d+1,j,h1,h2,h=>by
    have hjn:j * n+n≤t:=by
      have h3:(j+1) * n≤t / n * n:=Nat.mul_le_mul_right _ (by omega);have:=Nat.div_mul_le_self t n
      rw[Nat.add_mul] at h3;omega
    have hnl:¬ t-j * n<n:=by omega
    have lz:(zU (t-j * n)).size≤1000001:=zmK ln (by omega)
    have hj9 : j ≤ 9 := by have:t / n<10:=by rw[Nat.div_lt_iff_lt_mul hn];exact ht
                           omega
    refine Ev.step (f:=fun k=>(jD.f k (zU (t-j * n)) (zU n)).bind fun t2=>zV.l1 k a (zU n) q t2 (i:Int) ((j+1:Nat):Int)) (fun k=>?_) (Ev.bind (zmA (zaj _) (zaj _) (by omega) (by omega) (by rw[xS,xS];omega)) ?_)
    · simp only[zV.l1,zfx,hnl,decide_false,Option.bind_some,Bool.false_eq_true,if_false]
      rw[zam _ (by omega)]
    rw[xS,xS,Nat.sub_sub,show j * n+n=(j+1) * n by rw[Nat.add_mul];omega];exact zki a n hn ln q hq i hi t ht r d (j+1) (by omega) (by omega) h
theorem zhG (a:ByteArray) (ha:dB a=true) (la:a.size≤1000000) (n:Nat) (hn:0<n) (ln:(zU n).size≤1000000):∀ (d i:Nat) (q:ByteArray) (m:Nat),a.size-i=d→i≤a.size→dB q=true→q.size=i→m<n→vB q * n+m=vB (a.extract 0 i) →
    Ev (fun k=>zV.l0 k a (zU n) q (zU m) (i:Int)) (zU (vB a / n),zU (vB a % n))
  | 0,i,q,m,h1,h2,hq,zq,hm,hv=>by
    have e0:a.extract 0 i=a:=by apply qM;rw[ziO,List.take_of_length_le (by rw[←zQ];omega)]
    rw[e0] at hv;have e1:vB q=vB a / n:=by rw[←hv,Nat.mul_comm,Nat.mul_add_div hn,Nat.div_eq_of_lt hm];rfl
    have e2:m=vB a % n:=by rw[←hv,Nat.mul_comm,Nat.mul_add_mod,Nat.mod_eq_of_lt hm]
    rw[←e1,←e2];refine Ev.step (f:=fun k=>(zM.f k q).bind fun t=>some (t,zU m)) (fun k=>?_) (Ev.bind (zby (by omega) hq) (Ev.now _))
    simp only[zV.l0];rw[if_neg (by omega)]
  | d+1,i,q,m,h1,h2,hq,zq,hm,hv=>by
    have hlt:i<a.size:=by omega
    have hl:i<a.data.toList.length:=by rw[←zQ];exact hlt
    have hdig:=uD.1 (zbS.1 ha _ (List.getElem_mem hl));have ec:(a.extract i (i+1)).data.toList=[a.data.toList[i]]:=by
      rw[xT,show i+1-i=1 by omega,List.drop_eq_getElem_cons hl];rfl
    have zc:(a.extract i (i+1)).size=1:=by rw[zQ,ec];rfl
    have dc:dB (a.extract i (i+1))=true:=by unfold dB;rw[ec,qH];exact⟨uD.2 hdig,rfl⟩
    obtain⟨c,hc⟩:∃ c,c=vB (a.extract i (i+1)):=⟨_,rfl⟩
    have hc9:c≤9:=by have:=zeh dc;rw[zc,←hc] at this;omega
    have hv2:vB (a.extract 0 (i+1))=vB (a.extract 0 i) * 10+c:=by
      have:a.extract 0 (i+1)=a.extract 0 i++a.extract i (i+1):=by
        apply qM
        rw[zcv,ziO,ziO,ec,List.take_succ_eq_append_getElem hl]
      rw[this,zdt,zc,←hc,Nat.pow_one]
    have lm:(zU m).size≤1000000:=zaI (by omega) ln;have ht:m * 10+c<10 * n:=by omega
    refine Ev.step (f:=fun k=>(zM.f k (zU m++a.extract i (i+1))).bind fun t=>zV.l1 k a (zU n) q t (i:Int) ((0:Nat):Int)) (fun k=>?_) (Ev.bind (zby (by rw[ByteArray.size_append];omega) (zfh.2 ⟨zaj _,dc⟩)) ?_)
    · simp only[zV.l0]
      rw[if_pos (by omega),if_pos (by omega),zam _ (by omega),if_pos (by omega),if_pos (by omega),Int.toNat_natCast,Int.toNat_natCast,if_pos (by omega)];rfl
    rw[zdt,zc,xS,Nat.pow_one,←hc]
    have hq9 : (m * 10 + c) / n ≤ 9 := by have:(m * 10+c) / n<10:=by rw[Nat.div_lt_iff_lt_mul hn];exact ht
                                          omega
    obtain⟨c1,c2,c3⟩:=zjq hq9;have:=zki a n hn ln q (by omega) i (by omega) (m * 10+c) ht _ _ 0 rfl (by omega) (zhG a ha la n hn ln d (i+1) (q++strOfNums [((48+(m * 10+c) / n:Nat):Int)]) ((m * 10+c) % n) (by omega) (by omega) (zfh.2 ⟨hq,c1⟩) (by rw[ByteArray.size_append];omega) (Nat.mod_lt _ hn) ?_)
    · rwa [Nat.zero_mul,Nat.sub_zero] at this
    rw[zdt,c2,c3,hv2,←hv,Nat.pow_one];have:=Nat.div_add_mod (m * 10+c) n
    rw[Nat.add_mul,Nat.mul_comm ((m * 10+c) / n) n,Nat.add_mul,Nat.mul_right_comm (vB q) 10 n];omega
theorem znP {a:ByteArray} {n:Nat} (ha:dB a=true) (la:a.size≤1000000) (hn:0<n) (ln:(zU n).size≤1000000):Ev (fun k=>zV.f k a (zU n)) (zU (vB a / n),zU (vB a % n)):=by
  have e0:(⟨#[]⟩:ByteArray)=zU 0:=zdp.symm;have:=zhG a ha la n hn ln a.size 0 (zU 0) 0 (by omega) (by omega) (zaj _) (by rw[zdp];rfl) hn (by
    rw[xS];have:(a.extract 0 0).data.toList=[]:=by rw[ziO];rfl
    unfold vB;rw[this];simp[rv])
  unfold zV.f;rw[e0];exact this
theorem zpA (m:Int) (neg odd:Bool) (half:Int):uJ.f m neg odd half=some (zaX m neg odd half):=by
 unfold uJ.f zaX;by_cases h0:m=0 <;> by_cases h1:m=1 <;> by_cases h2:m=2 <;> by_cases h3:m=3 <;> by_cases h4:m=4 <;> by_cases h5:m=5 <;> by_cases h6:m=6 <;> simp_all
 by_cases hp:0<half
 ·simp[hp]
 by_cases hz:half=0 <;> simp[hp,hz]
theorem zji {n:Nat} (h:n≠0):bt (zU n) (((zU n).size:Int)-1)=((48+n % 10:Nat):Int):=zkp h
theorem zgC {m:Int} {b:Bool} {s:ByteArray} {e E:Int} {B q:Nat} {half:Int} {odd:Bool} (hq:(zU q).size≤100000) (hB:(zU B).size≤100000) (h1:-100000≤E) (h2:E≤100000):Ev (fun k=>zH.j3 k m E (zU B) (zU q) half odd b s e) (b,nD ((q+if upB m b odd half=true then 1 else 0) * B),nE ((q+if upB m b odd half=true then 1 else 0) * B) E,0):=by
 have hu:uJ.f m b odd half=some (upB m b odd half):=(zpA m b odd half)
 refine Ev.step (fun k=>by simp only[zH.j3];rfl) (evE hu ?_);cases upB m b odd half
 ·refine evF (by decide) (Ev.bind (ziH (zaj _) (zaj _) (by omega) (by omega)) ?_)
  rw[xS,xS];have:=zfF hq hB
  refine Ev.bind (zjl (by omega) (by omega) (by omega)) (zak (Ev.now _) (by simp))
 have d1:dB (⟨#[49]⟩:ByteArray)=true:=by decide
 have v1:vB (⟨#[49]⟩:ByteArray)=1:=by decide
 refine evT rfl (Ev.bind (zkm (zaj q) d1 (by omega) (by decide)) ?_);rw[xS,v1];have h3:=zfL (m:=q) (n:=1) (p:=100000) hq (by rw[zcP];omega);refine Ev.bind (ziH (zaj _) (zaj _) (by omega) (by omega)) ?_;rw[xS,xS];have:=zfF h3 hB
 refine Ev.bind (zjl (by omega) (by omega) (by omega)) (zak (Ev.now _) (by simp))
theorem zgv {m:Int} {b:Bool} {s:ByteArray} {e E:Int} {B q:Nat} {half:Int} (hq:(zU q).size≤100000) (hB:(zU B).size≤100000) (h1:-100000≤E) (h2:E≤100000):Ev (fun k=>zH.j2 k m E (zU B) (zU q) half b s e) (b,nD ((q+if upB m b (q % 2==1) half=true then 1 else 0) * B),nE ((q+if upB m b (q % 2==1) half=true then 1 else 0) * B) E,0):=by
 by_cases h0:q=0
 ·subst h0
  refine Ev.step (f:=fun k=>zH.j3 k m E (zU B) (zU 0) half false b s e) (fun k=>?_) (zgC hq hB h1 h2);simp only[zH.j2]
  rw[if_neg (by rw[qX.2 rfl];decide)]
 have hs:=zcM h0;refine Ev.step (f:=fun k=>zH.j3 k m E (zU B) (zU q) half (q % 2==1) b s e) (fun k=>?_) (zgC hq hB h1 h2);simp only[zH.j2]
 rw[if_pos (by omega),w64 (x:=((zU q).size:Int)-1) (by omega) (by omega),if_pos (by omega),if_pos (by omega),zji h0];congr 1
 rw[Bool.eq_iff_iff,beq_iff_eq,beq_iff_eq];omega
theorem zgr {m:Int} {b:Bool} {s:ByteArray} {e E:Int} {B q t:Nat} {x:Int} (hx:x=if t<B then -1 else 0) (hq:(zU q).size≤100000) (hB:(zU B).size≤100000) (h1:-100000≤E) (h2:E≤100000):Ev (fun k=>zH.j1 k m E (zU B) (zU q) (zU t) x b s e) (b,nD ((q+if upB m b (q % 2==1) (qW t B)=true then 1 else 0) * B),nE ((q+if upB m b (q % 2==1) (qW t B)=true then 1 else 0) * B) E,0):=by
 refine Ev.step (fun k=>by simp only[zH.j1];rfl) (evE (zfx B t) ?_);by_cases hl:B<t
 ·have hc:qW t B=1:=by unfold qW;rw[if_neg (by omega),if_pos hl]
  rw[hc];exact evT (decide_eq_true hl) (zgv hq hB h1 h2)
 have hc:qW t B=x:=by unfold qW;rw[hx];split <;> simp[hl]
 rw[hc];exact evF (by simpa using hl) (zgv hq hB h1 h2)
theorem zgI {m:Int} {b:Bool} {s st:ByteArray} {e p E:Int} (h:OkS s e) (hd:dB st=true) (hs0:vB st≠0) (hsz:st.size≤10000) (h1:-10000≤p) (h2:p≤10000) (hE:E=min e p):Ev (fun k=>zH.j0 k m st p E b s e) (zbh m b (vB s) e (vB st) p):=by
 have hv:=h.ok.val;have hz:=h.sz;have hlo:=h.lo;have hhi:=h.hi;have hst:=zae (zeh hd);obtain⟨u,hu⟩:∃ u:Nat,u=(p-E).toNat:=⟨_,rfl⟩
 have hw:wrap64 (p-E)=(u:Int):=by rw[w64 (by omega) (by omega)];omega
 have hB:zU (vB st)++zdV u=zU (atE (vB st) p E):=by
  apply qM
  rw[zcv,xU,xU,zdz];unfold atE;rw[zer hs0,←hu]
 have zB:(zU (atE (vB st) p E)).size≤40000:=by
  unfold atE;rw[zdf hs0];omega
 have zN:=zgW b (n:=vB s) (p:=10000) e E (by omega);rw[zeA] at zN;have hB0:=zjW hs0 p E;refine Ev.step (fun k=>by simp only[zH.j0];rfl) ?_;refine Ev.bind (zby (by omega) hd) ?_;rw[hw];refine Ev.bind (ziE (by omega)) (evT (by rw[zfO];omega) ?_);rw[hB];refine Ev.bind (znC h.ok (by omega) (by omega)) (Ev.bind (znP (zaj _) (by omega) hB0 (by omega)) ?_);rw[xS];obtain⟨N,hN⟩:∃ N,N=atE (vB s) e E:=⟨_,rfl⟩
 obtain⟨B,hBB⟩:∃ B,B=atE (vB st) p E:=⟨_,rfl⟩
 rw[←hN,←hBB];rw[←hN] at zN;rw[←hBB] at zB hB0;dsimp only;have zN2:(zU N).size≤30000:=by omega
 have zr:=zaI (Nat.mod_le N B) zN2;have zq:=zaI (Nat.div_le_self N B) zN2;by_cases hf:N % B=0
 ·have hf2:atE (vB s) e (min e p) % atE (vB st) p (min e p)=0:=by rw[←hE,←hN,←hBB];exact hf
  rw[zgM hf2];exact evT (uH.2 hf) (Ev.bind (zeP h.ok) (Ev.now _))
 have hf2:¬ atE (vB s) e (min e p) % atE (vB st) p (min e p)=0:=by rw[←hE,←hN,←hBB];exact hf
 refine evF (fun hh=>hf (uH.1 hh)) ?_;by_cases h7:m=7
 ·subst h7
  rw[zff hf2];exact evT rfl (Ev.now _)
 refine evF h7 (Ev.bind (zkm (zaj _) (zaj _) (by omega) (by omega)) ?_);rw[xS];have hres:zbh m b (vB s) e (vB st) p=(b,nD ((N / B+if upB m b (N / B % 2==1) (qW (N % B+N % B) B)=true then 1 else 0) * B),nE ((N / B+if upB m b (N / B % 2==1) (qW (N % B+N % B) B)=true then 1 else 0) * B) E,0):=by
  rw[zhM h7,←hE];unfold rv0;rw[←hN,←hBB];have hq:rq m b N B=N / B+if upB m b (N / B % 2==1) (qW (N % B+N % B) B)=true then 1 else 0:=by
   unfold rq;simp only[ne_eq,hf,not_false_eq_true,true_and]
  rw[hq]
 rw[hres];refine evE (zfx _ _) ?_;by_cases hl:N % B+N % B<B
 ·exact evT (decide_eq_true hl) (zgr (by rw[if_pos hl]) (by omega) (by omega) (by omega) (by omega))
 exact evF (by simpa using hl) (zgr (by rw[if_neg hl]) (by omega) (by omega) (by omega) (by omega))
theorem zed {m:Int} {b:Bool} {s st:ByteArray} {e p:Int} (h:OkS s e) (hd:dB st=true) (hs0:vB st≠0) (hsz:st.size≤10000) (h1:-10000≤p) (h2:p≤10000):Ev (fun k=>zH.f k m b s e st p) (zbh m b (vB s) e (vB st) p):=by
 unfold zH.f;by_cases hc:p<e
 ·exact evT hc (zgI h hd hs0 hsz h1 h2 (by omega))
 exact evF hc (zgI h hd hs0 hsz h1 h2 (by omega))
def yV.f (k:Nat) (a0_0:Bool) (a0_1:ByteArray) (a0_2:Int) (a1:Int):Option (Bool×ByteArray×Int):=(zX.f k a0_0 a0_1 (wrap64 (a0_2+a1))).bind fun bt727=>(some (bt727.1,bt727.2.1,bt727.2.2))
set_option maxHeartbeats 8000000 in
set_option maxRecDepth 100000 in
theorem yV.calls (k:Nat) (a0_0:Bool) (a0_1:ByteArray) (a0_2:Int) (a1:Int) (r1:Bool) (r2:ByteArray) (r3:Int) (w:World) (h:yV.f k a0_0 a0_1 a0_2 a1=some (r1,r2,r3)) :
  Calls Tryz.prog 23 #[.agg #[.bool a0_0,.string a0_1,.int .i64 a0_2],.int .i64 a1] w fun e w'=>e=.returned (.agg #[.bool r1,.string r2,.int .i64 r3])∧Below w.heap.size w w':=by
 have hu23:=Tryz.underlying23;have HB:=K_ (Below.refl w.heap.size w);have H:((zX.f k a0_0 a0_1 (wrap64 (a0_2+a1))).bind fun bt727=>(some (bt727.1,bt727.2.1,bt727.2.2)))=some (r1,r2,r3):=h;clear h;obtain⟨⟨t727,t728,t729⟩,A30,H⟩:=Option.bind_eq_some_iff.mp H
 (try dsimp -simprocs only at H)
 have A3:=K_ A30;clear A30;simp only[Option.some.injEq,Prod.mk.injEq] at H
 obtain⟨rfl,rfl,rfl⟩:=H;go_enter Tryz.func23,Tryz.ntmps23
 go_wp2_with (first|(refine be_ 2 #[.bool a0_0,.string a0_1,.int .i64 a0_2] 23 ?_;intro gb725 hg w4 hbox hb;have BK725:=K_ (hbox);have GW725:=ge_ hg HB;have GE725:=ge_ hg HB;replace HB:=zF HB hb;clear hb hbox hg)|(refine be_ 4 #[.bool false,.string (⟨#[]⟩:ByteArray),.int .i64 0] 23 ?_;intro gb726 hg w5 hbox hb;have BK726:=K_ (hbox);have GW726:=ge_ hg HB;have GE726:=ge_ hg HB;replace HB:=zF HB hb;have NB725_726:=nb_ hg BK725;have NB726_725:=nc_ hg BK725;replace BK725:=zC BK725 hb;clear hb hbox hg;have hnb6:=NB725_726.out;have hnc6:=NB726_725.out;obtain⟨⟨hcz7_0,hcz7_1,hcz7_2⟩,hfz7_0,hfz7_1,hfz7_2⟩:=ce3 BK725)|((with_reducible refine zK (f:=50) rfl ?_);refine zW (some 11) rfl rfl Tryz.func50 (by kernel_rfl) rfl #[.agg #[.bool a0_0,.string a0_1,.int .i64 (wrap64 (a0_2+a1))]] rfl MP ?_;(with_reducible refine (zX.calls k a0_0 a0_1 (wrap64 (a0_2+a1)) t727 t728 t729 _ A3.out).mono ?_);rintro e w8 ⟨rfl,hb⟩;refine⟨_,rfl,?_⟩;replace BK725:=K_ (zcg (g:=gb725) (o:=.cells #[.bool a0_0,.string a0_1,.int .i64 (wrap64 (a0_2+a1))] 23 (0,0)) (BP BK725) hb);replace BK726:=K_ (zcg (g:=gb726) (o:=.cells #[.bool false,.string (⟨#[]⟩:ByteArray),.int .i64 0] 23 (0,0)) (by (with_reducible repeat (first|refine jT ?_ _|refine jS ?_|refine jU ?_ _));refine zR ?_ NB726_725.out _;(with_reducible repeat (first|refine jT ?_ _|refine jS ?_|refine jU ?_ _));exact BK726.out) hb);replace HB:=zF HB hb;(try clear hb);(try clear hb2);(try clear hk);(try clear hi);obtain⟨⟨hcz9_0,hcz9_1,hcz9_2⟩,hfz9_0,hfz9_1,hfz9_2⟩:=ce3 BK726))
 refine bodyPost_ret (results_cell_row rfl _ _ gb726 23 #[.bool t727,.string t728,.int .i64 t729] (0,0) _ rfl (BP BK726) Tryz.underlying23 rfl (by kernel_rfl)) rfl ?_;exact⟨ER,BL HB⟩
def xD.f (k:Nat) (a0_0:Bool) (a0_1:ByteArray) (a0_2:Int):Option (Int):=(zM.f k a0_1).bind fun t739=>(if t739.toList=([]:List UInt8) then (some 0) else (some (wrap64 ((wrap64 (a0_2+(t739.size:Int)))-1))))
set_option maxHeartbeats 8000000 in
set_option maxRecDepth 100000 in
theorem xD.calls (k:Nat) (a0_0:Bool) (a0_1:ByteArray) (a0_2:Int) (r:Int) (w:World) (h:xD.f k a0_0 a0_1 a0_2=some r) :
  Calls Tryz.prog 51 #[.agg #[.bool a0_0,.string a0_1,.int .i64 a0_2]] w fun e w'=>e=.returned (.int .i64 r)∧Below w.heap.size w w':=by
 have hu23:=Tryz.underlying23;have HB:=K_ (Below.refl w.heap.size w);have H:((zM.f k a0_1).bind fun t739=>(if t739.toList=([]:List UInt8) then (some 0) else (some (wrap64 ((wrap64 (a0_2+(t739.size:Int)))-1)))))=some r:=h;clear h;replace H:=Option.bind_eq_some_iff.mp H;obtain⟨t739,A20,H⟩:=H;replace H:(if t739.toList=([]:List UInt8) then (some 0) else (some (wrap64 ((wrap64 (a0_2+(t739.size:Int)))-1))))=some r:=H;have A2:=K_ A20;clear A20;by_cases c3:t739.toList=([]:List UInt8)
 ·rw[if_pos c3] at H
  have c3b0:(t739.toList==([]:List UInt8))=true:=beq_iff_eq.mpr c3;have c3b1:(t739.toList !=([]:List UInt8))=false:=bne_eq_false_iff_eq.mpr c3;clear c3;obtain rfl:=Option.some.inj H;go_enter Tryz.func51,Tryz.ntmps51
  go_wp2_with (first|((with_reducible refine zE (N:=1) rfl ?_);refine zdr ?hg (N:=1) ?hd (cs:=#[.bool a0_0,.string a0_1,.int .i64 a0_2]) (t:=23) ?hr ?_;(case hd=>rfl);(case hg=>rfl);(case hr=>first|(go_simp;done)|(go_simp;rfl));intro gb738 hg w4 hbox hb;have n0_:=K_ (zdW (by repeat (first|(with_reducible first|exact HB.out|apply yD|apply jW|apply yW)|exact HB.out)) hb);have n1_:=K_ (hbox);have n2_:=K_ ((by rw[hg];exact (zS (by repeat (first|(with_reducible first|exact HB.out|apply yD|apply jW|apply yW)|exact HB.out))):w.heap.size≤gb738));have n3_:=K_ ((by rw[hg];exact (zS (by repeat (first|(with_reducible first|exact HB.out|apply yD|apply jW|apply yW)|exact HB.out))):w.heap.size≤gb738));clear HB;have HB:=n0_;have BK738:=n1_;have GW738:=n2_;have GE738:=n3_;clear n0_ n1_ n2_ n3_;clear hb hbox hg;have hcz5_0:w4.cell? ⟨gb738,0,none⟩=some (.bool a0_0):=(zA BK738.out 0).trans rfl;have hcz5_1:w4.cell? ⟨gb738,1,none⟩=some (.string a0_1):=(zA BK738.out 1).trans rfl;have hcz5_2:w4.cell? ⟨gb738,2,none⟩=some (.int .i64 a0_2):=(zA BK738.out 2).trans rfl;have hfz5_0:=zL BK738.out 0;have hfz5_1:=zL BK738.out 1;have hfz5_2:=zL BK738.out 2)|((with_reducible refine zK (f:=69) rfl ?_);refine zW (some 6) rfl rfl Tryz.func69 (by kernel_rfl) rfl #[.string a0_1] rfl (by (try simp only[List.map_toArray]);(try simp only[List.map_cons]);(try simp only[List.map_nil]);first|done|rfl|(simp only[List.length_drop,List.length_take];rfl)) ?_;(with_reducible refine (zM.calls k a0_1 t739 _ A2.out).mono ?_);rintro e w' ⟨rfl,⟨nd,rfl⟩⟩;refine⟨_,rfl,?_⟩))
  go_ret
  exact⟨by first|rfl|(simp[vA,vC] <;> rfl)|(simp[*,vA,vC] <;> rfl),by repeat (first|(with_reducible first|exact HB.out|apply yD|apply jW|apply yW|refine xL ?_ GE738.out)|exact HB.out)⟩
 rw[if_neg c3] at H;have c3b0:(t739.toList==([]:List UInt8))=false:=beq_eq_false_iff_ne.mpr c3;have c3b1:(t739.toList !=([]:List UInt8))=true:=bne_iff_ne.mpr c3;obtain rfl:=Option.some.inj H;go_enter Tryz.func51,Tryz.ntmps51
 go_wp2_with (first|((with_reducible refine zE (N:=1) rfl ?_);refine zdr ?hg (N:=1) ?hd (cs:=#[.bool a0_0,.string a0_1,.int .i64 a0_2]) (t:=23) ?hr ?_;(case hd=>rfl);(case hg=>rfl);(case hr=>first|(go_simp;done)|(go_simp;rfl));intro gb738 hg w6 hbox hb;have n0_:=K_ (zdW (by repeat (first|(with_reducible first|exact HB.out|apply yD|apply jW|apply yW)|exact HB.out)) hb);have n1_:=K_ (hbox);have n2_:=K_ ((by rw[hg];exact (zS (by repeat (first|(with_reducible first|exact HB.out|apply yD|apply jW|apply yW)|exact HB.out))):w.heap.size≤gb738));have n3_:=K_ ((by rw[hg];exact (zS (by repeat (first|(with_reducible first|exact HB.out|apply yD|apply jW|apply yW)|exact HB.out))):w.heap.size≤gb738));clear HB;have HB:=n0_;have BK738:=n1_;have GW738:=n2_;have GE738:=n3_;clear n0_ n1_ n2_ n3_;clear hb hbox hg;have hcz7_0:w6.cell? ⟨gb738,0,none⟩=some (.bool a0_0):=(zA BK738.out 0).trans rfl;have hcz7_1:w6.cell? ⟨gb738,1,none⟩=some (.string a0_1):=(zA BK738.out 1).trans rfl;have hcz7_2:w6.cell? ⟨gb738,2,none⟩=some (.int .i64 a0_2):=(zA BK738.out 2).trans rfl;have hfz7_0:=zL BK738.out 0;have hfz7_1:=zL BK738.out 1;have hfz7_2:=zL BK738.out 2)|((with_reducible refine zK (f:=69) rfl ?_);refine zW (some 6) rfl rfl Tryz.func69 (by kernel_rfl) rfl #[.string a0_1] rfl (by (try simp only[List.map_toArray]);(try simp only[List.map_cons]);(try simp only[List.map_nil]);first|done|rfl|(simp only[List.length_drop,List.length_take];rfl)) ?_;(with_reducible refine (zM.calls k a0_1 t739 _ A2.out).mono ?_);rintro e w' ⟨rfl,⟨nd,rfl⟩⟩;refine⟨_,rfl,?_⟩))
 go_ret
 exact⟨by first|rfl|(simp[vA,vC] <;> rfl)|(simp[*,vA,vC] <;> rfl),by repeat (first|(with_reducible first|exact HB.out|apply yD|apply jW|apply yW|refine xL ?_ GE738.out)|exact HB.out)⟩
theorem zmQ {b:Bool} {s:ByteArray} {e:Int} (h:OkD s e):Ev (fun k=>xD.f k b s e) (jZ (vB s) e):=by
 have h1:=h.sz;have h2:=h.lo;have h3:=h.hi;have hz:=h.val;unfold xD.f;refine Ev.bind (zby (by omega) h.d) ?_;by_cases h0:vB s=0
 ·simp only[uH.2 h0,if_true]
  rw[h0];exact Ev.now _
 have h3:¬ (zU (vB s)).toList=([]:List UInt8):=fun hh=>h0 (uH.1 hh)
 simp only[h3,if_false]
 have hw:wrap64 (wrap64 (e+((zU (vB s)).size:Int))-1)=e+((zU (vB s)).size:Int)-1:=by
  rw[w64 (x:=e+((zU (vB s)).size:Int)) (by omega) (by omega),w64 (by omega) (by omega)]
 rw[hw];unfold jZ;rw[if_neg h0];exact Ev.now _
end Go.Proofs.YtcmgdjnjmobkoaaGreatDoor.Px
namespace Go.Proofs.YtcmgdjnjmobkoaaGreatDoor.Px
set_option linter.all false
open Fig Go.RowKit Go.Proofs.YtcmgdjnjmobkoaaGreatDoorW.PrintWords Go.Proofs.YtcmgdjnjmobkoaaGreatDoorW.PrintLast Go.Proofs.YtcmgdjnjmobkoaaGreatDoorW.PrintMore
attribute [local go_sem] yS yR vN vM yF yE yU yT
set_option maxHeartbeats 4000000 in
set_option maxRecDepth 100000 in
theorem zel (q:Pat) (w:World) (hr:xX q w):Calls Tryz.prog 24 #[.agg q.cs] w fun e w'=>e=.returned (.int .i64 q.mult)∧Below w.heap.size w w':=by
 have HB:=K_ (Below.refl w.heap.size w);have HK:=K_ hr;have HM:=K_ (show q.mult=if 0<q.sg 4 then 2 else if 0<q.sg 5 then 3 else 0 from rfl);obtain⟨n4,hn4⟩:∃ n4,n4=q.sg 4:=⟨_,rfl⟩
 obtain⟨n5,hn5⟩:∃ n5,n5=q.sg 5:=⟨_,rfl⟩
 have H4:∀ W,xX q W→Aside0 (Calls Tryz.prog 53 #[.agg q.cs,.int .i64 4] W fun e w'=>e=.returned (.int .i64 ((n4:Nat):Int))∧Below W.heap.size W w'):=fun W h=>K_ (by rw[hn4];exact zei q 4 W h.r0 h.r1 h.r3 h.r4 h.s0 h.s1 h.s3 h.s4)
 have H5:∀ W,xX q W→Aside0 (Calls Tryz.prog 53 #[.agg q.cs,.int .i64 5] W fun e w'=>e=.returned (.int .i64 ((n5:Nat):Int))∧Below W.heap.size W w'):=fun W h=>K_ (by rw[hn5];exact zei q 5 W h.r0 h.r1 h.r3 h.r4 h.s0 h.s1 h.s3 h.s4)
 rw[←hn4,←hn5] at HM;clear hr hn4 hn5;go_enter Tryz.func24,Tryz.ntmps24
 go_upto_region 1 with ((with_reducible refine zE (N:=1) rfl ?_);refine bx_ 1 (q.cs) 26 ?_ rfl rfl rfl rfl rfl;intro g1 hg w2 hbox hb;have BK1:=K_ hbox;have GE1:=ge_ hg HB;replace HB:=zF HB hb;clear hb hbox hg)
 by_cases h4:0<n4
 ·rw[if_pos h4] at HM
  have d4:decide (0<n4)=true:=decide_eq_true h4;go_wp2_with (first|((with_reducible refine zE (N:=3) rfl ?_);refine lo_ (g:=g1) (cs:=q.cs) _ ⟨BK BK1⟩ ?_ rfl rfl rfl Tryz.underlying26 rfl jR)|((with_reducible refine zE (N:=6) rfl ?_);refine lo_ (g:=g1) (cs:=q.cs) _ ⟨BK BK1⟩ ?_ rfl rfl rfl Tryz.underlying26 rfl jR)|(go_at_call 53;with_reducible refine ((H4 _ (HK.out.below (BL HB))).out).mono ?_;rintro e w' ⟨rfl,hb⟩;replace HB:=zF HB hb;replace BK1:=zC BK1 hb;clear hb)|(go_at_call 53;with_reducible refine ((H5 _ (HK.out.below (BL HB))).out).mono ?_;rintro e w' ⟨rfl,hb⟩;replace HB:=zF HB hb;replace BK1:=zC BK1 hb;clear hb))
  go_ret
  exact⟨by rw[HM.out];rfl,BL HB⟩
 rw[if_neg h4] at HM;have d4:decide (0<n4)=false:=decide_eq_false h4;by_cases h5:0<n5
 ·rw[if_pos h5] at HM
  have d5:decide (0<n5)=true:=decide_eq_true h5;go_wp2_with (first|((with_reducible refine zE (N:=3) rfl ?_);refine lo_ (g:=g1) (cs:=q.cs) _ ⟨BK BK1⟩ ?_ rfl rfl rfl Tryz.underlying26 rfl jR)|((with_reducible refine zE (N:=6) rfl ?_);refine lo_ (g:=g1) (cs:=q.cs) _ ⟨BK BK1⟩ ?_ rfl rfl rfl Tryz.underlying26 rfl jR)|(go_at_call 53;with_reducible refine ((H4 _ (HK.out.below (BL HB))).out).mono ?_;rintro e w' ⟨rfl,hb⟩;replace HB:=zF HB hb;replace BK1:=zC BK1 hb;clear hb)|(go_at_call 53;with_reducible refine ((H5 _ (HK.out.below (BL HB))).out).mono ?_;rintro e w' ⟨rfl,hb⟩;replace HB:=zF HB hb;replace BK1:=zC BK1 hb;clear hb))
  go_ret
  exact⟨by rw[HM.out];rfl,BL HB⟩
 rw[if_neg h5] at HM;have d5:decide (0<n5)=false:=decide_eq_false h5;go_wp2_with (first|((with_reducible refine zE (N:=3) rfl ?_);refine lo_ (g:=g1) (cs:=q.cs) _ ⟨BK BK1⟩ ?_ rfl rfl rfl Tryz.underlying26 rfl jR)|((with_reducible refine zE (N:=6) rfl ?_);refine lo_ (g:=g1) (cs:=q.cs) _ ⟨BK BK1⟩ ?_ rfl rfl rfl Tryz.underlying26 rfl jR)|(go_at_call 53;with_reducible refine ((H4 _ (HK.out.below (BL HB))).out).mono ?_;rintro e w' ⟨rfl,hb⟩;replace HB:=zF HB hb;replace BK1:=zC BK1 hb;clear hb)|(go_at_call 53;with_reducible refine ((H5 _ (HK.out.below (BL HB))).out).mono ?_;rintro e w' ⟨rfl,hb⟩;replace HB:=zF HB hb;replace BK1:=zC BK1 hb;clear hb))
 go_ret
 exact⟨by rw[HM.out];rfl,BL HB⟩
theorem zec {b:Bool} {s:ByteArray} {e n:Int} (h:OkD s (e+n)) (h1:-1000000≤e) (h2:e≤1000000) (h3:-1000000≤n) (h4:n≤1000000):Ev (fun k=>yV.f k b s e n) (b,nD (vB s),nE (vB s) (e+n)):=by
 unfold yV.f;rw[w64 (x:=e+n) (by omega) (by omega)];exact Ev.bind (zeP h) (Ev.now _)
set_option maxHeartbeats 8000000 in
set_option maxRecDepth 100000 in
theorem zev (q:Pat) (hq:zaJ q) (m:Int) (h0:0≤m) (h7:m≤7) (b:Bool) (s:ByteArray) (e:Int) (ok:OkS s e) (ht1:jZ (vB s) e≤10000) (ht2:-5000≤jZ (vB s) e) (r1:Bool) (r2:ByteArray) (r3 r4:Int)
  (hr:zbh m b (vB s) e (stP q.P (jZ (vB s) e)).1 (stP q.P (jZ (vB s) e)).2=(r1,r2,r3,r4)) (w:World) :
  Calls Tryz.prog 49 #[.agg q.cs,.int .i64 m,.agg #[.bool b,.string s,.int .i64 e]] w fun e w'=>e=.returned (.tuple #[.agg #[.bool r1,.string r2,.int .i64 r3],.int .i64 r4])∧Below w.heap.size w w':=by
 have HB:=K_ (Below.refl w.heap.size w);have HGD:=K_ hq.good;have HQM:=K_ hq.more;obtain⟨c1,c2,c3⟩:=zny hq.good;have hxf:=hq.good.mf0;have hxf2:=hq.good.mfx;have hxf3:=hq.good.xf4;have hi4:=hq.good.inc4;obtain⟨tp,htp⟩:∃ tp,tp=jZ (vB s) e:=⟨_,rfl⟩
 obtain⟨kt,hkt⟩:=Ev.rounds (zmQ (b:=b) ok.ok);rw[←htp] at hr ht1 ht2 hkt;have HT:=K_ hkt;obtain⟨mx9,hmx⟩:∃ mx9,mx9=(zax q.P).2:=⟨_,rfl⟩
 have hwn:wrap64 (-q.P.xf)=-q.P.xf:=w64 (by omega) (by omega);have one:vB ⟨#[49]⟩=1:=rfl;by_cases hs:q.P.sci=true∨0<q.P.ms
 ·have e1:stP q.P tp=(1,tp-(cS q.P:Int)+1):=by unfold stP;rw[if_pos hs]
  rw[e1] at hr;have hw:wrap64 (wrap64 (tp-mx9)+1)=tp-(cS q.P:Int)+1:=by rw[hmx,c3,w64 (x:=tp-(cS q.P:Int)) (by omega) (by omega),w64 (by omega) (by omega)]
  obtain⟨k,hk⟩:=Ev.rounds (zed (m:=m) (b:=b) (st:=⟨#[49]⟩) (p:=tp-(cS q.P:Int)+1) ok rfl (by decide) (by decide) (by omega) (by omega));rw[one,hr,←hw] at hk;have HR:=K_ hk;have HMX:=K_ hmx;clear hk hr hw e1 one ok hmx hkt htp c3;go_enter Tryz.func49,Tryz.ntmps49
  go_upto_region 1 with (first|((with_reducible refine zE (N:=3) rfl ?_);refine bx_ 3 (q.cs) 26 ?_ rfl rfl rfl rfl rfl;intro g3 hg w2 hbox hb;have BK3:=K_ hbox;have GE3:=ge_ hg HB;replace HB:=zF HB hb;clear hb hbox hg)|((with_reducible refine zE (N:=5) rfl ?_);refine bx_ 5 (#[.bool b,.string s,.int .i64 e]) 23 ?_ rfl rfl rfl rfl rfl;intro g5 hg w2 hbox hb;have BK5:=K_ hbox;have GE5:=ge_ hg HB;have NB3_5:=nb_ hg BK3;replace BK3:=zC BK3 hb;replace HB:=zF HB hb;clear hb hbox hg)|((with_reducible refine zE (N:=6) rfl ?_);refine be_ 6 (#[.bool false,.string (⟨#[]⟩:ByteArray),.int .i64 0]) 23 ?_;intro g6 hg w2 hbox hb;have BK6:=K_ hbox;have GE6:=ge_ hg HB;have NB3_6:=nb_ hg BK3;replace BK3:=zC BK3 hb;have NB5_6:=nb_ hg BK5;replace BK5:=zC BK5 hb;replace HB:=zF HB hb;clear hb hbox hg))
  have e14:=(show w2.cell? ⟨g3,14,none⟩=some (.bool q.P.sci) from (zA BK3.out 14).trans rfl)
  have e9:=(show w2.cell? ⟨g3,9,none⟩=some (.int .i64 q.P.ms) from (zA BK3.out 9).trans rfl)
  rcases hs with hs|hs
  ·rw[hs] at e14
   clear hs;go_upto_region 3 with (first|((with_reducible refine zE (N:=18) rfl ?_);refine lo_ (g:=g3) (cs:=q.cs) _ ⟨BK BK3⟩ ?_ rfl rfl rfl Tryz.underlying26 rfl jR)|(go_at_call 26;refine (zhD q HGD.out _).mono ?_;rintro e9 w' ⟨rfl,hb⟩;replace HB:=zF HB hb;replace BK3:=zC BK3 hb;replace BK5:=zC BK5 hb;replace BK6:=zC BK6 hb;clear hb))
   simp only[←HMX.out]
   refine yA (n:=12) (S:=fun W=>W.heap[g5]?=some (.cells #[.bool b,.string s,.int .i64 e] 23 (0,0))) (ds:=[]) #[false,false,false,false,false,false,false,false,false,false,false,false] (by kernel_rfl) rfl rfl (BK BK5) (fun hHeld=>?_);refine jG (fun W=>W.heap[g5]?=some (.cells #[.bool b,.string s,.int .i64 e] 23 (0,0))∧W.heap[g6]?=some (.cells #[.bool false,.string (⟨#[]⟩:ByteArray),.int .i64 0] 23 (0,0))∧Below w.heap.size w W) ⟨BK BK5,BK BK6,BL HB⟩ ?_;clear hHeld BK3 BK5 BK6 HB;rintro W ⟨hb5,hb6,hbw⟩;have BK5:=K_ hb5;have BK6:=K_ hb6;have HB:=K_ hbw;clear hb5 hb6 hbw;have hHeld:=(show W.heap[g5]?=some (.cells #[.bool b,.string s,.int .i64 e] 23 (0,0)) from BK5.out)
   refine pw_ 0 22 (bb 12 1) ?_;refine tr_ 1 23 (bb 12 3) (#[.bool b,.string s,.int .i64 e]) (fun _ hs=>⟨hs⟩) Tryz.underlying23 jL hHeld ?_;refine tr_ 2 24 (bb 12 7) (#[.bool b,.string s,.int .i64 e]) (fun _ hs=>⟨hs⟩) Tryz.underlying23 jL hHeld ?_;refine pw_ 4 26 (bb 12 23) ?_;refine on_ 3 (some 25) (bb 12 31) (fun K hK=>?_);refine gq_ Tryz.func51 #[.agg #[.bool b,.string s,.int .i64 e]] ?_;refine (xD.calls kt b s e tp _ HT.out).mono ?_;rintro e9 w' ⟨rfl,hb⟩;refine⟨_,rfl,?_⟩;replace HB:=zF HB hb;replace BK5:=zC BK5 hb;replace BK6:=zC BK6 hb;clear hb;clear hHeld;refine hK.out _ _ BK5.out (fun hHeld=>?_);clear hK K;refine no_ (some 25) ?_;refine pw_ 5 27 (bb 12 63) ?_;refine pw_ 6 28 (bb 12 127) ?_;refine on_ 7 (some 29) (bb 12 255) (fun K hK=>?_);refine gq_ Tryz.func83 #[.int .i64 m,.agg #[.bool b,.string s,.int .i64 e],.string (⟨#[49]⟩:ByteArray),.int .i64 (wrap64 (wrap64 (tp-mx9)+1))] ?_;refine (zH.calls k m b s e ⟨#[49]⟩ (wrap64 (wrap64 (tp-mx9)+1)) r1 r2 r3 r4 _ HR.out).mono ?_;rintro e9 w' ⟨rfl,hb⟩;refine⟨_,rfl,?_⟩;replace HB:=zF HB hb;replace BK5:=zC BK5 hb;replace BK6:=zC BK6 hb;clear hb;clear hHeld;refine hK.out _ _ BK5.out (fun hHeld=>?_);clear hK K;refine no_ (some 29) ?_;refine pw_ 8 30 (bb 12 511) ?_;refine pw_ 9 31 (bb 12 1023) ?_;refine on_ 10 none (bb 12 2047) (fun K hK=>?_);refine yL (g:=g6) (cs:=#[.bool false,.string (⟨#[]⟩:ByteArray),.int .i64 0]) (#[.bool r1,.string r2,.int .i64 r3]) BK6 ?_ rfl rfl rfl rfl rfl jL rfl rfl;intro w9 hbk hfar hbel;replace BK5:=K_ (hfar _ _ NB5_6.out BK5.out)
   replace BK6:=K_ hbk;replace HB:=K_ (hbel _ _ GE6.out HB.out);refine hK.out _ _ BK5.out (fun _=>?_);clear hK K hbk hfar hbel;refine pw_ 11 7 (bb 12 4095) ?_;refine yN (by kernel_rfl) ?_;go_wp2_with (fail)
   refine bodyPost_ret (jE rfl _ _ g6 23 #[.bool r1,.string r2,.int .i64 r3] (0,0) _ rfl BK6.out Tryz.underlying23 rfl jL) rfl ?_;exact⟨rfl,BL HB⟩
  have d9:decide (0<q.P.ms)=true:=decide_eq_true hs;cases hsc:q.P.sci
  all_goals
   rw[hsc] at e14;clear hsc;go_upto_region 3 with (first|((with_reducible refine zE (N:=18) rfl ?_);refine lo_ (g:=g3) (cs:=q.cs) _ ⟨BK BK3⟩ ?_ rfl rfl rfl Tryz.underlying26 rfl jR)|(go_at_call 26;refine (zhD q HGD.out _).mono ?_;rintro e9 w' ⟨rfl,hb⟩;replace HB:=zF HB hb;replace BK3:=zC BK3 hb;replace BK5:=zC BK5 hb;replace BK6:=zC BK6 hb;clear hb))
   simp only[←HMX.out]
   refine yA (n:=12) (S:=fun W=>W.heap[g5]?=some (.cells #[.bool b,.string s,.int .i64 e] 23 (0,0))) (ds:=[]) #[false,false,false,false,false,false,false,false,false,false,false,false] (by kernel_rfl) rfl rfl (BK BK5) (fun hHeld=>?_);refine jG (fun W=>W.heap[g5]?=some (.cells #[.bool b,.string s,.int .i64 e] 23 (0,0))∧W.heap[g6]?=some (.cells #[.bool false,.string (⟨#[]⟩:ByteArray),.int .i64 0] 23 (0,0))∧Below w.heap.size w W) ⟨BK BK5,BK BK6,BL HB⟩ ?_;clear hHeld BK3 BK5 BK6 HB;rintro W ⟨hb5,hb6,hbw⟩;have BK5:=K_ hb5;have BK6:=K_ hb6;have HB:=K_ hbw;clear hb5 hb6 hbw;have hHeld:=(show W.heap[g5]?=some (.cells #[.bool b,.string s,.int .i64 e] 23 (0,0)) from BK5.out)
   refine pw_ 0 22 (bb 12 1) ?_;refine tr_ 1 23 (bb 12 3) (#[.bool b,.string s,.int .i64 e]) (fun _ hs=>⟨hs⟩) Tryz.underlying23 jL hHeld ?_;refine tr_ 2 24 (bb 12 7) (#[.bool b,.string s,.int .i64 e]) (fun _ hs=>⟨hs⟩) Tryz.underlying23 jL hHeld ?_;refine pw_ 4 26 (bb 12 23) ?_;refine on_ 3 (some 25) (bb 12 31) (fun K hK=>?_);refine gq_ Tryz.func51 #[.agg #[.bool b,.string s,.int .i64 e]] ?_;refine (xD.calls kt b s e tp _ HT.out).mono ?_;rintro e9 w' ⟨rfl,hb⟩;refine⟨_,rfl,?_⟩;replace HB:=zF HB hb;replace BK5:=zC BK5 hb;replace BK6:=zC BK6 hb;clear hb;clear hHeld;refine hK.out _ _ BK5.out (fun hHeld=>?_);clear hK K;refine no_ (some 25) ?_;refine pw_ 5 27 (bb 12 63) ?_;refine pw_ 6 28 (bb 12 127) ?_;refine on_ 7 (some 29) (bb 12 255) (fun K hK=>?_);refine gq_ Tryz.func83 #[.int .i64 m,.agg #[.bool b,.string s,.int .i64 e],.string (⟨#[49]⟩:ByteArray),.int .i64 (wrap64 (wrap64 (tp-mx9)+1))] ?_;refine (zH.calls k m b s e ⟨#[49]⟩ (wrap64 (wrap64 (tp-mx9)+1)) r1 r2 r3 r4 _ HR.out).mono ?_;rintro e9 w' ⟨rfl,hb⟩;refine⟨_,rfl,?_⟩;replace HB:=zF HB hb;replace BK5:=zC BK5 hb;replace BK6:=zC BK6 hb;clear hb;clear hHeld;refine hK.out _ _ BK5.out (fun hHeld=>?_);clear hK K;refine no_ (some 29) ?_;refine pw_ 8 30 (bb 12 511) ?_;refine pw_ 9 31 (bb 12 1023) ?_;refine on_ 10 none (bb 12 2047) (fun K hK=>?_);refine yL (g:=g6) (cs:=#[.bool false,.string (⟨#[]⟩:ByteArray),.int .i64 0]) (#[.bool r1,.string r2,.int .i64 r3]) BK6 ?_ rfl rfl rfl rfl rfl jL rfl rfl;intro w9 hbk hfar hbel;replace BK5:=K_ (hfar _ _ NB5_6.out BK5.out)
   replace BK6:=K_ hbk;replace HB:=K_ (hbel _ _ GE6.out HB.out);refine hK.out _ _ BK5.out (fun _=>?_);clear hK K hbk hfar hbel;refine pw_ 11 7 (bb 12 4095) ?_;refine yN (by kernel_rfl) ?_;go_wp2_with (fail)
   refine bodyPost_ret (jE rfl _ _ g6 23 #[.bool r1,.string r2,.int .i64 r3] (0,0) _ rfl BK6.out Tryz.underlying23 rfl jL) rfl ?_;exact⟨rfl,BL HB⟩
 have hsc:q.P.sci=false:=by cases h:q.P.sci;rfl;exact absurd (.inl h) hs
 have d9:decide (0<q.P.ms)=false:=decide_eq_false (fun h=>hs (.inr h));by_cases hi:q.P.inc.size=0
 ·have e1:stP q.P tp=(1,-q.P.xf):=by unfold stP;rw[if_neg hs,if_neg (by omega)]
  rw[e1] at hr;obtain⟨k,hk⟩:=Ev.rounds (zed (m:=m) (b:=b) (st:=⟨#[49]⟩) (p:=-q.P.xf) ok rfl (by decide) (by decide) (by omega) (by omega));rw[one,hr] at hk;have HR:=K_ hk;have hie:q.P.inc=⟨#[]⟩:=zpL hi;clear hk hr e1 one ok hmx hkt htp hi hs;go_enter Tryz.func49,Tryz.ntmps49
  go_upto_region 1 with (first|((with_reducible refine zE (N:=3) rfl ?_);refine bx_ 3 (q.cs) 26 ?_ rfl rfl rfl rfl rfl;intro g3 hg w2 hbox hb;have BK3:=K_ hbox;have GE3:=ge_ hg HB;replace HB:=zF HB hb;clear hb hbox hg)|((with_reducible refine zE (N:=5) rfl ?_);refine bx_ 5 (#[.bool b,.string s,.int .i64 e]) 23 ?_ rfl rfl rfl rfl rfl;intro g5 hg w2 hbox hb;have BK5:=K_ hbox;have GE5:=ge_ hg HB;have NB3_5:=nb_ hg BK3;replace BK3:=zC BK3 hb;replace HB:=zF HB hb;clear hb hbox hg)|((with_reducible refine zE (N:=6) rfl ?_);refine be_ 6 (#[.bool false,.string (⟨#[]⟩:ByteArray),.int .i64 0]) 23 ?_;intro g6 hg w2 hbox hb;have BK6:=K_ hbox;have GE6:=ge_ hg HB;have NB3_6:=nb_ hg BK3;replace BK3:=zC BK3 hb;have NB5_6:=nb_ hg BK5;replace BK5:=zC BK5 hb;replace HB:=zF HB hb;clear hb hbox hg))
  have e14:=(show w2.cell? ⟨g3,14,none⟩=some (.bool q.P.sci) from (zA BK3.out 14).trans rfl)
  have e9:=(show w2.cell? ⟨g3,9,none⟩=some (.int .i64 q.P.ms) from (zA BK3.out 9).trans rfl)
  have e13:=(show w2.cell? ⟨g3,13,none⟩=some (.string q.P.inc) from (zA BK3.out 13).trans rfl)
  have e8:=(show w2.cell? ⟨g3,8,none⟩=some (.int .i64 q.P.xf) from (zA BK3.out 8).trans rfl)
  rw[hsc] at e14;rw[hie] at e13;clear hsc hie;go_wp2_with (first|((with_reducible refine zE (N:=46) rfl ?_);refine lo_ (g:=g5) (cs:=#[.bool b,.string s,.int .i64 e]) _ ⟨BK BK5⟩ ?_ rfl rfl rfl Tryz.underlying23 rfl jL)|(go_at_call 83;refine (zH.calls k m b s e ⟨#[49]⟩ (-q.P.xf) r1 r2 r3 r4 _ HR.out).mono ?_;rintro e9 w' ⟨rfl,hb⟩;replace HB:=zF HB hb;replace BK5:=zC BK5 hb;replace BK6:=zC BK6 hb;clear hb)|((with_reducible refine zY (p:=6) rfl ?_);refine so_ (g:=g6) (cs:=#[.bool false,.string (⟨#[]⟩:ByteArray),.int .i64 0]) (#[.bool r1,.string r2,.int .i64 r3]) ⟨BK BK6⟩ ?_ rfl rfl rfl rfl rfl jL rfl rfl;intro w9 hbk hfar hbel;replace BK6:=K_ hbk;replace HB:=K_ (hbel _ _ GE6.out (BL HB));clear hbk hfar hbel))
  refine bodyPost_ret (jE rfl _ _ g6 23 #[.bool r1,.string r2,.int .i64 r3] (0,0) _ rfl BK6.out Tryz.underlying23 rfl jL) rfl ?_;exact⟨rfl,BL HB⟩
 have e1:stP q.P tp=(vB q.P.inc,-q.P.xf):=by unfold stP;rw[if_neg hs,if_pos hi]
 rw[e1] at hr;obtain⟨k,hk⟩:=Ev.rounds (zed (m:=m) (b:=b) (st:=q.P.inc) (p:=-q.P.xf) ok (HQM.out.dig hi).1 (HQM.out.dig hi).2 (by omega) (by omega) (by omega));rw[hr] at hk;have HR:=K_ hk;have hie2:=zdK (Nat.pos_of_ne_zero hi);clear hk hr e1 one ok hmx hkt htp hi hs;go_enter Tryz.func49,Tryz.ntmps49
 go_upto_region 1 with (first|((with_reducible refine zE (N:=3) rfl ?_);refine bx_ 3 (q.cs) 26 ?_ rfl rfl rfl rfl rfl;intro g3 hg w2 hbox hb;have BK3:=K_ hbox;have GE3:=ge_ hg HB;replace HB:=zF HB hb;clear hb hbox hg)|((with_reducible refine zE (N:=5) rfl ?_);refine bx_ 5 (#[.bool b,.string s,.int .i64 e]) 23 ?_ rfl rfl rfl rfl rfl;intro g5 hg w2 hbox hb;have BK5:=K_ hbox;have GE5:=ge_ hg HB;have NB3_5:=nb_ hg BK3;replace BK3:=zC BK3 hb;replace HB:=zF HB hb;clear hb hbox hg)|((with_reducible refine zE (N:=6) rfl ?_);refine be_ 6 (#[.bool false,.string (⟨#[]⟩:ByteArray),.int .i64 0]) 23 ?_;intro g6 hg w2 hbox hb;have BK6:=K_ hbox;have GE6:=ge_ hg HB;have NB3_6:=nb_ hg BK3;replace BK3:=zC BK3 hb;have NB5_6:=nb_ hg BK5;replace BK5:=zC BK5 hb;replace HB:=zF HB hb;clear hb hbox hg))
 have e14:=(show w2.cell? ⟨g3,14,none⟩=some (.bool q.P.sci) from (zA BK3.out 14).trans rfl)
 have e9:=(show w2.cell? ⟨g3,9,none⟩=some (.int .i64 q.P.ms) from (zA BK3.out 9).trans rfl)
 have e13:=(show w2.cell? ⟨g3,13,none⟩=some (.string q.P.inc) from (zA BK3.out 13).trans rfl)
 have e8:=(show w2.cell? ⟨g3,8,none⟩=some (.int .i64 q.P.xf) from (zA BK3.out 8).trans rfl)
 rw[hsc] at e14;clear hsc;go_wp2_with (first|((with_reducible refine zE (N:=36) rfl ?_);refine lo_ (g:=g5) (cs:=#[.bool b,.string s,.int .i64 e]) _ ⟨BK BK5⟩ ?_ rfl rfl rfl Tryz.underlying23 rfl jL)|(go_at_call 83;refine (zH.calls k m b s e q.P.inc (-q.P.xf) r1 r2 r3 r4 _ HR.out).mono ?_;rintro e9 w' ⟨rfl,hb⟩;replace HB:=zF HB hb;replace BK5:=zC BK5 hb;replace BK6:=zC BK6 hb;clear hb)|((with_reducible refine zY (p:=6) rfl ?_);refine so_ (g:=g6) (cs:=#[.bool false,.string (⟨#[]⟩:ByteArray),.int .i64 0]) (#[.bool r1,.string r2,.int .i64 r3]) ⟨BK BK6⟩ ?_ rfl rfl rfl rfl rfl jL rfl rfl;intro w9 hbk hfar hbel;replace BK6:=K_ hbk;replace HB:=K_ (hbel _ _ GE6.out (BL HB));clear hbk hfar hbel))
 refine bodyPost_ret (jE rfl _ _ g6 23 #[.bool r1,.string r2,.int .i64 r3] (0,0) _ rfl BK6.out Tryz.underlying23 rfl jL) rfl ?_;exact⟨rfl,BL HB⟩
theorem zlR {q:Pat} (hq:zaJ q) {m:Int} (h0:0≤m) (h7:m≤7) (b:Bool) {s:ByteArray} {e:Int} (hg:zaU s e=true) (hrg:zaO (vB s) e=true) :
  ∃ (x2:ByteArray) (x3:Int) (y1:Bool) (y2:ByteArray) (y3 y4:Int),Ev (fun k=>yV.f k b s e q.mult) (b,x2,x3)∧(OkS x2 x3∧jZ (vB x2) x3≤10000∧-5000≤jZ (vB x2) x3)∧zbh m b (vB x2) x3 (stP q.P (jZ (vB x2) x3)).1 (stP q.P (jZ (vB x2) x3)).2=(y1,y2,y3,y4) ∧
   ((y4≠0∧xC q m b s e=(false,⟨#[]⟩,0,y4))∨(y4=0∧∃ (z2:ByteArray) (z3:Int) (g:Bool),Ev (fun k=>yV.f k y1 y2 y3 (-q.mult)) (b,z2,z3)∧Ev (fun k=>vF.f k b z2 z3) g∧xC q m b s e=if g=true then (b,z2,z3,0) else (false,⟨#[]⟩,0,10))):=by
 obtain⟨g1,g2,g3,g4,g5⟩:=zbW.1 hg;obtain⟨m0,m3⟩:=zfm q;have okd:=OkD.of_good hg;have hn:(zU (vB s)).size≤1000:=Nat.le_trans okd.val g3;have okE:OkD s (e+q.mult):=⟨g1,g2,by omega,by omega,by omega⟩
 have okS:=OkS.norm (n:=vB s) (e:=e+q.mult) (by omega) (by omega) (by omega);have hc:vB (nD (vB s))=yC (vB s):=zgi _;have ht:=zkX (n:=vB s) (e:=e+q.mult) (by omega) (by omega) (by omega);have hF:xC q m b s e=zit q m b (vB s) e:=by unfold xC;rw[if_pos ⟨h0,h7⟩,if_pos hg,if_pos hrg]
 rw[hF];by_cases hx:m=7∧zeB q (vB s) e=false
 ·obtain⟨rfl,hf⟩:=hx
  have hf2:¬ atE (yC (vB s)) (nE (vB s) (e+q.mult)) (rK q (vB s) e) % atE (stP q.P (jZ (vB s) (e+q.mult))).1 (stP q.P (jZ (vB s) (e+q.mult))).2 (rK q (vB s) e)=0:=of_decide_eq_false hf;refine⟨nD (vB s),nE (vB s) (e+q.mult),false,⟨#[]⟩,0,11,zec okE (by omega) (by omega) (by omega) (by omega),⟨okS,by rw[hc,zcc];omega,by rw[hc,zcc];omega⟩,?_,.inl ⟨by decide,?_⟩⟩
  ·rw[hc,zcc];exact zff hf2
  unfold zit;rw[if_pos ⟨rfl,hf⟩]
 obtain⟨k1,k2,k3⟩:=zoH hq m b (n:=vB s) (e:=e) hn (by omega) (by omega);obtain⟨N,hN⟩:∃ N,N=rN q m b (vB s) e:=⟨_,rfl⟩
 obtain⟨k,hk⟩:∃ k,k=rK q (vB s) e:=⟨_,rfl⟩
 have e1:rX q m b (vB s) e=nE (yC N) (nE N k + -q.mult):=by unfold rX;rw[←hN,←hk]
 rw[←hN] at k1;rw[←hk] at k2 k3;have a1:=zgL N k k1;have a2:=zeX N k;have a3:=zkG (n:=N) k1 (by omega);have hcz:(zU (yC N)).size≤8000:=zaI (zgR N) k1;have b1:=zgL (yC N) (nE N k + -q.mult) hcz;have b2:=zeX (yC N) (nE N k + -q.mult);refine⟨nD (vB s),nE (vB s) (e+q.mult),b,nD N,nE N k,0,zec okE (by omega) (by omega) (by omega) (by omega),⟨okS,by rw[hc,zcc];omega,by rw[hc,zcc];omega⟩,?_,.inr ⟨rfl,nD N,nE (yC N) (nE N k + -q.mult),zaO (yC N) (nE (yC N) (nE N k + -q.mult)),?_,?_,?_⟩⟩
 ·rw[hc,zcc,hN,hk]
  exact zkw hq b (fun h=>by cases hh:zeB q (vB s) e;exact absurd ⟨h,hh⟩ hx;rfl)
 ·have h:=zec (b:=b) (s:=nD N) (e:=nE N k) (n:=-q.mult) ⟨zgN N,zgk N,by omega,by omega,by omega⟩ (by omega) (by omega) (by omega) (by omega)
  rw[zgi,zjM] at h;exact h
 ·have h:=zfB (b:=b) (s:=nD N) (e:=nE (yC N) (nE N k + -q.mult)) ⟨zgN N,zgk N,by omega,by omega,by omega⟩
  rw[zgi] at h;exact h
 unfold zit zhc;rw[if_neg hx,e1,←hN]
set_option maxHeartbeats 8000000 in
set_option maxRecDepth 100000 in
theorem zjE (q:Pat) (hq:zaJ q) (m:Int) (b:Bool) (s:ByteArray) (e:Int) (hs:s.size≤4611686018427387904) (w:World) (hr:xX q w) :
  Calls Tryz.prog 21 #[.agg q.cs,.int .i64 m,.agg #[.bool b,.string s,.int .i64 e]] w fun e' w'=>e'=.returned (.tuple #[.agg #[.bool (xC q m b s e).1,.string (xC q m b s e).2.1,.int .i64 (xC q m b s e).2.2.1],.int .i64 (xC q m b s e).2.2.2])∧Below w.heap.size w w':=by
 have HB:=K_ (Below.refl w.heap.size w);have HQ:=K_ hq;have HRW:=K_ hr;clear hq hr;by_cases h0:m<0
 ·have d0:decide (m<0)=true:=decide_eq_true h0
  rw[show xC q m b s e=(false,⟨#[]⟩,0,1) by unfold xC;rw[if_neg (by omega)]];clear h0;go_enter Tryz.func21,Tryz.ntmps21
  go_upto_region 1 with (first|((with_reducible refine zE (N:=3) rfl ?_);refine bx_ 3 (q.cs) 26 ?_ rfl rfl rfl rfl rfl;intro g3 hg w2 hbox hb;have BK3:=K_ hbox;have GE3:=ge_ hg HB;replace HB:=zF HB hb;clear hb hbox hg)|((with_reducible refine zE (N:=5) rfl ?_);refine bx_ 5 (#[.bool b,.string s,.int .i64 e]) 23 ?_ rfl rfl rfl rfl rfl;intro g5 hg w2 hbox hb;have BK5:=K_ hbox;have GE5:=ge_ hg HB;have NB3_5:=nb_ hg BK3;replace BK3:=zC BK3 hb;replace HB:=zF HB hb;clear hb hbox hg)|((with_reducible refine zE (N:=6) rfl ?_);refine be_ 6 (#[.bool false,.string (⟨#[]⟩:ByteArray),.int .i64 0]) 23 ?_;intro g6 hg w2 hbox hb;have BK6:=K_ hbox;have GE6:=ge_ hg HB;have NB3_6:=nb_ hg BK3;replace BK3:=zC BK3 hb;have NB5_6:=nb_ hg BK5;replace BK5:=zC BK5 hb;replace HB:=zF HB hb;clear hb hbox hg))
  go_wp2_with ((with_reducible refine zY (p:=6) rfl ?_);refine so_ (g:=g6) (cs:=#[.bool false,.string (⟨#[]⟩:ByteArray),.int .i64 0]) (#[.bool false,.string (⟨#[]⟩:ByteArray),.int .i64 0]) ⟨BK BK6⟩ ?_ rfl rfl rfl rfl rfl jL rfl rfl;intro w9 hbk hfar hbel;replace BK3:=K_ (hfar _ _ (by first|exact NB3_6.out|exact Ne.symm NB6_3.out) (BK BK3));replace BK5:=K_ (hfar _ _ (by first|exact NB5_6.out|exact Ne.symm NB6_5.out) (BK BK5));replace BK6:=K_ hbk;replace HB:=K_ (hbel _ _ GE6.out (BL HB));clear hbk hfar hbel)
  refine bodyPost_ret (jE rfl _ _ g6 23 #[.bool false,.string (⟨#[]⟩:ByteArray),.int .i64 0] (0,0) _ rfl BK6.out Tryz.underlying23 rfl jL) rfl ?_;exact⟨rfl,BL HB⟩
 have d0:decide (m<0)=false:=decide_eq_false h0;by_cases h7:m>7
 ·have d7:decide (m>7)=true:=decide_eq_true h7
  rw[show xC q m b s e=(false,⟨#[]⟩,0,1) by unfold xC;rw[if_neg (by omega)]];clear h0 h7;go_enter Tryz.func21,Tryz.ntmps21
  go_upto_region 1 with (first|((with_reducible refine zE (N:=3) rfl ?_);refine bx_ 3 (q.cs) 26 ?_ rfl rfl rfl rfl rfl;intro g3 hg w2 hbox hb;have BK3:=K_ hbox;have GE3:=ge_ hg HB;replace HB:=zF HB hb;clear hb hbox hg)|((with_reducible refine zE (N:=5) rfl ?_);refine bx_ 5 (#[.bool b,.string s,.int .i64 e]) 23 ?_ rfl rfl rfl rfl rfl;intro g5 hg w2 hbox hb;have BK5:=K_ hbox;have GE5:=ge_ hg HB;have NB3_5:=nb_ hg BK3;replace BK3:=zC BK3 hb;replace HB:=zF HB hb;clear hb hbox hg)|((with_reducible refine zE (N:=6) rfl ?_);refine be_ 6 (#[.bool false,.string (⟨#[]⟩:ByteArray),.int .i64 0]) 23 ?_;intro g6 hg w2 hbox hb;have BK6:=K_ hbox;have GE6:=ge_ hg HB;have NB3_6:=nb_ hg BK3;replace BK3:=zC BK3 hb;have NB5_6:=nb_ hg BK5;replace BK5:=zC BK5 hb;replace HB:=zF HB hb;clear hb hbox hg))
  go_wp2_with ((with_reducible refine zY (p:=6) rfl ?_);refine so_ (g:=g6) (cs:=#[.bool false,.string (⟨#[]⟩:ByteArray),.int .i64 0]) (#[.bool false,.string (⟨#[]⟩:ByteArray),.int .i64 0]) ⟨BK BK6⟩ ?_ rfl rfl rfl rfl rfl jL rfl rfl;intro w9 hbk hfar hbel;replace BK3:=K_ (hfar _ _ (by first|exact NB3_6.out|exact Ne.symm NB6_3.out) (BK BK3));replace BK5:=K_ (hfar _ _ (by first|exact NB5_6.out|exact Ne.symm NB6_5.out) (BK BK5));replace BK6:=K_ hbk;replace HB:=K_ (hbel _ _ GE6.out (BL HB));clear hbk hfar hbel)
  refine bodyPost_ret (jE rfl _ _ g6 23 #[.bool false,.string (⟨#[]⟩:ByteArray),.int .i64 0] (0,0) _ rfl BK6.out Tryz.underlying23 rfl jL) rfl ?_;exact⟨rfl,BL HB⟩
 have d7:decide (m>7)=false:=decide_eq_false h7;replace h0:0≤m:=by omega
 replace h7:m≤7:=by omega
 obtain⟨kg,hkg⟩:=Ev.rounds (zmc (b:=b) (s:=s) (e:=e) hs);cases hg:zaU s e
 ·rw[hg] at hkg
  have HKG:=K_ hkg;rw[show xC q m b s e=(false,⟨#[]⟩,0,9) by unfold xC;rw[if_pos ⟨h0,h7⟩,if_neg (by rw[hg];decide)]];clear hkg hg h0 h7;go_enter Tryz.func21,Tryz.ntmps21
  go_upto_region 1 with (first|((with_reducible refine zE (N:=3) rfl ?_);refine bx_ 3 (q.cs) 26 ?_ rfl rfl rfl rfl rfl;intro g3 hg w2 hbox hb;have BK3:=K_ hbox;have GE3:=ge_ hg HB;replace HB:=zF HB hb;clear hb hbox hg)|((with_reducible refine zE (N:=5) rfl ?_);refine bx_ 5 (#[.bool b,.string s,.int .i64 e]) 23 ?_ rfl rfl rfl rfl rfl;intro g5 hg w2 hbox hb;have BK5:=K_ hbox;have GE5:=ge_ hg HB;have NB3_5:=nb_ hg BK3;replace BK3:=zC BK3 hb;replace HB:=zF HB hb;clear hb hbox hg)|((with_reducible refine zE (N:=6) rfl ?_);refine be_ 6 (#[.bool false,.string (⟨#[]⟩:ByteArray),.int .i64 0]) 23 ?_;intro g6 hg w2 hbox hb;have BK6:=K_ hbox;have GE6:=ge_ hg HB;have NB3_6:=nb_ hg BK3;replace BK3:=zC BK3 hb;have NB5_6:=nb_ hg BK5;replace BK5:=zC BK5 hb;replace HB:=zF HB hb;clear hb hbox hg))
  go_wp2_with (first|((with_reducible refine zE (N:=18) rfl ?_);refine lo_ (g:=g5) (cs:=#[.bool b,.string s,.int .i64 e]) _ ⟨BK BK5⟩ ?_ rfl rfl rfl Tryz.underlying23 rfl jL)|(go_at_call 40;refine (uL.calls kg b s e _ _ HKG.out).mono ?_;rintro e9 w' ⟨rfl,hb⟩;replace HB:=zF HB hb;replace BK3:=zC BK3 hb;replace BK5:=zC BK5 hb;replace BK6:=zC BK6 hb;clear hb)|((with_reducible refine zY (p:=6) rfl ?_);refine so_ (g:=g6) (cs:=#[.bool false,.string (⟨#[]⟩:ByteArray),.int .i64 0]) (#[.bool false,.string (⟨#[]⟩:ByteArray),.int .i64 0]) ⟨BK BK6⟩ ?_ rfl rfl rfl rfl rfl jL rfl rfl;intro w9 hbk hfar hbel;replace BK3:=K_ (hfar _ _ (by first|exact NB3_6.out|exact Ne.symm NB6_3.out) (BK BK3));replace BK5:=K_ (hfar _ _ (by first|exact NB5_6.out|exact Ne.symm NB6_5.out) (BK BK5));replace BK6:=K_ hbk;replace HB:=K_ (hbel _ _ GE6.out (BL HB));clear hbk hfar hbel))
  refine bodyPost_ret (jE rfl _ _ g6 23 #[.bool false,.string (⟨#[]⟩:ByteArray),.int .i64 0] (0,0) _ rfl BK6.out Tryz.underlying23 rfl jL) rfl ?_;exact⟨rfl,BL HB⟩
 rw[hg] at hkg;have HKG:=K_ hkg;obtain⟨kr,hkr⟩:=Ev.rounds (zfB (b:=b) (OkD.of_good hg));cases hrg:zaO (vB s) e
 ·rw[hrg] at hkr
  have HKR:=K_ hkr;rw[show xC q m b s e=(false,⟨#[]⟩,0,10) by unfold xC;rw[if_pos ⟨h0,h7⟩,if_pos hg,if_neg (by rw[hrg];decide)]];clear hkg hkr hg hrg h0 h7;go_enter Tryz.func21,Tryz.ntmps21
  go_upto_region 1 with (first|((with_reducible refine zE (N:=3) rfl ?_);refine bx_ 3 (q.cs) 26 ?_ rfl rfl rfl rfl rfl;intro g3 hg w2 hbox hb;have BK3:=K_ hbox;have GE3:=ge_ hg HB;replace HB:=zF HB hb;clear hb hbox hg)|((with_reducible refine zE (N:=5) rfl ?_);refine bx_ 5 (#[.bool b,.string s,.int .i64 e]) 23 ?_ rfl rfl rfl rfl rfl;intro g5 hg w2 hbox hb;have BK5:=K_ hbox;have GE5:=ge_ hg HB;have NB3_5:=nb_ hg BK3;replace BK3:=zC BK3 hb;replace HB:=zF HB hb;clear hb hbox hg)|((with_reducible refine zE (N:=6) rfl ?_);refine be_ 6 (#[.bool false,.string (⟨#[]⟩:ByteArray),.int .i64 0]) 23 ?_;intro g6 hg w2 hbox hb;have BK6:=K_ hbox;have GE6:=ge_ hg HB;have NB3_6:=nb_ hg BK3;replace BK3:=zC BK3 hb;have NB5_6:=nb_ hg BK5;replace BK5:=zC BK5 hb;replace HB:=zF HB hb;clear hb hbox hg))
  go_wp2_with (first|((with_reducible refine zE (N:=18) rfl ?_);refine lo_ (g:=g5) (cs:=#[.bool b,.string s,.int .i64 e]) _ ⟨BK BK5⟩ ?_ rfl rfl rfl Tryz.underlying23 rfl jL)|(go_at_call 40;refine (uL.calls kg b s e _ _ HKG.out).mono ?_;rintro e9 w' ⟨rfl,hb⟩;replace HB:=zF HB hb;replace BK3:=zC BK3 hb;replace BK5:=zC BK5 hb;replace BK6:=zC BK6 hb;clear hb)|((with_reducible refine zE (N:=22) rfl ?_);refine lo_ (g:=g5) (cs:=#[.bool b,.string s,.int .i64 e]) _ ⟨BK BK5⟩ ?_ rfl rfl rfl Tryz.underlying23 rfl jL)|(go_at_call 41;refine (vF.calls kr b s e _ _ HKR.out).mono ?_;rintro e9 w' ⟨rfl,hb⟩;replace HB:=zF HB hb;replace BK3:=zC BK3 hb;replace BK5:=zC BK5 hb;replace BK6:=zC BK6 hb;clear hb)|((with_reducible refine zY (p:=6) rfl ?_);refine so_ (g:=g6) (cs:=#[.bool false,.string (⟨#[]⟩:ByteArray),.int .i64 0]) (#[.bool false,.string (⟨#[]⟩:ByteArray),.int .i64 0]) ⟨BK BK6⟩ ?_ rfl rfl rfl rfl rfl jL rfl rfl;intro w9 hbk hfar hbel;replace BK3:=K_ (hfar _ _ (by first|exact NB3_6.out|exact Ne.symm NB6_3.out) (BK BK3));replace BK5:=K_ (hfar _ _ (by first|exact NB5_6.out|exact Ne.symm NB6_5.out) (BK BK5));replace BK6:=K_ hbk;replace HB:=K_ (hbel _ _ GE6.out (BL HB));clear hbk hfar hbel))
  refine bodyPost_ret (jE rfl _ _ g6 23 #[.bool false,.string (⟨#[]⟩:ByteArray),.int .i64 0] (0,0) _ rfl BK6.out Tryz.underlying23 rfl jL) rfl ?_;exact⟨rfl,BL HB⟩
 rw[hrg] at hkr;have HKR:=K_ hkr;obtain⟨x2,x3,y1,y2,y3,y4,hx,hox,hy,hend⟩:=zlR HQ.out h0 h7 b hg hrg;obtain⟨kt,hkt⟩:=Ev.rounds hx;have HX:=K_ hkt;have HOX:=K_ hox;have HY:=K_ hy;have HEND:=K_ hend;clear hkg hkr hg hrg hx hkt hox hy hend;go_enter Tryz.func21,Tryz.ntmps21
 go_upto_region 1 with (first|((with_reducible refine zE (N:=3) rfl ?_);refine bx_ 3 (q.cs) 26 ?_ rfl rfl rfl rfl rfl;intro g3 hg w2 hbox hb;have BK3:=K_ hbox;have GE3:=ge_ hg HB;replace HB:=zF HB hb;clear hb hbox hg)|((with_reducible refine zE (N:=5) rfl ?_);refine bx_ 5 (#[.bool b,.string s,.int .i64 e]) 23 ?_ rfl rfl rfl rfl rfl;intro g5 hg w2 hbox hb;have BK5:=K_ hbox;have GE5:=ge_ hg HB;have NB3_5:=nb_ hg BK3;replace BK3:=zC BK3 hb;replace HB:=zF HB hb;clear hb hbox hg)|((with_reducible refine zE (N:=6) rfl ?_);refine be_ 6 (#[.bool false,.string (⟨#[]⟩:ByteArray),.int .i64 0]) 23 ?_;intro g6 hg w2 hbox hb;have BK6:=K_ hbox;have GE6:=ge_ hg HB;have NB3_6:=nb_ hg BK3;replace BK3:=zC BK3 hb;have NB5_6:=nb_ hg BK5;replace BK5:=zC BK5 hb;replace HB:=zF HB hb;clear hb hbox hg))
 go_upto_region 8 with (first|((with_reducible refine zE (N:=18) rfl ?_);refine lo_ (g:=g5) (cs:=#[.bool b,.string s,.int .i64 e]) _ ⟨BK BK5⟩ ?_ rfl rfl rfl Tryz.underlying23 rfl jL)|(go_at_call 40;refine (uL.calls kg b s e _ _ HKG.out).mono ?_;rintro e9 w' ⟨rfl,hb⟩;replace HB:=zF HB hb;replace BK3:=zC BK3 hb;replace BK5:=zC BK5 hb;replace BK6:=zC BK6 hb;clear hb)|((with_reducible refine zE (N:=22) rfl ?_);refine lo_ (g:=g5) (cs:=#[.bool b,.string s,.int .i64 e]) _ ⟨BK BK5⟩ ?_ rfl rfl rfl Tryz.underlying23 rfl jL)|(go_at_call 41;refine (vF.calls kr b s e _ _ HKR.out).mono ?_;rintro e9 w' ⟨rfl,hb⟩;replace HB:=zF HB hb;replace BK3:=zC BK3 hb;replace BK5:=zC BK5 hb;replace BK6:=zC BK6 hb;clear hb)|((with_reducible refine zE (N:=26) rfl ?_);refine lo_ (g:=g3) (cs:=q.cs) _ ⟨BK BK3⟩ ?_ rfl rfl rfl Tryz.underlying26 rfl jR)|(go_at_call 24;refine (zel q _ (HRW.out.below (BL HB))).mono ?_;rintro e9 w' ⟨rfl,hb⟩;replace HB:=zF HB hb;replace BK3:=zC BK3 hb;replace BK5:=zC BK5 hb;replace BK6:=zC BK6 hb;clear hb))
 refine yA (n:=12) (S:=fun W=>W.heap[g3]?=some (.cells q.cs 26 (0,0))∧W.heap[g5]?=some (.cells #[.bool b,.string s,.int .i64 e] 23 (0,0))) (ds:=[]) #[false,false,false,false,false,false,false,false,false,false,false,false] (by kernel_rfl) rfl rfl ⟨BK BK3,BK BK5⟩ (fun hHeld=>?_);refine jG (fun W=>W.heap[g3]?=some (.cells q.cs 26 (0,0))∧W.heap[g5]?=some (.cells #[.bool b,.string s,.int .i64 e] 23 (0,0))∧W.heap[g6]?=some (.cells #[.bool false,.string (⟨#[]⟩:ByteArray),.int .i64 0] 23 (0,0))∧Below w.heap.size w W) ⟨BK BK3,BK BK5,BK BK6,BL HB⟩ ?_;clear hHeld BK3 BK5 BK6 HB;rintro W ⟨hb3,hb5,hb6,hbw⟩;have BK3:=K_ hb3;have BK5:=K_ hb5;have BK6:=K_ hb6;have HB:=K_ hbw;have hHeld:=(show W.heap[g3]?=some (.cells q.cs 26 (0,0))∧W.heap[g5]?=some (.cells #[.bool b,.string s,.int .i64 e] 23 (0,0)) from ⟨hb3,hb5⟩)
 clear hb3 hb5 hb6 hbw;refine tr_ 0 29 (bb 12 1) (q.cs) (fun _ hs=>⟨hs.1⟩) Tryz.underlying26 jR hHeld ?_;refine pw_ 1 30 (bb 12 3) ?_;refine tr_ 2 31 (bb 12 7) (#[.bool b,.string s,.int .i64 e]) (fun _ hs=>⟨hs.2⟩) Tryz.underlying23 jL hHeld ?_;refine pw_ 3 32 (bb 12 15) ?_;refine zaC (σ:=Nat) 2 (bb 12 1023) (fun s_=>[(33,(.agg #[.bool b,.string x2,.int .i64 x3])),(34,(.tuple #[.agg #[.bool y1,.string y2,.int .i64 y3],.int .i64 y4])),(28,(.tuple #[.agg #[.bool y1,.string y2,.int .i64 y3],.int .i64 y4])),(35,(.agg #[.bool y1,.string y2,.int .i64 y3])),(36,(.int .i64 y4)),(9,(.pointer (some ⟨s_,0,none⟩)))]) (fun s_ W=>W.heap[s_]?=some (.cells (#[.bool false,.string (⟨#[]⟩:ByteArray),.int .i64 0]) 23 (0,0))∧g3≠s_∧g5≠s_∧g6≠s_∧w.heap.size≤s_∧W.heap[g3]?=some (.cells (q.cs) 26 (0,0))∧W.heap[g5]?=some (.cells (#[.bool b,.string s,.int .i64 e]) 23 (0,0))∧W.heap[g6]?=some (.cells (#[.bool false,.string (⟨#[]⟩:ByteArray),.int .i64 0]) 23 (0,0))∧Below w.heap.size w W) ?hcj ?hrj
 case hrj =>
  intro J_4_5_9;refine zaC (σ:=Unit) 3 (bb 12 511) (fun s_=>[(33,(.agg #[.bool b,.string x2,.int .i64 x3])),(34,(.tuple #[.agg #[.bool y1,.string y2,.int .i64 y3],.int .i64 y4])),(28,(.tuple #[.agg #[.bool y1,.string y2,.int .i64 y3],.int .i64 y4])),(35,(.agg #[.bool y1,.string y2,.int .i64 y3])),(36,(.int .i64 y4))]) (fun s_ W=>W.heap[g3]?=some (.cells (q.cs) 26 (0,0))∧W.heap[g5]?=some (.cells (#[.bool b,.string s,.int .i64 e]) 23 (0,0))∧W.heap[g6]?=some (.cells (#[.bool false,.string (⟨#[]⟩:ByteArray),.int .i64 0]) 23 (0,0))∧Below w.heap.size w W) ?_ ?_
  ·skip
   clear hHeld;rintro _ W8 ⟨hBK3,hBK5,hBK6,hHB⟩;have BK3:=K_ hBK3;have BK5:=K_ hBK5;have BK6:=K_ hBK6;have HB:=K_ hHB;clear hBK3 hBK5 hBK6 hHB;refine np_ ?_;refine on_ 9 (some 9) (bb 12 1023) (fun K hK=>?_);refine bs_ 9 (#[.bool false,.string (⟨#[]⟩:ByteArray),.int .i64 0]) 23 ?_;intro g9 hg w' hbox hb;have BK9:=K_ hbox;have GE9:=ge_ hg HB;have NB3_9:=nb_ hg BK3;have NB5_9:=nb_ hg BK5;have NB6_9:=nb_ hg BK6;replace BK3:=zC BK3 hb;replace BK5:=zC BK5 hb;replace BK6:=zC BK6 hb;replace HB:=zF HB hb;clear hb hbox hg;refine hK.out _ _ ⟨BK3.out,BK5.out⟩ (fun hHeld=>?_);clear hK K;refine no_ (some 9) ?_;exact nj_ (J_4_5_9 g9 _ ⟨BK9.out,(by first|exact NB3_9.out|exact Ne.symm NB9_3.out),(by first|exact NB5_9.out|exact Ne.symm NB9_5.out),(by first|exact NB6_9.out|exact Ne.symm NB9_6.out),GE9.out,BK3.out,BK5.out,BK6.out,HB.out⟩)
  intro J_4_5;refine zaC (σ:=Nat) 6 (bb 12 543) (fun s_=>[(33,(.agg #[.bool b,.string x2,.int .i64 x3])),(9,(.pointer (some ⟨s_,0,none⟩)))]) (fun s_ W=>W.heap[s_]?=some (.cells (#[.bool false,.string (⟨#[]⟩:ByteArray),.int .i64 0]) 23 (0,0))∧g3≠s_∧g5≠s_∧g6≠s_∧w.heap.size≤s_∧W.heap[g3]?=some (.cells (q.cs) 26 (0,0))∧W.heap[g5]?=some (.cells (#[.bool b,.string s,.int .i64 e]) 23 (0,0))∧W.heap[g6]?=some (.cells (#[.bool false,.string (⟨#[]⟩:ByteArray),.int .i64 0]) 23 (0,0))∧Below w.heap.size w W) ?_ ?_
  ·skip
   clear hHeld;rintro g9 W8 ⟨hBK9,hNB3_9,hNB5_9,hNB6_9,hGE9,hBK3,hBK5,hBK6,hHB⟩;have BK9:=K_ hBK9;have NB3_9:=K_ hNB3_9;have NB5_9:=K_ hNB5_9;have NB6_9:=K_ hNB6_9;have GE9:=K_ hGE9;have BK3:=K_ hBK3;have BK5:=K_ hBK5;have BK6:=K_ hBK6;have HB:=K_ hHB;clear hBK9 hNB3_9 hNB5_9 hNB6_9 hGE9 hBK3 hBK5 hBK6 hHB;refine np_ ?_;refine on_ 5 (some 34) (bb 12 575) (fun K hK=>?_);refine gq_ Tryz.func49 #[.agg q.cs,.int .i64 m,.agg #[.bool b,.string x2,.int .i64 x3]] ?_;refine (zev q HQ.out m h0 h7 b x2 x3 HOX.out.1 HOX.out.2.1 HOX.out.2.2 y1 y2 y3 y4 HY.out _).mono ?_;rintro e9 w' ⟨rfl,hb⟩;refine⟨_,rfl,?_⟩;replace BK9:=zC BK9 hb;replace BK3:=zC BK3 hb;replace BK5:=zC BK5 hb;replace BK6:=zC BK6 hb;replace HB:=zF HB hb;clear hb;refine hK.out _ _ ⟨BK3.out,BK5.out⟩ (fun hHeld=>?_);clear hK K;refine no_ (some 34) ?_;refine pw_ 6 28 (bb 12 639) ?_;refine pw_ 7 35 (bb 12 767) ?_;refine pw_ 8 36 (bb 12 1023) ?_;exact nj_ (J_4_5_9 g9 _ ⟨BK9.out,(by first|exact NB3_9.out|exact Ne.symm NB9_3.out),(by first|exact NB5_9.out|exact Ne.symm NB9_5.out),(by first|exact NB6_9.out|exact Ne.symm NB9_6.out),GE9.out,BK3.out,BK5.out,BK6.out,HB.out⟩)
  intro J_4_9;refine zaC (σ:=Unit) 7 (bb 12 31) (fun s_=>[(33,(.agg #[.bool b,.string x2,.int .i64 x3]))]) (fun s_ W=>W.heap[g3]?=some (.cells (q.cs) 26 (0,0))∧W.heap[g5]?=some (.cells (#[.bool b,.string s,.int .i64 e]) 23 (0,0))∧W.heap[g6]?=some (.cells (#[.bool false,.string (⟨#[]⟩:ByteArray),.int .i64 0]) 23 (0,0))∧Below w.heap.size w W) ?_ ?_
  ·skip
   clear hHeld;rintro _ W8 ⟨hBK3,hBK5,hBK6,hHB⟩;have BK3:=K_ hBK3;have BK5:=K_ hBK5;have BK6:=K_ hBK6;have HB:=K_ hHB;clear hBK3 hBK5 hBK6 hHB;refine np_ ?_;refine zcJ (i:=5) (j:=9) (Ni:=some 34) (Nj:=some 9) (bb 12 63) (bb 12 543) rfl rfl rfl rfl (by kernel_rfl) (by decide) (by decide) (fun K hK=>?_) (fun K hK=>?_)
   ·skip
    refine gq_ Tryz.func49 #[.agg q.cs,.int .i64 m,.agg #[.bool b,.string x2,.int .i64 x3]] ?_;refine (zev q HQ.out m h0 h7 b x2 x3 HOX.out.1 HOX.out.2.1 HOX.out.2.2 y1 y2 y3 y4 HY.out _).mono ?_;rintro e9 w' ⟨rfl,hb⟩;refine⟨_,rfl,?_⟩;replace BK3:=zC BK3 hb;replace BK5:=zC BK5 hb;replace BK6:=zC BK6 hb;replace HB:=zF HB hb;clear hb;refine hK.out _ _ ⟨BK3.out,BK5.out⟩ (fun hHeld=>?_);clear hK K;refine no_ (some 34) ?_;refine pw_ 6 28 (bb 12 127) ?_;refine pw_ 7 35 (bb 12 255) ?_;refine pw_ 8 36 (bb 12 511) ?_;exact nj_ (J_4_5 () _ ⟨BK3.out,BK5.out,BK6.out,HB.out⟩)
   skip
   refine bs_ 9 (#[.bool false,.string (⟨#[]⟩:ByteArray),.int .i64 0]) 23 ?_;intro g9 hg w' hbox hb;have BK9:=K_ hbox;have GE9:=ge_ hg HB;have NB3_9:=nb_ hg BK3;have NB5_9:=nb_ hg BK5;have NB6_9:=nb_ hg BK6;replace BK3:=zC BK3 hb;replace BK5:=zC BK5 hb;replace BK6:=zC BK6 hb;replace HB:=zF HB hb;clear hb hbox hg;refine hK.out _ _ ⟨BK3.out,BK5.out⟩ (fun hHeld=>?_);clear hK K;refine no_ (some 9) ?_;exact nj_ (J_4_9 g9 _ ⟨BK9.out,(by first|exact NB3_9.out|exact Ne.symm NB9_3.out),(by first|exact NB5_9.out|exact Ne.symm NB9_5.out),(by first|exact NB6_9.out|exact Ne.symm NB9_6.out),GE9.out,BK3.out,BK5.out,BK6.out,HB.out⟩)
  intro J_4;refine zaC (σ:=Nat) 7 (bb 12 527) (fun s_=>[(9,(.pointer (some ⟨s_,0,none⟩)))]) (fun s_ W=>W.heap[s_]?=some (.cells (#[.bool false,.string (⟨#[]⟩:ByteArray),.int .i64 0]) 23 (0,0))∧g3≠s_∧g5≠s_∧g6≠s_∧w.heap.size≤s_∧W.heap[g3]?=some (.cells (q.cs) 26 (0,0))∧W.heap[g5]?=some (.cells (#[.bool b,.string s,.int .i64 e]) 23 (0,0))∧W.heap[g6]?=some (.cells (#[.bool false,.string (⟨#[]⟩:ByteArray),.int .i64 0]) 23 (0,0))∧Below w.heap.size w W) ?_ ?_
  ·skip
   clear hHeld;rintro g9 W8 ⟨hBK9,hNB3_9,hNB5_9,hNB6_9,hGE9,hBK3,hBK5,hBK6,hHB⟩;have BK9:=K_ hBK9;have NB3_9:=K_ hNB3_9;have NB5_9:=K_ hNB5_9;have NB6_9:=K_ hNB6_9;have GE9:=K_ hGE9;have BK3:=K_ hBK3;have BK5:=K_ hBK5;have BK6:=K_ hBK6;have HB:=K_ hHB;clear hBK9 hNB3_9 hNB5_9 hNB6_9 hGE9 hBK3 hBK5 hBK6 hHB;refine np_ ?_;refine on_ 4 (some 33) (bb 12 543) (fun K hK=>?_);refine gq_ Tryz.func23 #[.agg #[.bool b,.string s,.int .i64 e],.int .i64 q.mult] ?_;refine (yV.calls kt b s e q.mult b x2 x3 _ HX.out).mono ?_;rintro e9 w' ⟨rfl,hb⟩;refine⟨_,rfl,?_⟩;replace BK9:=zC BK9 hb;replace BK3:=zC BK3 hb;replace BK5:=zC BK5 hb;replace BK6:=zC BK6 hb;replace HB:=zF HB hb;clear hb;refine hK.out _ _ ⟨BK3.out,BK5.out⟩ (fun hHeld=>?_);clear hK K;refine no_ (some 33) ?_;exact nj_ (J_4_9 g9 _ ⟨BK9.out,(by first|exact NB3_9.out|exact Ne.symm NB9_3.out),(by first|exact NB5_9.out|exact Ne.symm NB9_5.out),(by first|exact NB6_9.out|exact Ne.symm NB9_6.out),GE9.out,BK3.out,BK5.out,BK6.out,HB.out⟩)
  intro J_9;clear hHeld;refine zcJ (i:=4) (j:=9) (Ni:=some 33) (Nj:=some 9) (bb 12 31) (bb 12 527) rfl rfl rfl rfl (by kernel_rfl) (by decide) (by decide) (fun K hK=>?_) (fun K hK=>?_)
  ·skip
   refine gq_ Tryz.func23 #[.agg #[.bool b,.string s,.int .i64 e],.int .i64 q.mult] ?_;refine (yV.calls kt b s e q.mult b x2 x3 _ HX.out).mono ?_;rintro e9 w' ⟨rfl,hb⟩;refine⟨_,rfl,?_⟩;replace BK3:=zC BK3 hb;replace BK5:=zC BK5 hb;replace BK6:=zC BK6 hb;replace HB:=zF HB hb;clear hb;refine hK.out _ _ ⟨BK3.out,BK5.out⟩ (fun hHeld=>?_);clear hK K;refine no_ (some 33) ?_;exact nj_ (J_4 () _ ⟨BK3.out,BK5.out,BK6.out,HB.out⟩)
  skip
  refine bs_ 9 (#[.bool false,.string (⟨#[]⟩:ByteArray),.int .i64 0]) 23 ?_;intro g9 hg w' hbox hb;have BK9:=K_ hbox;have GE9:=ge_ hg HB;have NB3_9:=nb_ hg BK3;have NB5_9:=nb_ hg BK5;have NB6_9:=nb_ hg BK6;replace BK3:=zC BK3 hb;replace BK5:=zC BK5 hb;replace BK6:=zC BK6 hb;replace HB:=zF HB hb;clear hb hbox hg;refine hK.out _ _ ⟨BK3.out,BK5.out⟩ (fun hHeld=>?_);clear hK K;refine no_ (some 9) ?_;exact nj_ (J_9 g9 _ ⟨BK9.out,(by first|exact NB3_9.out|exact Ne.symm NB9_3.out),(by first|exact NB5_9.out|exact Ne.symm NB9_5.out),(by first|exact NB6_9.out|exact Ne.symm NB9_6.out),GE9.out,BK3.out,BK5.out,BK6.out,HB.out⟩)
 case hcj =>
  clear hHeld;rintro g9 W8 ⟨hBK9,hNB3_9,hNB5_9,hNB6_9,hGE9,hBK3,hBK5,hBK6,hHB⟩;have BK9:=K_ hBK9;have NB3_9:=K_ hNB3_9;have NB5_9:=K_ hNB5_9;have NB6_9:=K_ hNB6_9;have GE9:=K_ hGE9;have BK3:=K_ hBK3;have BK5:=K_ hBK5;have BK6:=K_ hBK6;have HB:=K_ hHB;clear hBK9 hNB3_9 hNB5_9 hNB6_9 hGE9 hBK3 hBK5 hBK6 hHB;refine np_ ?_;refine on_ 10 none (bb 12 2047) (fun K hK=>?_);refine yL (g:=g9) (cs:=#[.bool false,.string (⟨#[]⟩:ByteArray),.int .i64 0]) (#[.bool y1,.string y2,.int .i64 y3]) BK9 ?_ rfl rfl rfl rfl rfl jL rfl rfl;intro w9 hbk hfar hbel;replace BK3:=K_ (hfar _ _ NB3_9.out BK3.out);replace BK5:=K_ (hfar _ _ NB5_9.out BK5.out);replace BK6:=K_ (hfar _ _ NB6_9.out BK6.out);replace BK9:=K_ hbk;replace HB:=K_ (hbel _ _ GE9.out HB.out);refine hK.out _ _ ⟨BK3.out,BK5.out⟩ (fun _=>?_);clear hK K hbk hfar hbel;refine pw_ 11 10 (bb 12 4095) ?_;refine yN (by kernel_rfl) ?_;rcases HEND.out with ⟨hne,hr⟩|⟨hz,z2,z3,g,hz1,hz2,hr⟩
  ·have dn:(y4 !=0)=true:=by simpa using hne
   have HRS:=K_ hr;clear hr hne;go_wp2_with (first|((with_reducible refine zY (p:=6) rfl ?_);refine so_ (g:=g6) (cs:=#[.bool false,.string (⟨#[]⟩:ByteArray),.int .i64 0]) (#[.bool false,.string (⟨#[]⟩:ByteArray),.int .i64 0]) ⟨BK BK6⟩ ?_ rfl rfl rfl rfl rfl jL rfl rfl;intro w9 hbk hfar hbel;replace BK9:=K_ (hfar _ _ (by first|exact NB9_6.out|exact Ne.symm NB6_9.out) (BK BK9));replace BK6:=K_ hbk;replace HB:=K_ (hbel _ _ GE6.out (BL HB));clear hbk hfar hbel))
   refine bodyPost_ret (jE rfl _ _ g6 23 #[.bool false,.string (⟨#[]⟩:ByteArray),.int .i64 0] (0,0) _ rfl BK6.out Tryz.underlying23 rfl jL) rfl ?_;exact⟨by rw[HRS.out];rfl,BL HB⟩
  subst hz;obtain⟨kt2,hkt2⟩:=Ev.rounds hz1;have HX2:=K_ hkt2;obtain⟨kr2,hkr2⟩:=Ev.rounds hz2;have HRS:=K_ hr;have hwk:wrap64 (-q.mult)=-q.mult:=by unfold Pat.mult wrap64;split;decide;split <;> decide
  clear hz1 hz2 hr hkt2 HEND;cases g
  ·have HKR2:=K_ hkr2
   clear hkr2;go_wp2_with (first|((with_reducible refine zE (N:=41) rfl ?_);refine lo_ (g:=g9) (cs:=#[.bool y1,.string y2,.int .i64 y3]) _ ⟨BK BK9⟩ ?_ rfl rfl rfl Tryz.underlying23 rfl jL)|(go_at_call 23;refine (yV.calls kt2 y1 y2 y3 (-q.mult) b z2 z3 _ HX2.out).mono ?_;rintro e9 w' ⟨rfl,hb⟩;replace HB:=zF HB hb;replace BK6:=zC BK6 hb;replace BK9:=zC BK9 hb;clear hb)|((with_reducible refine zY (p:=9) rfl ?_);refine so_ (g:=g9) (cs:=#[.bool y1,.string y2,.int .i64 y3]) (#[.bool b,.string z2,.int .i64 z3]) ⟨BK BK9⟩ ?_ rfl rfl rfl rfl rfl jL rfl rfl;intro w9 hbk hfar hbel;replace BK6:=K_ (hfar _ _ (by first|exact NB6_9.out|exact Ne.symm NB9_6.out) (BK BK6));replace BK9:=K_ hbk;replace HB:=K_ (hbel _ _ GE9.out (BL HB));clear hbk hfar hbel)|((with_reducible refine zE (N:=45) rfl ?_);refine lo_ (g:=g9) (cs:=#[.bool b,.string z2,.int .i64 z3]) _ ⟨BK BK9⟩ ?_ rfl rfl rfl Tryz.underlying23 rfl jL)|(go_at_call 41;refine (vF.calls kr2 b z2 z3 _ _ HKR2.out).mono ?_;rintro e9 w' ⟨rfl,hb⟩;replace HB:=zF HB hb;replace BK6:=zC BK6 hb;replace BK9:=zC BK9 hb;clear hb)|((with_reducible refine zY (p:=6) rfl ?_);refine so_ (g:=g6) (cs:=#[.bool false,.string (⟨#[]⟩:ByteArray),.int .i64 0]) (#[.bool false,.string (⟨#[]⟩:ByteArray),.int .i64 0]) ⟨BK BK6⟩ ?_ rfl rfl rfl rfl rfl jL rfl rfl;intro w9 hbk hfar hbel;replace BK9:=K_ (hfar _ _ (by first|exact NB9_6.out|exact Ne.symm NB6_9.out) (BK BK9));replace BK6:=K_ hbk;replace HB:=K_ (hbel _ _ GE6.out (BL HB));clear hbk hfar hbel))
   refine bodyPost_ret (jE rfl _ _ g6 23 #[.bool false,.string (⟨#[]⟩:ByteArray),.int .i64 0] (0,0) _ rfl BK6.out Tryz.underlying23 rfl jL) rfl ?_;exact⟨by rw[HRS.out];rfl,BL HB⟩
  have HKR2:=K_ hkr2;clear hkr2;go_wp2_with (first|((with_reducible refine zE (N:=41) rfl ?_);refine lo_ (g:=g9) (cs:=#[.bool y1,.string y2,.int .i64 y3]) _ ⟨BK BK9⟩ ?_ rfl rfl rfl Tryz.underlying23 rfl jL)|(go_at_call 23;refine (yV.calls kt2 y1 y2 y3 (-q.mult) b z2 z3 _ HX2.out).mono ?_;rintro e9 w' ⟨rfl,hb⟩;replace HB:=zF HB hb;replace BK6:=zC BK6 hb;replace BK9:=zC BK9 hb;clear hb)|((with_reducible refine zY (p:=9) rfl ?_);refine so_ (g:=g9) (cs:=#[.bool y1,.string y2,.int .i64 y3]) (#[.bool b,.string z2,.int .i64 z3]) ⟨BK BK9⟩ ?_ rfl rfl rfl rfl rfl jL rfl rfl;intro w9 hbk hfar hbel;replace BK6:=K_ (hfar _ _ (by first|exact NB6_9.out|exact Ne.symm NB9_6.out) (BK BK6));replace BK9:=K_ hbk;replace HB:=K_ (hbel _ _ GE9.out (BL HB));clear hbk hfar hbel)|((with_reducible refine zE (N:=45) rfl ?_);refine lo_ (g:=g9) (cs:=#[.bool b,.string z2,.int .i64 z3]) _ ⟨BK BK9⟩ ?_ rfl rfl rfl Tryz.underlying23 rfl jL)|(go_at_call 41;refine (vF.calls kr2 b z2 z3 _ _ HKR2.out).mono ?_;rintro e9 w' ⟨rfl,hb⟩;replace HB:=zF HB hb;replace BK6:=zC BK6 hb;replace BK9:=zC BK9 hb;clear hb)|((with_reducible refine zE (N:=49) rfl ?_);refine lo_ (g:=g9) (cs:=#[.bool b,.string z2,.int .i64 z3]) _ ⟨BK BK9⟩ ?_ rfl rfl rfl Tryz.underlying23 rfl jL)|((with_reducible refine zY (p:=6) rfl ?_);refine so_ (g:=g6) (cs:=#[.bool false,.string (⟨#[]⟩:ByteArray),.int .i64 0]) (#[.bool b,.string z2,.int .i64 z3]) ⟨BK BK6⟩ ?_ rfl rfl rfl rfl rfl jL rfl rfl;intro w9 hbk hfar hbel;replace BK9:=K_ (hfar _ _ (by first|exact NB9_6.out|exact Ne.symm NB6_9.out) (BK BK9));replace BK6:=K_ hbk;replace HB:=K_ (hbel _ _ GE6.out (BL HB));clear hbk hfar hbel))
  refine bodyPost_ret (jE rfl _ _ g6 23 #[.bool b,.string z2,.int .i64 z3] (0,0) _ rfl BK6.out Tryz.underlying23 rfl jL) rfl ?_;exact⟨by rw[HRS.out];rfl,BL HB⟩
theorem zmy {q:Pat} (hq:zaJ q) {m:Int} {b:Bool} {s:ByteArray} {e:Int} (h:(xC q m b s e).2.2.2=0):zaU (xC q m b s e).2.1 (xC q m b s e).2.2.1=true:=by
 obtain⟨hm,hg,hr,h7,hrg,hv⟩:=zjX h;rw[hv];by_cases h0:rN q m b (vB s) e=0
 ·have hX:rX q m b (vB s) e=0:=by unfold rX;rw[h0,zaR];rfl
  rw[h0,hX];show zaU (nD 0) 0=true;decide
 exact zjv h0 hrg
theorem zmO {q:Pat} (hq:zaJ q) (b:Bool) {s:ByteArray} {e:Int} (hg:zaU s e=true) (w:World) (hr:xX q w) :
  Calls Tryz.prog 16 #[.agg q.cs,.agg #[.bool b,.string s,.int .i64 e]] w fun e' w'=>e'=.returned (.agg #[.bool b,.string (xE q.P (vB (nD (vB s))) (nE (vB s) (e+q.mult))).1,.string (xE q.P (vB (nD (vB s))) (nE (vB s) (e+q.mult))).2.1,.int .i64 (xE q.P (vB (nD (vB s))) (nE (vB s) (e+q.mult))).2.2])∧Below w.heap.size w w':=by
 obtain⟨g1,g2,g3,g4,g5⟩:=zbW.1 hg;obtain⟨m0,m3⟩:=zfm q;have hn:(zU (vB s)).size≤1000:=Nat.le_trans (OkD.of_good hg).val g3;exact ziq q hq.good b s e _ _ (zpi ⟨g1,g2,by omega,by omega,by omega⟩ (by omega) (by omega) (by omega) (by omega)) (OkS.norm (by omega) (by omega) (by omega)) w hr
set_option maxHeartbeats 8000000 in
set_option maxRecDepth 100000 in
theorem zcY (q:Pat) (hg:uC q.P) (hsci:q.P.sci=true) (m:Int) (b:Bool) (s:ByteArray) (e:Int) (r:Bool×ByteArray×Int×Int) (k:Nat) (h:vI.f k m b s e (zax q.P).2=some r) (w:World) (hG:Fig.Glob w) :
  Calls Tryz.prog 36 #[.agg q.cs,.int .i64 m,.agg #[.bool b,.string s,.int .i64 e]] w fun e w'=>e=.returned (.tuple #[.agg #[.bool r.1,.string r.2.1,.int .i64 r.2.2.1],.int .i64 r.2.2.2])∧Below w.heap.size w w':=by
 have HB:=K_ (Below.refl w.heap.size w);have HGD:=K_ hg;have HG:=K_ hG;have HKK:=K_ h;clear hg hG h;go_enter Tryz.func36,Tryz.ntmps36
 go_upto_region 1 with (first|((with_reducible refine zE (N:=3) rfl ?_);refine bx_ 3 q.cs 26 ?_ rfl rfl rfl rfl rfl;intro g3 hg w2 hbox hb;have BK3:=K_ hbox;replace HB:=zF HB hb;clear hb hbox hg)|((with_reducible refine zE (N:=5) rfl ?_);refine bx_ 5 #[.bool b,.string s,.int .i64 e] 23 ?_ rfl rfl rfl rfl rfl;intro g5 hg w2 hbox hb;have BK5:=K_ hbox;have NB3_5:=nb_ hg BK3;replace BK3:=zC BK3 hb;replace HB:=zF HB hb;clear hb hbox hg)|((with_reducible refine zE (N:=6) rfl ?_);refine be_ 6 #[.bool false,.string (⟨#[]⟩:ByteArray),.int .i64 0] 23 ?_;intro g6 hg w2 hbox hb;have BK6:=K_ hbox;have GE6:=ge_ hg HB;have NB3_6:=nb_ hg BK3;replace BK3:=zC BK3 hb;have NB5_6:=nb_ hg BK5;replace BK5:=zC BK5 hb;replace HB:=zF HB hb;clear hb hbox hg))
 have e14:=(show w2.cell? ⟨g3,14,none⟩=some (.bool q.P.sci) from (zA BK3.out 14).trans rfl)
 rw[hsci] at e14;clear hsci;go_wp2_with (first|((with_reducible refine zE (N:=19) rfl ?_);refine lo_ (g:=g3) (cs:=q.cs) _ ⟨BK BK3⟩ ?_ rfl rfl rfl Tryz.underlying26 rfl jR)|(go_at_call 25;refine (ziC q HGD.out _).mono ?_;rintro e w' ⟨rfl,hb⟩;replace HB:=zF HB hb;replace BK3:=zC BK3 hb;replace BK5:=zC BK5 hb;replace BK6:=zC BK6 hb;clear hb)|((with_reducible refine zE (N:=24) rfl ?_);refine lo_ (g:=g5) (cs:=#[.bool b,.string s,.int .i64 e]) _ ⟨BK BK5⟩ ?_ rfl rfl rfl Tryz.underlying23 rfl jL)|(go_at_call 62;refine (vI.calls k m b s e (zax q.P).2 r.1 r.2.1 r.2.2.1 r.2.2.2 _ (Fig.Glob.below HG.out (BL HB)) HKK.out).mono ?_;rintro e w' ⟨rfl,hb⟩;replace HB:=zF HB hb;replace BK3:=zC BK3 hb;replace BK5:=zC BK5 hb;replace BK6:=zC BK6 hb;clear hb)|((with_reducible refine zY (p:=6) rfl ?_);refine so_ (g:=g6) (cs:=#[.bool false,.string (⟨#[]⟩:ByteArray),.int .i64 0]) (#[.bool r.1,.string r.2.1,.int .i64 r.2.2.1]) ⟨BK BK6⟩ ?_ rfl rfl rfl rfl rfl jL rfl rfl;intro w9 hbk hfar hbel;replace BK3:=K_ (hfar _ _ NB3_6.out (BK BK3));replace BK5:=K_ (hfar _ _ NB5_6.out (BK BK5));replace BK6:=K_ hbk;replace HB:=K_ (hbel _ _ GE6.out (BL HB));clear hbk hfar hbel))
 refine bodyPost_ret (jE rfl _ _ g6 23 #[.bool r.1,.string r.2.1,.int .i64 r.2.2.1] (0,0) _ rfl BK6.out Tryz.underlying23 rfl jL) rfl ?_;exact⟨rfl,BL HB⟩
set_option maxHeartbeats 8000000 in
set_option maxRecDepth 100000 in
theorem zhf (q:Pat) (hg:uC q.P) (hsci:q.P.sci=true) (m:Int) (b:Bool) (s:ByteArray) (e:Int) (x1:Bool) (x2:ByteArray) (x3:Int) (y1:Bool) (y2:ByteArray) (y3:Int) (z1:Bool) (z2:ByteArray) (z3:Int) (kk:Nat)
  (hm:xK.f m=some true) (hd:zdZ.f b s e=some true) (hr:zbI.f b s e=some true) (hx:vV.f b s e q.mult=some (x1,x2,x3)) (hy:vI.f kk m x1 x2 x3 (zax q.P).2=some (y1,y2,y3,0))
  (hz:vV.f y1 y2 y3 (-q.mult)=some (z1,z2,z3)) (hzr:zbI.f z1 z2 z3=some true) (w:World) (hrw:xX q w) (hG:Fig.Glob w) :
  Calls Tryz.prog 14 #[.agg q.cs,.int .i64 m,.agg #[.bool b,.string s,.int .i64 e]] w fun e w'=>e=.returned (.tuple #[.agg #[.bool z1,.string z2,.int .i64 z3],.int .i64 0])∧Below w.heap.size w w':=by
 have HB:=K_ (Below.refl w.heap.size w);have HGD:=K_ hg;have HSC:=K_ hsci;have HM:=K_ hm;have HDG:=K_ hd;have HDR:=K_ hr;have HX:=K_ hx;have HY:=K_ hy;have HZ:=K_ hz;have HZR:=K_ hzr;have HRW:=K_ hrw;have HG:=K_ hG;clear hg hsci hm hd hr hx hy hz hzr hrw hG;go_enter Tryz.func14,Tryz.ntmps14
 go_upto_region 1 with (first|((with_reducible refine zE (N:=3) rfl ?_);refine bx_ 3 (q.cs) 26 ?_ rfl rfl rfl rfl rfl;intro g3 hg w2 hbox hb;have BK3:=K_ hbox;have GE3:=ge_ hg HB;replace HB:=zF HB hb;clear hb hbox hg)|((with_reducible refine zE (N:=5) rfl ?_);refine bx_ 5 (#[.bool b,.string s,.int .i64 e]) 23 ?_ rfl rfl rfl rfl rfl;intro g5 hg w2 hbox hb;have BK5:=K_ hbox;have GE5:=ge_ hg HB;have NB3_5:=nb_ hg BK3;replace BK3:=zC BK3 hb;replace HB:=zF HB hb;clear hb hbox hg)|((with_reducible refine zE (N:=6) rfl ?_);refine be_ 6 (#[.bool false,.string (⟨#[]⟩:ByteArray),.int .i64 0]) 23 ?_;intro g6 hg w2 hbox hb;have BK6:=K_ hbox;have GE6:=ge_ hg HB;have NB3_6:=nb_ hg BK3;replace BK3:=zC BK3 hb;have NB5_6:=nb_ hg BK5;replace BK5:=zC BK5 hb;replace HB:=zF HB hb;clear hb hbox hg))
 go_upto_region 8 with (first|(go_at_call 32;refine (xK.calls m _ _ HM.out).mono ?_;rintro e9 w' ⟨rfl,⟨nd,rfl⟩⟩)|((with_reducible refine zE (N:=17) rfl ?_);refine lo_ (g:=g5) (cs:=#[.bool b,.string s,.int .i64 e]) _ ⟨BK BK5⟩ ?_ rfl rfl rfl Tryz.underlying23 rfl jL)|(go_at_call 33;refine (zdZ.calls b s e _ _ HDG.out).mono ?_;rintro e9 w' ⟨rfl,hb⟩;replace HB:=zF HB hb;replace BK3:=zC BK3 hb;replace BK5:=zC BK5 hb;replace BK6:=zC BK6 hb;clear hb)|((with_reducible refine zE (N:=22) rfl ?_);refine lo_ (g:=g5) (cs:=#[.bool b,.string s,.int .i64 e]) _ ⟨BK BK5⟩ ?_ rfl rfl rfl Tryz.underlying23 rfl jL)|(go_at_call 34;refine (zbI.calls b s e _ _ HDR.out).mono ?_;rintro e9 w' ⟨rfl,hb⟩;replace HB:=zF HB hb;replace BK3:=zC BK3 hb;replace BK5:=zC BK5 hb;replace BK6:=zC BK6 hb;clear hb)|((with_reducible refine zE (N:=26) rfl ?_);refine lo_ (g:=g3) (cs:=q.cs) _ ⟨BK BK3⟩ ?_ rfl rfl rfl Tryz.underlying26 rfl jR)|(go_at_call 35;refine (zeQ q _ (HRW.out.below (BL HB))).mono ?_;rintro e9 w' ⟨rfl,hb⟩;replace HB:=zF HB hb;replace BK3:=zC BK3 hb;replace BK5:=zC BK5 hb;replace BK6:=zC BK6 hb;clear hb))
 refine yA (n:=12) (S:=fun W=>W.heap[g3]?=some (.cells q.cs 26 (0,0))∧W.heap[g5]?=some (.cells #[.bool b,.string s,.int .i64 e] 23 (0,0))) (ds:=[]) #[false,false,false,false,false,false,false,false,false,false,false,false] (by kernel_rfl) rfl rfl ⟨BK BK3,BK BK5⟩ (fun hHeld=>?_);refine jG (fun W=>W.heap[g3]?=some (.cells q.cs 26 (0,0))∧W.heap[g5]?=some (.cells #[.bool b,.string s,.int .i64 e] 23 (0,0))∧W.heap[g6]?=some (.cells #[.bool false,.string (⟨#[]⟩:ByteArray),.int .i64 0] 23 (0,0))∧Below w.heap.size w W) ⟨BK BK3,BK BK5,BK BK6,BL HB⟩ ?_;clear hHeld BK3 BK5 BK6 HB;rintro W ⟨hb3,hb5,hb6,hbw⟩;have BK3:=K_ hb3;have BK5:=K_ hb5;have BK6:=K_ hb6;have HB:=K_ hbw;have hHeld:=(show W.heap[g3]?=some (.cells q.cs 26 (0,0))∧W.heap[g5]?=some (.cells #[.bool b,.string s,.int .i64 e] 23 (0,0)) from ⟨hb3,hb5⟩)
 clear hb3 hb5 hb6 hbw;refine tr_ 0 29 (bb 12 1) (q.cs) (fun _ hs=>⟨hs.1⟩) Tryz.underlying26 jR hHeld ?_;refine pw_ 1 30 (bb 12 3) ?_;refine tr_ 2 31 (bb 12 7) (#[.bool b,.string s,.int .i64 e]) (fun _ hs=>⟨hs.2⟩) Tryz.underlying23 jL hHeld ?_;refine pw_ 3 32 (bb 12 15) ?_;refine zaC (σ:=Nat) 2 (bb 12 1023) (fun s_=>[(33,(.agg #[.bool x1,.string x2,.int .i64 x3])),(34,(.tuple #[.agg #[.bool y1,.string y2,.int .i64 y3],.int .i64 0])),(28,(.tuple #[.agg #[.bool y1,.string y2,.int .i64 y3],.int .i64 0])),(35,(.agg #[.bool y1,.string y2,.int .i64 y3])),(36,(.int .i64 0)),(9,(.pointer (some ⟨s_,0,none⟩)))]) (fun s_ W=>W.heap[s_]?=some (.cells (#[.bool false,.string (⟨#[]⟩:ByteArray),.int .i64 0]) 23 (0,0))∧g3≠s_∧g5≠s_∧g6≠s_∧w.heap.size≤s_∧W.heap[g3]?=some (.cells (q.cs) 26 (0,0))∧W.heap[g5]?=some (.cells (#[.bool b,.string s,.int .i64 e]) 23 (0,0))∧W.heap[g6]?=some (.cells (#[.bool false,.string (⟨#[]⟩:ByteArray),.int .i64 0]) 23 (0,0))∧Below w.heap.size w W) ?hcj ?hrj
 case hrj =>
  intro J_4_5_9;refine zaC (σ:=Unit) 3 (bb 12 511) (fun s_=>[(33,(.agg #[.bool x1,.string x2,.int .i64 x3])),(34,(.tuple #[.agg #[.bool y1,.string y2,.int .i64 y3],.int .i64 0])),(28,(.tuple #[.agg #[.bool y1,.string y2,.int .i64 y3],.int .i64 0])),(35,(.agg #[.bool y1,.string y2,.int .i64 y3])),(36,(.int .i64 0))]) (fun s_ W=>W.heap[g3]?=some (.cells (q.cs) 26 (0,0))∧W.heap[g5]?=some (.cells (#[.bool b,.string s,.int .i64 e]) 23 (0,0))∧W.heap[g6]?=some (.cells (#[.bool false,.string (⟨#[]⟩:ByteArray),.int .i64 0]) 23 (0,0))∧Below w.heap.size w W) ?_ ?_
  ·skip
   clear hHeld;rintro _ W8 ⟨hBK3,hBK5,hBK6,hHB⟩;have BK3:=K_ hBK3;have BK5:=K_ hBK5;have BK6:=K_ hBK6;have HB:=K_ hHB;clear hBK3 hBK5 hBK6 hHB;refine np_ ?_;refine on_ 9 (some 9) (bb 12 1023) (fun K hK=>?_);refine bs_ 9 (#[.bool false,.string (⟨#[]⟩:ByteArray),.int .i64 0]) 23 ?_;intro g9 hg w' hbox hb;have BK9:=K_ hbox;have GE9:=ge_ hg HB;have NB3_9:=nb_ hg BK3;have NB5_9:=nb_ hg BK5;have NB6_9:=nb_ hg BK6;replace BK3:=zC BK3 hb;replace BK5:=zC BK5 hb;replace BK6:=zC BK6 hb;replace HB:=zF HB hb;clear hb hbox hg;refine hK.out _ _ ⟨BK3.out,BK5.out⟩ (fun hHeld=>?_);clear hK K;refine no_ (some 9) ?_;exact nj_ (J_4_5_9 g9 _ ⟨BK9.out,(by first|exact NB3_9.out|exact Ne.symm NB9_3.out),(by first|exact NB5_9.out|exact Ne.symm NB9_5.out),(by first|exact NB6_9.out|exact Ne.symm NB9_6.out),GE9.out,BK3.out,BK5.out,BK6.out,HB.out⟩)
  intro J_4_5;refine zaC (σ:=Nat) 6 (bb 12 543) (fun s_=>[(33,(.agg #[.bool x1,.string x2,.int .i64 x3])),(9,(.pointer (some ⟨s_,0,none⟩)))]) (fun s_ W=>W.heap[s_]?=some (.cells (#[.bool false,.string (⟨#[]⟩:ByteArray),.int .i64 0]) 23 (0,0))∧g3≠s_∧g5≠s_∧g6≠s_∧w.heap.size≤s_∧W.heap[g3]?=some (.cells (q.cs) 26 (0,0))∧W.heap[g5]?=some (.cells (#[.bool b,.string s,.int .i64 e]) 23 (0,0))∧W.heap[g6]?=some (.cells (#[.bool false,.string (⟨#[]⟩:ByteArray),.int .i64 0]) 23 (0,0))∧Below w.heap.size w W) ?_ ?_
  ·skip
   clear hHeld;rintro g9 W8 ⟨hBK9,hNB3_9,hNB5_9,hNB6_9,hGE9,hBK3,hBK5,hBK6,hHB⟩;have BK9:=K_ hBK9;have NB3_9:=K_ hNB3_9;have NB5_9:=K_ hNB5_9;have NB6_9:=K_ hNB6_9;have GE9:=K_ hGE9;have BK3:=K_ hBK3;have BK5:=K_ hBK5;have BK6:=K_ hBK6;have HB:=K_ hHB;clear hBK9 hNB3_9 hNB5_9 hNB6_9 hGE9 hBK3 hBK5 hBK6 hHB;refine np_ ?_;refine on_ 5 (some 34) (bb 12 575) (fun K hK=>?_);refine gq_ Tryz.func36 #[.agg q.cs,.int .i64 m,.agg #[.bool x1,.string x2,.int .i64 x3]] ?_;refine (zcY q HGD.out HSC.out m x1 x2 x3 (y1,y2,y3,0) kk HY.out _ (Fig.Glob.below HG.out (BL HB))).mono ?_;rintro e9 w' ⟨rfl,hb⟩;refine⟨_,rfl,?_⟩;replace BK9:=zC BK9 hb;replace BK3:=zC BK3 hb;replace BK5:=zC BK5 hb;replace BK6:=zC BK6 hb;replace HB:=zF HB hb;clear hb;refine hK.out _ _ ⟨BK3.out,BK5.out⟩ (fun hHeld=>?_);clear hK K;refine no_ (some 34) ?_;refine pw_ 6 28 (bb 12 639) ?_;refine pw_ 7 35 (bb 12 767) ?_;refine pw_ 8 36 (bb 12 1023) ?_;exact nj_ (J_4_5_9 g9 _ ⟨BK9.out,(by first|exact NB3_9.out|exact Ne.symm NB9_3.out),(by first|exact NB5_9.out|exact Ne.symm NB9_5.out),(by first|exact NB6_9.out|exact Ne.symm NB9_6.out),GE9.out,BK3.out,BK5.out,BK6.out,HB.out⟩)
  intro J_4_9;refine zaC (σ:=Unit) 7 (bb 12 31) (fun s_=>[(33,(.agg #[.bool x1,.string x2,.int .i64 x3]))]) (fun s_ W=>W.heap[g3]?=some (.cells (q.cs) 26 (0,0))∧W.heap[g5]?=some (.cells (#[.bool b,.string s,.int .i64 e]) 23 (0,0))∧W.heap[g6]?=some (.cells (#[.bool false,.string (⟨#[]⟩:ByteArray),.int .i64 0]) 23 (0,0))∧Below w.heap.size w W) ?_ ?_
  ·skip
   clear hHeld;rintro _ W8 ⟨hBK3,hBK5,hBK6,hHB⟩;have BK3:=K_ hBK3;have BK5:=K_ hBK5;have BK6:=K_ hBK6;have HB:=K_ hHB;clear hBK3 hBK5 hBK6 hHB;refine np_ ?_;refine zcJ (i:=5) (j:=9) (Ni:=some 34) (Nj:=some 9) (bb 12 63) (bb 12 543) rfl rfl rfl rfl (by kernel_rfl) (by decide) (by decide) (fun K hK=>?_) (fun K hK=>?_)
   ·skip
    refine gq_ Tryz.func36 #[.agg q.cs,.int .i64 m,.agg #[.bool x1,.string x2,.int .i64 x3]] ?_;refine (zcY q HGD.out HSC.out m x1 x2 x3 (y1,y2,y3,0) kk HY.out _ (Fig.Glob.below HG.out (BL HB))).mono ?_;rintro e9 w' ⟨rfl,hb⟩;refine⟨_,rfl,?_⟩;replace BK3:=zC BK3 hb;replace BK5:=zC BK5 hb;replace BK6:=zC BK6 hb;replace HB:=zF HB hb;clear hb;refine hK.out _ _ ⟨BK3.out,BK5.out⟩ (fun hHeld=>?_);clear hK K;refine no_ (some 34) ?_;refine pw_ 6 28 (bb 12 127) ?_;refine pw_ 7 35 (bb 12 255) ?_;refine pw_ 8 36 (bb 12 511) ?_;exact nj_ (J_4_5 () _ ⟨BK3.out,BK5.out,BK6.out,HB.out⟩)
   skip
   refine bs_ 9 (#[.bool false,.string (⟨#[]⟩:ByteArray),.int .i64 0]) 23 ?_;intro g9 hg w' hbox hb;have BK9:=K_ hbox;have GE9:=ge_ hg HB;have NB3_9:=nb_ hg BK3;have NB5_9:=nb_ hg BK5;have NB6_9:=nb_ hg BK6;replace BK3:=zC BK3 hb;replace BK5:=zC BK5 hb;replace BK6:=zC BK6 hb;replace HB:=zF HB hb;clear hb hbox hg;refine hK.out _ _ ⟨BK3.out,BK5.out⟩ (fun hHeld=>?_);clear hK K;refine no_ (some 9) ?_;exact nj_ (J_4_9 g9 _ ⟨BK9.out,(by first|exact NB3_9.out|exact Ne.symm NB9_3.out),(by first|exact NB5_9.out|exact Ne.symm NB9_5.out),(by first|exact NB6_9.out|exact Ne.symm NB9_6.out),GE9.out,BK3.out,BK5.out,BK6.out,HB.out⟩)
  intro J_4;refine zaC (σ:=Nat) 7 (bb 12 527) (fun s_=>[(9,(.pointer (some ⟨s_,0,none⟩)))]) (fun s_ W=>W.heap[s_]?=some (.cells (#[.bool false,.string (⟨#[]⟩:ByteArray),.int .i64 0]) 23 (0,0))∧g3≠s_∧g5≠s_∧g6≠s_∧w.heap.size≤s_∧W.heap[g3]?=some (.cells (q.cs) 26 (0,0))∧W.heap[g5]?=some (.cells (#[.bool b,.string s,.int .i64 e]) 23 (0,0))∧W.heap[g6]?=some (.cells (#[.bool false,.string (⟨#[]⟩:ByteArray),.int .i64 0]) 23 (0,0))∧Below w.heap.size w W) ?_ ?_
  ·skip
   clear hHeld;rintro g9 W8 ⟨hBK9,hNB3_9,hNB5_9,hNB6_9,hGE9,hBK3,hBK5,hBK6,hHB⟩;have BK9:=K_ hBK9;have NB3_9:=K_ hNB3_9;have NB5_9:=K_ hNB5_9;have NB6_9:=K_ hNB6_9;have GE9:=K_ hGE9;have BK3:=K_ hBK3;have BK5:=K_ hBK5;have BK6:=K_ hBK6;have HB:=K_ hHB;clear hBK9 hNB3_9 hNB5_9 hNB6_9 hGE9 hBK3 hBK5 hBK6 hHB;refine np_ ?_;refine on_ 4 (some 33) (bb 12 543) (fun K hK=>?_);refine gq_ Tryz.func37 #[.agg #[.bool b,.string s,.int .i64 e],.int .i64 q.mult] ?_;refine (vV.calls b s e q.mult x1 x2 x3 _ HX.out).mono ?_;rintro e9 w' ⟨rfl,hb⟩;refine⟨_,rfl,?_⟩;replace BK9:=zC BK9 hb;replace BK3:=zC BK3 hb;replace BK5:=zC BK5 hb;replace BK6:=zC BK6 hb;replace HB:=zF HB hb;clear hb;refine hK.out _ _ ⟨BK3.out,BK5.out⟩ (fun hHeld=>?_);clear hK K;refine no_ (some 33) ?_;exact nj_ (J_4_9 g9 _ ⟨BK9.out,(by first|exact NB3_9.out|exact Ne.symm NB9_3.out),(by first|exact NB5_9.out|exact Ne.symm NB9_5.out),(by first|exact NB6_9.out|exact Ne.symm NB9_6.out),GE9.out,BK3.out,BK5.out,BK6.out,HB.out⟩)
  intro J_9;clear hHeld;refine zcJ (i:=4) (j:=9) (Ni:=some 33) (Nj:=some 9) (bb 12 31) (bb 12 527) rfl rfl rfl rfl (by kernel_rfl) (by decide) (by decide) (fun K hK=>?_) (fun K hK=>?_)
  ·skip
   refine gq_ Tryz.func37 #[.agg #[.bool b,.string s,.int .i64 e],.int .i64 q.mult] ?_;refine (vV.calls b s e q.mult x1 x2 x3 _ HX.out).mono ?_;rintro e9 w' ⟨rfl,hb⟩;refine⟨_,rfl,?_⟩;replace BK3:=zC BK3 hb;replace BK5:=zC BK5 hb;replace BK6:=zC BK6 hb;replace HB:=zF HB hb;clear hb;refine hK.out _ _ ⟨BK3.out,BK5.out⟩ (fun hHeld=>?_);clear hK K;refine no_ (some 33) ?_;exact nj_ (J_4 () _ ⟨BK3.out,BK5.out,BK6.out,HB.out⟩)
  skip
  refine bs_ 9 (#[.bool false,.string (⟨#[]⟩:ByteArray),.int .i64 0]) 23 ?_;intro g9 hg w' hbox hb;have BK9:=K_ hbox;have GE9:=ge_ hg HB;have NB3_9:=nb_ hg BK3;have NB5_9:=nb_ hg BK5;have NB6_9:=nb_ hg BK6;replace BK3:=zC BK3 hb;replace BK5:=zC BK5 hb;replace BK6:=zC BK6 hb;replace HB:=zF HB hb;clear hb hbox hg;refine hK.out _ _ ⟨BK3.out,BK5.out⟩ (fun hHeld=>?_);clear hK K;refine no_ (some 9) ?_;exact nj_ (J_9 g9 _ ⟨BK9.out,(by first|exact NB3_9.out|exact Ne.symm NB9_3.out),(by first|exact NB5_9.out|exact Ne.symm NB9_5.out),(by first|exact NB6_9.out|exact Ne.symm NB9_6.out),GE9.out,BK3.out,BK5.out,BK6.out,HB.out⟩)
 case hcj =>
  clear hHeld;rintro g9 W8 ⟨hBK9,hNB3_9,hNB5_9,hNB6_9,hGE9,hBK3,hBK5,hBK6,hHB⟩;have BK9:=K_ hBK9;have NB3_9:=K_ hNB3_9;have NB5_9:=K_ hNB5_9;have NB6_9:=K_ hNB6_9;have GE9:=K_ hGE9;have BK3:=K_ hBK3;have BK5:=K_ hBK5;have BK6:=K_ hBK6;have HB:=K_ hHB;clear hBK9 hNB3_9 hNB5_9 hNB6_9 hGE9 hBK3 hBK5 hBK6 hHB;refine np_ ?_;refine on_ 10 none (bb 12 2047) (fun K hK=>?_);refine yL (g:=g9) (cs:=#[.bool false,.string (⟨#[]⟩:ByteArray),.int .i64 0]) (#[.bool y1,.string y2,.int .i64 y3]) BK9 ?_ rfl rfl rfl rfl rfl jL rfl rfl;intro w9 hbk hfar hbel;replace BK3:=K_ (hfar _ _ NB3_9.out BK3.out);replace BK5:=K_ (hfar _ _ NB5_9.out BK5.out);replace BK6:=K_ (hfar _ _ NB6_9.out BK6.out);replace BK9:=K_ hbk;replace HB:=K_ (hbel _ _ GE9.out HB.out);refine hK.out _ _ ⟨BK3.out,BK5.out⟩ (fun _=>?_);clear hK K hbk hfar hbel;refine pw_ 11 10 (bb 12 4095) ?_;refine yN (by kernel_rfl) ?_;have hwk:wrap64 (-q.mult)=-q.mult:=by unfold Pat.mult wrap64;split;decide;split <;> decide
  go_wp2_with (first|((with_reducible refine zE (N:=41) rfl ?_);refine lo_ (g:=g9) (cs:=#[.bool y1,.string y2,.int .i64 y3]) _ ⟨BK BK9⟩ ?_ rfl rfl rfl Tryz.underlying23 rfl jL)|(go_at_call 37;refine (vV.calls y1 y2 y3 (-q.mult) z1 z2 z3 _ HZ.out).mono ?_;rintro e9 w' ⟨rfl,hb⟩;replace HB:=zF HB hb;replace BK6:=zC BK6 hb;replace BK9:=zC BK9 hb;clear hb)|((with_reducible refine zY (p:=9) rfl ?_);refine so_ (g:=g9) (cs:=#[.bool y1,.string y2,.int .i64 y3]) (#[.bool z1,.string z2,.int .i64 z3]) ⟨BK BK9⟩ ?_ rfl rfl rfl rfl rfl jL rfl rfl;intro w9 hbk hfar hbel;replace BK6:=K_ (hfar _ _ (by first|exact NB6_9.out|exact Ne.symm NB9_6.out) (BK BK6));replace BK9:=K_ hbk;replace HB:=K_ (hbel _ _ GE9.out (BL HB));clear hbk hfar hbel)|((with_reducible refine zE (N:=45) rfl ?_);refine lo_ (g:=g9) (cs:=#[.bool z1,.string z2,.int .i64 z3]) _ ⟨BK BK9⟩ ?_ rfl rfl rfl Tryz.underlying23 rfl jL)|(go_at_call 34;refine (zbI.calls z1 z2 z3 _ _ HZR.out).mono ?_;rintro e9 w' ⟨rfl,hb⟩;replace HB:=zF HB hb;replace BK6:=zC BK6 hb;replace BK9:=zC BK9 hb;clear hb)|((with_reducible refine zE (N:=49) rfl ?_);refine lo_ (g:=g9) (cs:=#[.bool z1,.string z2,.int .i64 z3]) _ ⟨BK BK9⟩ ?_ rfl rfl rfl Tryz.underlying23 rfl jL)|((with_reducible refine zY (p:=6) rfl ?_);refine so_ (g:=g6) (cs:=#[.bool false,.string (⟨#[]⟩:ByteArray),.int .i64 0]) (#[.bool z1,.string z2,.int .i64 z3]) ⟨BK BK6⟩ ?_ rfl rfl rfl rfl rfl jL rfl rfl;intro w9 hbk hfar hbel;replace BK9:=K_ (hfar _ _ (by first|exact NB9_6.out|exact Ne.symm NB6_9.out) (BK BK9));replace BK6:=K_ hbk;replace HB:=K_ (hbel _ _ GE6.out (BL HB));clear hbk hfar hbel))
  refine bodyPost_ret (jE rfl _ _ g6 23 #[.bool z1,.string z2,.int .i64 z3] (0,0) _ rfl BK6.out Tryz.underlying23 rfl jL) rfl ?_;exact⟨rfl,BL HB⟩
theorem zpR:vI.f 60 4 false ⟨#[49,50,51,52,53]⟩ 0 (zax P19).2=some (false,⟨#[49,50,51]⟩,2,0):=by kernel_rfl
theorem zmF {q:Pat} (hq:zaJ q) (hP:q.P=P19) (hm:q.mult=0) (w:World) (hr:xX q w) (hG:Fig.Glob w) :
  Calls Tryz.prog 14 #[.agg q.cs,.int .i64 4,.agg #[.bool false,.string (⟨#[49,50,51,52,53]⟩:ByteArray),.int .i64 0]] w fun e w'=>e=.returned (.tuple #[.agg #[.bool false,.string (⟨#[49,50,51]⟩:ByteArray),.int .i64 2],.int .i64 0])∧Below w.heap.size w w':=
 zhf q hq.good (by rw[hP];rfl) 4 false ⟨#[49,50,51,52,53]⟩ 0 false ⟨#[49,50,51,52,53]⟩ 0 false ⟨#[49,50,51]⟩ 2 false ⟨#[49,50,51]⟩ 2 60 (by kernel_rfl) (by kernel_rfl) (by kernel_rfl) (by rw[hm];kernel_rfl) (by rw[hP];exact zpR) (by rw[hm];kernel_rfl) (by kernel_rfl) w hr hG
set_option maxHeartbeats 8000000 in
set_option maxRecDepth 100000 in
theorem xR (w:World) (hG:Fig.Glob w):Calls Tryz.prog 13 #[] w fun e w'=>e=.returned (.bool true)∧Below w.heap.size w w':=by
 have HB:=K_ (Below.refl w.heap.size w);have HG:=K_ hG;clear hG;go_enter Tryz.func13,Tryz.ntmps13
 go_upto_region 2 with (first|(go_at_call 31;refine (ziK ⟨#[35,35,48,46,35,35,69,48]⟩ (by decide) _).mono ?_;rintro e9 w' ⟨q,E,a,rfl,hrr,hb,hqg,hex⟩;obtain⟨rfl,hP,hm⟩:=zpe hex;have HP:=K_ hP;have HM:=K_ hm;have HRR:=K_ (hrr.lower (zS (BL HB)));have HQ:=K_ (hqg rfl);replace HB:=zF HB hb;clear hb hrr hqg hex hP hm)|((with_reducible refine zE (N:=1) rfl ?_);refine be_ 1 (Z26) 26 ?_;intro g1 hg w2 hbox hb;have BK1:=K_ hbox;have GE1:=ge_ hg HB;replace HRR:=K_ (HRR.out.below hb);replace HB:=zF HB hb;clear hb hbox hg)|((with_reducible refine zE (N:=2) rfl ?_);refine be_ 2 (Z51) 51 ?_;intro g2 hg w2 hbox hb;have BK2:=K_ hbox;have GE2:=ge_ hg HB;have NB1_2:=nb_ hg BK1;replace BK1:=zC BK1 hb;replace HRR:=K_ (HRR.out.below hb);replace HB:=zF HB hb;clear hb hbox hg)|((with_reducible refine zY (p:=1) rfl ?_);refine so_ (g:=g1) (cs:=Z26) (q.cs) ⟨BK BK1⟩ ?_ rfl rfl rfl rfl rfl jR rfl rfl;intro w9 hbk hfar hbel;replace BK2:=K_ (hfar _ _ (by first|exact NB2_1.out|exact Ne.symm NB1_2.out) (BK BK2));replace HRR:=K_ (HRR.out.so (BK BK1) (by decide) hfar);replace BK1:=K_ hbk;replace HB:=K_ (hbel _ _ GE1.out (BL HB));clear hbk hfar hbel)|((with_reducible refine zY (p:=2) rfl ?_);refine so_ (g:=g2) (cs:=Z51) (#[.int .i64 0,.int .i64 a]) ⟨BK BK2⟩ ?_ rfl rfl rfl rfl rfl qC rfl rfl;intro w9 hbk hfar hbel;replace BK1:=K_ (hfar _ _ (by first|exact NB1_2.out|exact Ne.symm NB2_1.out) (BK BK1));replace HRR:=K_ (HRR.out.so (BK BK2) (by decide) hfar);replace BK2:=K_ hbk;replace HB:=K_ (hbel _ _ GE2.out (BL HB));clear hbk hfar hbel))
 clear BK2;go_upto_region 3 with (first|((with_reducible refine zE (N:=11) rfl ?_);refine lo_ (g:=g1) (cs:=q.cs) _ ⟨BK BK1⟩ ?_ rfl rfl rfl Tryz.underlying26 rfl jR)|(go_at_call 14;refine (zmF HQ.out HP.out HM.out _ (vQ.ok HRR.out HQ.out) (Fig.Glob.below HG.out (BL HB))).mono ?_;rintro e9 w' ⟨rfl,hb⟩;replace HRR:=K_ (HRR.out.below hb);replace HB:=zF HB hb;replace BK1:=zC BK1 hb;clear hb)|((with_reducible refine zE (N:=3) rfl ?_);refine be_ 3 (#[.bool false,.string (⟨#[]⟩:ByteArray),.int .i64 0]) 23 ?_;intro g3 hg w2 hbox hb;have BK3:=K_ hbox;have GE3:=ge_ hg HB;have NB1_3:=nb_ hg BK1;replace BK1:=zC BK1 hb;replace HRR:=K_ (HRR.out.below hb);replace HB:=zF HB hb;clear hb hbox hg)|((with_reducible refine zY (p:=3) rfl ?_);refine so_ (g:=g3) (cs:=#[.bool false,.string (⟨#[]⟩:ByteArray),.int .i64 0]) (#[.bool false,.string (⟨#[49,50,51]⟩:ByteArray),.int .i64 2]) ⟨BK BK3⟩ ?_ rfl rfl rfl rfl rfl jL rfl rfl;intro w9 hbk hfar hbel;replace BK1:=K_ (hfar _ _ (by first|exact NB1_3.out|exact Ne.symm NB3_1.out) (BK BK1));replace HRR:=K_ (HRR.out.so (BK BK3) (by decide) hfar);replace BK3:=K_ hbk;replace HB:=K_ (hbel _ _ GE3.out (BL HB));clear hbk hfar hbel))
 go_upto_region 4 with (first|((with_reducible refine zE (N:=16) rfl ?_);refine lo_ (g:=g1) (cs:=q.cs) _ ⟨BK BK1⟩ ?_ rfl rfl rfl Tryz.underlying26 rfl jR)|((with_reducible refine zE (N:=17) rfl ?_);refine lo_ (g:=g3) (cs:=#[.bool false,.string (⟨#[49,50,51]⟩:ByteArray),.int .i64 2]) _ ⟨BK BK3⟩ ?_ rfl rfl rfl Tryz.underlying23 rfl jL)|(go_at_call 16;refine (ziq q HQ.out.good false ⟨#[49,50,51]⟩ 2 ⟨#[49,50,51]⟩ 2 (znR HM.out) zpV _ (vQ.ok HRR.out HQ.out)).mono ?_;rintro e9 w' ⟨he9,hb⟩;rw[zpx HP.out] at he9;subst he9;replace HRR:=K_ (HRR.out.below hb);replace HB:=zF HB hb;replace BK1:=zC BK1 hb;replace BK3:=zC BK3 hb;clear hb)|((with_reducible refine zE (N:=5) rfl ?_);refine be_ 5 (#[.bool false,.string (⟨#[]⟩:ByteArray),.string (⟨#[]⟩:ByteArray),.int .i64 0]) 36 ?_;intro g5 hg w2 hbox hb;have BK5:=K_ hbox;have GE5:=ge_ hg HB;have NB1_5:=nb_ hg BK1;replace BK1:=zC BK1 hb;have NB3_5:=nb_ hg BK3;replace BK3:=zC BK3 hb;replace HRR:=K_ (HRR.out.below hb);replace HB:=zF HB hb;clear hb hbox hg)|((with_reducible refine zY (p:=5) rfl ?_);refine so_ (g:=g5) (cs:=#[.bool false,.string (⟨#[]⟩:ByteArray),.string (⟨#[]⟩:ByteArray),.int .i64 0]) (#[.bool false,.string (⟨#[49,50]⟩:ByteArray),.string (⟨#[51]⟩:ByteArray),.int .i64 3]) ⟨BK BK5⟩ ?_ rfl rfl rfl rfl rfl xP rfl rfl;intro w9 hbk hfar hbel;replace BK1:=K_ (hfar _ _ (by first|exact NB1_5.out|exact Ne.symm NB5_1.out) (BK BK1));replace BK3:=K_ (hfar _ _ (by first|exact NB3_5.out|exact Ne.symm NB5_3.out) (BK BK3));replace HRR:=K_ (HRR.out.so (BK BK5) (by decide) hfar);replace BK5:=K_ hbk;replace HB:=K_ (hbel _ _ GE5.out (BL HB));clear hbk hfar hbel))
 go_wp2_with (first|((with_reducible refine zE (N:=22) rfl ?_);refine zbK (g:=g3) (cs:=#[.bool false,.string (⟨#[49,50,51]⟩:ByteArray),.int .i64 2]) _ ⟨BK BK3⟩ ?_ (by rfl) rfl rfl Tryz.underlying23 rfl jL)|((with_reducible refine zE (N:=27) rfl ?_);refine zbK (g:=g5) (cs:=#[.bool false,.string (⟨#[49,50]⟩:ByteArray),.string (⟨#[51]⟩:ByteArray),.int .i64 3]) _ ⟨BK BK5⟩ ?_ (by rfl) rfl rfl Tryz.underlying36 rfl xP)|((with_reducible refine zE (N:=32) rfl ?_);refine zbK (g:=g1) (cs:=q.cs) _ ⟨BK BK1⟩ ?_ (by rfl) rfl rfl Tryz.underlying26 rfl jR)|(go_at_call 27;refine (zgg q _).mono ?_;rintro e9 w' ⟨he9,hb⟩;rw[HP.out,show qJ P19=true from rfl] at he9;subst he9;replace HB:=zF HB hb;clear hb))
 go_ret
 exact⟨rfl,BL HB⟩
theorem zlF {m a:Nat} (h:0<a):m * 10 ^ a=10 * (m * 10 ^ (a-1)):=by
 obtain⟨k,rfl⟩:∃ k,a=k+1:=⟨a-1,by omega⟩
 rw[Nat.add_sub_cancel,Nat.pow_succ,←Nat.mul_assoc,Nat.mul_comm]
def qAt (n:Nat) (e p:Int):Nat:=if p≤e then n * 10 ^ (e-p).toNat else n / 10 ^ (p-e).toNat
theorem zms (n:Nat) (e p:Int):qAt n e p=10 * qAt n e (p+1)+(zcp n e p).toNat:=by
 unfold qAt zcp;by_cases h:p<e
 ·rw[if_pos (by omega),if_pos (by omega),if_pos h,zlF (by omega),show (e-p).toNat-1=(e-(p+1)).toNat by omega];rfl
 rw[if_neg (show ¬ p+1≤e by omega),if_neg h,Int.toNat_natCast];by_cases h2:p=e
 ·rw[if_pos (by omega),h2,Int.sub_self,show (e+1-e).toNat=1 by omega]
  simp only[Int.toNat_zero,Nat.pow_zero,Nat.pow_one,Nat.mul_one,Nat.div_one];omega
 rw[if_neg (by omega),show (p+1-e).toNat=(p-e).toNat+1 by omega,Nat.pow_succ,←Nat.div_div_eq_div_mul];omega
theorem zdO {n:Nat} {e p:Int} (h:n=0∨jZ n e<p):qAt n e p=0:=by
 by_cases h0:n=0
 ·subst h0;unfold qAt;split
  ·exact Nat.zero_mul _
  exact Nat.zero_div _
 have h:=h.resolve_left h0;have h1:(zU n).size≠0:=fun hh=>h0 (qX.1 hh)
 unfold jZ at h;rw[if_neg h0] at h;unfold qAt;rw[if_neg (by omega)];refine Nat.div_eq_of_lt (Nat.lt_of_lt_of_le (zat (Nat.le_refl _)) (Nat.pow_le_pow_right (by decide) (by omega)))
theorem zko {n:Nat} {e p:Int} (h:p≤e):qAt n e p=atE n e p:=by unfold qAt;rw[if_pos h];rfl
theorem zhT (n:Nat) (e hi:Int):∀ k,yB (qQ n e hi k)=true
 | 0=>rfl
 | k+1=>by
  have h1:=zhk n e (hi-k);have h2:=zfk n e (hi-k);exact zas.2 ⟨zhT n e hi k,qH.2 ⟨uD.2 (by omega),rfl⟩⟩
theorem zhz {n:Nat} {e hi:Int} (h:qAt n e (hi+1)=0):∀ k:Nat,rv (qQ n e hi k).reverse=qAt n e (hi-k+1)
 | 0=>by rw[show hi-((0:Nat):Int)+1=hi+1 by omega,h];rfl
 | k+1=>by
  have h1:=zhk n e (hi-k);have h2:=zfk n e (hi-k);have h3:=zms n e (hi-k);show rv (qQ n e hi k++[dgB n e (hi-k)]).reverse=_
  rw[List.reverse_append,show (hi-((k+1:Nat):Int)+1)=hi-k by omega,h3];show ((dgB n e (hi-k)).toNat-48)+10 * rv (qQ n e hi k).reverse=_
  rw[zhz h k];omega
theorem zhA (n:Nat) (e hi:Int) (a:Nat):∀ b:Nat,qQ n e hi (a+b)=qQ n e hi a++qQ n e (hi-a) b
 | 0=>(List.append_nil _).symm
 | b+1=>by
  show qQ n e hi (a+b)++[dgB n e (hi-((a+b:Nat):Int))]=qQ n e hi a++(qQ n e (hi-a) b++[dgB n e (hi-a-b)])
  rw[zhA n e hi a b,List.append_assoc,show hi-((a+b:Nat):Int)=hi-a-b by omega]
theorem zlf {n:Nat} {e hi mid lo:Int} (h1:mid≤hi+1) (h2:lo≤mid):jQ n e hi mid++jQ n e (mid-1) lo=jQ n e hi lo:=by
 apply qM
 rw[zcv];show qQ n e hi (hi-mid+1).toNat++qQ n e (mid-1) (mid-1-lo+1).toNat=qQ n e hi (hi-lo+1).toNat
 rw[show (hi-lo+1).toNat=(hi-mid+1).toNat+(mid-1-lo+1).toNat by omega,zhA,show hi-(((hi-mid+1).toNat:Nat):Int)=mid-1 by omega]
theorem zlw (n:Nat) (e hi lo:Int):dB (jQ n e hi lo)=true:=zhT n e hi _
theorem zmg {n:Nat} {e hi lo:Int} (h:n=0∨jZ n e≤hi) (h1:n=0∨lo≤hi+1):vB (jQ n e hi lo)=qAt n e lo:=by
 show rv (qQ n e hi (hi-lo+1).toNat).reverse=_
 rw[zhz (zdO (h.imp id fun h=>by omega))];by_cases h0:n=0
 ·rw[zdO (.inl h0),zdO (.inl h0)]
 have:=h1.resolve_left h0
 rw[show hi-(((hi-lo+1).toNat:Nat):Int)+1=lo by omega]
theorem zlD {n:Nat} (e:Int) (h:n≠0):e≤jZ n e:=by
 have h1:(zU n).size≠0:=fun hh=>h (qX.1 hh)
 unfold jZ;rw[if_neg h];omega
structure zpw (P:jY) (n:Nat) (e:Int) (r:ByteArray×ByteArray×Int):Prop where
 ne:r.1++r.2.1≠⟨#[]⟩
 dig:dB (r.1++r.2.1)=true
 va:nD (vB (r.1++r.2.1))=nD n
 ex:∀ k:Int,nE (vB (r.1++r.2.1)) (r.2.2-(r.2.1.size:Int)-k)=nE n (e-k)
 pl:P.sci=false→r.2.2=0∧P.mi≤r.1.size
 fr:P.sci=false→P.ms=0→(n≠0→-P.xf≤e)→P.mf≤r.2.1.size∧(r.2.1.size:Int)≤P.xf
 en:qJ P=true→r.2.2.tmod P.xi=0∧(r.1.size:Int)≤P.xi∧1≤(r.1.size:Int)
 wh:P.sci=true→qJ P=false→P.ms=0→(r.1.size:Int)=jV P∨r.1++r.2.1=⟨#[48]⟩
theorem zkx {n:Nat} {e hi mid lo:Int} (h1:mid≤hi+1) (h2:lo≤mid) (ht:n=0∨jZ n e≤hi) (hl:n=0∨lo≤e) :
  dB (jQ n e hi mid++jQ n e (mid-1) lo)=true∧nD (vB (jQ n e hi mid++jQ n e (mid-1) lo))=nD n ∧
  (∀ k:Int,nE (vB (jQ n e hi mid++jQ n e (mid-1) lo)) (mid-((jQ n e (mid-1) lo).size:Int)-k)=nE n (e-k))∧(jQ n e hi mid++jQ n e (mid-1) lo=⟨#[]⟩→n=0):=by
 rw[zlf h1 h2,zmg ht (.inr (by omega)),zaG,show mid-(((mid-1-lo+1).toNat:Nat):Int)=lo by omega];refine⟨zlw _ _ _ _,?_,fun k=>?_,fun h=>?_⟩
 ·by_cases h0:n=0
  ·subst h0;rw[zdO (.inl rfl)]
  rw[zko (hl.resolve_left h0),ziY]
 ·by_cases h0:n=0
  ·subst h0;rw[zdO (.inl rfl)];rfl
  have:=hl.resolve_left h0
  rw[zko this];have h3:=ziT n (e:=e-k) (m:=lo-k) (by omega);rw[show atE n (e-k) (lo-k)=atE n e lo by unfold atE;rw[show (e-k)-(lo-k)=e-lo by omega]] at h3;exact h3
 by_cases h0:n=0
 ·exact h0
 exfalso
 have h3:=zlD e h0;have h4:=ht.resolve_left h0;have h5:=hl.resolve_left h0;have h6:=zaG n e hi lo;rw[h] at h6;have h7:(⟨#[]⟩:ByteArray).size=0:=rfl;omega
theorem zpa {P:jY} (hg:uC P) (n:Nat) (e:Int):zpw P n e (xE P n e):=by
 have:=hg.mi0;have:=hg.mf0;have:=hg.mfx;have:=hg.xf4;have:=hg.ms0;have:=hg.msx;have:=hg.xs4
 have hwb:=zaT hg;have hsb:=zgU hg
 obtain⟨hi,mid,lo,hr,h1,h2,ht,hl,hpl,hfr,hen,hwh⟩:∃ hi mid lo:Int,(if P.sci=true then zbr P n e else zag P n e)=(jQ n e hi mid,jQ n e (mid-1) lo,mid)∧mid≤hi+1∧lo≤mid∧(n=0∨jZ n e≤hi)∧(n=0∨lo≤e) ∧
   (P.sci=false→mid=0∧P.mi≤hi-mid+1)∧(P.sci=false→P.ms=0→(n≠0→-P.xf≤e)→P.mf≤mid-lo∧mid-lo≤P.xf)∧(qJ P=true→mid.tmod P.xi=0∧hi-mid+1≤P.xi∧1≤hi-mid+1)∧(P.sci=true→qJ P=false→P.ms=0→hi-mid+1=jV P):=by
  cases hs:P.sci
  ·have hE:qJ P=false:=by unfold qJ;rw[hs];rfl
   refine⟨zci P n e-1,0,-zcj P n e,rfl,?_,?_,?_,?_,?_,?_,?_,?_⟩
   ·unfold zci;split <;> split <;> omega
   ·unfold zcj zbl;split <;> omega
   ·by_cases h0:n=0
    ·exact .inl h0
    right;unfold zci;rw[if_neg h0];omega
   ·by_cases h0:n=0
    ·exact .inl h0
    right;unfold zcj zbl;rw[if_neg h0];omega
   ·intro _;refine⟨rfl,?_⟩;unfold zci;have:=hg.sig;split <;> split <;> omega
   ·intro _ hms hx
    unfold zcj zbl;rw[if_neg (by omega)];by_cases h0:n=0
    ·rw[if_pos h0];omega
    have:=hx h0;rw[if_neg h0];omega
   ·intro h;rw[hE] at h;cases h
   intro h;cases h
  refine⟨zaA P n e+zco P n e-1,zaA P n e,zaA P n e-zga P n e,rfl,?_,?_,?_,?_,?_,?_,?_,?_⟩
  ·unfold zco;split
   ·rename_i hE
    have hx:=zcU hE;have m1:=Int.emod_nonneg (jZ n e) (show P.xi≠0 by omega);omega
   omega
  ·unfold zga zbl;split <;> omega
  ·by_cases h0:n=0
   ·exact .inl h0
   right;unfold zaA zcq zco;rw[if_neg h0];split <;> omega
  ·by_cases h0:n=0
   ·exact .inl h0
   right;unfold zga zbl;rw[if_neg h0];omega
  ·intro h;cases h
  ·intro h;cases h
  ·intro hE
   have hx:=zcU hE;have m1:=Int.emod_nonneg (jZ n e) (show P.xi≠0 by omega);have m2:=Int.emod_lt_of_pos (jZ n e) (show 0<P.xi by omega);refine⟨?_,?_,?_⟩
   ·unfold zaA zcq;split
    ·exact Int.zero_tmod _
    exact Int.tmod_eq_zero_of_dvd ⟨jZ n e / P.xi,by have:=Int.mul_ediv_add_emod (jZ n e) P.xi;omega⟩
   ·unfold zco;rw[if_pos hE];omega
   unfold zco;rw[if_pos hE];omega
  intro _ hE _;unfold zco;rw[hE,if_neg (by decide)];omega
 have hL:xE P n e=zdG (jQ n e hi mid,jQ n e (mid-1) lo,mid):=by unfold xE;rw[hr]
 obtain⟨f1,f2,f3,f4⟩:=zkx h1 h2 ht hl;have z1:=zaG n e hi mid;have z2:=zaG n e (mid-1) lo;rw[hL];unfold zdG;obtain⟨A,hA⟩:∃ A,A=jQ n e hi mid:=⟨_,rfl⟩
 obtain⟨B,hB⟩:∃ B,B=jQ n e (mid-1) lo:=⟨_,rfl⟩
 rw[←hA,←hB] at f1 f2 f3 f4;rw[←hA] at z1;rw[←hB] at z2;rw[←hA,←hB];by_cases h0:A++B=⟨#[]⟩
 ·rw[if_pos h0]
  have hn:=f4 h0;have hz:A.size+B.size=0:=by rw[←ByteArray.size_append,h0];rfl
  have hB0:B=⟨#[]⟩:=by
   apply qM
   have:B.data.toList.length=0:=by rw[←zQ];omega
   exact List.length_eq_zero_iff.1 this
  subst hn;have hs0:B.size=0:=by omega
  have e1:(⟨#[48]⟩:ByteArray)++B=⟨#[48]⟩:=by rw[hB0];rfl
  have e2:vB (⟨#[48]⟩:ByteArray)=0:=rfl;have e3:(⟨#[48]⟩:ByteArray).size=1:=rfl;constructor
  ·show (⟨#[48]⟩:ByteArray)++B≠_
   rw[e1];intro h;have:=congrArg ByteArray.size h;exact absurd this (by decide)
  ·show dB ((⟨#[48]⟩:ByteArray)++B)=true
   rw[e1];rfl
  ·show nD (vB ((⟨#[48]⟩:ByteArray)++B))=_
   rw[e1,e2]
  ·intro k;show nE (vB ((⟨#[48]⟩:ByteArray)++B)) _=_
   rw[e1,e2];rfl
  ·intro h;have:=hpl h;exact⟨this.1,by show P.mi≤((⟨#[48]⟩:ByteArray).size:Int);rw[e3];omega⟩
  ·intro h h1 h2;have:=hfr h h1 h2;show P.mf≤(B.size:Int)∧(B.size:Int)≤P.xf;omega
  ·intro h;have:=hen h;exact⟨this.1,by show ((⟨#[48]⟩:ByteArray).size:Int)≤_∧1≤((⟨#[48]⟩:ByteArray).size:Int);rw[e3];omega⟩
  intro _ _ _;exact .inr e1
 rw[if_neg h0];constructor
 ·exact h0
 ·exact f1
 ·exact f2
 ·exact f3
 ·intro h;have:=hpl h;exact⟨this.1,by show P.mi≤(A.size:Int);omega⟩
 ·intro h h1 h2;have:=hfr h h1 h2;show P.mf≤(B.size:Int)∧(B.size:Int)≤P.xf;omega
 ·intro h;have:=hen h;exact⟨this.1,by show (A.size:Int)≤_∧1≤(A.size:Int);omega⟩
 intro h1 h2 h3;have:=hwh h1 h2 h3;exact .inl (by show (A.size:Int)=_;omega)
theorem zoX {P:jY} (hg:uC P) {s:ByteArray} {e:Int} (ok:OkS s e):(xE P (vB s) e).1.size≤200001∧(xE P (vB s) e).2.1.size≤200000∧-30000≤(xE P (vB s) e).2.2∧(xE P (vB s) e).2.2≤30000:=by
 have ht:=zdL ok;have hwb:=zaT hg;have h1:=zfE hg ok;have h2:=zhE hg ok;have h3:-20000≤zaA P (vB s) e∧zaA P (vB s) e≤30000:=by
  unfold zaA zcq;split
  ·omega
  split
  ·rename_i _ hE
   have hx:=zcU hE;have:=hg.xi4
   have m1:=Int.emod_nonneg (jZ (vB s) e) (show P.xi≠0 by omega);have m2:=Int.emod_lt_of_pos (jZ (vB s) e) (show 0<P.xi by omega);omega
  omega
 have h4:(⟨#[48]⟩:ByteArray).size=1:=rfl;unfold xE zdG;cases P.sci
 ·simp only[Bool.false_eq_true,if_false]
  split
  ·exact⟨by show (⟨#[48]⟩:ByteArray).size≤_;rw[h4];omega,h1.2,by show -30000≤(0:Int);omega,by show (0:Int)≤30000;omega⟩
  exact⟨by omega,h1.2,by show -30000≤(0:Int);omega,by show (0:Int)≤30000;omega⟩
 simp only[if_true]
 split
 ·exact⟨by show (⟨#[48]⟩:ByteArray).size≤_;rw[h4];omega,h2.2,by show -30000≤zaA P (vB s) e;omega,by show zaA P (vB s) e≤30000;omega⟩
 exact⟨by omega,h2.2,by show -30000≤zaA P (vB s) e;omega,by show zaA P (vB s) e≤30000;omega⟩
theorem zmE {q:Pat} (hq:zaJ q) {m:Int} {b:Bool} {s:ByteArray} {e:Int} (h:(xC q m b s e).2.2.2=0) :
  nD (yC (vB (xC q m b s e).2.1))=(xC q m b s e).2.1∧nE (yC (vB (xC q m b s e).2.1)) (nE (vB (xC q m b s e).2.1) ((xC q m b s e).2.2.1+q.mult)-q.mult)=(xC q m b s e).2.2.1 ∧
  (q.P.sci=false→q.P.ms=0→yC (vB (xC q m b s e).2.1)≠0→-q.P.xf≤nE (vB (xC q m b s e).2.1) ((xC q m b s e).2.2.1+q.mult)):=by
 obtain⟨hm,hg,hr,h7,hrg,hv⟩:=zjX h;rw[hv];obtain⟨N,hN⟩:∃ N,N=rN q m b (vB s) e:=⟨_,rfl⟩
 obtain⟨K,hK⟩:∃ K,K=rK q (vB s) e:=⟨_,rfl⟩
 obtain⟨X,hX⟩:∃ X,X=rX q m b (vB s) e:=⟨_,rfl⟩
 have hX2:X=nE (yC N) (nE N K + -q.mult):=by rw[hX,hN,hK];rfl
 rw[←hN,←hX];show nD (yC (vB (nD N)))=nD N∧nE (yC (vB (nD N))) (nE (vB (nD N)) (X+q.mult)-q.mult)=X∧(q.P.sci=false→q.P.ms=0→yC (vB (nD N))≠0→-q.P.xf≤nE (vB (nD N)) (X+q.mult))
 rw[zgi,zhW];refine⟨zjM N,?_,?_⟩
 ·by_cases h0:N=0
  ·rw[hX2,h0,zaR];rfl
  rw[zcw h0] at hX2;rw[zcw h0,zcw h0];omega
 intro h1 h2 h3;have h0:N≠0:=fun hh=>h3 (by rw[hh];exact zaR)
 rw[zcw h0] at hX2;rw[zcw h0];have s1:(stP q.P (jZ (vB s) (e+q.mult))).2=-q.P.xf:=by
  unfold stP;rw[if_neg (by rw[h1];intro h;rcases h with h|h;cases h;omega)];split <;> rfl
 have h5:=zli (m:=m) (neg:=b) (n:=yC (vB s)) (e:=nE (vB s) (e+q.mult)) (st:=(stP q.P (jZ (vB s) (e+q.mult))).1) (p:=(stP q.P (jZ (vB s) (e+q.mult))).2) (k:=K) (by rw[hK];unfold rK;omega);have e1:rv0 m b (yC (vB s)) (nE (vB s) (e+q.mult)) (stP q.P (jZ (vB s) (e+q.mult))).1 (stP q.P (jZ (vB s) (e+q.mult))).2 K=N:=by rw[hN,hK];rfl
 rw[e1,s1] at h5;have:=h5.resolve_left h0
 omega
set_option maxHeartbeats 8000000 in
set_option maxRecDepth 100000 in
theorem value_law (s:ByteArray) (hs:s.size≤1048576) (m:Int) (b:Bool) (s2:ByteArray) (e:Int) (hs2:s2.size≤140737488351232) (w:World) (hG:Fig.Glob w) :
  Calls Tryz.prog 11 #[.string s,.int .i64 m,.agg #[.bool b,.string s2,.int .i64 e]] w fun e w'=>e=.returned (.bool true)∧Below w.heap.size w w':=by
 have HB:=K_ (Below.refl w.heap.size w);have HG:=K_ hG;have HS2:=K_ hs2;have HSZ:=K_ (show s2.size≤4611686018427387904 by omega);clear hG hs2;go_enter Tryz.func11,Tryz.ntmps11
 go_upto_region 2 with (first|((with_reducible refine zE (N:=5) rfl ?_);refine bx_ 5 (#[.bool b,.string s2,.int .i64 e]) 23 ?_ rfl rfl rfl rfl rfl;intro g5 hg w2 hbox hb;have BK5:=K_ hbox;have GE5:=ge_ hg HB;replace HB:=zF HB hb;clear hb hbox hg)|((with_reducible refine zE (N:=16) rfl ?_);refine lo_ (g:=g5) (cs:=#[.bool b,.string s2,.int .i64 e]) _ ⟨BK BK5⟩ ?_ rfl rfl rfl Tryz.underlying23 rfl jL)|(go_at_call 12;refine (zjz s hs b s2 e HS2.out _).mono ?_;rintro e9 w' ⟨q,ok,rfl,hrr,hb,hqg⟩;have HRR:=K_ (hrr.lower (zS (BL HB)));have HQ:=K_ hqg;replace HB:=zF HB hb;replace BK5:=zC BK5 hb;clear hb hrr hqg)|((with_reducible refine zE (N:=7) rfl ?_);refine be_ 7 (Z26) 26 ?_;intro g7 hg w2 hbox hb;have BK7:=K_ hbox;have GE7:=ge_ hg HB;have NB5_7:=nb_ hg BK5;replace BK5:=zC BK5 hb;replace HRR:=K_ (HRR.out.below hb);replace HB:=zF HB hb;clear hb hbox hg)|((with_reducible refine zY (p:=7) rfl ?_);refine so_ (g:=g7) (cs:=Z26) (q.cs) ⟨BK BK7⟩ ?_ rfl rfl rfl rfl rfl jR rfl rfl;intro w9 hbk hfar hbel;replace BK5:=K_ (hfar _ _ (by first|exact NB5_7.out|exact Ne.symm NB7_5.out) (BK BK5));replace HRR:=K_ (HRR.out.so (BK BK7) (by decide) hfar);replace BK7:=K_ hbk;replace HB:=K_ (hbel _ _ GE7.out (BL HB));clear hbk hfar hbel))
 cases ok
 ·go_wp2_with (go_at_call 13;refine (xR _ (Fig.Glob.below HG.out (BL HB))).mono ?_;rintro e9 w' ⟨rfl,hb⟩;replace HB:=zF HB hb;clear hb)
  go_ret
  exact⟨rfl,BL HB⟩
 obtain⟨hq,hsz⟩:=HQ.out rfl;replace HQ:=K_ hq;obtain⟨v,hv⟩:∃ v,v=xC q m b s2 e:=⟨_,rfl⟩
 have HV:=K_ hv;clear hq hsz hv;go_upto_region 5 with (first|((with_reducible refine zE (N:=24) rfl ?_);refine lo_ (g:=g7) (cs:=q.cs) _ ⟨BK BK7⟩ ?_ rfl rfl rfl Tryz.underlying26 rfl jR)|((with_reducible refine zE (N:=26) rfl ?_);refine lo_ (g:=g5) (cs:=#[.bool b,.string s2,.int .i64 e]) _ ⟨BK BK5⟩ ?_ rfl rfl rfl Tryz.underlying23 rfl jL)|(go_at_call 21;refine (zjE q HQ.out m b s2 e HSZ.out _ (vQ.ok HRR.out HQ.out)).mono ?_;rintro e9 w' ⟨he9,hb⟩;rw[←HV.out] at he9;subst he9;replace HRR:=K_ (HRR.out.below hb);replace HB:=zF HB hb;replace BK5:=zC BK5 hb;replace BK7:=zC BK7 hb;clear hb)|((with_reducible refine zE (N:=9) rfl ?_);refine be_ 9 (#[.bool false,.string (⟨#[]⟩:ByteArray),.int .i64 0]) 23 ?_;intro g9 hg w2 hbox hb;have BK9:=K_ hbox;have GE9:=ge_ hg HB;have NB5_9:=nb_ hg BK5;replace BK5:=zC BK5 hb;have NB7_9:=nb_ hg BK7;replace BK7:=zC BK7 hb;replace HRR:=K_ (HRR.out.below hb);replace HB:=zF HB hb;clear hb hbox hg)|((with_reducible refine zY (p:=9) rfl ?_);refine so_ (g:=g9) (cs:=#[.bool false,.string (⟨#[]⟩:ByteArray),.int .i64 0]) (#[.bool v.1,.string v.2.1,.int .i64 v.2.2.1]) ⟨BK BK9⟩ ?_ rfl rfl rfl rfl rfl jL rfl rfl;intro w9 hbk hfar hbel;replace BK5:=K_ (hfar _ _ (by first|exact NB5_9.out|exact Ne.symm NB9_5.out) (BK BK5));replace BK7:=K_ (hfar _ _ (by first|exact NB7_9.out|exact Ne.symm NB9_7.out) (BK BK7));replace HRR:=K_ (HRR.out.so (BK BK9) (by decide) hfar);replace BK9:=K_ hbk;replace HB:=K_ (hbel _ _ GE9.out (BL HB));clear hbk hfar hbel))
 by_cases hE:v.2.2.2=0
 ·have dE:(v.2.2.2 !=0)=false:=by rw[hE];rfl
  have hg2:=zmy HQ.out (m:=m) (b:=b) (s:=s2) (e:=e) (by rw[←HV.out];exact hE);have hbk:=zmE HQ.out (m:=m) (b:=b) (s:=s2) (e:=e) (by rw[←HV.out];exact hE);rw[←HV.out] at hg2 hbk;obtain⟨g1,g2_,g3,g4,g5_⟩:=zbW.1 hg2;obtain⟨m0,m3⟩:=zfm q;have hn:(zU (vB v.2.1)).size≤1000:=Nat.le_trans (OkD.of_good hg2).val g3;obtain⟨x2,hx2⟩:∃ x2,x2=nD (vB v.2.1):=⟨_,rfl⟩
  obtain⟨x3,hx3⟩:∃ x3,x3=nE (vB v.2.1) (v.2.2.1+q.mult):=⟨_,rfl⟩
  have okx:OkS x2 x3:=by rw[hx2,hx3];exact OkS.norm (by omega) (by omega) (by omega)
  have hvx:vB x2=yC (vB v.2.1):=by rw[hx2,zgi]
  rw[←hvx,←hx3] at hbk;obtain⟨A,B,C,hABC⟩:∃ (A B:ByteArray) (C:Int),(A,B,C)=xE q.P (vB x2) x3:=⟨_,_,_,rfl⟩
  have HL1:∀ W,xX q W→Aside0 (Calls Tryz.prog 16 #[.agg q.cs,.agg #[.bool v.1,.string v.2.1,.int .i64 v.2.2.1]] W fun e' w'=>e'=.returned (.agg #[.bool v.1,.string A,.string B,.int .i64 C])∧Below W.heap.size W w'):=fun W hW=>⟨by
   have h:=zmO HQ.out v.1 hg2 W hW;rw[←hx2,←hx3,←hABC] at h;exact h⟩
  have hL:=zpa HQ.out.good (vB x2) x3;have hbd:=zoX HQ.out.good okx;rw[←hABC] at hL hbd;have hbd:A.size≤200001∧B.size≤200000∧-30000≤C∧C≤30000:=hbd;have hva:nD (vB (A++B))=v.2.1:=hL.va.trans hbk.1;have hex:nE (vB (A++B)) (C-(B.size:Int)-q.mult)=v.2.2.1:=(hL.ex q.mult).trans hbk.2.1;obtain⟨km,hkm⟩:=Ev.rounds (zkh (b:=v.1) (s:=A++B) (e:=C-(B.size:Int)-q.mult) hL.dig (by rw[ByteArray.size_append];omega) (by omega) (by omega));rw[hva,hex] at hkm;have HX:=K_ hkm;have hw8:wrap64 (C-(B.size:Int))=C-(B.size:Int):=w64 (by omega) (by omega);have hw11:wrap64 (C-(B.size:Int)-q.mult)=C-(B.size:Int)-q.mult:=w64 (by omega) (by omega);have hbig:¬ 9223372036854775807<A.size+B.size:=by omega
  have hie:(A++B).toList.isEmpty=false:=by
   cases hh:(A++B).toList.isEmpty
   ·rfl
   exact absurd (qM (by rw[←ByteArray.toList_eq,List.isEmpty_iff.1 hh])) hL.ne
  have HF:=K_ (show (q.P.sci=false→C=0∧q.P.mi≤A.size∧(q.P.ms=0→q.P.mf≤B.size∧(B.size:Int)≤q.P.xf))∧(qJ q.P=true→C.tmod q.P.xi=0∧(A.size:Int)≤q.P.xi∧1≤(A.size:Int)∧1<q.P.xi)∧(q.P.sci=true→qJ q.P=false→q.P.ms=0→(A.size:Int)=jV q.P∨A++B=⟨#[48]⟩) from
   ⟨fun h=>⟨(hL.pl h).1,(hL.pl h).2,fun h1=>hL.fr h h1 (fun h2=>hbk.2.2 h h1 h2)⟩,fun h=>⟨(hL.en h).1,(hL.en h).2.1,(hL.en h).2.2,zcU h⟩,hL.wh⟩)
  clear hg2 g1 g2_ g3 g4 g5_ m0 m3 hn hx2 hx3 okx hvx hbk hL hbd hva hex hkm hABC hE;go_upto_region 8 with (first|((with_reducible refine zE (N:=33) rfl ?_);refine lo_ (g:=g7) (cs:=q.cs) _ ⟨BK BK7⟩ ?_ rfl rfl rfl Tryz.underlying26 rfl jR)|((with_reducible refine zE (N:=34) rfl ?_);refine lo_ (g:=g9) (cs:=#[.bool v.1,.string v.2.1,.int .i64 v.2.2.1]) _ ⟨BK BK9⟩ ?_ rfl rfl rfl Tryz.underlying23 rfl jL)|(go_at_call 16;refine ((HL1 _ (vQ.ok HRR.out HQ.out)).out).mono ?_;rintro e9 w' ⟨rfl,hb⟩;replace HRR:=K_ (HRR.out.below hb);replace HB:=zF HB hb;replace BK7:=zC BK7 hb;replace BK9:=zC BK9 hb;clear hb)|((with_reducible refine zE (N:=11) rfl ?_);refine be_ 11 (#[.bool false,.string (⟨#[]⟩:ByteArray),.string (⟨#[]⟩:ByteArray),.int .i64 0]) 36 ?_;intro g11 hg w2 hbox hb;have BK11:=K_ hbox;have GE11:=ge_ hg HB;have NB7_11:=nb_ hg BK7;replace BK7:=zC BK7 hb;have NB9_11:=nb_ hg BK9;replace BK9:=zC BK9 hb;replace HRR:=K_ (HRR.out.below hb);replace HB:=zF HB hb;clear hb hbox hg)|((with_reducible refine zY (p:=11) rfl ?_);refine so_ (g:=g11) (cs:=#[.bool false,.string (⟨#[]⟩:ByteArray),.string (⟨#[]⟩:ByteArray),.int .i64 0]) (#[.bool v.1,.string A,.string B,.int .i64 C]) ⟨BK BK11⟩ ?_ rfl rfl rfl rfl rfl xP rfl rfl;intro w9 hbk hfar hbel;replace BK7:=K_ (hfar _ _ (by first|exact NB7_11.out|exact Ne.symm NB11_7.out) (BK BK7));replace BK9:=K_ (hfar _ _ (by first|exact NB9_11.out|exact Ne.symm NB11_9.out) (BK BK9));replace HRR:=K_ (HRR.out.so (BK BK11) (by decide) hfar);replace BK11:=K_ hbk;replace HB:=K_ (hbel _ _ GE11.out (BL HB));clear hbk hfar hbel))
  have e111:=(show w9.cell? ⟨g11,1,none⟩=some (.string A) from (zA BK11.out 1).trans rfl)
  have e112:=(show w9.cell? ⟨g11,2,none⟩=some (.string B) from (zA BK11.out 2).trans rfl)
  go_upto_region 9 with (fail)
  clear e111 e112;refine yA (n:=15) (S:=fun W=>W.heap[g7]?=some (.cells q.cs 26 (0,0))∧W.cell? ⟨g11,0,none⟩=some (.bool v.1)∧W.cell? ⟨g11,3,none⟩=some (.int .i64 C)∧W.cell? ⟨g11,2,none⟩=some (.string B)) (ds:=[]) #[false,false,false,false,false,false,false,false,false,false,false,false,false,false,false] (by kernel_rfl) rfl rfl ⟨BK BK7,(zA (BK BK11) 0).trans rfl,(zA (BK BK11) 3).trans rfl,(zA (BK BK11) 2).trans rfl⟩ (fun hHeld=>?_);refine jG (fun W=>W.heap[g7]?=some (.cells q.cs 26 (0,0))∧W.heap[g9]?=some (.cells #[.bool v.1,.string v.2.1,.int .i64 v.2.2.1] 23 (0,0))∧W.heap[g11]?=some (.cells #[.bool v.1,.string A,.string B,.int .i64 C] 36 (0,0))∧vQ q W w.heap.size∧Below w.heap.size w W) ⟨BK BK7,BK BK9,BK BK11,HRR.out.drew,BL HB⟩ ?_;clear hHeld BK7 BK9 BK11 HRR HB;rintro W ⟨hb7,hb9,hb11,hrr,hbw⟩;have BK7:=K_ hb7;have BK9:=K_ hb9;have BK11:=K_ hb11;have HRR:=K_ hrr;have HB:=K_ hbw;clear hb7 hb9 hb11 hrr hbw;have hHeld:=(show W.heap[g7]?=some (.cells q.cs 26 (0,0))∧W.cell? ⟨g11,0,none⟩=some (.bool v.1)∧W.cell? ⟨g11,3,none⟩=some (.int .i64 C)∧W.cell? ⟨g11,2,none⟩=some (.string B) from ⟨BK7.out,(zA BK11.out 0).trans rfl,(zA BK11.out 3).trans rfl,(zA BK11.out 2).trans rfl⟩)
  refine pw_ 0 41 (bb 15 1) ?_;refine tw_ 1 42 (bb 15 3) hHeld ?_;refine pw_ 2 43 (bb 15 7) ?_;refine pw_ 3 44 (bb 15 15) ?_;refine tw_ 4 45 (bb 15 31) hHeld ?_;refine pw_ 5 46 (bb 15 63) ?_;refine tw_ 6 47 (bb 15 127) hHeld ?_;refine pw_ 7 48 (bb 15 255) ?_;refine jI (i:=8) (N:=some 49) (v:=.int .i64 (C-(B.size:Int))) (bb 15 511) rfl rfl (by kernel_rfl) (fun _ _ _ h=>h) (Or.inl ⟨by rfl,fun w'=>by first|(go_simp;done)|(go_simp;rw[yY,hw8];done)|(go_simp;rw[yY,hw8];rfl)|(go_simp;simp[yY,hw8];done)⟩) (by simp only[Act.put,List.setIfInBounds_toArray,List.set_cons_zero,List.set_cons_succ];rfl) ?_;refine tr_ 9 50 (bb 15 1023) (q.cs) (fun _ hs=>⟨hs.1⟩) Tryz.underlying26 jR hHeld ?_;refine zaC (σ:=Nat) 1 (bb 15 16383) (fun g=>[(51,.int .i64 q.mult),(52,.int .i64 (C-(B.size:Int)-q.mult)),(53,.agg #[.bool v.1,.string v.2.1,.int .i64 v.2.2.1]),(13,.pointer (some ⟨g,0,none⟩))]) (fun g W=>W.heap[g]?=some (.cells (#[.bool false,.string (⟨#[]⟩:ByteArray),.int .i64 0]) 23 (0,0))∧g7≠g∧g9≠g∧g11≠g∧w.heap.size≤g∧W.heap[g7]?=some (.cells q.cs 26 (0,0))∧W.heap[g9]?=some (.cells #[.bool v.1,.string v.2.1,.int .i64 v.2.2.1] 23 (0,0))∧W.heap[g11]?=some (.cells #[.bool v.1,.string A,.string B,.int .i64 C] 36 (0,0))∧vQ q W w.heap.size∧Below w.heap.size w W) ?hcj ?hrj
  case hrj =>
   intro hCont;refine zcJ (i:=10) (j:=13) (Ni:=some 51) (Nj:=some 13) (bb 15 2047) (bb 15 9215) rfl rfl rfl rfl (by kernel_rfl) (by decide) (by decide) (fun K hK=>?_) (fun K hK=>?_)
   ·skip
    refine gq_ Tryz.func24 #[.agg q.cs] ?_;refine (zel q _ (vQ.ok HRR.out HQ.out)).mono ?_;rintro e9 w' ⟨rfl,hb⟩;refine⟨_,rfl,?_⟩;replace BK7:=zC BK7 hb;replace BK9:=zC BK9 hb;replace BK11:=zC BK11 hb;replace HRR:=K_ (HRR.out.below hb);replace HB:=zF HB hb;clear hb hHeld;refine hK.out _ _ ⟨BK7.out,(zA BK11.out 0).trans rfl,(zA BK11.out 3).trans rfl,(zA BK11.out 2).trans rfl⟩ (fun hHeld=>?_);clear hK K;refine no_ (some 51) ?_;refine jI (i:=11) (N:=some 52) (v:=.int .i64 (C-(B.size:Int)-q.mult)) (bb 15 4095) rfl rfl (by kernel_rfl) (fun _ _ _ h=>h) (Or.inl ⟨by rfl,fun w'=>by first|(go_simp;done)|(go_simp;rw[yY,hw11];done)|(go_simp;rw[yY,hw11];rfl)⟩) (by simp only[Act.put,List.setIfInBounds_toArray,List.set_cons_zero,List.set_cons_succ];rfl) ?_;refine zcJ (i:=12) (j:=13) (Ni:=some 53) (Nj:=some 13) (bb 15 8191) (bb 15 12287) rfl rfl rfl rfl (by kernel_rfl) (by decide) (by decide) (fun K hK=>?_) (fun K hK=>?_)
    ·skip
     refine gq_ Tryz.func29 #[.bool v.1,.string (A++B),.int .i64 (C-(B.size:Int)-q.mult)] ?_;refine (yH.calls km v.1 (A++B) (C-(B.size:Int)-q.mult) v.1 v.2.1 v.2.2.1 _ HX.out).mono ?_;rintro e9 w' ⟨rfl,hb⟩;refine⟨_,rfl,?_⟩;replace BK7:=zC BK7 hb;replace BK9:=zC BK9 hb;replace BK11:=zC BK11 hb;replace HRR:=K_ (HRR.out.below hb);replace HB:=zF HB hb;clear hb hHeld;refine hK.out _ _ ⟨BK7.out,(zA BK11.out 0).trans rfl,(zA BK11.out 3).trans rfl,(zA BK11.out 2).trans rfl⟩ (fun hHeld=>?_);clear hK K;refine no_ (some 53) ?_;refine on_ 13 (some 13) (bb 15 16383) (fun K hK=>?_);refine bs_ 13 (#[.bool false,.string (⟨#[]⟩:ByteArray),.int .i64 0]) 23 ?_;intro g13 hg w' hbox hb;have BK13:=K_ hbox;have GE13:=ge_ hg HB;have NB7_13:=nb_ hg BK7;have NB9_13:=nb_ hg BK9;have NB11_13:=nb_ hg BK11;replace BK7:=zC BK7 hb;replace BK9:=zC BK9 hb;replace BK11:=zC BK11 hb;replace HRR:=K_ (HRR.out.below hb);replace HB:=zF HB hb;clear hb hbox hg hHeld;refine hK.out _ _ ⟨BK7.out,(zA BK11.out 0).trans rfl,(zA BK11.out 3).trans rfl,(zA BK11.out 2).trans rfl⟩ (fun hHeld=>?_);clear hK K;refine no_ (some 13) ?_;exact nj_ (hCont g13 _ ⟨BK13.out,NB7_13.out,NB9_13.out,NB11_13.out,GE13.out,BK7.out,BK9.out,BK11.out,HRR.out,HB.out⟩)
    skip
    refine bs_ 13 (#[.bool false,.string (⟨#[]⟩:ByteArray),.int .i64 0]) 23 ?_;intro g13 hg w' hbox hb;have BK13:=K_ hbox;have GE13:=ge_ hg HB;have NB7_13:=nb_ hg BK7;have NB9_13:=nb_ hg BK9;have NB11_13:=nb_ hg BK11;replace BK7:=zC BK7 hb;replace BK9:=zC BK9 hb;replace BK11:=zC BK11 hb;replace HRR:=K_ (HRR.out.below hb);replace HB:=zF HB hb;clear hb hbox hg hHeld;refine hK.out _ _ ⟨BK7.out,(zA BK11.out 0).trans rfl,(zA BK11.out 3).trans rfl,(zA BK11.out 2).trans rfl⟩ (fun hHeld=>?_);clear hK K;refine no_ (some 13) ?_;refine on_ 12 (some 53) (bb 15 16383) (fun K hK=>?_);refine gq_ Tryz.func29 #[.bool v.1,.string (A++B),.int .i64 (C-(B.size:Int)-q.mult)] ?_;refine (yH.calls km v.1 (A++B) (C-(B.size:Int)-q.mult) v.1 v.2.1 v.2.2.1 _ HX.out).mono ?_;rintro e9 w' ⟨rfl,hb⟩;refine⟨_,rfl,?_⟩;replace BK7:=zC BK7 hb;replace BK9:=zC BK9 hb;replace BK11:=zC BK11 hb;replace BK13:=zC BK13 hb;replace HRR:=K_ (HRR.out.below hb);replace HB:=zF HB hb;clear hb hHeld;refine hK.out _ _ ⟨BK7.out,(zA BK11.out 0).trans rfl,(zA BK11.out 3).trans rfl,(zA BK11.out 2).trans rfl⟩ (fun hHeld=>?_);clear hK K;refine no_ (some 53) ?_;exact nj_ (hCont g13 _ ⟨BK13.out,NB7_13.out,NB9_13.out,NB11_13.out,GE13.out,BK7.out,BK9.out,BK11.out,HRR.out,HB.out⟩)
   skip
   refine bs_ 13 (#[.bool false,.string (⟨#[]⟩:ByteArray),.int .i64 0]) 23 ?_;intro g13 hg w' hbox hb;have BK13:=K_ hbox;have GE13:=ge_ hg HB;have NB7_13:=nb_ hg BK7;have NB9_13:=nb_ hg BK9;have NB11_13:=nb_ hg BK11;replace BK7:=zC BK7 hb;replace BK9:=zC BK9 hb;replace BK11:=zC BK11 hb;replace HRR:=K_ (HRR.out.below hb);replace HB:=zF HB hb;clear hb hbox hg hHeld;refine hK.out _ _ ⟨BK7.out,(zA BK11.out 0).trans rfl,(zA BK11.out 3).trans rfl,(zA BK11.out 2).trans rfl⟩ (fun hHeld=>?_);clear hK K;refine no_ (some 13) ?_;refine on_ 10 (some 51) (bb 15 10239) (fun K hK=>?_);refine gq_ Tryz.func24 #[.agg q.cs] ?_;refine (zel q _ (vQ.ok HRR.out HQ.out)).mono ?_;rintro e9 w' ⟨rfl,hb⟩;refine⟨_,rfl,?_⟩;replace BK7:=zC BK7 hb;replace BK9:=zC BK9 hb;replace BK11:=zC BK11 hb;replace BK13:=zC BK13 hb;replace HRR:=K_ (HRR.out.below hb);replace HB:=zF HB hb;clear hb hHeld;refine hK.out _ _ ⟨BK7.out,(zA BK11.out 0).trans rfl,(zA BK11.out 3).trans rfl,(zA BK11.out 2).trans rfl⟩ (fun hHeld=>?_);clear hK K;refine no_ (some 51) ?_;refine jI (i:=11) (N:=some 52) (v:=.int .i64 (C-(B.size:Int)-q.mult)) (bb 15 12287) rfl rfl (by kernel_rfl) (fun _ _ _ h=>h) (Or.inl ⟨by rfl,fun w'=>by first|(go_simp;done)|(go_simp;rw[yY,hw11];done)|(go_simp;rw[yY,hw11];rfl)⟩) (by simp only[Act.put,List.setIfInBounds_toArray,List.set_cons_zero,List.set_cons_succ];rfl) ?_;refine on_ 12 (some 53) (bb 15 16383) (fun K hK=>?_);refine gq_ Tryz.func29 #[.bool v.1,.string (A++B),.int .i64 (C-(B.size:Int)-q.mult)] ?_;refine (yH.calls km v.1 (A++B) (C-(B.size:Int)-q.mult) v.1 v.2.1 v.2.2.1 _ HX.out).mono ?_
   rintro e9 w' ⟨rfl,hb⟩;refine⟨_,rfl,?_⟩;replace BK7:=zC BK7 hb;replace BK9:=zC BK9 hb;replace BK11:=zC BK11 hb;replace BK13:=zC BK13 hb;replace HRR:=K_ (HRR.out.below hb);replace HB:=zF HB hb;clear hb hHeld;refine hK.out _ _ ⟨BK7.out,(zA BK11.out 0).trans rfl,(zA BK11.out 3).trans rfl,(zA BK11.out 2).trans rfl⟩ (fun hHeld=>?_);clear hK K;refine no_ (some 53) ?_;exact nj_ (hCont g13 _ ⟨BK13.out,NB7_13.out,NB9_13.out,NB11_13.out,GE13.out,BK7.out,BK9.out,BK11.out,HRR.out,HB.out⟩)
  case hcj =>
   rintro g13 W8 ⟨hba,hn7,hn9,hn11,hge,hb7,hb9,hb11,hrr,hbw⟩;have BK7:=K_ hb7;have BK9:=K_ hb9;have BK11:=K_ hb11;have HB:=K_ hbw;have HRR:=K_ hrr;have BK13:=K_ hba;have GE13:=K_ hge;have NB7_13:=K_ hn7;have NB9_13:=K_ hn9;have NB11_13:=K_ hn11;clear hba hge hrr hbw hHeld hb7 hn7 hb9 hn9 hb11 hn11;refine np_ ?_;refine on_ 14 none (bb 15 32767) (fun K hK=>?_);refine yL (g:=g13) (cs:=#[.bool false,.string (⟨#[]⟩:ByteArray),.int .i64 0]) (#[.bool v.1,.string v.2.1,.int .i64 v.2.2.1]) BK13 ?_ rfl rfl rfl rfl rfl jL rfl rfl;intro w9 hbk hfar hbel;replace BK7:=K_ (hfar _ _ NB7_13.out BK7.out);replace BK9:=K_ (hfar _ _ NB9_13.out BK9.out);replace BK11:=K_ (hfar _ _ NB11_13.out BK11.out);replace HRR:=K_ (HRR.out.so BK13.out (by decide) hfar);replace BK13:=K_ hbk;replace HB:=K_ (hbel _ _ GE13.out HB.out);refine hK.out _ _ ⟨BK7.out,(zA BK11.out 0).trans rfl,(zA BK11.out 3).trans rfl,(zA BK11.out 2).trans rfl⟩ (fun _=>?_);clear hK K hbk hfar hbel;refine yN (by kernel_rfl) ?_;go_upto_region 10 with (fail)
   have e75:=(show w9.cell? ⟨g7,5,none⟩=some (.int .i64 q.P.mi) from (zA BK7.out 5).trans rfl)
   have e77:=(show w9.cell? ⟨g7,7,none⟩=some (.int .i64 q.P.mf) from (zA BK7.out 7).trans rfl)
   have e78:=(show w9.cell? ⟨g7,8,none⟩=some (.int .i64 q.P.xf) from (zA BK7.out 8).trans rfl)
   have e79:=(show w9.cell? ⟨g7,9,none⟩=some (.int .i64 q.P.ms) from (zA BK7.out 9).trans rfl)
   have e714:=(show w9.cell? ⟨g7,14,none⟩=some (.bool q.P.sci) from (zA BK7.out 14).trans rfl)
   have e111:=(show w9.cell? ⟨g11,1,none⟩=some (.string A) from (zA BK11.out 1).trans rfl)
   have e112:=(show w9.cell? ⟨g11,2,none⟩=some (.string B) from (zA BK11.out 2).trans rfl)
   have e113:=(show w9.cell? ⟨g11,3,none⟩=some (.int .i64 C) from (zA BK11.out 3).trans rfl)
   go_cut [109] from 54 to 109 (fun u wx=>u=.bool false∧wx.heap[g7]?=some (.cells q.cs 26 (0,0))∧wx.heap[g11]?=some (.cells #[.bool v.1,.string A,.string B,.int .i64 C] 36 (0,0))∧vQ q wx w.heap.size∧Below w.heap.size w wx)
   case first =>
    have FA:=HF.out;cases hs:q.P.sci
    ·rw[hs] at e714 FA
     obtain⟨hC,hmi,hfr⟩:=FA.1 rfl;have dC:(C !=0)=false:=by rw[hC];rfl
     have dA:decide ((A.size:Int)<q.P.mi)=false:=decide_eq_false (by omega);clear FA hC hmi;by_cases hms:q.P.ms=0
     ·have dM:(q.P.ms==0)=true:=beq_iff_eq.2 hms
      obtain⟨hf1,hf2⟩:=hfr hms;have d1:decide ((B.size:Int)<q.P.mf)=false:=decide_eq_false (by omega);have d2:decide ((B.size:Int)>q.P.xf)=false:=decide_eq_false (by omega);clear hfr hf1 hf2 hms hs;go_wp2_with (first|((with_reducible refine zE (N:=57) rfl ?_);refine zbK (g:=g13) (cs:=#[.bool v.1,.string v.2.1,.int .i64 v.2.2.1]) _ ⟨BK BK13⟩ ?_ (by rfl) rfl rfl Tryz.underlying23 rfl jL)|((with_reducible refine zE (N:=58) rfl ?_);refine zbK (g:=g9) (cs:=#[.bool v.1,.string v.2.1,.int .i64 v.2.2.1]) _ ⟨BK BK9⟩ ?_ (by rfl) rfl rfl Tryz.underlying23 rfl jL))
      go_meet
      case rel=>exact⟨rfl,BK BK7,BK BK11,HRR.out,BL HB⟩
     have dM:(q.P.ms==0)=false:=beq_eq_false_iff_ne.2 hms;clear hfr hms hs;go_wp2_with (first|((with_reducible refine zE (N:=57) rfl ?_);refine zbK (g:=g13) (cs:=#[.bool v.1,.string v.2.1,.int .i64 v.2.2.1]) _ ⟨BK BK13⟩ ?_ (by rfl) rfl rfl Tryz.underlying23 rfl jL)|((with_reducible refine zE (N:=58) rfl ?_);refine zbK (g:=g9) (cs:=#[.bool v.1,.string v.2.1,.int .i64 v.2.2.1]) _ ⟨BK BK9⟩ ?_ (by rfl) rfl rfl Tryz.underlying23 rfl jL))
     go_meet
     case rel=>exact⟨rfl,BK BK7,BK BK11,HRR.out,BL HB⟩
    rw[hs] at e714;clear FA hs;cases dA:decide ((A.size:Int)<q.P.mi)
    all_goals
     cases dM:(q.P.ms==0)
     all_goals
      go_wp2_with (first|((with_reducible refine zE (N:=57) rfl ?_);refine zbK (g:=g13) (cs:=#[.bool v.1,.string v.2.1,.int .i64 v.2.2.1]) _ ⟨BK BK13⟩ ?_ (by rfl) rfl rfl Tryz.underlying23 rfl jL)|((with_reducible refine zE (N:=58) rfl ?_);refine zbK (g:=g9) (cs:=#[.bool v.1,.string v.2.1,.int .i64 v.2.2.1]) _ ⟨BK BK9⟩ ?_ (by rfl) rfl rfl Tryz.underlying23 rfl jL))
      go_meet
      case rel=>exact⟨rfl,BK BK7,BK BK11,HRR.out,BL HB⟩
   case rest =>
    obtain⟨rfl,hb7,hb11,hrr,hbw⟩:=hcut;replace BK7:=K_ hb7;replace BK11:=K_ hb11;replace HRR:=K_ hrr;replace HB:=K_ hbw;clear hb7 hb11 hrr hbw;clear e75 e714 e77 e78 e79 e111 e112 e113;go_upto_region 12 with (fail)
    go_cut [133] from 110 to 133 (fun u wx=>u=.bool false∧wx.heap[g7]?=some (.cells q.cs 26 (0,0))∧wx.heap[g11]?=some (.cells #[.bool v.1,.string A,.string B,.int .i64 C] 36 (0,0))∧vQ q wx w.heap.size∧Below w.heap.size w wx)
    case first =>
     have FA:=HF.out.2;cases hE:qJ q.P
     ·have HE:∀ W,Aside0 (Calls Tryz.prog 28 #[.agg q.cs] W fun e' w'=>e'=.returned (.bool false)∧Below W.heap.size W w'):=fun W=>⟨by have h:=zcH q W;rw[hE] at h;exact h⟩
      clear FA hE;go_wp2_with (first|((with_reducible refine zE (N:=110) rfl ?_);refine lo_ (g:=g7) (cs:=q.cs) _ ⟨BK BK7⟩ ?_ rfl rfl rfl Tryz.underlying26 rfl jR)|(go_at_call 28;refine ((HE _).out).mono ?_;rintro e9 w' ⟨rfl,hb⟩;replace HRR:=K_ (HRR.out.below hb);replace HB:=zF HB hb;replace BK7:=zC BK7 hb;replace BK11:=zC BK11 hb;clear hb))
      go_meet
      case rel=>exact⟨rfl,BK BK7,BK BK11,HRR.out,BL HB⟩
     have HE:∀ W,Aside0 (Calls Tryz.prog 28 #[.agg q.cs] W fun e' w'=>e'=.returned (.bool true)∧Below W.heap.size W w'):=fun W=>⟨by have h:=zcH q W;rw[hE] at h;exact h⟩
     obtain⟨f1,f2,f3,f4⟩:=FA.1 hE;have dm:(C.tmod q.P.xi !=0)=false:=by rw[f1];rfl
     have d1:decide ((A.size:Int)>q.P.xi)=false:=decide_eq_false (by omega);have d2:decide ((A.size:Int)<1)=false:=decide_eq_false (by omega);have hx0:q.P.xi≠0:=by omega
     clear FA hE f1 f2 f3 f4;go_wp2_with (first|((with_reducible refine zE (N:=110) rfl ?_);refine lo_ (g:=g7) (cs:=q.cs) _ ⟨BK BK7⟩ ?_ rfl rfl rfl Tryz.underlying26 rfl jR)|(go_at_call 28;refine ((HE _).out).mono ?_;rintro e9 w' ⟨rfl,hb⟩;replace HRR:=K_ (HRR.out.below hb);replace HB:=zF HB hb;replace BK7:=zC BK7 hb;replace BK11:=zC BK11 hb;clear hb;have e76:=(show w'.cell? ⟨g7,6,none⟩=some (.int .i64 q.P.xi) from (zA BK7.out 6).trans rfl);have e113:=(show w'.cell? ⟨g11,3,none⟩=some (.int .i64 C) from (zA BK11.out 3).trans rfl);have e111:=(show w'.cell? ⟨g11,1,none⟩=some (.string A) from (zA BK11.out 1).trans rfl)))
     go_meet
     case rel=>exact⟨rfl,BK BK7,BK BK11,HRR.out,BL HB⟩
    case rest =>
     obtain⟨rfl,hb7,hb11,hrr,hbw⟩:=hcut;replace BK7:=K_ hb7;replace BK11:=K_ hb11;replace HRR:=K_ hrr;replace HB:=K_ hbw;clear hb7 hb11 hrr hbw;go_upto_region 14 with (fail)
     cases hs:q.P.sci
     ·skip
      refine yA (n:=28) (S:=fun W=>W.heap[g7]?=some (.cells q.cs 26 (0,0))∧W.cell? ⟨g7,14,none⟩=some (.bool false)∧W.cell? ⟨g7,9,none⟩=some (.int .i64 q.P.ms)∧W.cell? ⟨g11,1,none⟩=some (.string A)) (ds:=[]) #[false,false,false,false,false,false,false,false,false,false,false,false,false,false,false,false,false,false,false,false,false,false,false,false,false,false,false,false] (by kernel_rfl) rfl rfl ⟨BK BK7,(zA (BK BK7) 14).trans (by rw[show q.cs[14]?=some (Value.bool q.P.sci) from rfl,hs]),(zA (BK BK7) 9).trans rfl,(zA (BK BK11) 1).trans rfl⟩ (fun hHeld=>?_);refine jG (fun W=>W.heap[g7]?=some (.cells q.cs 26 (0,0))∧W.heap[g11]?=some (.cells #[.bool v.1,.string A,.string B,.int .i64 C] 36 (0,0))∧vQ q W w.heap.size∧Below w.heap.size w W) ⟨BK BK7,BK BK11,HRR.out.drew,BL HB⟩ ?_;clear hHeld BK7 BK11 HRR HB;rintro W ⟨hb7,hb11,hrr,hbw⟩;have BK7:=K_ hb7;have BK11:=K_ hb11;have HRR:=K_ hrr;have HB:=K_ hbw;clear hb7 hb11 hrr hbw;have hHeld:=(show W.heap[g7]?=some (.cells q.cs 26 (0,0))∧W.cell? ⟨g7,14,none⟩=some (.bool false)∧W.cell? ⟨g7,9,none⟩=some (.int .i64 q.P.ms)∧W.cell? ⟨g11,1,none⟩=some (.string A) from ⟨BK7.out,(zA (BK7.out) 14).trans (by rw[show q.cs[14]?=some (Value.bool q.P.sci) from rfl,hs]),(zA (BK7.out) 9).trans rfl,(zA (BK11.out) 1).trans rfl⟩)
      refine on_ 0 (some 134) (bb 28 1) (fun K hK=>?_);refine gq_ Tryz.func13 #[] ?_;refine (xR _ (Fig.Glob.below HG.out (BL HB))).mono ?_;rintro e9 w' ⟨rfl,hb⟩;refine⟨_,rfl,?_⟩;replace HB:=zF HB hb;replace BK7:=zC BK7 hb;replace BK11:=zC BK11 hb;replace HRR:=K_ (HRR.out.below hb);clear hb;clear hHeld;refine hK.out _ _ ⟨BK7.out,(zA (BK7.out) 14).trans (by rw[show q.cs[14]?=some (Value.bool q.P.sci) from rfl,hs]),(zA (BK7.out) 9).trans rfl,(zA (BK11.out) 1).trans rfl⟩ (fun hHeld=>?_);clear hK K;refine no_ (some 134) ?_;refine pw_ 1 135 (bb 28 3) ?_;refine pw_ 2 136 (bb 28 7) ?_;refine tw_ 3 137 (bb 28 15) hHeld ?_;refine pw_ 4 138 (bb 28 31) ?_;refine pw_ 5 139 (bb 28 63) ?_;refine jI (i:=6) (N:=some 140) (v:=undef) (bb 28 127) rfl rfl (by kernel_rfl) (fun _ _ _ h=>h) (Or.inr ⟨by rfl,rfl⟩) (by simp only[Act.put,List.setIfInBounds_toArray,List.set_cons_zero,List.set_cons_succ];rfl) ?_;refine jI (i:=7) (N:=some 141) (v:=undef) (bb 28 255) rfl rfl (by kernel_rfl) (fun _ _ _ h=>h) (Or.inr ⟨by rfl,rfl⟩) (by simp only[Act.put,List.setIfInBounds_toArray,List.set_cons_zero,List.set_cons_succ];rfl) ?_;refine pw_ 8 142 (bb 28 511) ?_;refine pw_ 9 143 (bb 28 1023) ?_;refine jI (i:=10) (N:=some 144) (v:=undef) (bb 28 2047) rfl rfl (by kernel_rfl) (fun _ _ _ h=>h) (Or.inr ⟨by rfl,rfl⟩) (by simp only[Act.put,List.setIfInBounds_toArray,List.set_cons_zero,List.set_cons_succ];rfl) ?_;refine jI (i:=11) (N:=some 145) (v:=undef) (bb 28 4095) rfl rfl (by kernel_rfl) (fun _ _ _ h=>h) (Or.inr ⟨by rfl,rfl⟩) (by simp only[Act.put,List.setIfInBounds_toArray,List.set_cons_zero,List.set_cons_succ];rfl) ?_
      refine jI (i:=12) (N:=some 146) (v:=undef) (bb 28 8191) rfl rfl (by kernel_rfl) (fun _ _ _ h=>h) (Or.inr ⟨by rfl,rfl⟩) (by simp only[Act.put,List.setIfInBounds_toArray,List.set_cons_zero,List.set_cons_succ];rfl) ?_;refine pw_ 13 147 (bb 28 16383) ?_;refine pw_ 14 148 (bb 28 32767) ?_;refine jI (i:=15) (N:=some 149) (v:=undef) (bb 28 65535) rfl rfl (by kernel_rfl) (fun _ _ _ h=>h) (Or.inr ⟨by rfl,rfl⟩) (by simp only[Act.put,List.setIfInBounds_toArray,List.set_cons_zero,List.set_cons_succ];rfl) ?_;refine jI (i:=16) (N:=some 150) (v:=undef) (bb 28 131071) rfl rfl (by kernel_rfl) (fun _ _ _ h=>h) (Or.inr ⟨by rfl,rfl⟩) (by simp only[Act.put,List.setIfInBounds_toArray,List.set_cons_zero,List.set_cons_succ];rfl) ?_;refine jI (i:=17) (N:=some 151) (v:=undef) (bb 28 262143) rfl rfl (by kernel_rfl) (fun _ _ _ h=>h) (Or.inr ⟨by rfl,rfl⟩) (by simp only[Act.put,List.setIfInBounds_toArray,List.set_cons_zero,List.set_cons_succ];rfl) ?_;refine jI (i:=18) (N:=some 152) (v:=undef) (bb 28 524287) rfl rfl (by kernel_rfl) (fun _ _ _ h=>h) (Or.inr ⟨by rfl,rfl⟩) (by simp only[Act.put,List.setIfInBounds_toArray,List.set_cons_zero,List.set_cons_succ];rfl) ?_;refine jI (i:=19) (N:=some 153) (v:=undef) (bb 28 1048575) rfl rfl (by kernel_rfl) (fun _ _ _ h=>h) (Or.inr ⟨by rfl,rfl⟩) (by simp only[Act.put,List.setIfInBounds_toArray,List.set_cons_zero,List.set_cons_succ];rfl) ?_;refine jI (i:=20) (N:=some 154) (v:=undef) (bb 28 2097151) rfl rfl (by kernel_rfl) (fun _ _ _ h=>h) (Or.inr ⟨by rfl,rfl⟩) (by simp only[Act.put,List.setIfInBounds_toArray,List.set_cons_zero,List.set_cons_succ];rfl) ?_
      refine pw_ 21 155 (bb 28 4194303) ?_;refine pw_ 22 156 (bb 28 8388607) ?_;refine jI (i:=23) (N:=some 157) (v:=undef) (bb 28 16777215) rfl rfl (by kernel_rfl) (fun _ _ _ h=>h) (Or.inr ⟨by rfl,rfl⟩) (by simp only[Act.put,List.setIfInBounds_toArray,List.set_cons_zero,List.set_cons_succ];rfl) ?_;refine jI (i:=24) (N:=some 158) (v:=undef) (bb 28 33554431) rfl rfl (by kernel_rfl) (fun _ _ _ h=>h) (Or.inr ⟨by rfl,rfl⟩) (by simp only[Act.put,List.setIfInBounds_toArray,List.set_cons_zero,List.set_cons_succ];rfl) ?_;refine pw_ 25 159 (bb 28 67108863) ?_;refine pw_ 26 160 (bb 28 134217727) ?_;refine pw_ 27 6 (bb 28 268435455) ?_;refine yN (by kernel_rfl) ?_;go_wp2_with (fail)
      go_ret
      exact⟨rfl,BL HB⟩
     cases hE:qJ q.P
     ·have HE:∀ W,Aside0 (Calls Tryz.prog 28 #[.agg q.cs] W fun e' w'=>e'=.returned (.bool false)∧Below W.heap.size W w'):=fun W=>⟨by have h:=zcH q W;rw[hE] at h;exact h⟩
      by_cases hms:q.P.ms>0
      ·have dM:decide (q.P.ms>0)=true:=decide_eq_true hms
       clear hms;refine yA (n:=28) (S:=fun W=>W.heap[g7]?=some (.cells q.cs 26 (0,0))∧W.cell? ⟨g7,14,none⟩=some (.bool true)∧W.cell? ⟨g7,9,none⟩=some (.int .i64 q.P.ms)∧W.cell? ⟨g11,1,none⟩=some (.string A)) (ds:=[]) #[false,false,false,false,false,false,false,false,false,false,false,false,false,false,false,false,false,false,false,false,false,false,false,false,false,false,false,false] (by kernel_rfl) rfl rfl ⟨BK BK7,(zA (BK BK7) 14).trans (by rw[show q.cs[14]?=some (Value.bool q.P.sci) from rfl,hs]),(zA (BK BK7) 9).trans rfl,(zA (BK BK11) 1).trans rfl⟩ (fun hHeld=>?_);refine jG (fun W=>W.heap[g7]?=some (.cells q.cs 26 (0,0))∧W.heap[g11]?=some (.cells #[.bool v.1,.string A,.string B,.int .i64 C] 36 (0,0))∧vQ q W w.heap.size∧Below w.heap.size w W) ⟨BK BK7,BK BK11,HRR.out.drew,BL HB⟩ ?_;clear hHeld BK7 BK11 HRR HB;rintro W ⟨hb7,hb11,hrr,hbw⟩;have BK7:=K_ hb7;have BK11:=K_ hb11;have HRR:=K_ hrr;have HB:=K_ hbw;clear hb7 hb11 hrr hbw;have hHeld:=(show W.heap[g7]?=some (.cells q.cs 26 (0,0))∧W.cell? ⟨g7,14,none⟩=some (.bool true)∧W.cell? ⟨g7,9,none⟩=some (.int .i64 q.P.ms)∧W.cell? ⟨g11,1,none⟩=some (.string A) from ⟨BK7.out,(zA (BK7.out) 14).trans (by rw[show q.cs[14]?=some (Value.bool q.P.sci) from rfl,hs]),(zA (BK7.out) 9).trans rfl,(zA (BK11.out) 1).trans rfl⟩)
       refine on_ 0 (some 134) (bb 28 1) (fun K hK=>?_);refine gq_ Tryz.func13 #[] ?_;refine (xR _ (Fig.Glob.below HG.out (BL HB))).mono ?_;rintro e9 w' ⟨rfl,hb⟩;refine⟨_,rfl,?_⟩;replace HB:=zF HB hb;replace BK7:=zC BK7 hb;replace BK11:=zC BK11 hb;replace HRR:=K_ (HRR.out.below hb);clear hb;clear hHeld;refine hK.out _ _ ⟨BK7.out,(zA (BK7.out) 14).trans (by rw[show q.cs[14]?=some (Value.bool q.P.sci) from rfl,hs]),(zA (BK7.out) 9).trans rfl,(zA (BK11.out) 1).trans rfl⟩ (fun hHeld=>?_);clear hK K;refine no_ (some 134) ?_;refine pw_ 1 135 (bb 28 3) ?_;refine pw_ 2 136 (bb 28 7) ?_;refine tw_ 3 137 (bb 28 15) hHeld ?_;refine pw_ 4 138 (bb 28 31) ?_;refine pw_ 5 139 (bb 28 63) ?_;refine tr_ 6 140 (bb 28 127) (q.cs) (fun _ hs=>⟨hs.1⟩) Tryz.underlying26 jR hHeld ?_;refine on_ 7 (some 141) (bb 28 255) (fun K hK=>?_);refine gq_ Tryz.func28 #[.agg q.cs] ?_;refine ((HE _).out).mono ?_;rintro e9 w' ⟨rfl,hb⟩;refine⟨_,rfl,?_⟩;replace HB:=zF HB hb;replace BK7:=zC BK7 hb;replace BK11:=zC BK11 hb;replace HRR:=K_ (HRR.out.below hb);clear hb;clear hHeld;refine hK.out _ _ ⟨BK7.out,(zA (BK7.out) 14).trans (by rw[show q.cs[14]?=some (Value.bool q.P.sci) from rfl,hs]),(zA (BK7.out) 9).trans rfl,(zA (BK11.out) 1).trans rfl⟩ (fun hHeld=>?_);clear hK K;refine no_ (some 141) ?_;refine pw_ 8 142 (bb 28 511) ?_;refine pw_ 9 143 (bb 28 1023) ?_;refine pw_ 10 144 (bb 28 2047) ?_;refine tw_ 11 145 (bb 28 4095) hHeld ?_;refine jI (i:=12) (N:=some 146) (v:=.bool true) (bb 28 8191) rfl rfl (by kernel_rfl) (fun _ _ _ h=>h) (Or.inl ⟨by rfl,fun w'=>by first|(go_simp;done)|(go_simp;rw[dM];done)|(go_simp;rw[dM];rfl)|(go_simp;simp[dM];done)⟩) (by simp only[Act.put,List.setIfInBounds_toArray,List.set_cons_zero,List.set_cons_succ];rfl) ?_
       refine pw_ 13 147 (bb 28 16383) ?_;refine pw_ 14 148 (bb 28 32767) ?_;refine jI (i:=15) (N:=some 149) (v:=undef) (bb 28 65535) rfl rfl (by kernel_rfl) (fun _ _ _ h=>h) (Or.inr ⟨by rfl,rfl⟩) (by simp only[Act.put,List.setIfInBounds_toArray,List.set_cons_zero,List.set_cons_succ];rfl) ?_;refine jI (i:=16) (N:=some 150) (v:=undef) (bb 28 131071) rfl rfl (by kernel_rfl) (fun _ _ _ h=>h) (Or.inr ⟨by rfl,rfl⟩) (by simp only[Act.put,List.setIfInBounds_toArray,List.set_cons_zero,List.set_cons_succ];rfl) ?_;refine jI (i:=17) (N:=some 151) (v:=undef) (bb 28 262143) rfl rfl (by kernel_rfl) (fun _ _ _ h=>h) (Or.inr ⟨by rfl,rfl⟩) (by simp only[Act.put,List.setIfInBounds_toArray,List.set_cons_zero,List.set_cons_succ];rfl) ?_;refine jI (i:=18) (N:=some 152) (v:=undef) (bb 28 524287) rfl rfl (by kernel_rfl) (fun _ _ _ h=>h) (Or.inr ⟨by rfl,rfl⟩) (by simp only[Act.put,List.setIfInBounds_toArray,List.set_cons_zero,List.set_cons_succ];rfl) ?_;refine jI (i:=19) (N:=some 153) (v:=undef) (bb 28 1048575) rfl rfl (by kernel_rfl) (fun _ _ _ h=>h) (Or.inr ⟨by rfl,rfl⟩) (by simp only[Act.put,List.setIfInBounds_toArray,List.set_cons_zero,List.set_cons_succ];rfl) ?_;refine jI (i:=20) (N:=some 154) (v:=undef) (bb 28 2097151) rfl rfl (by kernel_rfl) (fun _ _ _ h=>h) (Or.inr ⟨by rfl,rfl⟩) (by simp only[Act.put,List.setIfInBounds_toArray,List.set_cons_zero,List.set_cons_succ];rfl) ?_;refine pw_ 21 155 (bb 28 4194303) ?_;refine pw_ 22 156 (bb 28 8388607) ?_;refine jI (i:=23) (N:=some 157) (v:=undef) (bb 28 16777215) rfl rfl (by kernel_rfl) (fun _ _ _ h=>h) (Or.inr ⟨by rfl,rfl⟩) (by simp only[Act.put,List.setIfInBounds_toArray,List.set_cons_zero,List.set_cons_succ];rfl) ?_
       refine jI (i:=24) (N:=some 158) (v:=undef) (bb 28 33554431) rfl rfl (by kernel_rfl) (fun _ _ _ h=>h) (Or.inr ⟨by rfl,rfl⟩) (by simp only[Act.put,List.setIfInBounds_toArray,List.set_cons_zero,List.set_cons_succ];rfl) ?_;refine pw_ 25 159 (bb 28 67108863) ?_;refine pw_ 26 160 (bb 28 134217727) ?_;refine pw_ 27 6 (bb 28 268435455) ?_;refine yN (by kernel_rfl) ?_;go_wp2_with (fail)
       go_ret
       exact⟨rfl,BL HB⟩
      have dM:decide (q.P.ms>0)=false:=decide_eq_false hms;have hms0:q.P.ms=0:=by have:=HQ.out.good.ms0;omega
      by_cases hW:(A.size:Int)=jV q.P
      ·have dW:((A.size:Int)==jV q.P)=true:=beq_iff_eq.2 hW
       clear hms hms0 hW;refine yA (n:=28) (S:=fun W=>W.heap[g7]?=some (.cells q.cs 26 (0,0))∧W.cell? ⟨g7,14,none⟩=some (.bool true)∧W.cell? ⟨g7,9,none⟩=some (.int .i64 q.P.ms)∧W.cell? ⟨g11,1,none⟩=some (.string A)) (ds:=[]) #[false,false,false,false,false,false,false,false,false,false,false,false,false,false,false,false,false,false,false,false,false,false,false,false,false,false,false,false] (by kernel_rfl) rfl rfl ⟨BK BK7,(zA (BK BK7) 14).trans (by rw[show q.cs[14]?=some (Value.bool q.P.sci) from rfl,hs]),(zA (BK BK7) 9).trans rfl,(zA (BK BK11) 1).trans rfl⟩ (fun hHeld=>?_);refine jG (fun W=>W.heap[g7]?=some (.cells q.cs 26 (0,0))∧W.heap[g11]?=some (.cells #[.bool v.1,.string A,.string B,.int .i64 C] 36 (0,0))∧vQ q W w.heap.size∧Below w.heap.size w W) ⟨BK BK7,BK BK11,HRR.out.drew,BL HB⟩ ?_;clear hHeld BK7 BK11 HRR HB;rintro W ⟨hb7,hb11,hrr,hbw⟩;have BK7:=K_ hb7;have BK11:=K_ hb11;have HRR:=K_ hrr;have HB:=K_ hbw;clear hb7 hb11 hrr hbw;have hHeld:=(show W.heap[g7]?=some (.cells q.cs 26 (0,0))∧W.cell? ⟨g7,14,none⟩=some (.bool true)∧W.cell? ⟨g7,9,none⟩=some (.int .i64 q.P.ms)∧W.cell? ⟨g11,1,none⟩=some (.string A) from ⟨BK7.out,(zA (BK7.out) 14).trans (by rw[show q.cs[14]?=some (Value.bool q.P.sci) from rfl,hs]),(zA (BK7.out) 9).trans rfl,(zA (BK11.out) 1).trans rfl⟩)
       refine on_ 0 (some 134) (bb 28 1) (fun K hK=>?_);refine gq_ Tryz.func13 #[] ?_;refine (xR _ (Fig.Glob.below HG.out (BL HB))).mono ?_;rintro e9 w' ⟨rfl,hb⟩;refine⟨_,rfl,?_⟩;replace HB:=zF HB hb;replace BK7:=zC BK7 hb;replace BK11:=zC BK11 hb;replace HRR:=K_ (HRR.out.below hb);clear hb;clear hHeld;refine hK.out _ _ ⟨BK7.out,(zA (BK7.out) 14).trans (by rw[show q.cs[14]?=some (Value.bool q.P.sci) from rfl,hs]),(zA (BK7.out) 9).trans rfl,(zA (BK11.out) 1).trans rfl⟩ (fun hHeld=>?_);clear hK K;refine no_ (some 134) ?_;refine pw_ 1 135 (bb 28 3) ?_;refine pw_ 2 136 (bb 28 7) ?_;refine tw_ 3 137 (bb 28 15) hHeld ?_;refine pw_ 4 138 (bb 28 31) ?_;refine pw_ 5 139 (bb 28 63) ?_;refine tr_ 6 140 (bb 28 127) (q.cs) (fun _ hs=>⟨hs.1⟩) Tryz.underlying26 jR hHeld ?_;refine on_ 7 (some 141) (bb 28 255) (fun K hK=>?_);refine gq_ Tryz.func28 #[.agg q.cs] ?_;refine ((HE _).out).mono ?_;rintro e9 w' ⟨rfl,hb⟩;refine⟨_,rfl,?_⟩;replace HB:=zF HB hb;replace BK7:=zC BK7 hb;replace BK11:=zC BK11 hb;replace HRR:=K_ (HRR.out.below hb);clear hb;clear hHeld;refine hK.out _ _ ⟨BK7.out,(zA (BK7.out) 14).trans (by rw[show q.cs[14]?=some (Value.bool q.P.sci) from rfl,hs]),(zA (BK7.out) 9).trans rfl,(zA (BK11.out) 1).trans rfl⟩ (fun hHeld=>?_);clear hK K;refine no_ (some 141) ?_;refine pw_ 8 142 (bb 28 511) ?_;refine pw_ 9 143 (bb 28 1023) ?_;refine pw_ 10 144 (bb 28 2047) ?_;refine tw_ 11 145 (bb 28 4095) hHeld ?_;refine jI (i:=12) (N:=some 146) (v:=.bool false) (bb 28 8191) rfl rfl (by kernel_rfl) (fun _ _ _ h=>h) (Or.inl ⟨by rfl,fun w'=>by first|(go_simp;done)|(go_simp;rw[dM];done)|(go_simp;rw[dM];rfl)|(go_simp;simp[dM];done)⟩) (by simp only[Act.put,List.setIfInBounds_toArray,List.set_cons_zero,List.set_cons_succ];rfl) ?_
       refine pw_ 13 147 (bb 28 16383) ?_;refine pw_ 14 148 (bb 28 32767) ?_;refine pw_ 15 149 (bb 28 65535) ?_;refine tw_ 16 150 (bb 28 131071) hHeld ?_;refine pw_ 17 151 (bb 28 262143) ?_;refine tr_ 18 152 (bb 28 524287) (q.cs) (fun _ hs=>⟨hs.1⟩) Tryz.underlying26 jR hHeld ?_;refine on_ 19 (some 153) (bb 28 1048575) (fun K hK=>?_);refine gq_ Tryz.func30 #[.agg q.cs] ?_;refine (zdC q HQ.out.good _).mono ?_;rintro e9 w' ⟨rfl,hb⟩;refine⟨_,rfl,?_⟩;replace HB:=zF HB hb;replace BK7:=zC BK7 hb;replace BK11:=zC BK11 hb;replace HRR:=K_ (HRR.out.below hb);clear hb;clear hHeld;refine hK.out _ _ ⟨BK7.out,(zA (BK7.out) 14).trans (by rw[show q.cs[14]?=some (Value.bool q.P.sci) from rfl,hs]),(zA (BK7.out) 9).trans rfl,(zA (BK11.out) 1).trans rfl⟩ (fun hHeld=>?_);clear hK K;refine no_ (some 153) ?_;refine jI (i:=20) (N:=some 154) (v:=.bool true) (bb 28 2097151) rfl rfl (by kernel_rfl) (fun _ _ _ h=>h) (Or.inl ⟨by rfl,fun w'=>by first|(go_simp;done)|(go_simp;rw[dW];done)|(go_simp;rw[dW];rfl)|(go_simp;simp[dW];done)⟩) (by simp only[Act.put,List.setIfInBounds_toArray,List.set_cons_zero,List.set_cons_succ];rfl) ?_;refine pw_ 21 155 (bb 28 4194303) ?_;refine pw_ 22 156 (bb 28 8388607) ?_;refine jI (i:=23) (N:=some 157) (v:=undef) (bb 28 16777215) rfl rfl (by kernel_rfl) (fun _ _ _ h=>h) (Or.inr ⟨by rfl,rfl⟩) (by simp only[Act.put,List.setIfInBounds_toArray,List.set_cons_zero,List.set_cons_succ];rfl) ?_;refine jI (i:=24) (N:=some 158) (v:=undef) (bb 28 33554431) rfl rfl (by kernel_rfl) (fun _ _ _ h=>h) (Or.inr ⟨by rfl,rfl⟩) (by simp only[Act.put,List.setIfInBounds_toArray,List.set_cons_zero,List.set_cons_succ];rfl) ?_
       refine pw_ 25 159 (bb 28 67108863) ?_;refine pw_ 26 160 (bb 28 134217727) ?_;refine pw_ 27 6 (bb 28 268435455) ?_;refine yN (by kernel_rfl) ?_;go_wp2_with (fail)
       go_ret
       exact⟨rfl,BL HB⟩
      have dW:((A.size:Int)==jV q.P)=false:=beq_eq_false_iff_ne.2 hW;have hT:=(HF.out.2.2 hs hE hms0).resolve_left hW;have dT:(A++B).toList=[48]:=by rw[hT,ByteArray.toList_eq]
      clear hms hms0 hW hT;refine yA (n:=28) (S:=fun W=>W.heap[g7]?=some (.cells q.cs 26 (0,0))∧W.cell? ⟨g7,14,none⟩=some (.bool true)∧W.cell? ⟨g7,9,none⟩=some (.int .i64 q.P.ms)∧W.cell? ⟨g11,1,none⟩=some (.string A)) (ds:=[]) #[false,false,false,false,false,false,false,false,false,false,false,false,false,false,false,false,false,false,false,false,false,false,false,false,false,false,false,false] (by kernel_rfl) rfl rfl ⟨BK BK7,(zA (BK BK7) 14).trans (by rw[show q.cs[14]?=some (Value.bool q.P.sci) from rfl,hs]),(zA (BK BK7) 9).trans rfl,(zA (BK BK11) 1).trans rfl⟩ (fun hHeld=>?_);refine jG (fun W=>W.heap[g7]?=some (.cells q.cs 26 (0,0))∧W.heap[g11]?=some (.cells #[.bool v.1,.string A,.string B,.int .i64 C] 36 (0,0))∧vQ q W w.heap.size∧Below w.heap.size w W) ⟨BK BK7,BK BK11,HRR.out.drew,BL HB⟩ ?_;clear hHeld BK7 BK11 HRR HB;rintro W ⟨hb7,hb11,hrr,hbw⟩;have BK7:=K_ hb7;have BK11:=K_ hb11;have HRR:=K_ hrr;have HB:=K_ hbw;clear hb7 hb11 hrr hbw;have hHeld:=(show W.heap[g7]?=some (.cells q.cs 26 (0,0))∧W.cell? ⟨g7,14,none⟩=some (.bool true)∧W.cell? ⟨g7,9,none⟩=some (.int .i64 q.P.ms)∧W.cell? ⟨g11,1,none⟩=some (.string A) from ⟨BK7.out,(zA (BK7.out) 14).trans (by rw[show q.cs[14]?=some (Value.bool q.P.sci) from rfl,hs]),(zA (BK7.out) 9).trans rfl,(zA (BK11.out) 1).trans rfl⟩)
      refine on_ 0 (some 134) (bb 28 1) (fun K hK=>?_);refine gq_ Tryz.func13 #[] ?_;refine (xR _ (Fig.Glob.below HG.out (BL HB))).mono ?_;rintro e9 w' ⟨rfl,hb⟩;refine⟨_,rfl,?_⟩;replace HB:=zF HB hb;replace BK7:=zC BK7 hb;replace BK11:=zC BK11 hb;replace HRR:=K_ (HRR.out.below hb);clear hb;clear hHeld;refine hK.out _ _ ⟨BK7.out,(zA (BK7.out) 14).trans (by rw[show q.cs[14]?=some (Value.bool q.P.sci) from rfl,hs]),(zA (BK7.out) 9).trans rfl,(zA (BK11.out) 1).trans rfl⟩ (fun hHeld=>?_);clear hK K;refine no_ (some 134) ?_;refine pw_ 1 135 (bb 28 3) ?_;refine pw_ 2 136 (bb 28 7) ?_;refine tw_ 3 137 (bb 28 15) hHeld ?_;refine pw_ 4 138 (bb 28 31) ?_;refine pw_ 5 139 (bb 28 63) ?_;refine tr_ 6 140 (bb 28 127) (q.cs) (fun _ hs=>⟨hs.1⟩) Tryz.underlying26 jR hHeld ?_;refine on_ 7 (some 141) (bb 28 255) (fun K hK=>?_);refine gq_ Tryz.func28 #[.agg q.cs] ?_;refine ((HE _).out).mono ?_;rintro e9 w' ⟨rfl,hb⟩;refine⟨_,rfl,?_⟩;replace HB:=zF HB hb;replace BK7:=zC BK7 hb;replace BK11:=zC BK11 hb;replace HRR:=K_ (HRR.out.below hb);clear hb;clear hHeld;refine hK.out _ _ ⟨BK7.out,(zA (BK7.out) 14).trans (by rw[show q.cs[14]?=some (Value.bool q.P.sci) from rfl,hs]),(zA (BK7.out) 9).trans rfl,(zA (BK11.out) 1).trans rfl⟩ (fun hHeld=>?_);clear hK K;refine no_ (some 141) ?_;refine pw_ 8 142 (bb 28 511) ?_;refine pw_ 9 143 (bb 28 1023) ?_;refine pw_ 10 144 (bb 28 2047) ?_;refine tw_ 11 145 (bb 28 4095) hHeld ?_;refine jI (i:=12) (N:=some 146) (v:=.bool false) (bb 28 8191) rfl rfl (by kernel_rfl) (fun _ _ _ h=>h) (Or.inl ⟨by rfl,fun w'=>by first|(go_simp;done)|(go_simp;rw[dM];done)|(go_simp;rw[dM];rfl)|(go_simp;simp[dM];done)⟩) (by simp only[Act.put,List.setIfInBounds_toArray,List.set_cons_zero,List.set_cons_succ];rfl) ?_
      refine pw_ 13 147 (bb 28 16383) ?_;refine pw_ 14 148 (bb 28 32767) ?_;refine pw_ 15 149 (bb 28 65535) ?_;refine tw_ 16 150 (bb 28 131071) hHeld ?_;refine pw_ 17 151 (bb 28 262143) ?_;refine tr_ 18 152 (bb 28 524287) (q.cs) (fun _ hs=>⟨hs.1⟩) Tryz.underlying26 jR hHeld ?_;refine on_ 19 (some 153) (bb 28 1048575) (fun K hK=>?_);refine gq_ Tryz.func30 #[.agg q.cs] ?_;refine (zdC q HQ.out.good _).mono ?_;rintro e9 w' ⟨rfl,hb⟩;refine⟨_,rfl,?_⟩;replace HB:=zF HB hb;replace BK7:=zC BK7 hb;replace BK11:=zC BK11 hb;replace HRR:=K_ (HRR.out.below hb);clear hb;clear hHeld;refine hK.out _ _ ⟨BK7.out,(zA (BK7.out) 14).trans (by rw[show q.cs[14]?=some (Value.bool q.P.sci) from rfl,hs]),(zA (BK7.out) 9).trans rfl,(zA (BK11.out) 1).trans rfl⟩ (fun hHeld=>?_);clear hK K;refine no_ (some 153) ?_;refine jI (i:=20) (N:=some 154) (v:=.bool false) (bb 28 2097151) rfl rfl (by kernel_rfl) (fun _ _ _ h=>h) (Or.inl ⟨by rfl,fun w'=>by first|(go_simp;done)|(go_simp;rw[dW];done)|(go_simp;rw[dW];rfl)|(go_simp;simp[dW];done)⟩) (by simp only[Act.put,List.setIfInBounds_toArray,List.set_cons_zero,List.set_cons_succ];rfl) ?_;refine pw_ 21 155 (bb 28 4194303) ?_;refine pw_ 22 156 (bb 28 8388607) ?_;refine pw_ 23 157 (bb 28 16777215) ?_;refine jI (i:=24) (N:=some 158) (v:=.bool true) (bb 28 33554431) rfl rfl (by kernel_rfl) (fun _ _ _ h=>h) (Or.inl ⟨by rfl,fun w'=>by first|(go_simp;done)|(go_simp;rw[dT];done)|(go_simp;rw[dT];rfl)|(go_simp;simp[dT];done)⟩) (by simp only[Act.put,List.setIfInBounds_toArray,List.set_cons_zero,List.set_cons_succ];rfl) ?_
      refine pw_ 25 159 (bb 28 67108863) ?_;refine pw_ 26 160 (bb 28 134217727) ?_;refine pw_ 27 6 (bb 28 268435455) ?_;refine yN (by kernel_rfl) ?_;go_wp2_with (fail)
      go_ret
      exact⟨rfl,BL HB⟩
     have HE:∀ W,Aside0 (Calls Tryz.prog 28 #[.agg q.cs] W fun e' w'=>e'=.returned (.bool true)∧Below W.heap.size W w'):=fun W=>⟨by have h:=zcH q W;rw[hE] at h;exact h⟩
     refine yA (n:=28) (S:=fun W=>W.heap[g7]?=some (.cells q.cs 26 (0,0))∧W.cell? ⟨g7,14,none⟩=some (.bool true)∧W.cell? ⟨g7,9,none⟩=some (.int .i64 q.P.ms)∧W.cell? ⟨g11,1,none⟩=some (.string A)) (ds:=[]) #[false,false,false,false,false,false,false,false,false,false,false,false,false,false,false,false,false,false,false,false,false,false,false,false,false,false,false,false] (by kernel_rfl) rfl rfl ⟨BK BK7,(zA (BK BK7) 14).trans (by rw[show q.cs[14]?=some (Value.bool q.P.sci) from rfl,hs]),(zA (BK BK7) 9).trans rfl,(zA (BK BK11) 1).trans rfl⟩ (fun hHeld=>?_);refine jG (fun W=>W.heap[g7]?=some (.cells q.cs 26 (0,0))∧W.heap[g11]?=some (.cells #[.bool v.1,.string A,.string B,.int .i64 C] 36 (0,0))∧vQ q W w.heap.size∧Below w.heap.size w W) ⟨BK BK7,BK BK11,HRR.out.drew,BL HB⟩ ?_;clear hHeld BK7 BK11 HRR HB;rintro W ⟨hb7,hb11,hrr,hbw⟩;have BK7:=K_ hb7;have BK11:=K_ hb11;have HRR:=K_ hrr;have HB:=K_ hbw;clear hb7 hb11 hrr hbw;have hHeld:=(show W.heap[g7]?=some (.cells q.cs 26 (0,0))∧W.cell? ⟨g7,14,none⟩=some (.bool true)∧W.cell? ⟨g7,9,none⟩=some (.int .i64 q.P.ms)∧W.cell? ⟨g11,1,none⟩=some (.string A) from ⟨BK7.out,(zA (BK7.out) 14).trans (by rw[show q.cs[14]?=some (Value.bool q.P.sci) from rfl,hs]),(zA (BK7.out) 9).trans rfl,(zA (BK11.out) 1).trans rfl⟩)
     refine on_ 0 (some 134) (bb 28 1) (fun K hK=>?_);refine gq_ Tryz.func13 #[] ?_;refine (xR _ (Fig.Glob.below HG.out (BL HB))).mono ?_;rintro e9 w' ⟨rfl,hb⟩;refine⟨_,rfl,?_⟩;replace HB:=zF HB hb;replace BK7:=zC BK7 hb;replace BK11:=zC BK11 hb;replace HRR:=K_ (HRR.out.below hb);clear hb;clear hHeld;refine hK.out _ _ ⟨BK7.out,(zA (BK7.out) 14).trans (by rw[show q.cs[14]?=some (Value.bool q.P.sci) from rfl,hs]),(zA (BK7.out) 9).trans rfl,(zA (BK11.out) 1).trans rfl⟩ (fun hHeld=>?_);clear hK K;refine no_ (some 134) ?_;refine pw_ 1 135 (bb 28 3) ?_;refine pw_ 2 136 (bb 28 7) ?_;refine tw_ 3 137 (bb 28 15) hHeld ?_;refine pw_ 4 138 (bb 28 31) ?_;refine pw_ 5 139 (bb 28 63) ?_;refine tr_ 6 140 (bb 28 127) (q.cs) (fun _ hs=>⟨hs.1⟩) Tryz.underlying26 jR hHeld ?_;refine on_ 7 (some 141) (bb 28 255) (fun K hK=>?_);refine gq_ Tryz.func28 #[.agg q.cs] ?_;refine ((HE _).out).mono ?_;rintro e9 w' ⟨rfl,hb⟩;refine⟨_,rfl,?_⟩;replace HB:=zF HB hb;replace BK7:=zC BK7 hb;replace BK11:=zC BK11 hb;replace HRR:=K_ (HRR.out.below hb);clear hb;clear hHeld;refine hK.out _ _ ⟨BK7.out,(zA (BK7.out) 14).trans (by rw[show q.cs[14]?=some (Value.bool q.P.sci) from rfl,hs]),(zA (BK7.out) 9).trans rfl,(zA (BK11.out) 1).trans rfl⟩ (fun hHeld=>?_);clear hK K;refine no_ (some 141) ?_;refine pw_ 8 142 (bb 28 511) ?_;refine pw_ 9 143 (bb 28 1023) ?_;refine jI (i:=10) (N:=some 144) (v:=undef) (bb 28 2047) rfl rfl (by kernel_rfl) (fun _ _ _ h=>h) (Or.inr ⟨by rfl,rfl⟩) (by simp only[Act.put,List.setIfInBounds_toArray,List.set_cons_zero,List.set_cons_succ];rfl) ?_
     refine jI (i:=11) (N:=some 145) (v:=undef) (bb 28 4095) rfl rfl (by kernel_rfl) (fun _ _ _ h=>h) (Or.inr ⟨by rfl,rfl⟩) (by simp only[Act.put,List.setIfInBounds_toArray,List.set_cons_zero,List.set_cons_succ];rfl) ?_;refine jI (i:=12) (N:=some 146) (v:=undef) (bb 28 8191) rfl rfl (by kernel_rfl) (fun _ _ _ h=>h) (Or.inr ⟨by rfl,rfl⟩) (by simp only[Act.put,List.setIfInBounds_toArray,List.set_cons_zero,List.set_cons_succ];rfl) ?_;refine pw_ 13 147 (bb 28 16383) ?_;refine pw_ 14 148 (bb 28 32767) ?_;refine jI (i:=15) (N:=some 149) (v:=undef) (bb 28 65535) rfl rfl (by kernel_rfl) (fun _ _ _ h=>h) (Or.inr ⟨by rfl,rfl⟩) (by simp only[Act.put,List.setIfInBounds_toArray,List.set_cons_zero,List.set_cons_succ];rfl) ?_;refine jI (i:=16) (N:=some 150) (v:=undef) (bb 28 131071) rfl rfl (by kernel_rfl) (fun _ _ _ h=>h) (Or.inr ⟨by rfl,rfl⟩) (by simp only[Act.put,List.setIfInBounds_toArray,List.set_cons_zero,List.set_cons_succ];rfl) ?_;refine jI (i:=17) (N:=some 151) (v:=undef) (bb 28 262143) rfl rfl (by kernel_rfl) (fun _ _ _ h=>h) (Or.inr ⟨by rfl,rfl⟩) (by simp only[Act.put,List.setIfInBounds_toArray,List.set_cons_zero,List.set_cons_succ];rfl) ?_;refine jI (i:=18) (N:=some 152) (v:=undef) (bb 28 524287) rfl rfl (by kernel_rfl) (fun _ _ _ h=>h) (Or.inr ⟨by rfl,rfl⟩) (by simp only[Act.put,List.setIfInBounds_toArray,List.set_cons_zero,List.set_cons_succ];rfl) ?_;refine jI (i:=19) (N:=some 153) (v:=undef) (bb 28 1048575) rfl rfl (by kernel_rfl) (fun _ _ _ h=>h) (Or.inr ⟨by rfl,rfl⟩) (by simp only[Act.put,List.setIfInBounds_toArray,List.set_cons_zero,List.set_cons_succ];rfl) ?_
     refine jI (i:=20) (N:=some 154) (v:=undef) (bb 28 2097151) rfl rfl (by kernel_rfl) (fun _ _ _ h=>h) (Or.inr ⟨by rfl,rfl⟩) (by simp only[Act.put,List.setIfInBounds_toArray,List.set_cons_zero,List.set_cons_succ];rfl) ?_;refine pw_ 21 155 (bb 28 4194303) ?_;refine pw_ 22 156 (bb 28 8388607) ?_;refine jI (i:=23) (N:=some 157) (v:=undef) (bb 28 16777215) rfl rfl (by kernel_rfl) (fun _ _ _ h=>h) (Or.inr ⟨by rfl,rfl⟩) (by simp only[Act.put,List.setIfInBounds_toArray,List.set_cons_zero,List.set_cons_succ];rfl) ?_;refine jI (i:=24) (N:=some 158) (v:=undef) (bb 28 33554431) rfl rfl (by kernel_rfl) (fun _ _ _ h=>h) (Or.inr ⟨by rfl,rfl⟩) (by simp only[Act.put,List.setIfInBounds_toArray,List.set_cons_zero,List.set_cons_succ];rfl) ?_;refine pw_ 25 159 (bb 28 67108863) ?_;refine pw_ 26 160 (bb 28 134217727) ?_;refine pw_ 27 6 (bb 28 268435455) ?_;refine yN (by kernel_rfl) ?_;go_wp2_with (fail)
     go_ret
     exact⟨rfl,BL HB⟩
 have dE:(v.2.2.2 !=0)=true:=by simpa using hE
 clear hE;go_wp2_with (go_at_call 13;refine (xR _ (Fig.Glob.below HG.out (BL HB))).mono ?_;rintro e9 w' ⟨rfl,hb⟩;replace HB:=zF HB hb;clear hb)
 go_ret
 exact⟨rfl,BL HB⟩
end Go.Proofs.YtcmgdjnjmobkoaaGreatDoor.Px
section
namespace Go.Proofs.YtcmgdjnjmobkoaaGreatDoorW.PrintWords
open Go.ChangeShapes Go.WideShapes
end Go.Proofs.YtcmgdjnjmobkoaaGreatDoorW.PrintWords
end
section
namespace Fig
open Go Go.ChangeShapes
theorem znb {α:Type} {l:List α} {i n:Nat} (hl:l.length=n) (hi:i<n):∃ v,(l.drop i).take 1=[v]∧l[i]?=some v:=by
 refine⟨l[i],?_,List.getElem?_eq_getElem (by omega)⟩;rw[List.drop_eq_getElem_cons (by omega)];rfl
theorem zme {P:Program} {W:World} {name:String} {d:DataW Unit} (h:funcsAt P W name d) {g:Nat} {t e:TypeId} {n:Nat} {fld:Field} {ps rs:Array TypeId} {va:Bool}
  (hg:P.globalNamed name=some g) (hty:(P.globals[g]?).map (·.type)=some t) (ht:P.underlying t=some (.array n e)) (he:P.underlying e=some (.struct #[fld])) (hft:P.underlying fld.type=some (.func ps rs va))
  (ce:P.cellsOf e=1) (cf:P.cellsOf fld.type=1) (ho:fld.offset=0) (ct:P.cellsOf t=n) {ds:List (DataW (List UInt8))} (hd:d.funcsOut=.agg ds)
  {i:Nat} (hi:i<n) {b:UInt8} {r:List UInt8} (hdi:ds[i]?=some (.agg [.held (b :: r)])) {f0:FuncId}
  (hone:((List.range P.funcs.size).filter fun f=>(P.funcs[f]?).any (·.name.toUTF8.data.toList==b :: r))=[f0]):W.cell? ⟨g,i,none⟩=some (.func (.func f0) #[] #[]):=by
 obtain⟨g',t',cs,fuel,p,hg',ht',hv,hr⟩:=h;obtain rfl:=Option.some.inj (hg.symm.trans hg');obtain rfl:=Option.some.inj (hty.symm.trans ht');obtain⟨xs,m,_,ex,hcl,hl,hel⟩:=DataW.trod_array ht hr;rw[hd] at ex;have e3:xs.map (·.1)=ds:=(DataW.agg.inj (Prod.mk.inj ex).1).symm;obtain⟨v,hv1,hv2⟩:=znb (l:=cs.toList) (n:=n) (hcl.trans ct) hi;have hE:=hel i hi;rw[ce,Nat.mul_one,hv1] at hE;rw[←e3,List.getElem?_map] at hdi
 cases hx:xs[i]? with
 | none=>rw[hx] at hdi;cases hdi
 | some x =>
  rw[hx] at hE hdi;simp only[Option.map_some,Option.some.injEq] at hdi
  obtain⟨y0,k,rfl,_,hy⟩:=trod_struct1 he hE;rw[cf,ho,List.drop_zero] at hy;have hy0:y0.1=.held (b :: r):=by simpa using hdi
  obtain⟨y1,y2⟩:=y0;subst hy0;obtain rfl:=func_of_trod hft hone (show DataW.trod _ P W 0 _ true k fld.type [v]=_ from hy);rw[World.var?_cell hg hv i];simpa using hv2
theorem zfz (g:Nat):∀ (l:List Value) (i:Nat) (w:World),((l.zipIdx i).foldl (fun w x=>w.setCell ⟨g,x.2,none⟩ x.1) w).os=w.os
 | [],_,_=>rfl
 | _ :: l,i,w=>by rw[List.zipIdx_cons,List.foldl_cons,zfz g l (i+1)];rfl
end Fig
end
section
namespace Fig
open Go Go.Proofs Go.Proofs.YtcmgdjnjmobkoaaGreatDoor
set_option maxRecDepth 100000
def ziS:List (String×DataW Unit):=[("unicode/utf8.acceptRanges",Rows.laid_unicode_utf8_acceptRanges),("figurehead/ten.powers",Rows.laid_figurehead_ten_powers),("unicode/utf8.first",Rows.laid_unicode_utf8_first)]
def zfq:List (String×DataW Unit):=[("figurehead/mode.ways",Rows.laid_figurehead_mode_ways),("unicode/utf8.acceptRanges",Rows.laid_unicode_utf8_acceptRanges),("figurehead/ten.powers",Rows.laid_figurehead_ten_powers),("unicode/utf8.first",Rows.laid_unicode_utf8_first)]
def znv:List Value:=[.func (.func 173) #[] #[],.func (.func 174) #[] #[],.func (.func 175) #[] #[],.func (.func 176) #[] #[],.func (.func 177) #[] #[],.func (.func 178) #[] #[],.func (.func 179) #[] #[],.func (.func 180) #[] #[]]
noncomputable def startW (os:Os):World:=(znv.zipIdx 0).foldl (fun w x=>w.setCell ⟨1,x.2,none⟩ x.1) (World.laidAll Tryz.prog os ziS)
theorem startW_os (os:Os):(startW os).os=os:=(zfz _ _ _ _).trans (World.laidAll_os _ _ _)
theorem met (os:Os) (args:Array Value):laidMetH Tryz.prog zfq ((startW os).forCall (fun _ _=>0) ⟨#[],args,[]⟩).memory:=
 laidMetH_of_parts3 (fuel:=8) (laidMet_of_run' 8 (by kernel_rfl) (by kernel_rfl)) (by kernel_rfl) (by kernel_rfl)
theorem zjy:(zfq.filter fun x=>x.2.handleName?.isNone)=ziS:=by kernel_rfl
theorem zmB {W:World} (h:laidMetH Tryz.prog zfq W):laidMet Tryz.prog ziS W:=zjy ▸ (laidMetH_iff.1 h).1
theorem znG {W:World} (h:laidMetH Tryz.prog zfq W):∀ i f,([173,174,175,176,177,178,179,180]:List Nat)[i]?=some f→W.cell? ⟨1,i,none⟩=some (.func (.func f) #[] #[]):=by
 have hF:=h.funcs (n:= "figurehead/mode.ways") (List.mem_cons_self);have gN:Tryz.prog.globalNamed "figurehead/mode.ways"=some 1:=by kernel_rfl
 have gT:(Tryz.prog.globals[1]?).map (·.type)=some 130:=by kernel_rfl
 have c1:Tryz.prog.cellsOf 129=1:=by kernel_rfl
 have c2:Tryz.prog.cellsOf 127=1:=by kernel_rfl
 have c3:Tryz.prog.cellsOf 130=8:=by kernel_rfl
 intro i f hf;have key:∀ {b:UInt8} {r:List UInt8} {j:Nat} {f0:FuncId},j<8→_→_→W.cell? ⟨1,j,none⟩=some (.func (.func f0) #[] #[]):=fun {b} {r} {j} {f0} hj hdi hone=>zme (b:=b) (r:=r) hF gN gT Tryz.underlying130 Tryz.underlying129 Tryz.underlying127 c1 c2 rfl c3 rfl hj hdi hone
 match i,hf with
 | 0,hf=>obtain rfl:=Option.some.inj hf;exact key (b:=102) (r:=[105,103,117,114,101,104,101,97,100,47,109,111,100,101,46,119,97,121,115,36,49]) (by decide) rfl (by kernel_rfl)
 | 1,hf=>obtain rfl:=Option.some.inj hf;exact key (b:=102) (r:=[105,103,117,114,101,104,101,97,100,47,109,111,100,101,46,119,97,121,115,36,50]) (by decide) rfl (by kernel_rfl)
 | 2,hf=>obtain rfl:=Option.some.inj hf;exact key (b:=102) (r:=[105,103,117,114,101,104,101,97,100,47,109,111,100,101,46,119,97,121,115,36,51]) (by decide) rfl (by kernel_rfl)
 | 3,hf=>obtain rfl:=Option.some.inj hf;exact key (b:=102) (r:=[105,103,117,114,101,104,101,97,100,47,109,111,100,101,46,119,97,121,115,36,52]) (by decide) rfl (by kernel_rfl)
 | 4,hf=>obtain rfl:=Option.some.inj hf;exact key (b:=102) (r:=[105,103,117,114,101,104,101,97,100,47,109,111,100,101,46,119,97,121,115,36,53]) (by decide) rfl (by kernel_rfl)
 | 5,hf=>obtain rfl:=Option.some.inj hf;exact key (b:=102) (r:=[105,103,117,114,101,104,101,97,100,47,109,111,100,101,46,119,97,121,115,36,54]) (by decide) rfl (by kernel_rfl)
 | 6,hf=>obtain rfl:=Option.some.inj hf;exact key (b:=102) (r:=[105,103,117,114,101,104,101,97,100,47,109,111,100,101,46,119,97,121,115,36,55]) (by decide) rfl (by kernel_rfl)
 | 7,hf=>obtain rfl:=Option.some.inj hf;exact key (b:=102) (r:=[105,103,117,114,101,104,101,97,100,47,109,111,100,101,46,119,97,121,115,36,56]) (by decide) rfl (by kernel_rfl)
 | k+8,hf=>simp at hf
theorem zoq {W:World} (h:laidMetH Tryz.prog zfq W):∀ i,i<9→W.cell? ⟨0,i,none⟩=some (.int .u32 (([1,10,100,1000,10000,100000,1000000,10000000,100000000]:List Int).getD i 0)):=by
 have gN:Tryz.prog.globalNamed "figurehead/ten.powers"=some 0:=by kernel_rfl
 have gT:(Tryz.prog.globals[0]?).map (·.type)=some 124:=by kernel_rfl
 have hT:=Lib.tabIs_of_head (k:=.u32) (zs:=[1,10,100,1000,10000,100000,1000000,10000000,100000000]) gN gT Tryz.underlying124 Tryz.underlying95 (by kernel_rfl) (by kernel_rfl) (laidMet.tail (zmB h));exact fun i hi=>hT.cell gN i hi
theorem of_laid {W:World} (h:laidMetH Tryz.prog zfq W):Glob W:=⟨znG h,zoq h⟩
end Fig
end
section
namespace Fig
open Go Go.ChangeShapes Go.WideShapes Go.RowKit Go.Deep Go.WideElems Go.Joins
theorem open_dec {H:Type} {enc:TypeId×Value→H} {P:Program} {w:World} {base:Nat} {spare:Nat→Bool} {held:Bool} {r:Reach} {b0:Nat} {t:TypeId} {f0 f1 f2:Field} {v:Value} {d:DataW H} {p:List MemPlace} {k:IntKind} (hs:P.underlying t=some (.struct #[f0,f1,f2])) (hone:oneCellFields P #[f0,f1,f2]=true) (hC:P.cellsOf t=3)
  (u0:P.underlying f0.type=some .bool) (u1:P.underlying f1.type=some .string) (u2:P.underlying f2.type=some (.int k)) (hv:Value.okWide P w r b0 t v) (h:DataW.Trod enc P w base spare held t v d p) :
  ∃ (x:Bool) (s:ByteArray) (n:Int),v=.agg #[.bool x,.string s,.int k n]∧d=.agg [.lit (.bool x),.lit (.string s.data.toList),.lit (.int k n)]∧p=[]∧s.size≤maxLen∧(Lit.int k n).wf=true:=by
 obtain⟨v0,v1,v2,y0,y1,y2,n,rfl,rfl,rfl,h0,h1,h2⟩:=open_agg3 hs hone hC hv h;obtain⟨x,e0,rfl⟩:=DataW.trod_bool u0 h0;obtain⟨s,e1,rfl,hl⟩:=DataW.trod_string u1 h1;obtain⟨m,e2,rfl,hw⟩:=DataW.trod_int u2 h2;simp only[List.cons.injEq,and_true] at e0 e1 e2
 subst e0 e1 e2;exact⟨x,s,m,rfl,rfl,rfl,hl,hw⟩
theorem shut_dec {H:Type} {enc:TypeId×Value→H} {P:Program} {w:World} {base:Nat} {spare:Nat→Bool} {held:Bool} {t:TypeId} {f0 f1 f2:Field} {k:IntKind} {x:Bool} {s:ByteArray} {n:Int} (hs:P.underlying t=some (.struct #[f0,f1,f2])) (hone:oneCellFields P #[f0,f1,f2]=true) (hC:P.cellsOf t=3)
  (u0:P.underlying f0.type=some .bool) (u1:P.underlying f1.type=some .string) (u2:P.underlying f2.type=some (.int k)) (hl:s.size≤maxLen) (hw:(Lit.int k n).wf=true) :
  DataW.Trod enc P w base spare held t (.agg #[.bool x,.string s,.int k n]) (.agg [.lit (.bool x),.lit (.string s.data.toList),.lit (.int k n)]) []:=
 shut_agg3 (y0:=(.lit (.bool x),[])) (y1:=(.lit (.string s.data.toList),[])) (y2:=(.lit (.int k n),[])) hs hone hC ⟨1,by simp[DataW.trod,u0]⟩ ⟨1,by simp[DataW.trod,u1,hl]⟩ ⟨1,by simp[DataW.trod,u2,hw]⟩
theorem sized_dec {H:Type} {P:Program} {ts:List TypeId} {ds:List (DataW H)} (h:(DataW.weightsEach P ts ds).all (·≤reachBytes)=true) {j:Nat} {t:TypeId} {f0 f1 f2:Field} {x y:DataW H} {bytes:List UInt8} (ht:ts[j]?=some t) (hd:ds[j]?=some (.agg [x,.lit (.string bytes),y])) (hs:P.underlying t=some (.struct #[f0,f1,f2])):bytes.length≤reachBytes:=by
 have:=List.all_eq_true.1 h _ (DataW.weights_mem_each ht hd bytes.length (by simp[DataW.weights,DataW.weightsEach,hs]))
 simpa using this
end Fig
end
