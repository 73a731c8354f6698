/- The functions that the law ShapeLaysUpto reaches, told as plain functions, with what is proved of them, and the words they need (part 5). -/
import Derived.Test.YtcmgdjnjmobkoaaGreatDoorCShapeLaysUpto0
import Derived.Test.YtcmgdjnjmobkoaaGreatDoorCShapeLaysUpto4
import Derived.Test.YtcmgdjnjmobkoaaGreatDoorCShapeLaysUpto2
import Derived.Test.YtcmgdjnjmobkoaaGreatDoorCShapeLaysUpto3
import Derived.SizedLaws
import Derived.ChangeSlices
import Derived.LaidMore
import Derived.LaidHandle
import Derived.LaidSub
import Derived.OpenShut
import Derived.ChangeSame
import Derived.Lay
import Derived.Lib.LaidTab
import Derived.Test.YtcmgdjnjmobkoaaGreatDoorRows
import Derived.Stop.LaidErr
import Derived.Lib.SmallJoins
import Derived.ChangeMaps5
set_option linter.unusedVariables false
set_option linter.unusedSimpArgs false
namespace Go.Proofs.YtcmgdjnjmobkoaaGreatDoor.Px
open Fig Go.RowKit Go.Proofs.YtcmgdjnjmobkoaaGreatDoorW.PrintWords Go.Proofs.YtcmgdjnjmobkoaaGreatDoorW.PrintLast Go.Proofs.YtcmgdjnjmobkoaaGreatDoorW.PrintMore
attribute [local go_sem] yJ yN vE vF jZ yA yM yK
attribute [local go_sem] uJ uN uI uS uQ uP uH uF uG uR uL uK uM uO
def yQ.f (a0:ByteArray) (a1:ByteArray):Option (Bool):=if (a0.size:Int)=(a1.size:Int) then (some (Op.bytesLess a0.toList a1.toList)) else (some (decide ((a0.size:Int)<(a1.size:Int))))
set_option maxHeartbeats 8000000 in
set_option maxRecDepth 100000 in
theorem yQ.calls (a0:ByteArray) (a1:ByteArray) (r:Bool) (w:World) (h:yQ.f a0 a1=some r) :
  Calls Tryz.prog 43 #[.string a0,.string a1] w fun e w'=>e=.returned (.bool r)∧zJ w w':=by
 have H:(if (a0.size:Int)=(a1.size:Int) then (some (Op.bytesLess a0.toList a1.toList)) else (some (decide ((a0.size:Int)<(a1.size:Int)))))=some r:=h;clear h;by_cases c3:(a0.size:Int)=(a1.size:Int)
 ·rw[if_pos c3] at H
  have c3b0:((a0.size:Int)==(a1.size:Int))=true:=beq_iff_eq.mpr c3;have c3b1:((a0.size:Int) !=(a1.size:Int))=false:=bne_eq_false_iff_eq.mpr c3;have c3b2:(a0.size==a1.size)=true:=by first|simpa using c3|(simp at c3 ⊢;omega)
  clear c3;obtain rfl:=Option.some.inj H;go_enter Tryz.func43,Tryz.ntmps43
  go_wp2
  go_ret
  exact⟨by first|rfl|(simp;done)|(simp[*];done)|(simp[*,Fig.bne_nil];done),by repeat (first|exact zJ.refl _|apply zJ.step)⟩
 rw[if_neg c3] at H;have c3b0:((a0.size:Int)==(a1.size:Int))=false:=beq_eq_false_iff_ne.mpr c3;have c3b1:((a0.size:Int) !=(a1.size:Int))=true:=bne_iff_ne.mpr c3;have c3b2:(a0.size==a1.size)=false:=by first|simpa using c3|(simp at c3 ⊢;omega)
 obtain rfl:=Option.some.inj H;go_enter Tryz.func43,Tryz.ntmps43
 go_wp2
 go_ret
 exact⟨by first|rfl|(simp;done)|(simp[*];done)|(simp[*,Fig.bne_nil];done),by repeat (first|exact zJ.refl _|apply zJ.step)⟩
def vM.f (k:Nat) (a0:Bool) (a1:ByteArray) (a2:Int):Option (Bool×ByteArray×Int):=if 1+a1.size≤9223372036854775807 then ((zV.f k a0 ((⟨#[48]⟩:ByteArray)++a1) a2).bind fun bt741=>(some (bt741.1,bt741.2.1,bt741.2.2))) else (none)
set_option maxHeartbeats 8000000 in
set_option maxRecDepth 100000 in
theorem vM.calls (k:Nat) (a0:Bool) (a1:ByteArray) (a2:Int) (r1:Bool) (r2:ByteArray) (r3:Int) (w:World) (h:vM.f k a0 a1 a2=some (r1,r2,r3)) :
  Calls Tryz.prog 29 #[.bool a0,.string a1,.int .i64 a2] w fun e w'=>e=.returned (.agg #[.bool r1,.string r2,.int .i64 r3])∧Below w.heap.size w w':=by
 have hu23:=Tryz.underlying23;have HB:=K_ (Below.refl w.heap.size w);have H:(if 1+a1.size≤9223372036854775807 then ((zV.f k a0 ((⟨#[48]⟩:ByteArray)++a1) a2).bind fun bt741=>(some (bt741.1,bt741.2.1,bt741.2.2))) else (none))=some (r1,r2,r3):=h;clear h;by_cases c4:1+a1.size≤9223372036854775807
 ·rw[if_pos c4] at H
  have c4b0:=eq_true c4;have c4b1:decide (1+a1.size≤9223372036854775807)=true:=decide_eq_true c4;try have c4b2:(9223372036854775807<1+a1.size)=False:=eq_false (Nat.not_lt.2 c4)
  replace H:=Option.bind_eq_some_iff.mp H;obtain⟨⟨t741,t742,t743⟩,A50,H⟩:=H;replace H:(some (t741,t742,t743))=some (r1,r2,r3):=H;have A5:=K_ A50;clear A50;simp only[Option.some.injEq,Prod.mk.injEq] at H
  obtain⟨rfl,rfl,rfl⟩:=H;go_enter Tryz.func29,Tryz.ntmps29
  go_wp2_with (first|(refine be_ 6 #[.bool false,.string (⟨#[]⟩:ByteArray),.int .i64 0] 23 ?_;intro gb740 hg w6 hbox hb;have n0_:=zF HB hb;have n1_:=K_ (hbox);have n2_:=ge_ hg HB;have n3_:=ge_ hg HB;clear HB;have HB:=n0_;have BK740:=n1_;have GW740:=n2_;have GE740:=n3_;clear n0_ n1_ n2_ n3_;clear hb hbox hg)|((with_reducible refine zK (f:=50) rfl ?_);refine zX (some 12) rfl rfl Tryz.func50 (by kernel_rfl) rfl #[.agg #[.bool a0,.string ((⟨#[48]⟩:ByteArray)++a1),.int .i64 a2]] rfl MP ?_;(with_reducible refine (zV.calls k a0 ((⟨#[48]⟩:ByteArray)++a1) a2 t741 t742 t743 _ A5.out).mono ?_);rintro e w7 ⟨rfl,hb⟩;refine⟨_,rfl,?_⟩;have n0_:=zC BK740 hb;have n1_:=zF HB hb;clear BK740;clear HB;have BK740:=n0_;have HB:=n1_;clear n0_ n1_;(try clear hb);(try clear hb2);(try clear hk);(try clear hi);have hcz8_0:w7.cell? ⟨gb740,0,none⟩=some (.bool false):=(zA BK740.out 0).trans rfl;have hcz8_1:w7.cell? ⟨gb740,1,none⟩=some (.string (⟨#[]⟩:ByteArray)):=(zA BK740.out 1).trans rfl;have hcz8_2:w7.cell? ⟨gb740,2,none⟩=some (.int .i64 0):=(zA BK740.out 2).trans rfl;have hfz8_0:=zL BK740.out 0;have hfz8_1:=zL BK740.out 1;have hfz8_2:=zL BK740.out 2))
  refine bodyPost_ret (results_cell_row rfl _ _ gb740 23 #[.bool t741,.string t742,.int .i64 t743] (0,0) _ rfl (BP BK740) Tryz.underlying23 rfl (by kernel_rfl)) rfl ?_;exact⟨ER,BL HB⟩
 rw[if_neg c4] at H;exact absurd H (by simp)
def jE.l0:Nat→ByteArray→ByteArray→List Int→Int→Int→Option (ByteArray)
 | 0,_,_,_,_,_=>none
 | k+1,x0,x1,x5,x6,x7=>if x7<(x0.size:Int) then ((jG.f x0 x7).bind fun t750=>((jG.f x1 x7).bind fun t751=>(if (wrap64 ((wrap64 (t750-t751))-x6))<0 then (if x5.length<140737488355328 then (jE.l0 k x0 x1 (x5++[(wrap64 (48+(wrap64 ((wrap64 ((wrap64 (t750-t751))-x6))+10)))) % 256]) 1 (wrap64 (x7+1))) else (none)) else (if x5.length<140737488355328 then (jE.l0 k x0 x1 (x5++[(wrap64 (48+(wrap64 ((wrap64 (t750-t751))-x6)))) % 256]) 0 (wrap64 (x7+1))) else (none))))) else ((jB.f k x5).bind fun t748=>((zM.f k t748).bind fun t749=>(some t749)))
def jE.f (k:Nat) (a0:ByteArray) (a1:ByteArray):Option (ByteArray):=jE.l0 k a0 a1 ([]:List Int) 0 0
set_option maxHeartbeats 8000000 in
set_option maxRecDepth 100000 in
theorem jE.calls (k:Nat) (a0:ByteArray) (a1:ByteArray) (r:ByteArray) (w:World) (h:jE.f k a0 a1=some r) :
  Calls Tryz.prog 137 #[.string a0,.string a1] w fun e w'=>e=.returned (.string r)∧Below w.heap.size w w':=by
 have HB:=K_ (Below.refl w.heap.size w);have H:(jE.l0 k a0 a1 ([]:List Int) 0 0)=some r:=h;clear h;have H':=K_ H;clear H;go_enter Tryz.func137,Tryz.ntmps137
 go_wp2
 go_loopg [5,6,7] k (fun kq v5 v6 v7 w'=>∃ (x5_1:List Int) (x6_1:Int) (x7_1:Int),v6=.int .i64 x6_1∧v7=.int .i64 x7_1∧Aside0 (jE.l0 kq a0 a1 x5_1 x6_1 x7_1=some r)∧Aside0 (kq≤k)∧Aside0 (Kd.R (Kd.int .u8) 5 w' w.heap.size (fun _=>True) v5 x5_1)∧Aside0 (Below w.heap.size w w'))
 case atStart=>exact⟨(([]:List Int)),(0),(0),SR,SR,H',⟨Nat.le_refl _⟩,⟨by first|exact Kd.R_nil _ _ _ _ _|exact Kd.N_nil _ _ _ _ _|exact Kd.V_nil _ _ _ _ _|exact Kd.Q_nil _ _ _ _ _|exact Kd.S_nil _ _ _ _ _⟩,⟨BL HB⟩⟩
 case round =>
  clear H';obtain⟨x5_1,x6_1,x7_1,rfl,rfl,HA,HK1,HO_5,HB⟩:=hrel;obtain _|k1:=gk
  ·exact absurd HA.out (by simp[jE.l0])
  have H:=HA.out;clear HA;simp only[jE.l0] at H
  by_cases c3:x7_1<(a0.size:Int)
  ·rw[if_pos c3] at H
   have c3b0:decide (x7_1<(a0.size:Int))=true:=decide_eq_true c3;clear c3;obtain⟨t750,A40,H⟩:=Option.bind_eq_some_iff.mp H
   (try dsimp -simprocs only at H)
   have A4:=K_ A40;clear A40;obtain⟨t751,A50,H⟩:=Option.bind_eq_some_iff.mp H
   (try dsimp -simprocs only at H)
   have A5:=K_ A50;clear A50;by_cases c6:(wrap64 ((wrap64 (t750-t751))-x6_1))<0
   ·rw[if_pos c6] at H
    have c6b0:decide ((wrap64 ((wrap64 (t750-t751))-x6_1))<0)=true:=decide_eq_true c6;clear c6;by_cases c7:x5_1.length<140737488355328
    ·rw[if_pos c7] at H
     have LMc7:=K_ c7;clear c7;obtain⟨y752,hy752⟩:∃ y_:List Int,y_=(x5_1++[(wrap64 (48+(wrap64 ((wrap64 ((wrap64 (t750-t751))-x6_1))+10)))) % 256]):=⟨_,rfl⟩
     replace H:(jE.l0 k1 a0 a1 y752 1 (wrap64 (x7_1+1)))=some r:=by first|(rw[hy752];with_reducible exact H)|(have H2_:=(Option.bind_some _ _).symm.trans H;rw[hy752];with_reducible exact H2_)|(have H2_:=(Option.bind_some _ _).symm.trans H;with_reducible exact H2_)|with_reducible exact H|(rw[hy752];exact H)|exact H
     have Ny752:=K_ hy752;clear hy752;have H':=K_ H;clear H;go_wp2_with (first|((with_reducible refine zK (f:=138) rfl ?_);refine zX (some 17) rfl rfl Tryz.func138 (by kernel_rfl) rfl #[.string a0,.int .i64 x7_1] rfl MP ?_;(with_reducible refine (jG.calls a0 x7_1 t750 _ A4.out).mono ?_);rintro e w' ⟨rfl,⟨nd,rfl⟩⟩;refine⟨_,rfl,?_⟩)|((with_reducible refine zK (f:=138) rfl ?_);refine zX (some 20) rfl rfl Tryz.func138 (by kernel_rfl) rfl #[.string a1,.int .i64 x7_1] rfl MP ?_;(with_reducible refine (jG.calls a1 x7_1 t751 _ A5.out).mono ?_);rintro e w' ⟨rfl,⟨nd,rfl⟩⟩;refine⟨_,rfl,?_⟩)|((with_reducible refine jI (b:=.append) (xs:=#[.tmp 28,.tmp 32]) rfl ?_);at_builtin;refine Kd.R_append (Kd.int .u8) (w0:=w) w.heap.size rfl (.tmp 28) (.tmp 32) 107 5 (.int .u8 0) 1 rfl Tryz.underlying107 zfq rfl (by decide) (by omega) u5 x5_1 ((wrap64 (48+(wrap64 ((wrap64 ((wrap64 (t750-t751))-x6_1))+10)))) % 256) [.int .u8 ((wrap64 (48+(wrap64 ((wrap64 ((wrap64 (t750-t751))-x6_1))+10)))) % 256)] (fun _=>True) (fun _=>False) rfl rfl ?aP (fun _ hk=>hk.elim) ?aF ?aO ?aB ?aS ?aL ?_;(case aP=>exact rfl);(case aB=>exact (BL HB));(case aF=>exact (fun _ _=>trivial));(case aO=>exact (RB HO_5.out));(case aS=>exact (zS (BL HB)));(case aL=>have:=LMc7.out;omega);intro v753 w8 ho hb hg hat;rw[←Ny752.out] at ho;replace HB:=K_ (hb);have HO754:=K_ (ho);clear HO_5;clear ho hb hg hat))
     go_roundg k1
     case measure=>have:=HK1.out;omega
     case rel=>exact⟨(y752),(1),(wrap64 (x7_1+1)),SR,SR,H',⟨by have:=HK1.out;omega⟩,⟨RB HO754.out⟩,⟨BL HB⟩⟩
    rw[if_neg c7] at H;exact absurd H (by simp)
   rw[if_neg c6] at H;have c6b0:decide ((wrap64 ((wrap64 (t750-t751))-x6_1))<0)=false:=decide_eq_false c6;clear c6;by_cases c9:x5_1.length<140737488355328
   ·rw[if_pos c9] at H
    have LMc9:=K_ c9;clear c9;obtain⟨y755,hy755⟩:∃ y_:List Int,y_=(x5_1++[(wrap64 (48+(wrap64 ((wrap64 (t750-t751))-x6_1)))) % 256]):=⟨_,rfl⟩
    replace H:(jE.l0 k1 a0 a1 y755 0 (wrap64 (x7_1+1)))=some r:=by first|(rw[hy755];with_reducible exact H)|(have H2_:=(Option.bind_some _ _).symm.trans H;rw[hy755];with_reducible exact H2_)|(have H2_:=(Option.bind_some _ _).symm.trans H;with_reducible exact H2_)|with_reducible exact H|(rw[hy755];exact H)|exact H
    have Ny755:=K_ hy755;clear hy755;have H':=K_ H;clear H;go_wp2_with (first|((with_reducible refine zK (f:=138) rfl ?_);refine zX (some 17) rfl rfl Tryz.func138 (by kernel_rfl) rfl #[.string a0,.int .i64 x7_1] rfl MP ?_;(with_reducible refine (jG.calls a0 x7_1 t750 _ A4.out).mono ?_);rintro e w' ⟨rfl,⟨nd,rfl⟩⟩;refine⟨_,rfl,?_⟩)|((with_reducible refine zK (f:=138) rfl ?_);refine zX (some 20) rfl rfl Tryz.func138 (by kernel_rfl) rfl #[.string a1,.int .i64 x7_1] rfl MP ?_;(with_reducible refine (jG.calls a1 x7_1 t751 _ A5.out).mono ?_);rintro e w' ⟨rfl,⟨nd,rfl⟩⟩;refine⟨_,rfl,?_⟩)|((with_reducible refine jI (b:=.append) (xs:=#[.tmp 28,.tmp 32]) rfl ?_);at_builtin;refine Kd.R_append (Kd.int .u8) (w0:=w) w.heap.size rfl (.tmp 28) (.tmp 32) 107 5 (.int .u8 0) 1 rfl Tryz.underlying107 zfq rfl (by decide) (by omega) u5 x5_1 ((wrap64 (48+(wrap64 ((wrap64 (t750-t751))-x6_1)))) % 256) [.int .u8 ((wrap64 (48+(wrap64 ((wrap64 (t750-t751))-x6_1)))) % 256)] (fun _=>True) (fun _=>False) rfl rfl ?aP (fun _ hk=>hk.elim) ?aF ?aO ?aB ?aS ?aL ?_;(case aP=>exact rfl);(case aB=>exact (BL HB));(case aF=>exact (fun _ _=>trivial));(case aO=>exact (RB HO_5.out));(case aS=>exact (zS (BL HB)));(case aL=>have:=LMc9.out;omega);intro v756 w10 ho hb hg hat;rw[←Ny755.out] at ho;replace HB:=K_ (hb);have HO757:=K_ (ho);clear HO_5;clear ho hb hg hat))
    go_roundg k1
    case measure=>have:=HK1.out;omega
    case rel=>exact⟨(y755),(0),(wrap64 (x7_1+1)),SR,SR,H',⟨by have:=HK1.out;omega⟩,⟨RB HO757.out⟩,⟨BL HB⟩⟩
   rw[if_neg c9] at H;exact absurd H (by simp)
  rw[if_neg c3] at H;have c3b0:decide (x7_1<(a0.size:Int))=false:=decide_eq_false c3;clear c3;obtain⟨t748,A110,H⟩:=Option.bind_eq_some_iff.mp H
  (try dsimp -simprocs only at H)
  have A11:=K_ A110;clear A110;obtain⟨t749,A120,H⟩:=Option.bind_eq_some_iff.mp H
  (try dsimp -simprocs only at H)
  have A12:=K_ A120;clear A120;obtain rfl:=Option.some.inj H;obtain⟨Ao13,co13,eo13⟩:=Kd.R_slice HO_5.out;subst eo13;go_wp2_with (first|((with_reducible refine zK (f:=139) rfl ?_);refine zX (some 35) rfl rfl Tryz.func139 (by kernel_rfl) rfl #[.slice Ao13 x5_1.length co13] rfl MP ?_;(with_reducible refine (jB.calls k1 _ _ x5_1 t748 _ ?side1 ?side2 A11.out).mono ?_);(case side1=>exact CB ((Kd.R_reads' HO_5.out).2.2));(case side2=>exact (Kd.R_reads' HO_5.out).2.1);rintro e w14 ⟨rfl,hb⟩;refine⟨_,rfl,?_⟩;replace HO_5:=K_ (Kd.R_below (RB HO_5.out) hb);replace HB:=zF HB hb;(try clear hb);(try clear hb2);(try clear hk);(try clear hi))|((with_reducible refine zK (f:=69) rfl ?_);refine zX (some 36) rfl rfl Tryz.func69 (by kernel_rfl) rfl #[.string t748] rfl MP ?_;(with_reducible refine (zM.calls k1 t748 t749 _ A12.out).mono ?_);rintro e w' ⟨rfl,⟨nd,rfl⟩⟩;refine⟨_,rfl,?_⟩))
  go_ret
  exact⟨ER,BL HB⟩
mutual
def zU.l0:Nat→ByteArray→ByteArray→ByteArray→ByteArray→Int→Option (ByteArray×ByteArray)
 | 0,_,_,_,_,_=>none
 | k+1,x0,x1,x6,x7,x8=>if x8<(x0.size:Int) then (if 0≤x8 then (if x8≤(wrap64 (x8+1)) then (if (wrap64 (x8+1))≤(x0.size:Int) then (if x7.size+(x0.extract (x8:Int).toNat ((wrap64 (x8+1)):Int).toNat).size≤9223372036854775807 then ((zM.f k (x7++(x0.extract (x8:Int).toNat ((wrap64 (x8+1)):Int).toNat))).bind fun t759=>(zU.l1 k x0 x1 x6 t759 x8 0)) else (none)) else (none)) else (none)) else (none)) else ((zM.f k x6).bind fun t758=>(some (t758,x7)))
def zU.l1:Nat→ByteArray→ByteArray→ByteArray→ByteArray→Int→Int→Option (ByteArray×ByteArray)
 | 0,_,_,_,_,_,_=>none
 | k+1,x0,x1,x6,x7,x8,x9=>(yQ.f x7 x1).bind fun t760=>(if t760=true then ((some (([(wrap64 (48+x9)) % 256]:List Int):List Int)).bind fun y761=>(if x6.size+(strOfNums y761).size≤9223372036854775807 then (zU.l0 k x0 x1 (x6++(strOfNums y761)) x7 (wrap64 (x8+1))) else (none))) else ((jE.f k x7 x1).bind fun t764=>(zU.l1 k x0 x1 x6 t764 x8 (wrap64 (x9+1)))))
end
def zU.f (k:Nat) (a0:ByteArray) (a1:ByteArray):Option (ByteArray×ByteArray):=zU.l0 k a0 a1 (⟨#[]⟩:ByteArray) (⟨#[]⟩:ByteArray) 0
set_option maxHeartbeats 8000000 in
set_option maxRecDepth 100000 in
theorem zU.calls (k:Nat) (a0:ByteArray) (a1:ByteArray) (r1:ByteArray) (r2:ByteArray) (w:World) (h:zU.f k a0 a1=some (r1,r2)) :
  Calls Tryz.prog 109 #[.string a0,.string a1] w fun e w'=>e=.returned (.tuple #[.string r1,.string r2])∧Below w.heap.size w w':=by
 have HB:=K_ (Below.refl w.heap.size w);have H:(zU.l0 k a0 a1 (⟨#[]⟩:ByteArray) (⟨#[]⟩:ByteArray) 0)=some (r1,r2):=h;clear h;have H':=K_ H;clear H;go_enter Tryz.func109,Tryz.ntmps109
 go_wp2
 go_loopg [6,7,8] k (fun kq v6 v7 v8 w'=>∃ (x6_1:ByteArray) (x7_1:ByteArray) (x8_1:Int),v6=.string x6_1∧v7=.string x7_1∧v8=.int .i64 x8_1∧Aside0 (zU.l0 kq a0 a1 x6_1 x7_1 x8_1=some (r1,r2))∧Aside0 (kq≤k)∧Aside0 (Below w.heap.size w w'))
 case atStart=>exact⟨((⟨#[]⟩:ByteArray)),((⟨#[]⟩:ByteArray)),(0),SR,SR,SR,H',⟨Nat.le_refl _⟩,⟨BL HB⟩⟩
 case round =>
  clear H';obtain⟨x6_1,x7_1,x8_1,rfl,rfl,rfl,HA,HK1,HB⟩:=hrel;obtain _|k1:=gk
  ·exact absurd HA.out (by simp[zU.l0])
  have H:=HA.out;clear HA;simp only[zU.l0] at H
  by_cases c3:x8_1<(a0.size:Int)
  ·rw[if_pos c3] at H
   have c3b0:decide (x8_1<(a0.size:Int))=true:=decide_eq_true c3;clear c3;by_cases c4:0≤x8_1
   ·rw[if_pos c4] at H
    have c4b0:=eq_true c4;have c4b1:decide (0≤x8_1)=true:=decide_eq_true c4;clear c4;by_cases c5:x8_1≤(wrap64 (x8_1+1))
    ·rw[if_pos c5] at H
     have c5b0:=eq_true c5;have c5b1:decide (x8_1≤(wrap64 (x8_1+1)))=true:=decide_eq_true c5;by_cases c6:(wrap64 (x8_1+1))≤(a0.size:Int)
     ·rw[if_pos c6] at H
      have c6b0:=eq_true c6;have c6b1:decide ((wrap64 (x8_1+1))≤(a0.size:Int))=true:=decide_eq_true c6;by_cases c7:x7_1.size+(a0.extract (x8_1:Int).toNat ((wrap64 (x8_1+1)):Int).toNat).size≤9223372036854775807
      ·rw[if_pos c7] at H
       have c7b0:=eq_true c7;have c7b1:decide (x7_1.size+(a0.extract (x8_1:Int).toNat ((wrap64 (x8_1+1)):Int).toNat).size≤9223372036854775807)=true:=decide_eq_true c7;try have c7b2:(9223372036854775807<x7_1.size+(a0.extract (x8_1:Int).toNat ((wrap64 (x8_1+1)):Int).toNat).size)=False:=eq_false (Nat.not_lt.2 c7)
       obtain⟨t759,A80,H⟩:=Option.bind_eq_some_iff.mp H
       (try dsimp -simprocs only at H)
       have A8:=K_ A80;clear A80;have H':=K_ H;clear H;go_wp2_with (first|((with_reducible refine zK (f:=69) rfl ?_);refine zX (some 23) rfl rfl Tryz.func69 (by kernel_rfl) rfl #[.string (x7_1++(a0.extract (x8_1:Int).toNat ((wrap64 (x8_1+1)):Int).toNat))] rfl MP ?_;(with_reducible refine (zM.calls k1 (x7_1++(a0.extract (x8_1:Int).toNat ((wrap64 (x8_1+1)):Int).toNat)) t759 _ A8.out).mono ?_);rintro e w' ⟨rfl,⟨nd,rfl⟩⟩;refine⟨_,rfl,?_⟩))
       go_loopg [7,9] k1 (fun kq v7 v9 w'=>∃ (x7_2:ByteArray) (x9_2:Int),v7=.string x7_2∧v9=.int .i64 x9_2∧Aside0 (zU.l1 kq a0 a1 x6_1 x7_2 x8_1 x9_2=some (r1,r2))∧Aside0 (kq≤k1)∧Aside0 (Below w.heap.size w w'))
       case atStart=>exact⟨(t759),(0),SR,SR,H',⟨Nat.le_refl _⟩,⟨BL HB⟩⟩
       case round =>
        clear H';try clear c3
        try clear c3b0
        try clear c4
        try clear c4b0
        try clear c4b1
        try clear c5
        try clear c5b0
        try clear c5b1
        try clear c6
        try clear c6b0
        try clear c6b1
        try clear c7
        try clear c7b0
        try clear c7b1
        try clear c7b2
        obtain⟨x7_2,x9_2,rfl,rfl,HA,HK2,HB⟩:=hrel;obtain _|k2:=gk
        ·exact absurd HA.out (by simp[zU.l1])
        have H:=HA.out;clear HA;simp only[zU.l1] at H
        obtain⟨t760,A90,H⟩:=Option.bind_eq_some_iff.mp H
        (try dsimp -simprocs only at H)
        have A9:=K_ A90;clear A90;by_cases c10:t760=true
        ·subst c10
         rw[if_pos rfl] at H;obtain⟨y761,hy761⟩:∃ y_:List Int,y_=(([(wrap64 (48+x9_2)) % 256]:List Int)):=⟨_,rfl⟩
         replace H:(if x6_1.size+(strOfNums y761).size≤9223372036854775807 then (zU.l0 k2 a0 a1 (x6_1++(strOfNums y761)) x7_2 (wrap64 (x8_1+1))) else (none))=some (r1,r2):=by first|(rw[hy761];with_reducible exact H)|(have H2_:=(Option.bind_some _ _).symm.trans H;rw[hy761];with_reducible exact H2_)|(have H2_:=(Option.bind_some _ _).symm.trans H;with_reducible exact H2_)|with_reducible exact H|(rw[hy761];exact H)|exact H
         have Ny761:=K_ hy761;clear hy761;by_cases c11:x6_1.size+(strOfNums y761).size≤9223372036854775807
         ·rw[if_pos c11] at H
          have c11b0:=eq_true c11;have c11b1:decide (x6_1.size+(strOfNums y761).size≤9223372036854775807)=true:=decide_eq_true c11;try have c11b2:(9223372036854775807<x6_1.size+(strOfNums y761).size)=False:=eq_false (Nat.not_lt.2 c11)
          have H':=K_ H;clear H;go_wp2_with (first|((with_reducible refine zK (f:=43) rfl ?_);refine zX (some 26) rfl rfl Tryz.func43 (by kernel_rfl) rfl #[.string x7_2,.string a1] rfl MP ?_;(with_reducible refine (yQ.calls x7_2 a1 true _ A9.out).mono ?_);rintro e w' ⟨rfl,⟨nd,rfl⟩⟩;refine⟨_,rfl,?_⟩)|((with_reducible refine zE (N:=37) rfl ?_);refine Kd.R_lit (Kd.int .u8) _ 5 ?hg (N:=37) ?hd (xs:=([(wrap64 (48+x9_2)) % 256]:List Int)) (inner:=[.int .u8 ((wrap64 (48+x9_2)) % 256)]) (ok:=fun _=>True) (okp:=fun _=>True) ?hr ?hp (fun _ hk=>hk) trivial (Below.refl _ _) (Nat.le_refl _) (by simp) ?_;(case hd=>rfl);(case hg=>rfl);(case hr=>first|(go_simp;done)|(go_simp;rfl));(case hp=>exact (jP.one (show Kd.M (Kd.int .u8) _ _ _ ((wrap64 (48+x9_2)) % 256) [.int .u8 ((wrap64 (48+x9_2)) % 256)] from rfl) (jP.none _ _)));intro v762 w12 ho13 hb hg_ hnew_;clear hg_ hnew_;(first|rw[←Ny761.out] at ho13|(simp only[Int.reduceToNat] at ho13;rw[←Ny761.out] at ho13));have HO763:=K_ (Kd.R_lower ho13 (zS (BL HB)));replace HB:=zF HB hb;clear hb ho13;have hcv14:=zcO (P:=Tryz.prog) Tryz.underlying107 Tryz.underlying5 Tryz.underlying9 (Kd.own_of_R HO763.out)))
          go_roundg k2
          case measure=>have:=HK1.out;have:=HK2.out;omega
          case rel=>exact⟨(x6_1++(strOfNums y761)),(x7_2),(wrap64 (x8_1+1)),SR,SR,SR,H',⟨by have:=HK1.out;have:=HK2.out;omega⟩,⟨BL HB⟩⟩
         rw[if_neg c11] at H;exact absurd H (by simp)
        replace c10:=Bool.eq_false_iff.mpr c10;subst c10;rw[if_neg (show ¬ (false=true) by decide)] at H;obtain⟨t764,A150,H⟩:=Option.bind_eq_some_iff.mp H
        (try dsimp -simprocs only at H)
        have A15:=K_ A150;clear A150;have H':=K_ H;clear H;go_wp2_with (first|((with_reducible refine zK (f:=43) rfl ?_);refine zX (some 26) rfl rfl Tryz.func43 (by kernel_rfl) rfl #[.string x7_2,.string a1] rfl MP ?_;(with_reducible refine (yQ.calls x7_2 a1 false _ A9.out).mono ?_);rintro e w' ⟨rfl,⟨nd,rfl⟩⟩;refine⟨_,rfl,?_⟩)|((with_reducible refine zK (f:=137) rfl ?_);refine zX (some 30) rfl rfl Tryz.func137 (by kernel_rfl) rfl #[.string x7_2,.string a1] rfl MP ?_;(with_reducible refine (jE.calls k2 x7_2 a1 t764 _ A15.out).mono ?_);rintro e w16 ⟨rfl,hb⟩;refine⟨_,rfl,?_⟩;replace HB:=zF HB hb;(try clear hb);(try clear hb2);(try clear hk);(try clear hi)))
        go_roundg k2
        case measure=>have:=HK1.out;have:=HK2.out;omega
        case rel=>exact⟨(t764),(wrap64 (x9_2+1)),SR,SR,H',⟨by have:=HK1.out;have:=HK2.out;omega⟩,⟨BL HB⟩⟩
      rw[if_neg c7] at H;exact absurd H (by simp)
     rw[if_neg c6] at H;exact absurd H (by simp)
    rw[if_neg c5] at H;exact absurd H (by simp)
   rw[if_neg c4] at H;exact absurd H (by simp)
  rw[if_neg c3] at H;have c3b0:decide (x8_1<(a0.size:Int))=false:=decide_eq_false c3;clear c3;obtain⟨t758,A170,H⟩:=Option.bind_eq_some_iff.mp H
  (try dsimp -simprocs only at H)
  have A17:=K_ A170;clear A170;simp only[Option.some.injEq,Prod.mk.injEq] at H
  obtain⟨rfl,rfl⟩:=H;go_wp2_with (first|((with_reducible refine zK (f:=69) rfl ?_);refine zX (some 41) rfl rfl Tryz.func69 (by kernel_rfl) rfl #[.string x6_1] rfl MP ?_;(with_reducible refine (zM.calls k1 x6_1 t758 _ A17.out).mono ?_);rintro e w' ⟨rfl,⟨nd,rfl⟩⟩;refine⟨_,rfl,?_⟩))
  go_ret2
  exact⟨ER,BL HB⟩
def uW.f (a0:Int) (a1:Bool) (a2:Bool) (a3:Int):Option (Bool):=if a0=0 then (some (!a1)) else (if a0=1 then (some a1) else (if a0=2 then (some true) else (if a0=4 then (if a3>0 then (some true) else (if a3=0 then (some a2) else (some false))) else (if a0=5 then (some (decide (a3 ≥ 0))) else (if a0=6 then (some (decide (a3>0))) else (some false))))))
set_option maxHeartbeats 8000000 in
set_option maxRecDepth 100000 in
theorem uW.calls (a0:Int) (a1:Bool) (a2:Bool) (a3:Int) (r:Bool) (w:World) (h:uW.f a0 a1 a2 a3=some r) :
  Calls Tryz.prog 111 #[.int .i64 a0,.bool a1,.bool a2,.int .i64 a3] w fun e w'=>e=.returned (.bool r)∧zJ w w':=by
 have H:(if a0=0 then (some (!a1)) else (if a0=1 then (some a1) else (if a0=2 then (some true) else (if a0=4 then (if a3>0 then (some true) else (if a3=0 then (some a2) else (some false))) else (if a0=5 then (some (decide (a3 ≥ 0))) else (if a0=6 then (some (decide (a3>0))) else (some false)))))))=some r:=h;clear h;by_cases c5:a0=0
 ·rw[if_pos c5] at H
  have c5b0:(a0==0)=true:=beq_iff_eq.mpr c5;have c5b1:(a0 !=0)=false:=bne_eq_false_iff_eq.mpr c5;clear c5;obtain rfl:=Option.some.inj H;go_enter Tryz.func111,Tryz.ntmps111
  go_wp2
  go_ret
  exact⟨by first|rfl|(simp;done)|(simp[*];done)|(simp[*,Fig.bne_nil];done),by repeat (first|exact zJ.refl _|apply zJ.step)⟩
 rw[if_neg c5] at H;have c5b0:(a0==0)=false:=beq_eq_false_iff_ne.mpr c5;have c5b1:(a0 !=0)=true:=bne_iff_ne.mpr c5;by_cases c6:a0=1
 ·rw[if_pos c6] at H
  have c6b0:(a0==1)=true:=beq_iff_eq.mpr c6;have c6b1:(a0 !=1)=false:=bne_eq_false_iff_eq.mpr c6;clear c6;obtain rfl:=Option.some.inj H;go_enter Tryz.func111,Tryz.ntmps111
  go_wp2
  go_ret
  exact⟨by first|rfl|(simp;done)|(simp[*];done)|(simp[*,Fig.bne_nil];done),by repeat (first|exact zJ.refl _|apply zJ.step)⟩
 rw[if_neg c6] at H;have c6b0:(a0==1)=false:=beq_eq_false_iff_ne.mpr c6;have c6b1:(a0 !=1)=true:=bne_iff_ne.mpr c6;by_cases c7:a0=2
 ·rw[if_pos c7] at H
  have c7b0:(a0==2)=true:=beq_iff_eq.mpr c7;have c7b1:(a0 !=2)=false:=bne_eq_false_iff_eq.mpr c7;clear c7;obtain rfl:=Option.some.inj H;go_enter Tryz.func111,Tryz.ntmps111
  go_wp2
  go_ret
  exact⟨by first|rfl|(simp;done)|(simp[*];done)|(simp[*,Fig.bne_nil];done),by repeat (first|exact zJ.refl _|apply zJ.step)⟩
 rw[if_neg c7] at H;have c7b0:(a0==2)=false:=beq_eq_false_iff_ne.mpr c7;have c7b1:(a0 !=2)=true:=bne_iff_ne.mpr c7;by_cases c8:a0=4
 ·rw[if_pos c8] at H
  have c8b0:(a0==4)=true:=beq_iff_eq.mpr c8;have c8b1:(a0 !=4)=false:=bne_eq_false_iff_eq.mpr c8;clear c8;by_cases c9:a3>0
  ·rw[if_pos c9] at H
   have c9b0:decide (0<a3)=true:=decide_eq_true c9;clear c9;obtain rfl:=Option.some.inj H;go_enter Tryz.func111,Tryz.ntmps111
   go_wp2
   go_ret
   exact⟨by first|rfl|(simp;done)|(simp[*];done)|(simp[*,Fig.bne_nil];done),by repeat (first|exact zJ.refl _|apply zJ.step)⟩
  rw[if_neg c9] at H;have c9b0:decide (0<a3)=false:=decide_eq_false c9;clear c9;by_cases c10:a3=0
  ·rw[if_pos c10] at H
   have c10b0:(a3==0)=true:=beq_iff_eq.mpr c10;have c10b1:(a3 !=0)=false:=bne_eq_false_iff_eq.mpr c10;clear c10;obtain rfl:=Option.some.inj H;go_enter Tryz.func111,Tryz.ntmps111
   go_wp2
   go_ret
   exact⟨by first|rfl|(simp;done)|(simp[*];done)|(simp[*,Fig.bne_nil];done),by repeat (first|exact zJ.refl _|apply zJ.step)⟩
  rw[if_neg c10] at H;have c10b0:(a3==0)=false:=beq_eq_false_iff_ne.mpr c10;have c10b1:(a3 !=0)=true:=bne_iff_ne.mpr c10;obtain rfl:=Option.some.inj H;go_enter Tryz.func111,Tryz.ntmps111
  go_wp2
  go_ret
  exact⟨by first|rfl|(simp;done)|(simp[*];done)|(simp[*,Fig.bne_nil];done),by repeat (first|exact zJ.refl _|apply zJ.step)⟩
 rw[if_neg c8] at H;have c8b0:(a0==4)=false:=beq_eq_false_iff_ne.mpr c8;have c8b1:(a0 !=4)=true:=bne_iff_ne.mpr c8;by_cases c11:a0=5
 ·rw[if_pos c11] at H
  have c11b0:(a0==5)=true:=beq_iff_eq.mpr c11;have c11b1:(a0 !=5)=false:=bne_eq_false_iff_eq.mpr c11;clear c11;obtain rfl:=Option.some.inj H;go_enter Tryz.func111,Tryz.ntmps111
  go_wp2
  go_ret
  exact⟨by first|rfl|(simp;done)|(simp[*];done)|(simp[*,Fig.bne_nil];done),by repeat (first|exact zJ.refl _|apply zJ.step)⟩
 rw[if_neg c11] at H;have c11b0:(a0==5)=false:=beq_eq_false_iff_ne.mpr c11;have c11b1:(a0 !=5)=true:=bne_iff_ne.mpr c11;by_cases c12:a0=6
 ·rw[if_pos c12] at H
  have c12b0:(a0==6)=true:=beq_iff_eq.mpr c12;have c12b1:(a0 !=6)=false:=bne_eq_false_iff_eq.mpr c12;clear c12;obtain rfl:=Option.some.inj H;go_enter Tryz.func111,Tryz.ntmps111
  go_wp2
  go_ret
  exact⟨by first|rfl|(simp;done)|(simp[*];done)|(simp[*,Fig.bne_nil];done),by repeat (first|exact zJ.refl _|apply zJ.step)⟩
 rw[if_neg c12] at H;have c12b0:(a0==6)=false:=beq_eq_false_iff_ne.mpr c12;have c12b1:(a0 !=6)=true:=bne_iff_ne.mpr c12;obtain rfl:=Option.some.inj H;go_enter Tryz.func111,Tryz.ntmps111
 go_wp2
 go_ret
 exact⟨by first|rfl|(simp;done)|(simp[*];done)|(simp[*,Fig.bne_nil];done),by repeat (first|exact zJ.refl _|apply zJ.step)⟩
mutual
def zH.j0:Nat→Int→ByteArray→Int→Int→Bool→ByteArray→Int→Option (Bool×ByteArray×Int×Int)
 | 0,_,_,_,_,_,_,_=>none
 | k+1,x0,x2,x3,x10,x786000,x786001,x786002=>(zM.f k x2).bind fun t787=>((jD.f k (wrap64 (x3-x10))).bind fun t788=>(if t787.size+t788.size≤9223372036854775807 then ((uY.f k x786000 x786001 x786002 x10).bind fun t789=>((zU.f k t789 (t787++t788)).bind fun bt790=>(if bt790.2.toList=([]:List UInt8) then ((zV.f k x786000 x786001 x786002).bind fun bt792=>(some (bt792.1,bt792.2.1,bt792.2.2,0))) else (if x0=7 then (some (false,(⟨#[]⟩:ByteArray),0,11)) else ((zT.f k bt790.2 bt790.2).bind fun t795=>((yQ.f t795 (t787++t788)).bind fun t796=>(if t796=true then (zH.j1 k x0 x10 (t787++t788) bt790.1 t795 (-1) x786000 x786001 x786002) else (zH.j1 k x0 x10 (t787++t788) bt790.1 t795 0 x786000 x786001 x786002)))))))) else (none)))
def zH.j1:Nat→Int→Int→ByteArray→ByteArray→ByteArray→Int→Bool→ByteArray→Int→Option (Bool×ByteArray×Int×Int)
 | 0,_,_,_,_,_,_,_,_,_=>none
 | k+1,x0,x10,x11,x12,x14,x15,x786000,x786001,x786002=>(yQ.f x11 x14).bind fun t797=>(if t797=true then (zH.j2 k x0 x10 x11 x12 1 x786000 x786001 x786002) else (zH.j2 k x0 x10 x11 x12 x15 x786000 x786001 x786002))
def zH.j2:Nat→Int→Int→ByteArray→ByteArray→Int→Bool→ByteArray→Int→Option (Bool×ByteArray×Int×Int)
 | 0,_,_,_,_,_,_,_,_=>none
 | k+1,x0,x10,x11,x12,x15,x786000,x786001,x786002=>if (x12.size:Int)>0 then (if 0≤(wrap64 ((x12.size:Int)-1)) then (if (wrap64 ((x12.size:Int)-1))<(x12.size:Int) then (zH.j3 k x0 x10 x11 x12 x15 (((((bt x12 (wrap64 ((x12.size:Int)-1)))-48) % 256) % 2)==1) x786000 x786001 x786002) else (none)) else (none)) else (zH.j3 k x0 x10 x11 x12 x15 false x786000 x786001 x786002)
def zH.j3:Nat→Int→Int→ByteArray→ByteArray→Int→Bool→Bool→ByteArray→Int→Option (Bool×ByteArray×Int×Int)
 | 0,_,_,_,_,_,_,_,_,_=>none
 | k+1,x0,x10,x11,x12,x15,x16,x786000,x786001,x786002=>(uW.f x0 x786000 x16 x15).bind fun t798=>(if t798=true then ((zT.f k x12 (⟨#[49]⟩:ByteArray)).bind fun t799=>((zI.f k t799 x11).bind fun t800=>((vM.f k x786000 t800 x10).bind fun bt801=>(some (bt801.1,bt801.2.1,bt801.2.2,0))))) else ((zI.f k x12 x11).bind fun t804=>((vM.f k x786000 t804 x10).bind fun bt805=>(some (bt805.1,bt805.2.1,bt805.2.2,0)))))
end
def zH.f (k:Nat) (a0:Int) (a1_0:Bool) (a1_1:ByteArray) (a1_2:Int) (a2:ByteArray) (a3:Int):Option (Bool×ByteArray×Int×Int):=if a3<a1_2 then (zH.j0 k a0 a2 a3 a3 a1_0 a1_1 a1_2) else (zH.j0 k a0 a2 a3 a1_2 a1_0 a1_1 a1_2)
def zH.T19:Bool×List (List Nat×List Nat):=(true,[([],[]),([0],[0]),([],[]),([],[]),([2,3],[2,3]),([],[]),([1,4,5,4],[1,4,5]),([6,6,0,1,2,3,4,5,6],[6]),([7,0,1,2,3,4,5,6,7],[])])
def zH.B19:List Nat:=[0,1,0,0,12,0,63,127,255]
theorem zH.tab19:zaj .any (zgh Tryz.f83 19)=zH.T19:=by kernel_rfl
theorem zH.bits19:zbG zH.T19.2 zH.B19=true:=by kernel_rfl
set_option maxHeartbeats 8000000 in
set_option maxRecDepth 100000 in
theorem zH.calls (k:Nat) (a0:Int) (a1_0:Bool) (a1_1:ByteArray) (a1_2:Int) (a2:ByteArray) (a3:Int) (r1:Bool) (r2:ByteArray) (r3:Int) (r4:Int) (w:World) (h:zH.f k a0 a1_0 a1_1 a1_2 a2 a3=some (r1,r2,r3,r4)) :
  Calls Tryz.prog 83 #[.int .i64 a0,.agg #[.bool a1_0,.string a1_1,.int .i64 a1_2],.string a2,.int .i64 a3] w fun e w'=>e=.returned (.tuple #[.agg #[.bool r1,.string r2,.int .i64 r3],.int .i64 r4])∧Below w.heap.size w w':=by
 have hu23:=Tryz.underlying23;have HB:=K_ (Below.refl w.heap.size w);have H:(if a3<a1_2 then (zH.j0 k a0 a2 a3 a3 a1_0 a1_1 a1_2) else (zH.j0 k a0 a2 a3 a1_2 a1_0 a1_1 a1_2))=some (r1,r2,r3,r4):=h;clear h;have HC5:=K_ H;clear H;go_enter Tryz.func83,Tryz.ntmps83
 go_upto_if 21 with (first|((with_reducible refine zE (N:=5) rfl ?_);(try (refine yI (by rfl) ?_;dsimp only));refine be_ 5 #[.bool a1_0,.string a1_1,.int .i64 a1_2] 23 ?_;intro gb785 hg w6 hbox hb;have BK785:=K_ (hbox);have GW785:=ge_ hg HB;have GE785:=ge_ hg HB;replace HB:=zF HB hb;clear hb hbox hg)|((with_reducible refine zE (N:=8) rfl ?_);(try (refine yI (by rfl) ?_;dsimp only));refine be_ 8 #[.bool false,.string (⟨#[]⟩:ByteArray),.int .i64 0] 23 ?_;intro gb786 hg w7 hbox hb;have BK786:=K_ (hbox);have GW786:=ge_ hg HB;have GE786:=ge_ hg HB;replace HB:=zF HB hb;have NB785_786:=nb_ hg BK785;have NB786_785:=nc_ hg BK785;replace BK785:=zC BK785 hb;clear hb hbox hg;have hnb8:=NB785_786.out;have hnc8:=NB786_785.out;obtain⟨⟨hcz9_0,hcz9_1,hcz9_2⟩,hfz9_0,hfz9_1,hfz9_2⟩:=ce3 BK785))
 (try simp only[Act.put,List.setIfInBounds_toArray,List.set_cons_zero,List.set_cons_succ])
 go_cut [10] (fun v10 wc=>∃ (kq:Nat) (x10_4:Int),v10=.int .i64 x10_4∧Aside0 (zH.j0 kq a0 a2 a3 x10_4 a1_0 a1_1 a1_2=some (r1,r2,r3,r4))∧Aside0 (kq≤k)∧Aside0 (wc.heap[gb785]?=some (.cells #[.bool a1_0,.string a1_1,.int .i64 a1_2] 23 (0,0)))∧Aside0 (wc.heap[gb786]?=some (.cells #[.bool false,.string (⟨#[]⟩:ByteArray),.int .i64 0] 23 (0,0)))∧Aside0 (Below w.heap.size w wc))
 case first =>
  have H:=HC5.out;clear HC5;by_cases c10:a3<a1_2
  ·rw[if_pos c10] at H
   have c10b0:decide (a3<a1_2)=true:=decide_eq_true c10;clear c10;(first|rw[c10b0]|(simp only[vN,qU];rw[c10b0])|skip)
   have H':=K_ H;clear H;go_wp2
   go_meet
   case rel=>exact⟨_,(a3),SR,H',⟨by first|omega|exact Nat.le_refl _⟩,⟨BK BK785⟩,⟨BK BK786⟩,⟨BL HB⟩⟩
  rw[if_neg c10] at H;have c10b0:decide (a3<a1_2)=false:=decide_eq_false c10;clear c10;(first|rw[c10b0]|(simp only[vN,qU];rw[c10b0])|skip)
  have H':=K_ H;clear H;go_wp2
  go_meet
  case rel=>exact⟨_,(a1_2),SR,H',⟨by first|omega|exact Nat.le_refl _⟩,⟨BK BK785⟩,⟨BK BK786⟩,⟨BL HB⟩⟩
 clear HC5;try clear hcz9_0
 try clear hcz9_1
 try clear hcz9_2
 try clear hfz9_0
 try clear hfz9_1
 try clear hfz9_2
 obtain⟨kq,x10_4,rfl,HA,HJ4,BK785,BK786,HB⟩:=hcut;obtain _|kj4:=kq
 ·exact absurd HA.out (by simp[zH.j0])
 have H:=HA.out;clear HA;simp only[zH.j0] at H
 obtain⟨t787,A110,H⟩:=Option.bind_eq_some_iff.mp H
 (try dsimp -simprocs only at H)
 have A11:=K_ A110;clear A110;obtain⟨t788,A120,H⟩:=Option.bind_eq_some_iff.mp H
 (try dsimp -simprocs only at H)
 have A12:=K_ A120;clear A120;by_cases c13:t787.size+t788.size≤9223372036854775807
 ·rw[if_pos c13] at H
  have c13b0:=eq_true c13;have c13b1:decide (t787.size+t788.size≤9223372036854775807)=true:=decide_eq_true c13;try have c13b2:(9223372036854775807<t787.size+t788.size)=False:=eq_false (Nat.not_lt.2 c13)
  obtain⟨t789,A140,H⟩:=Option.bind_eq_some_iff.mp H
  (try dsimp -simprocs only at H)
  have A14:=K_ A140;clear A140;obtain⟨⟨t790,t791⟩,A150,H⟩:=Option.bind_eq_some_iff.mp H
  (try dsimp -simprocs only at H)
  have A15:=K_ A150;clear A150;by_cases c16:t791.toList=([]:List UInt8)
  ·rw[if_pos c16] at H
   have c16b0:(t791.toList==([]:List UInt8))=true:=beq_iff_eq.mpr c16;have c16b1:(t791.toList !=([]:List UInt8))=false:=bne_eq_false_iff_eq.mpr c16;clear c16;obtain⟨⟨t792,t793,t794⟩,A170,H⟩:=Option.bind_eq_some_iff.mp H
   (try dsimp -simprocs only at H)
   have A17:=K_ A170;clear A170;simp only[Option.some.injEq,Prod.mk.injEq] at H
   obtain⟨rfl,rfl,rfl,rfl⟩:=H;go_wp2_with (first|((with_reducible refine zK (f:=69) rfl ?_);refine zX (some 24) rfl rfl Tryz.func69 (by kernel_rfl) rfl #[.string a2] rfl MP ?_;(with_reducible refine (zM.calls kj4 a2 t787 _ A11.out).mono ?_);rintro e w' ⟨rfl,⟨nd,rfl⟩⟩;refine⟨_,rfl,?_⟩;(try (rw[xO wc];generalize hq_:World.drewN wc _=wc;replace BK785:=zby BK785 hq_;replace BK786:=zby BK786 hq_;replace HB:=zdf HB hq_;clear hq_));(try (obtain⟨⟨hcz9068_0,hcz9068_1,hcz9068_2⟩,hfz9068_0,hfz9068_1,hfz9068_2⟩:=ce3 BK785));(try (obtain⟨⟨hcz9069_0,hcz9069_1,hcz9069_2⟩,hfz9069_0,hfz9069_1,hfz9069_2⟩:=ce3 BK786)))|((with_reducible refine zK (f:=70) rfl ?_);refine zX (some 28) rfl rfl Tryz.func70 (by kernel_rfl) rfl #[.int .i64 (wrap64 (a3-x10_4))] rfl MP ?_;(with_reducible refine (jD.calls kj4 (wrap64 (a3-x10_4)) t788 _ A12.out).mono ?_);rintro e w18 ⟨rfl,hb⟩;refine⟨_,rfl,?_⟩;replace BK785:=zC BK785 hb;replace BK786:=zC BK786 hb;replace HB:=zF HB hb;(try clear hb);(try clear hb2);(try clear hk);(try clear hi);have hnb19:=NB785_786.out;have hnc19:=NB786_785.out;obtain⟨⟨hcz20_0,hcz20_1,hcz20_2⟩,hfz20_0,hfz20_1,hfz20_2⟩:=ce3 BK785)|((with_reducible refine zK (f:=42) rfl ?_);refine zX (some 33) rfl rfl Tryz.func42 (by kernel_rfl) rfl #[.agg #[.bool a1_0,.string a1_1,.int .i64 a1_2],.int .i64 x10_4] rfl MP ?_;(with_reducible refine (uY.calls kj4 a1_0 a1_1 a1_2 x10_4 t789 _ A14.out).mono ?_);rintro e w21 ⟨rfl,hb⟩;refine⟨_,rfl,?_⟩;replace BK785:=zC BK785 hb;replace BK786:=zC BK786 hb;replace HB:=zF HB hb;(try clear hb);(try clear hb2);(try clear hk);(try clear hi))|((with_reducible refine zK (f:=109) rfl ?_);refine zX (some 35) rfl rfl Tryz.func109 (by kernel_rfl) rfl #[.string t789,.string (t787++t788)] rfl MP ?_;(with_reducible refine (zU.calls kj4 t789 (t787++t788) t790 t791 _ A15.out).mono ?_);rintro e w22 ⟨rfl,hb⟩;refine⟨_,rfl,?_⟩;replace BK785:=zC BK785 hb;replace BK786:=zC BK786 hb;replace HB:=zF HB hb;(try clear hb);(try clear hb2);(try clear hk);(try clear hi);obtain⟨⟨hcz23_0,hcz23_1,hcz23_2⟩,hfz23_0,hfz23_1,hfz23_2⟩:=ce3 BK785)|((with_reducible refine zK (f:=50) rfl ?_);refine zX (some 41) rfl rfl Tryz.func50 (by kernel_rfl) rfl #[.agg #[.bool a1_0,.string a1_1,.int .i64 a1_2]] rfl MP ?_;(with_reducible refine (zV.calls kj4 a1_0 a1_1 a1_2 t792 t793 t794 _ A17.out).mono ?_);rintro e w24 ⟨rfl,hb⟩;refine⟨_,rfl,?_⟩;replace BK785:=zC BK785 hb;replace BK786:=zC BK786 hb;replace HB:=zF HB hb;(try clear hb);(try clear hb2);(try clear hk);(try clear hi);obtain⟨⟨hcz25_0,hcz25_1,hcz25_2⟩,hfz25_0,hfz25_1,hfz25_2⟩:=ce3 BK786))
   refine bodyPost_ret (jF rfl _ _ gb786 23 #[.bool t792,.string t793,.int .i64 t794] (0,0) _ rfl (BP BK786) Tryz.underlying23 rfl (by kernel_rfl)) rfl ?_;exact⟨ER,BL HB⟩
  rw[if_neg c16] at H;have c16b0:(t791.toList==([]:List UInt8))=false:=beq_eq_false_iff_ne.mpr c16;have c16b1:(t791.toList !=([]:List UInt8))=true:=bne_iff_ne.mpr c16;by_cases c26:a0=7
  ·rw[if_pos c26] at H
   have c26b0:(a0==7)=true:=beq_iff_eq.mpr c26;have c26b1:(a0 !=7)=false:=bne_eq_false_iff_eq.mpr c26;clear c26;simp only[Option.some.injEq,Prod.mk.injEq] at H
   obtain⟨rfl,rfl,rfl,rfl⟩:=H;go_wp2_with (first|((with_reducible refine zK (f:=69) rfl ?_);refine zX (some 24) rfl rfl Tryz.func69 (by kernel_rfl) rfl #[.string a2] rfl MP ?_;(with_reducible refine (zM.calls kj4 a2 t787 _ A11.out).mono ?_);rintro e w' ⟨rfl,⟨nd,rfl⟩⟩;refine⟨_,rfl,?_⟩;(try (rw[xO wc];generalize hq_:World.drewN wc _=wc;replace BK785:=zby BK785 hq_;replace BK786:=zby BK786 hq_;replace HB:=zdf HB hq_;clear hq_));(try (obtain⟨⟨hcz9070_0,hcz9070_1,hcz9070_2⟩,hfz9070_0,hfz9070_1,hfz9070_2⟩:=ce3 BK785));(try (obtain⟨⟨hcz9071_0,hcz9071_1,hcz9071_2⟩,hfz9071_0,hfz9071_1,hfz9071_2⟩:=ce3 BK786)))|((with_reducible refine zK (f:=70) rfl ?_);refine zX (some 28) rfl rfl Tryz.func70 (by kernel_rfl) rfl #[.int .i64 (wrap64 (a3-x10_4))] rfl MP ?_;(with_reducible refine (jD.calls kj4 (wrap64 (a3-x10_4)) t788 _ A12.out).mono ?_);rintro e w27 ⟨rfl,hb⟩;refine⟨_,rfl,?_⟩;replace BK785:=zC BK785 hb;replace BK786:=zC BK786 hb;replace HB:=zF HB hb;(try clear hb);(try clear hb2);(try clear hk);(try clear hi);have hnb28:=NB785_786.out;have hnc28:=NB786_785.out;obtain⟨⟨hcz29_0,hcz29_1,hcz29_2⟩,hfz29_0,hfz29_1,hfz29_2⟩:=ce3 BK785)|((with_reducible refine zK (f:=42) rfl ?_);refine zX (some 33) rfl rfl Tryz.func42 (by kernel_rfl) rfl #[.agg #[.bool a1_0,.string a1_1,.int .i64 a1_2],.int .i64 x10_4] rfl MP ?_;(with_reducible refine (uY.calls kj4 a1_0 a1_1 a1_2 x10_4 t789 _ A14.out).mono ?_);rintro e w30 ⟨rfl,hb⟩;refine⟨_,rfl,?_⟩;replace BK785:=zC BK785 hb;replace BK786:=zC BK786 hb;replace HB:=zF HB hb;(try clear hb);(try clear hb2);(try clear hk);(try clear hi))|((with_reducible refine zK (f:=109) rfl ?_);refine zX (some 35) rfl rfl Tryz.func109 (by kernel_rfl) rfl #[.string t789,.string (t787++t788)] rfl MP ?_;(with_reducible refine (zU.calls kj4 t789 (t787++t788) t790 t791 _ A15.out).mono ?_);rintro e w31 ⟨rfl,hb⟩;refine⟨_,rfl,?_⟩;replace BK785:=zC BK785 hb;replace BK786:=zC BK786 hb;replace HB:=zF HB hb;(try clear hb);(try clear hb2);(try clear hk);(try clear hi);obtain⟨⟨hcz32_0,hcz32_1,hcz32_2⟩,hfz32_0,hfz32_1,hfz32_2⟩:=ce3 BK786))
   refine bodyPost_ret (jF rfl _ _ gb786 23 #[.bool false,.string (⟨#[]⟩:ByteArray),.int .i64 0] (0,0) _ rfl (BP BK786) Tryz.underlying23 rfl (by kernel_rfl)) rfl ?_;exact⟨ER,BL HB⟩
  rw[if_neg c26] at H;have c26b0:(a0==7)=false:=beq_eq_false_iff_ne.mpr c26;have c26b1:(a0 !=7)=true:=bne_iff_ne.mpr c26;obtain⟨t795,A330,H⟩:=Option.bind_eq_some_iff.mp H
  (try dsimp -simprocs only at H)
  have A33:=K_ A330;clear A330;obtain⟨t796,A340,H⟩:=Option.bind_eq_some_iff.mp H
  (try dsimp -simprocs only at H)
  have A34:=K_ A340;clear A340;have HC35:=K_ H;clear H;go_upto_if 50 with (first|((with_reducible refine zK (f:=69) rfl ?_);refine zX (some 24) rfl rfl Tryz.func69 (by kernel_rfl) rfl #[.string a2] rfl MP ?_;(with_reducible refine (zM.calls kj4 a2 t787 _ A11.out).mono ?_);rintro e w' ⟨rfl,⟨nd,rfl⟩⟩;refine⟨_,rfl,?_⟩)|((with_reducible refine zK (f:=70) rfl ?_);refine zX (some 28) rfl rfl Tryz.func70 (by kernel_rfl) rfl #[.int .i64 (wrap64 (a3-x10_4))] rfl MP ?_;(with_reducible refine (jD.calls kj4 (wrap64 (a3-x10_4)) t788 _ A12.out).mono ?_);rintro e w36 ⟨rfl,hb⟩;refine⟨_,rfl,?_⟩;replace BK785:=zC BK785 hb;replace BK786:=zC BK786 hb;replace HB:=zF HB hb;(try clear hb);(try clear hb2);(try clear hk);(try clear hi);have hnb37:=NB785_786.out;have hnc37:=NB786_785.out;obtain⟨⟨hcz38_0,hcz38_1,hcz38_2⟩,hfz38_0,hfz38_1,hfz38_2⟩:=ce3 BK785)|((with_reducible refine zK (f:=42) rfl ?_);refine zX (some 33) rfl rfl Tryz.func42 (by kernel_rfl) rfl #[.agg #[.bool a1_0,.string a1_1,.int .i64 a1_2],.int .i64 x10_4] rfl MP ?_;(with_reducible refine (uY.calls kj4 a1_0 a1_1 a1_2 x10_4 t789 _ A14.out).mono ?_);rintro e w39 ⟨rfl,hb⟩;refine⟨_,rfl,?_⟩;replace BK785:=zC BK785 hb;replace BK786:=zC BK786 hb;replace HB:=zF HB hb;(try clear hb);(try clear hb2);(try clear hk);(try clear hi))|((with_reducible refine zK (f:=109) rfl ?_);refine zX (some 35) rfl rfl Tryz.func109 (by kernel_rfl) rfl #[.string t789,.string (t787++t788)] rfl MP ?_;(with_reducible refine (zU.calls kj4 t789 (t787++t788) t790 t791 _ A15.out).mono ?_);rintro e w40 ⟨rfl,hb⟩;refine⟨_,rfl,?_⟩;replace BK785:=zC BK785 hb;replace BK786:=zC BK786 hb;replace HB:=zF HB hb;(try clear hb);(try clear hb2);(try clear hk);(try clear hi))|((with_reducible refine zK (f:=110) rfl ?_);refine zX (some 47) rfl rfl Tryz.func110 (by kernel_rfl) rfl #[.string t791,.string t791] rfl MP ?_;(with_reducible refine (zT.calls kj4 t791 t791 t795 _ A33.out).mono ?_);rintro e w41 ⟨rfl,hb⟩;refine⟨_,rfl,?_⟩;replace BK785:=zC BK785 hb;replace BK786:=zC BK786 hb;replace HB:=zF HB hb;(try clear hb);(try clear hb2);(try clear hk);(try clear hi))|((with_reducible refine zK (f:=43) rfl ?_);refine zX (some 50) rfl rfl Tryz.func43 (by kernel_rfl) rfl #[.string t795,.string (t787++t788)] rfl MP ?_;(with_reducible refine (yQ.calls t795 (t787++t788) t796 _ A34.out).mono ?_);rintro e w' ⟨rfl,⟨nd,rfl⟩⟩;refine⟨_,rfl,?_⟩))
  (try simp only[Act.put,List.setIfInBounds_toArray,List.set_cons_zero,List.set_cons_succ])
  go_cut [15] (fun v15 wc=>∃ (kq:Nat) (x15_34:Int),v15=.int .i64 x15_34∧Aside0 (zH.j1 kq a0 x10_4 (t787++t788) t790 t795 x15_34 a1_0 a1_1 a1_2=some (r1,r2,r3,r4))∧Aside0 (kq≤kj4)∧Aside0 (wc.heap[gb785]?=some (.cells #[.bool a1_0,.string a1_1,.int .i64 a1_2] 23 (0,0)))∧Aside0 (wc.heap[gb786]?=some (.cells #[.bool false,.string (⟨#[]⟩:ByteArray),.int .i64 0] 23 (0,0)))∧Aside0 (Below w.heap.size w wc))
  case first =>
   have H:=HC35.out;clear HC35;by_cases c42:t796=true
   ·subst c42
    rw[if_pos rfl] at H;have H':=K_ H;clear H;go_wp2
    go_meet
    case rel=>exact⟨_,((-1)),SR,H',⟨by have:=HJ4.out;first|omega|exact Nat.le_refl _⟩,⟨BK BK785⟩,⟨BK BK786⟩,⟨BL HB⟩⟩
   replace c42:=Bool.eq_false_iff.mpr c42;subst c42;rw[if_neg (show ¬ (false=true) by decide)] at H;have H':=K_ H;clear H;go_wp2
   go_meet
   case rel=>exact⟨_,(0),SR,H',⟨by have:=HJ4.out;first|omega|exact Nat.le_refl _⟩,⟨BK BK785⟩,⟨BK BK786⟩,⟨BL HB⟩⟩
  clear HC35;try clear c13
  try clear c13b0
  try clear c13b1
  try clear c13b2
  try clear c16
  try clear c16b0
  try clear c16b1
  try clear c26
  try clear c26b0
  try clear c26b1
  try clear hcz38_0
  try clear hcz38_1
  try clear hcz38_2
  try clear hfz38_0
  try clear hfz38_1
  try clear hfz38_2
  obtain⟨kq,x15_34,rfl,HA,HJ34,BK785,BK786,HB⟩:=hcut;obtain _|kj34:=kq
  ·exact absurd HA.out (by simp[zH.j1])
  have H:=HA.out;clear HA;simp only[zH.j1] at H
  obtain⟨t797,A430,H⟩:=Option.bind_eq_some_iff.mp H
  (try dsimp -simprocs only at H)
  have A43:=K_ A430;clear A430;have HC44:=K_ H;clear H;go_upto_if 53 with (first|((with_reducible refine zK (f:=43) rfl ?_);refine zX (some 53) rfl rfl Tryz.func43 (by kernel_rfl) rfl #[.string (t787++t788),.string t795] rfl MP ?_;(with_reducible refine (yQ.calls (t787++t788) t795 t797 _ A43.out).mono ?_);rintro e w' ⟨rfl,⟨nd,rfl⟩⟩;refine⟨_,rfl,?_⟩))
  (try simp only[Act.put,List.setIfInBounds_toArray,List.set_cons_zero,List.set_cons_succ])
  go_cut [15] (fun v15 wc=>∃ (kq:Nat) (x15_43:Int),v15=.int .i64 x15_43∧Aside0 (zH.j2 kq a0 x10_4 (t787++t788) t790 x15_43 a1_0 a1_1 a1_2=some (r1,r2,r3,r4))∧Aside0 (kq≤kj34)∧Aside0 (wc.heap[gb785]?=some (.cells #[.bool a1_0,.string a1_1,.int .i64 a1_2] 23 (0,0)))∧Aside0 (wc.heap[gb786]?=some (.cells #[.bool false,.string (⟨#[]⟩:ByteArray),.int .i64 0] 23 (0,0)))∧Aside0 (Below w.heap.size w wc))
  case first =>
   have H:=HC44.out;clear HC44;by_cases c45:t797=true
   ·subst c45
    rw[if_pos rfl] at H;have H':=K_ H;clear H;go_wp2
    go_meet
    case rel=>exact⟨_,(1),SR,H',⟨by have:=HJ4.out;have:=HJ34.out;first|omega|exact Nat.le_refl _⟩,⟨BK BK785⟩,⟨BK BK786⟩,⟨BL HB⟩⟩
   replace c45:=Bool.eq_false_iff.mpr c45;subst c45;rw[if_neg (show ¬ (false=true) by decide)] at H;have H':=K_ H;clear H;go_wp2
   go_meet
   case rel=>exact⟨_,(x15_34),SR,H',⟨by have:=HJ4.out;have:=HJ34.out;first|omega|exact Nat.le_refl _⟩,⟨BK BK785⟩,⟨BK BK786⟩,⟨BL HB⟩⟩
  clear HC44;obtain⟨kq,x15_43,rfl,HA,HJ43,BK785,BK786,HB⟩:=hcut;obtain _|kj43:=kq
  ·exact absurd HA.out (by simp[zH.j2])
  have H:=HA.out;clear HA;simp only[zH.j2] at H
  have HC46:=K_ H;clear H;go_upto_region 16 with (fail)
  go_cut [16] (fun v16 wc=>∃ (kq:Nat) (x16_45:Bool),v16=.bool x16_45∧Aside0 (zH.j3 kq a0 x10_4 (t787++t788) t790 x15_43 x16_45 a1_0 a1_1 a1_2=some (r1,r2,r3,r4))∧Aside0 (kq≤kj43)∧Aside0 (wc.heap[gb785]?=some (.cells #[.bool a1_0,.string a1_1,.int .i64 a1_2] 23 (0,0)))∧Aside0 (wc.heap[gb786]?=some (.cells #[.bool false,.string (⟨#[]⟩:ByteArray),.int .i64 0] 23 (0,0)))∧Aside0 (Below w.heap.size w wc))
  case first =>
   have H:=HC46.out;clear HC46;by_cases c47:(t790.size:Int)>0
   ·rw[if_pos c47] at H
    have c47b0:decide (0<(t790.size:Int))=true:=decide_eq_true c47;have c47b1:decide (0<t790.size)=true:=decide_eq_true (by omega);clear c47;(first|rw[c47b0]|(simp only[vN,qU];rw[c47b0])|skip)
    obtain⟨ji48,hji48⟩:∃ j_:Int,(wrap64 ((t790.size:Int)-1))=j_:=⟨_,rfl⟩
    replace H:(if 0≤(ji48) then (if (ji48)<(t790.size:Int) then (zH.j3 kj43 a0 x10_4 (t787++t788) t790 x15_43 (((((bt t790 (ji48))-48) % 256) % 2)==1) a1_0 a1_1 a1_2) else (none)) else (none))=some (r1,r2,r3,r4):=by first|(rw[hji48] at H;exact H)|(simp only[hji48] at H ⊢;exact H)
    have hji48w:(IntKind.i64.wrap ((t790.size:Int)-1))=ji48:=(vN _).trans hji48;by_cases c49:0≤(ji48)
    ·rw[if_pos c49] at H
     have c49b0:decide (0≤(ji48))=true:=decide_eq_true c49;clear c49;by_cases c50:(ji48)<(t790.size:Int)
     ·rw[if_pos c50] at H
      have c50b0:decide ((ji48)<(t790.size:Int))=true:=decide_eq_true c50;clear c50;have H':=K_ H;clear H;have p51:0≤((ji48):Int):=of_decide_eq_true (by first|(with_reducible assumption)|assumption);have q51:(ji48)<(t790.size:Int):=of_decide_eq_true (by first|(with_reducible assumption)|assumption);have hx51:=xU t790 (ji48);replace p51:=eq_true p51;replace q51:=eq_true q51;go_wp2
      go_meet
      case rel=>exact⟨_,((((((bt t790 (ji48))-48) % 256) % 2)==1)),(by first|rfl|(simp;done)|(simp only[←hji48] <;> (first|rfl|simp))|(simp[*];done)|(simp[*,Fig.bne_nil];done)),H',⟨by have:=HJ4.out;have:=HJ34.out;have:=HJ43.out;first|omega|exact Nat.le_refl _⟩,⟨BK BK785⟩,⟨BK BK786⟩,⟨BL HB⟩⟩
     rw[if_neg c50] at H;exact absurd H (by simp)
    rw[if_neg c49] at H;exact absurd H (by simp)
   rw[if_neg c47] at H;have c47b0:decide (0<(t790.size:Int))=false:=decide_eq_false c47;have c47b1:decide (0<t790.size)=false:=decide_eq_false (by omega);clear c47;(first|rw[c47b0]|(simp only[vN,qU];rw[c47b0])|skip)
   have H':=K_ H;clear H;go_wp2
   go_meet
   case rel=>exact⟨_,(false),SR,H',⟨by have:=HJ4.out;have:=HJ34.out;have:=HJ43.out;first|omega|exact Nat.le_refl _⟩,⟨BK BK785⟩,⟨BK BK786⟩,⟨BL HB⟩⟩
  clear HC46;obtain⟨kq,x16_45,rfl,HA,HJ45,BK785,BK786,HB⟩:=hcut;obtain _|kj45:=kq
  ·exact absurd HA.out (by simp[zH.j3])
  have H:=HA.out;clear HA;simp only[zH.j3] at H
  obtain⟨t798,A520,H⟩:=Option.bind_eq_some_iff.mp H
  (try dsimp -simprocs only at H)
  have A52:=K_ A520;clear A520;by_cases c53:t798=true
  ·subst c53
   rw[if_pos rfl] at H;obtain⟨t799,A540,H⟩:=Option.bind_eq_some_iff.mp H
   (try dsimp -simprocs only at H)
   have A54:=K_ A540;clear A540;obtain⟨t800,A550,H⟩:=Option.bind_eq_some_iff.mp H
   (try dsimp -simprocs only at H)
   have A55:=K_ A550;clear A550;obtain⟨⟨t801,t802,t803⟩,A560,H⟩:=Option.bind_eq_some_iff.mp H
   (try dsimp -simprocs only at H)
   have A56:=K_ A560;clear A560;simp only[Option.some.injEq,Prod.mk.injEq] at H
   obtain⟨rfl,rfl,rfl,rfl⟩:=H;have hnb57:=NB785_786.out;have hnc57:=NB786_785.out;obtain⟨⟨hcz58_0,hcz58_1,hcz58_2⟩,hfz58_0,hfz58_1,hfz58_2⟩:=ce3 BK785;try go_wp2_with (first|((with_reducible refine zK (f:=111) rfl ?_);refine zX (some 72) rfl rfl Tryz.func111 (by kernel_rfl) rfl #[.int .i64 a0,.bool a1_0,.bool x16_45,.int .i64 x15_43] rfl MP ?_;(with_reducible refine (uW.calls a0 a1_0 x16_45 x15_43 true _ A52.out).mono ?_);rintro e w' ⟨rfl,⟨nd,rfl⟩⟩;refine⟨_,rfl,?_⟩;(try (rw[xO wc];generalize hq_:World.drewN wc _=wc;replace BK785:=zby BK785 hq_;replace BK786:=zby BK786 hq_;replace HB:=zdf HB hq_;clear hq_));(try (obtain⟨⟨hcz9072_0,hcz9072_1,hcz9072_2⟩,hfz9072_0,hfz9072_1,hfz9072_2⟩:=ce3 BK785));(try (obtain⟨⟨hcz9073_0,hcz9073_1,hcz9073_2⟩,hfz9073_0,hfz9073_1,hfz9073_2⟩:=ce3 BK786)))|((with_reducible refine zK (f:=110) rfl ?_);refine zX (some 74) rfl rfl Tryz.func110 (by kernel_rfl) rfl #[.string t790,.string (⟨#[49]⟩:ByteArray)] rfl MP ?_;(with_reducible refine (zT.calls kj45 t790 (⟨#[49]⟩:ByteArray) t799 _ A54.out).mono ?_);rintro e w59 ⟨rfl,hb⟩;refine⟨_,rfl,?_⟩;replace BK785:=zC BK785 hb;replace BK786:=zC BK786 hb;replace HB:=zF HB hb;(try clear hb);(try clear hb2);(try clear hk);(try clear hi)))
   (try (rw[xO w59];generalize hq_:World.drewN w59 _=w59;replace BK785:=zby BK785 hq_;replace BK786:=zby BK786 hq_;replace HB:=zdf HB hq_;clear hq_))
   replace BK785:=K_ (jQ BK785.out);replace BK786:=K_ (jQ BK786.out);replace HB:=K_ (yX HB.out);refine yE (n:=9) (S:=fun w'=>w'.cell? ⟨gb785,0,none⟩=some (.bool a1_0)∧w'.cell? ⟨gb785,1,none⟩=some (.string a1_1)∧w'.cell? ⟨gb785,2,none⟩=some (.int .i64 a1_2)) (ds:=[]) #[false,false,false,false,false,false,false,false,false] (by kernel_rfl) rfl rfl CE (fun hHeld=>?_);refine zcg zH.tab19 zH.bits19 (fun HT_ HW_=>?_);generalize w59.drew=w60 at BK785 BK786 HB hHeld ⊢
   refine pu_ 0 (some 75) (bb 9 1) (jN HT_.out (by kernel_rfl)) ?_;refine pu_ 2 (some 77) (bb 9 5) (jN HT_.out (by kernel_rfl)) ?_;refine pu_ 3 (some 78) (bb 9 13) (jN HT_.out (by kernel_rfl)) ?_;refine pu_ 5 (some 80) (bb 9 45) (jN HT_.out (by kernel_rfl)) ?_;refine tk_ 1 (some 76) (bb 9 47) (zbT HT_.out HW_.out (by kernel_rfl)) hHeld ?_;refine zbv (i:=4) (N:=some 79) (bb 9 63) rfl rfl (zaf HT_.out (by kernel_rfl)) (by decide) (fun K hK=>?_);refine gq_ Tryz.func112 #[.string t799,.string (t787++t788)] ?_;with_reducible refine (zI.calls kj45 t799 (t787++t788) t800 _ A55.out).mono ?_
   rintro e w61 ⟨rfl,hb⟩;refine⟨_,rfl,?_⟩;replace BK785:=zC BK785 hb;replace BK786:=zC BK786 hb;replace HB:=zF HB hb
   (try clear hb)
   (try clear hb2)
   (try clear hk)
   (try clear hi)
   refine hK.out _ _ CE (fun hHeld=>?_);clear hK K;refine no_ (some 79) ?_;refine zbv (i:=6) (N:=some 81) (bb 9 127) rfl rfl (zaf HT_.out (by kernel_rfl)) (by decide) (fun K hK=>?_);refine gq_ Tryz.func29 #[.bool a1_0,.string t800,.int .i64 x10_4] ?_;with_reducible refine (vM.calls kj45 a1_0 t800 x10_4 t801 t802 t803 _ A56.out).mono ?_
   rintro e w62 ⟨rfl,hb⟩;refine⟨_,rfl,?_⟩;replace BK785:=zC BK785 hb;replace BK786:=zC BK786 hb;replace HB:=zF HB hb
   (try clear hb)
   (try clear hb2)
   (try clear hk)
   (try clear hi)
   refine hK.out _ _ CE (fun hHeld=>?_);clear hK K;refine no_ (some 81) ?_;refine zbv (i:=7) (N:=none) (bb 9 255) rfl rfl (zaf HT_.out (by kernel_rfl)) (by decide) (fun K hK=>?_);have hs63:w62.cell? ⟨gb786,0,none⟩=some (.bool false):=(zA BK786.out 0).trans rfl;have hfs63:=zL BK786.out 0;have hns63_0:=NB785_786.out;have hms63_0:=NB786_785.out;have hs64:w62.cell? ⟨gb786,1,none⟩=some (.string (⟨#[]⟩:ByteArray)):=(zA BK786.out 1).trans rfl;have hfs64:=zL BK786.out 1;have hns64_0:=NB785_786.out;have hms64_0:=NB786_785.out;have hs65:w62.cell? ⟨gb786,2,none⟩=some (.int .i64 0):=(zA BK786.out 2).trans rfl;have hfs65:=zL BK786.out 2;have hns65_0:=NB785_786.out;have hms65_0:=NB786_785.out;refine xT (w1:=?_) (by rfl) rfl ?_ ?_;rotate_left
   ·go_simp
    rfl
   refine hK.out _ _ ⟨((yL (p:=⟨gb786,_,none⟩) NB785_786.out _).trans (((yL (p:=⟨gb786,_,none⟩) NB785_786.out _).trans (((yL (p:=⟨gb786,_,none⟩) NB785_786.out _).trans (hHeld.1)))))),((yL (p:=⟨gb786,_,none⟩) NB785_786.out _).trans (((yL (p:=⟨gb786,_,none⟩) NB785_786.out _).trans (((yL (p:=⟨gb786,_,none⟩) NB785_786.out _).trans (hHeld.2.1)))))),((yL (p:=⟨gb786,_,none⟩) NB785_786.out _).trans (((yL (p:=⟨gb786,_,none⟩) NB785_786.out _).trans (((yL (p:=⟨gb786,_,none⟩) NB785_786.out _).trans (hHeld.2.2))))))⟩ (fun hHeld=>?_);clear hK K;refine pu_ 8 (some 9) (bb 9 511) (jN HT_.out (by kernel_rfl)) ?_;refine yZ (zcd HT_.out (by kernel_rfl)) ?_;try go_wp2
   refine bodyPost_ret (jF rfl _ _ gb786 23 #[.bool t801,.string t802,.int .i64 t803] (0,0) _ rfl (BP BK786) Tryz.underlying23 rfl (by kernel_rfl)) rfl ?_;exact⟨ER,BL HB⟩
  replace c53:=Bool.eq_false_iff.mpr c53;subst c53;rw[if_neg (show ¬ (false=true) by decide)] at H;obtain⟨t804,A660,H⟩:=Option.bind_eq_some_iff.mp H
  (try dsimp -simprocs only at H)
  have A66:=K_ A660;clear A660;obtain⟨⟨t805,t806,t807⟩,A670,H⟩:=Option.bind_eq_some_iff.mp H
  (try dsimp -simprocs only at H)
  have A67:=K_ A670;clear A670;simp only[Option.some.injEq,Prod.mk.injEq] at H
  obtain⟨rfl,rfl,rfl,rfl⟩:=H;have hnb68:=NB785_786.out;have hnc68:=NB786_785.out;obtain⟨⟨hcz69_0,hcz69_1,hcz69_2⟩,hfz69_0,hfz69_1,hfz69_2⟩:=ce3 BK785;try go_wp2_with (first|((with_reducible refine zK (f:=111) rfl ?_);refine zX (some 72) rfl rfl Tryz.func111 (by kernel_rfl) rfl #[.int .i64 a0,.bool a1_0,.bool x16_45,.int .i64 x15_43] rfl MP ?_;(with_reducible refine (uW.calls a0 a1_0 x16_45 x15_43 false _ A52.out).mono ?_);rintro e w' ⟨rfl,⟨nd,rfl⟩⟩;refine⟨_,rfl,?_⟩;(try (rw[xO wc];generalize hq_:World.drewN wc _=wc;replace BK785:=zby BK785 hq_;replace BK786:=zby BK786 hq_;replace HB:=zdf HB hq_;clear hq_));(try (obtain⟨⟨hcz9074_0,hcz9074_1,hcz9074_2⟩,hfz9074_0,hfz9074_1,hfz9074_2⟩:=ce3 BK785));(try (obtain⟨⟨hcz9075_0,hcz9075_1,hcz9075_2⟩,hfz9075_0,hfz9075_1,hfz9075_2⟩:=ce3 BK786))))
  (try (rw[xO wc];generalize hq_:World.drewN wc _=wc;replace BK785:=zby BK785 hq_;replace BK786:=zby BK786 hq_;replace HB:=zdf HB hq_;clear hq_))
  replace BK785:=K_ (jQ BK785.out);replace BK786:=K_ (jQ BK786.out);replace HB:=K_ (yX HB.out);refine yE (n:=9) (S:=fun w'=>w'.cell? ⟨gb785,0,none⟩=some (.bool a1_0)∧w'.cell? ⟨gb785,1,none⟩=some (.string a1_1)∧w'.cell? ⟨gb785,2,none⟩=some (.int .i64 a1_2)) (ds:=[]) #[false,false,false,false,false,false,false,false,false] (by kernel_rfl) rfl rfl CE (fun hHeld=>?_);refine zcg zH.tab19 zH.bits19 (fun HT_ HW_=>?_);generalize wc.drew=w70 at BK785 BK786 HB hHeld ⊢
  refine pu_ 0 (some 75) (bb 9 1) (jN HT_.out (by kernel_rfl)) ?_;refine pu_ 2 (some 77) (bb 9 5) (jN HT_.out (by kernel_rfl)) ?_;refine pu_ 3 (some 78) (bb 9 13) (jN HT_.out (by kernel_rfl)) ?_;refine pu_ 5 (some 80) (bb 9 45) (jN HT_.out (by kernel_rfl)) ?_;refine tk_ 1 (some 76) (bb 9 47) (zbT HT_.out HW_.out (by kernel_rfl)) hHeld ?_;refine zbv (i:=4) (N:=some 79) (bb 9 63) rfl rfl (zaf HT_.out (by kernel_rfl)) (by decide) (fun K hK=>?_);refine gq_ Tryz.func112 #[.string t790,.string (t787++t788)] ?_;with_reducible refine (zI.calls kj45 t790 (t787++t788) t804 _ A66.out).mono ?_
  rintro e w71 ⟨rfl,hb⟩;refine⟨_,rfl,?_⟩;replace BK785:=zC BK785 hb;replace BK786:=zC BK786 hb;replace HB:=zF HB hb
  (try clear hb)
  (try clear hb2)
  (try clear hk)
  (try clear hi)
  refine hK.out _ _ CE (fun hHeld=>?_);clear hK K;refine no_ (some 79) ?_;refine zbv (i:=6) (N:=some 81) (bb 9 127) rfl rfl (zaf HT_.out (by kernel_rfl)) (by decide) (fun K hK=>?_);refine gq_ Tryz.func29 #[.bool a1_0,.string t804,.int .i64 x10_4] ?_;with_reducible refine (vM.calls kj45 a1_0 t804 x10_4 t805 t806 t807 _ A67.out).mono ?_
  rintro e w72 ⟨rfl,hb⟩;refine⟨_,rfl,?_⟩;replace BK785:=zC BK785 hb;replace BK786:=zC BK786 hb;replace HB:=zF HB hb
  (try clear hb)
  (try clear hb2)
  (try clear hk)
  (try clear hi)
  refine hK.out _ _ CE (fun hHeld=>?_);clear hK K;refine no_ (some 81) ?_;refine zbv (i:=7) (N:=none) (bb 9 255) rfl rfl (zaf HT_.out (by kernel_rfl)) (by decide) (fun K hK=>?_);have hs73:w72.cell? ⟨gb786,0,none⟩=some (.bool false):=(zA BK786.out 0).trans rfl;have hfs73:=zL BK786.out 0;have hns73_0:=NB785_786.out;have hms73_0:=NB786_785.out;have hs74:w72.cell? ⟨gb786,1,none⟩=some (.string (⟨#[]⟩:ByteArray)):=(zA BK786.out 1).trans rfl;have hfs74:=zL BK786.out 1;have hns74_0:=NB785_786.out;have hms74_0:=NB786_785.out;have hs75:w72.cell? ⟨gb786,2,none⟩=some (.int .i64 0):=(zA BK786.out 2).trans rfl;have hfs75:=zL BK786.out 2;have hns75_0:=NB785_786.out;have hms75_0:=NB786_785.out;refine xT (w1:=?_) (by rfl) rfl ?_ ?_;rotate_left
  ·go_simp
   rfl
  refine hK.out _ _ ⟨((yL (p:=⟨gb786,_,none⟩) NB785_786.out _).trans (((yL (p:=⟨gb786,_,none⟩) NB785_786.out _).trans (((yL (p:=⟨gb786,_,none⟩) NB785_786.out _).trans (hHeld.1)))))),((yL (p:=⟨gb786,_,none⟩) NB785_786.out _).trans (((yL (p:=⟨gb786,_,none⟩) NB785_786.out _).trans (((yL (p:=⟨gb786,_,none⟩) NB785_786.out _).trans (hHeld.2.1)))))),((yL (p:=⟨gb786,_,none⟩) NB785_786.out _).trans (((yL (p:=⟨gb786,_,none⟩) NB785_786.out _).trans (((yL (p:=⟨gb786,_,none⟩) NB785_786.out _).trans (hHeld.2.2))))))⟩ (fun hHeld=>?_);clear hK K;refine pu_ 8 (some 9) (bb 9 511) (jN HT_.out (by kernel_rfl)) ?_;refine yZ (zcd HT_.out (by kernel_rfl)) ?_;try go_wp2
  refine bodyPost_ret (jF rfl _ _ gb786 23 #[.bool t805,.string t806,.int .i64 t807] (0,0) _ rfl (BP BK786) Tryz.underlying23 rfl (by kernel_rfl)) rfl ?_;exact⟨ER,BL HB⟩
 rw[if_neg c13] at H;exact absurd H (by simp)
theorem zgK (m:Nat) (hm:m≤1000000):∀ (d n:Nat),m-n=d→n≤m→Ev (fun k=>jD.l0 k (m:Int) (List.replicate n 48) (n:Int)) (strOfNums (List.replicate m 48))
 | 0,n,hd,hn=>by
  obtain rfl:n=m:=by omega
  refine zaP (r':=strOfNums (List.replicate n 48)) (fun k=>?_) rfl
  simp only[jD.l0];rw[if_neg (by omega)]
 | d+1,n,hd,hn=>by
  refine Ev.step (f:=fun k=>jD.l0 k (m:Int) (List.replicate (n+1) 48) ((n+1:Nat):Int)) (fun k=>?_) (zgK m hm d (n+1) (by omega) (by omega));simp only[jD.l0]
  rw[if_pos (by omega),if_pos (by rw[List.length_replicate];omega),List.replicate_succ',w64 (by omega) (by omega)];rfl
def zdS (m:Nat):ByteArray:=strOfNums (List.replicate m 48)
theorem ziH {m:Nat} (hm:m≤1000000):Ev (fun k=>jD.f k (m:Int)) (zdS m):=zgK m hm m 0 (by omega) (by omega)
theorem zdC (m:Nat):(zdS m).data.toList=List.replicate m 48:=by rw[zdS,zcX,List.map_replicate];rfl
theorem zfE (m:Nat):(zdS m).size=m:=by rw[zR,zdC,List.length_replicate]
theorem zoc {b:Bool} {s:ByteArray} {e x:Int} (h:OkD s e) (h1:x≤e) (h2:-100000≤x):Ev (fun k=>uY.f k b s e x) (zW (atE (vB s) e x)):=by
 have hs:=h.sz;have hl:=h.lo;have hh:=h.hi;have hz:=h.val;unfold uY.f;refine Ev.bind (zbx (by omega) h.d) ?_;by_cases h0:vB s=0
 ·simp only[uV.2 h0,if_true]
  rw[h0,znb,zdy];exact Ev.now _
 have h3:¬ (zW (vB s)).toList=([]:List UInt8):=fun hh=>h0 (uV.1 hh)
 obtain⟨m,hm⟩:∃ m:Nat,m=(e-x).toNat:=⟨_,rfl⟩
 have hw:wrap64 (e-x)=(m:Int):=by rw[w64 (by omega) (by omega)];omega
 simp only[h3,if_false,hw]
 refine Ev.bind (ziH (by omega)) ?_;have hc:(zW (vB s)).size+(zdS m).size≤9223372036854775807:=by rw[zfE];omega
 simp only[hc,if_true]
 refine zak (Ev.now _) ?_;apply qS
 rw[zcr,xS,xS,zdC];unfold atE;rw[zen h0,←hm]
theorem zfo (m n:Nat):yQ.f (zW m) (zW n)=some (decide (m<n)):=by
 unfold yQ.f;rw[xR,xR];by_cases h:(vL m).length=(vL n).length
 ·rw[if_pos (by omega)]
  rw[ByteArray.toList_eq,ByteArray.toList_eq,xS,xS,zhp (zbt m) (zbt n) h,zbg,zbg]
 rw[if_neg (by omega)];congr 1
 rw[decide_eq_decide];constructor
 ·intro h1;exact zfA (by omega)
 intro h1;rcases Nat.lt_or_ge (vL m).length (vL n).length with h2|h2
 ·omega
 have:=zfA (m:=n) (n:=m) (by omega);omega
theorem zfY (s:ByteArray):vB ((⟨#[48]⟩:ByteArray)++s)=vB s:=by
 rw[zdw,show vB (⟨#[48]⟩:ByteArray)=0 from rfl,Nat.zero_mul,Nat.zero_add]
theorem zot {b:Bool} {s:ByteArray} {e:Int} (hd:dB s=true) (hz:s.size≤900000) (h1:-1000000≤e) (h2:e≤1000000):Ev (fun k=>vM.f k b s e) (b,nD (vB s),nE (vB s) e):=by
 unfold vM.f;refine evT (by omega) ?_;have hs:((⟨#[48]⟩:ByteArray)++s).size=1+s.size:=by rw[ByteArray.size_append];rfl
 have:=zgD (b:=b) (s:=(⟨#[48]⟩:ByteArray)++s) (e:=e) (zeN.2 ⟨rfl,hd⟩) (by omega) h1 h2
 rw[zfY] at this;exact Ev.bind this (Ev.now _)
theorem zip {b:Bool} {n:Nat} {e:Int} (hz:(zW n).size≤900000) (h1:-1000000≤e) (h2:e≤1000000):Ev (fun k=>vM.f k b (zW n) e) (b,nD n,nE n e):=by
 have:=zot (b:=b) (s:=zW n) (e:=e) (zah n) hz h1 h2
 rwa [xQ] at this
theorem ziX (p q c:Nat) (hp:p≤9) (hq:q≤9) (hc:c≤1):wrap64 (wrap64 ((p:Int)-(q:Int))-(c:Int))=(p:Int)-(q:Int)-(c:Int):=by
 rw[w64 (x:=(p:Int)-(q:Int)) (by omega) (by omega),w64 (by omega) (by omega)]
theorem znM (p q c:Nat) (hp:p≤9) (hq:q≤9) (hc:c≤1) (h:p<q+c):(wrap64 (48+wrap64 ((p:Int)-(q:Int)-(c:Int)+10))) % 256=((48+(p+10-q-c):Nat):Int):=by
 rw[w64 (x:=(p:Int)-(q:Int)-(c:Int)+10) (by omega) (by omega),w64 (by omega) (by omega)];omega
theorem zom (p q c:Nat) (hp:p≤9) (hq:q≤9) (hc:c≤1) (h:q+c≤p):(wrap64 (48+((p:Int)-(q:Int)-(c:Int)))) % 256=((48+(p-q-c):Nat):Int):=by
 rw[w64 (by omega) (by omega)];omega
theorem zee (a b:ByteArray) (ha:dB a=true) (hb:dB b=true) (la:a.size≤100000000000) (lb:b.size≤100000000000):∀ (d k:Nat) (x:List Int) (c:Nat),a.size-k=d→k≤a.size→c≤1→x.length=k→yB (ob x)=true→c+rv ((rs b).drop k)≤rv ((rs a).drop k) →
  Ev (fun j=>jE.l0 j a b x (c:Int) (k:Int)) (zW (rv (ob x)+10 ^ k * (rv ((rs a).drop k)-rv ((rs b).drop k)-c)))
 | 0,k,x,c,h1,h2,hc,hx,hd,hle=>by
  refine zak (Ev.step (fun j=>?_) (zbB (l:=x) (by omega) hd)) ?_
  ·simp only[jE.l0];rw[if_neg (by omega)]
  rw[zaI (s:=a) (by omega)];simp
 | d+1,k,x,c,h1,h2,hc,hx,hd,hle=>by
  have da:=zft ha k;have db:=zft hb k;rw[zcS a k,zcS b k] at hle ⊢;by_cases hneg:dg a k<dg b k+c
  ·obtain⟨o1,o2⟩:=zfh x (c:=dg a k+10-dg b k-c) (by omega) hd
   refine Ev.step (f:=fun j=>jE.l0 j a b (x++[((48+(dg a k+10-dg b k-c):Nat):Int)]) ((1:Nat):Int) ((k+1:Nat):Int)) (fun j=>?_) ?_
   ·simp only[jE.l0]
    rw[if_pos (by omega),zbu ha (by omega) (by omega),zbu hb (by omega) (by omega)];simp only[Option.bind_some]
    rw[ziX _ _ _ da db hc,if_pos (by omega),if_pos (by omega),znM _ _ _ da db hc hneg,w64 (by omega) (by omega)];rfl
   refine zak (zee a b ha hb la lb d (k+1) _ 1 (by omega) (by omega) (by omega) (by simp[hx]) o1 (by omega)) ?_;rw[o2,hx,Nat.pow_succ,Nat.mul_assoc,Nat.add_assoc,←Nat.mul_add];congr 2;congr 1;omega
  obtain⟨o1,o2⟩:=zfh x (c:=dg a k-dg b k-c) (by omega) hd;refine Ev.step (f:=fun j=>jE.l0 j a b (x++[((48+(dg a k-dg b k-c):Nat):Int)]) ((0:Nat):Int) ((k+1:Nat):Int)) (fun j=>?_) ?_
  ·simp only[jE.l0]
   rw[if_pos (by omega),zbu ha (by omega) (by omega),zbu hb (by omega) (by omega)];simp only[Option.bind_some]
   rw[ziX _ _ _ da db hc,if_neg (by omega),if_pos (by omega),zom _ _ _ da db hc (by omega),w64 (by omega) (by omega)];rfl
  refine zak (zee a b ha hb la lb d (k+1) _ 0 (by omega) (by omega) (by omega) (by simp[hx]) o1 (by omega)) ?_;rw[o2,hx,Nat.pow_succ,Nat.mul_assoc,Nat.add_assoc,←Nat.mul_add];congr 2;congr 1;omega
theorem zmv {a b:ByteArray} (ha:dB a=true) (hb:dB b=true) (la:a.size≤100000000000) (lb:b.size≤100000000000) (hle:vB b≤vB a):Ev (fun k=>jE.f k a b) (zW (vB a-vB b)):=by
 refine zak (zee a b ha hb la lb a.size 0 [] 0 (by omega) (by omega) (by omega) rfl rfl (by simpa [rs,vB] using hle)) ?_;simp[ob,rv,vB,rs]
theorem zmL (j:Nat) (h:j≤9):(wrap64 (48+(j:Int))) % 256=((48+j:Nat):Int):=by rw[w64 (by omega) (by omega)];omega
theorem zii {c:Nat} (h:c≤9):dB (strOfNums [((48+c:Nat):Int)])=true∧vB (strOfNums [((48+c:Nat):Int)])=c∧(strOfNums [((48+c:Nat):Int)]).size=1:=by
  have e2:(UInt8.ofNat (48+c)).toNat=48+c:=by rw[UInt8.toNat_ofNat'];omega
  refine⟨?_,?_,?_⟩
  · unfold dB;rw[zcX];simp only[List.map_cons,List.map_nil,Int.toNat_natCast];rw[xA,uT,e2];exact⟨by omega,rfl⟩
  · unfold vB;rw[zcX];simp only[List.map_cons,List.map_nil,Int.toNat_natCast,List.reverse_singleton,rv,e2];omega
  rw[strOfNums_size];rfl
theorem zkb (a:ByteArray) (n:Nat) (hn:0<n) (ln:(zW n).size≤1000000) (q:ByteArray) (hq:q.size≤1000000000000) (i:Nat) (hi:i<1000000000000) (t:Nat) (ht:t<10 * n) (r:ByteArray×ByteArray):∀ (d j:Nat),t / n-j=d→j≤t / n →
    Ev (fun k=>zU.l0 k a (zW n) (q++strOfNums [((48+t / n:Nat):Int)]) (zW (t % n)) ((i+1:Nat):Int)) r→Ev (fun k=>zU.l1 k a (zW n) q (zW (t-j * n)) (i:Int) (j:Int)) r
  | 0,j,h1,h2,h=>by
    have hj:j=t / n:=by omega
    have hq9 : t / n ≤ 9 := by have:t / n<10:=by rw[Nat.div_lt_iff_lt_mul hn];exact ht
                               omega
    have e:t-j * n=t % n:=by
      have:=Nat.div_add_mod t n
      rw[←hj,Nat.mul_comm] at this;omega
    rw[e];refine Ev.step (fun k=>?_) h;have hm:=Nat.mod_lt t hn;obtain⟨c1,c2,c3⟩:=zii hq9;simp only[zU.l1,zfo,hm,decide_true,Option.bind_some,if_true]
    rw[hj,zmL _ hq9,if_pos (by omega),zam _ (by omega)]
  | d+1,j,h1,h2,h=>by
    have hjn:j * n+n≤t:=by
      have h3:(j+1) * n≤t / n * n:=Nat.mul_le_mul_right _ (by omega);have:=Nat.div_mul_le_self t n
      rw[Nat.add_mul] at h3;omega
    have hnl:¬ t-j * n<n:=by omega
    have lz:(zW (t-j * n)).size≤1000001:=znd ln (by omega)
    have hj9 : j ≤ 9 := by have:t / n<10:=by rw[Nat.div_lt_iff_lt_mul hn];exact ht
                           omega
    refine Ev.step (f:=fun k=>(jE.f k (zW (t-j * n)) (zW n)).bind fun t2=>zU.l1 k a (zW n) q t2 (i:Int) ((j+1:Nat):Int)) (fun k=>?_) (Ev.bind (zmv (zah _) (zah _) (by omega) (by omega) (by rw[xQ,xQ];omega)) ?_)
    · simp only[zU.l1,zfo,hnl,decide_false,Option.bind_some,Bool.false_eq_true,if_false]
      rw[zam _ (by omega)]
    rw[xQ,xQ,Nat.sub_sub,show j * n+n=(j+1) * n by rw[Nat.add_mul];omega];exact zkb a n hn ln q hq i hi t ht r d (j+1) (by omega) (by omega) h
theorem zhM (a:ByteArray) (ha:dB a=true) (la:a.size≤1000000) (n:Nat) (hn:0<n) (ln:(zW n).size≤1000000):∀ (d i:Nat) (q:ByteArray) (m:Nat),a.size-i=d→i≤a.size→dB q=true→q.size=i→m<n→vB q * n+m=vB (a.extract 0 i) →
    Ev (fun k=>zU.l0 k a (zW n) q (zW m) (i:Int)) (zW (vB a / n),zW (vB a % n))
  | 0,i,q,m,h1,h2,hq,zq,hm,hv=>by
    have e0:a.extract 0 i=a:=by apply qS;rw[ziV,List.take_of_length_le (by rw[←zR];omega)]
    rw[e0] at hv;have e1:vB q=vB a / n:=by rw[←hv,Nat.mul_comm,Nat.mul_add_div hn,Nat.div_eq_of_lt hm];rfl
    have e2:m=vB a % n:=by rw[←hv,Nat.mul_comm,Nat.mul_add_mod,Nat.mod_eq_of_lt hm]
    rw[←e1,←e2];refine Ev.step (f:=fun k=>(zM.f k q).bind fun t=>some (t,zW m)) (fun k=>?_) (Ev.bind (zbx (by omega) hq) (Ev.now _))
    simp only[zU.l0];rw[if_neg (by omega)]
  | d+1,i,q,m,h1,h2,hq,zq,hm,hv=>by
    have hlt:i<a.size:=by omega
    have hl:i<a.data.toList.length:=by rw[←zR];exact hlt
    have hdig:=uT.1 (zbR.1 ha _ (List.getElem_mem hl));have ec:(a.extract i (i+1)).data.toList=[a.data.toList[i]]:=by
      rw[xI,show i+1-i=1 by omega,List.drop_eq_getElem_cons hl];rfl
    have zc:(a.extract i (i+1)).size=1:=by rw[zR,ec];rfl
    have dc:dB (a.extract i (i+1))=true:=by unfold dB;rw[ec,xA];exact⟨uT.2 hdig,rfl⟩
    obtain⟨c,hc⟩:∃ c,c=vB (a.extract i (i+1)):=⟨_,rfl⟩
    have hc9:c≤9:=by have:=zec dc;rw[zc,←hc] at this;omega
    have hv2:vB (a.extract 0 (i+1))=vB (a.extract 0 i) * 10+c:=by
      have:a.extract 0 (i+1)=a.extract 0 i++a.extract i (i+1):=by
        apply qS
        rw[zcr,ziV,ziV,ec,List.take_succ_eq_append_getElem hl]
      rw[this,zdw,zc,←hc,Nat.pow_one]
    have lm:(zW m).size≤1000000:=zaF (by omega) ln;have ht:m * 10+c<10 * n:=by omega
    refine Ev.step (f:=fun k=>(zM.f k (zW m++a.extract i (i+1))).bind fun t=>zU.l1 k a (zW n) q t (i:Int) ((0:Nat):Int)) (fun k=>?_) (Ev.bind (zbx (by rw[ByteArray.size_append];omega) (zeN.2 ⟨zah _,dc⟩)) ?_)
    · simp only[zU.l0]
      rw[if_pos (by omega),if_pos (by omega),zam _ (by omega),if_pos (by omega),if_pos (by omega),Int.toNat_natCast,Int.toNat_natCast,if_pos (by omega)];rfl
    rw[zdw,zc,xQ,Nat.pow_one,←hc]
    have hq9 : (m * 10 + c) / n ≤ 9 := by have:(m * 10+c) / n<10:=by rw[Nat.div_lt_iff_lt_mul hn];exact ht
                                          omega
    obtain⟨c1,c2,c3⟩:=zii hq9;have:=zkb a n hn ln q (by omega) i (by omega) (m * 10+c) ht _ _ 0 rfl (by omega) (zhM a ha la n hn ln d (i+1) (q++strOfNums [((48+(m * 10+c) / n:Nat):Int)]) ((m * 10+c) % n) (by omega) (by omega) (zeN.2 ⟨hq,c1⟩) (by rw[ByteArray.size_append];omega) (Nat.mod_lt _ hn) ?_)
    · rwa [Nat.zero_mul,Nat.sub_zero] at this
    rw[zdw,c2,c3,hv2,←hv,Nat.pow_one];have:=Nat.div_add_mod (m * 10+c) n
    rw[Nat.add_mul,Nat.mul_comm ((m * 10+c) / n) n,Nat.add_mul,Nat.mul_right_comm (vB q) 10 n];omega
theorem zod {a:ByteArray} {n:Nat} (ha:dB a=true) (la:a.size≤1000000) (hn:0<n) (ln:(zW n).size≤1000000):Ev (fun k=>zU.f k a (zW n)) (zW (vB a / n),zW (vB a % n)):=by
  have e0:(⟨#[]⟩:ByteArray)=zW 0:=zdy.symm;have:=zhM a ha la n hn ln a.size 0 (zW 0) 0 (by omega) (by omega) (zah _) (by rw[zdy];rfl) hn (by
    rw[xQ];have:(a.extract 0 0).data.toList=[]:=by rw[ziV];rfl
    unfold vB;rw[this];simp[rv])
  unfold zU.f;rw[e0];exact this
theorem zpm (m:Int) (neg odd:Bool) (half:Int):uW.f m neg odd half=some (zbd m neg odd half):=by
 unfold uW.f zbd;by_cases h0:m=0 <;> by_cases h1:m=1 <;> by_cases h2:m=2 <;> by_cases h3:m=3 <;> by_cases h4:m=4 <;> by_cases h5:m=5 <;> by_cases h6:m=6 <;> simp_all
 by_cases hp:0<half
 ·simp[hp]
 by_cases hz:half=0 <;> simp[hp,hz]
theorem ziw {n:Nat} (h:n≠0):bt (zW n) (((zW n).size:Int)-1)=((48+n % 10:Nat):Int):=zjP h
theorem zgl {m:Int} {b:Bool} {s:ByteArray} {e E:Int} {B q:Nat} {half:Int} {odd:Bool} (hq:(zW q).size≤100000) (hB:(zW B).size≤100000) (h1:-100000≤E) (h2:E≤100000):Ev (fun k=>zH.j3 k m E (zW B) (zW q) half odd b s e) (b,nD ((q+if upB m b odd half=true then 1 else 0) * B),nE ((q+if upB m b odd half=true then 1 else 0) * B) E,0):=by
 have hu:uW.f m b odd half=some (upB m b odd half):=(zpm m b odd half)
 refine Ev.step (fun k=>by simp only[zH.j3];rfl) (evE hu ?_);cases upB m b odd half
 ·refine evF (by decide) (Ev.bind (ziQ (zah _) (zah _) (by omega) (by omega)) ?_)
  rw[xQ,xQ];have:=zfw hq hB
  refine Ev.bind (zip (by omega) (by omega) (by omega)) (zak (Ev.now _) (by simp))
 have d1:dB (⟨#[49]⟩:ByteArray)=true:=by decide
 have v1:vB (⟨#[49]⟩:ByteArray)=1:=by decide
 refine evT rfl (Ev.bind (zjO (zah q) d1 (by omega) (by decide)) ?_);rw[xQ,v1];have h3:=zfJ (m:=q) (n:=1) (p:=100000) hq (by rw[zcK];omega);refine Ev.bind (ziQ (zah _) (zah _) (by omega) (by omega)) ?_;rw[xQ,xQ];have:=zfw h3 hB
 refine Ev.bind (zip (by omega) (by omega) (by omega)) (zak (Ev.now _) (by simp))
theorem zgs {m:Int} {b:Bool} {s:ByteArray} {e E:Int} {B q:Nat} {half:Int} (hq:(zW q).size≤100000) (hB:(zW B).size≤100000) (h1:-100000≤E) (h2:E≤100000):Ev (fun k=>zH.j2 k m E (zW B) (zW q) half b s e) (b,nD ((q+if upB m b (q % 2==1) half=true then 1 else 0) * B),nE ((q+if upB m b (q % 2==1) half=true then 1 else 0) * B) E,0):=by
 by_cases h0:q=0
 ·subst h0
  refine Ev.step (f:=fun k=>zH.j3 k m E (zW B) (zW 0) half false b s e) (fun k=>?_) (zgl hq hB h1 h2);simp only[zH.j2]
  rw[if_neg (by rw[zau.2 rfl];decide)]
 have hs:=zcJ h0;refine Ev.step (f:=fun k=>zH.j3 k m E (zW B) (zW q) half (q % 2==1) b s e) (fun k=>?_) (zgl hq hB h1 h2);simp only[zH.j2]
 rw[if_pos (by omega),w64 (x:=((zW q).size:Int)-1) (by omega) (by omega),if_pos (by omega),if_pos (by omega),ziw h0];congr 1
 rw[Bool.eq_iff_iff,beq_iff_eq,beq_iff_eq];omega
theorem zgF {m:Int} {b:Bool} {s:ByteArray} {e E:Int} {B q t:Nat} {x:Int} (hx:x=if t<B then -1 else 0) (hq:(zW q).size≤100000) (hB:(zW B).size≤100000) (h1:-100000≤E) (h2:E≤100000):Ev (fun k=>zH.j1 k m E (zW B) (zW q) (zW t) x b s e) (b,nD ((q+if upB m b (q % 2==1) (qZ t B)=true then 1 else 0) * B),nE ((q+if upB m b (q % 2==1) (qZ t B)=true then 1 else 0) * B) E,0):=by
 refine Ev.step (fun k=>by simp only[zH.j1];rfl) (evE (zfo B t) ?_);by_cases hl:B<t
 ·have hc:qZ t B=1:=by unfold qZ;rw[if_neg (by omega),if_pos hl]
  rw[hc];exact evT (decide_eq_true hl) (zgs hq hB h1 h2)
 have hc:qZ t B=x:=by unfold qZ;rw[hx];split <;> simp[hl]
 rw[hc];exact evF (by simpa using hl) (zgs hq hB h1 h2)
theorem zgC {m:Int} {b:Bool} {s st:ByteArray} {e p E:Int} (h:OkS s e) (hd:dB st=true) (hs0:vB st≠0) (hsz:st.size≤10000) (h1:-10000≤p) (h2:p≤10000) (hE:E=min e p):Ev (fun k=>zH.j0 k m st p E b s e) (zbj m b (vB s) e (vB st) p):=by
 have hv:=h.ok.val;have hz:=h.sz;have hlo:=h.lo;have hhi:=h.hi;have hst:=zae (zec hd);obtain⟨u,hu⟩:∃ u:Nat,u=(p-E).toNat:=⟨_,rfl⟩
 have hw:wrap64 (p-E)=(u:Int):=by rw[w64 (by omega) (by omega)];omega
 have hB:zW (vB st)++zdS u=zW (atE (vB st) p E):=by
  apply qS
  rw[zcr,xS,xS,zdC];unfold atE;rw[zen hs0,←hu]
 have zB:(zW (atE (vB st) p E)).size≤40000:=by
  unfold atE;rw[zdg hs0];omega
 have zN:=zgN b (n:=vB s) (p:=10000) e E (by omega);rw[zeH] at zN;have hB0:=zkh hs0 p E;refine Ev.step (fun k=>by simp only[zH.j0];rfl) ?_;refine Ev.bind (zbx (by omega) hd) ?_;rw[hw];refine Ev.bind (ziH (by omega)) (evT (by rw[zfE];omega) ?_);rw[hB];refine Ev.bind (zoc h.ok (by omega) (by omega)) (Ev.bind (zod (zah _) (by omega) hB0 (by omega)) ?_);rw[xQ];obtain⟨N,hN⟩:∃ N,N=atE (vB s) e E:=⟨_,rfl⟩
 obtain⟨B,hBB⟩:∃ B,B=atE (vB st) p E:=⟨_,rfl⟩
 rw[←hN,←hBB];rw[←hN] at zN;rw[←hBB] at zB hB0;dsimp only;have zN2:(zW N).size≤30000:=by omega
 have zr:=zaF (Nat.mod_le N B) zN2;have zq:=zaF (Nat.div_le_self N B) zN2;by_cases hf:N % B=0
 ·have hf2:atE (vB s) e (min e p) % atE (vB st) p (min e p)=0:=by rw[←hE,←hN,←hBB];exact hf
  rw[zgf hf2];exact evT (uV.2 hf) (Ev.bind (zdi h.ok) (Ev.now _))
 have hf2:¬ atE (vB s) e (min e p) % atE (vB st) p (min e p)=0:=by rw[←hE,←hN,←hBB];exact hf
 refine evF (fun hh=>hf (uV.1 hh)) ?_;by_cases h7:m=7
 ·subst h7
  rw[zeZ hf2];exact evT rfl (Ev.now _)
 refine evF h7 (Ev.bind (zjO (zah _) (zah _) (by omega) (by omega)) ?_);rw[xQ];have hres:zbj m b (vB s) e (vB st) p=(b,nD ((N / B+if upB m b (N / B % 2==1) (qZ (N % B+N % B) B)=true then 1 else 0) * B),nE ((N / B+if upB m b (N / B % 2==1) (qZ (N % B+N % B) B)=true then 1 else 0) * B) E,0):=by
  rw[zhu h7,←hE];unfold rv0;rw[←hN,←hBB];have hq:rq m b N B=N / B+if upB m b (N / B % 2==1) (qZ (N % B+N % B) B)=true then 1 else 0:=by
   unfold rq;simp only[ne_eq,hf,not_false_eq_true,true_and]
  rw[hq]
 rw[hres];refine evE (zfo _ _) ?_;by_cases hl:N % B+N % B<B
 ·exact evT (decide_eq_true hl) (zgF (by rw[if_pos hl]) (by omega) (by omega) (by omega) (by omega))
 exact evF (by simpa using hl) (zgF (by rw[if_neg hl]) (by omega) (by omega) (by omega) (by omega))
theorem zel {m:Int} {b:Bool} {s st:ByteArray} {e p:Int} (h:OkS s e) (hd:dB st=true) (hs0:vB st≠0) (hsz:st.size≤10000) (h1:-10000≤p) (h2:p≤10000):Ev (fun k=>zH.f k m b s e st p) (zbj m b (vB s) e (vB st) p):=by
 unfold zH.f;by_cases hc:p<e
 ·exact evT hc (zgC h hd hs0 hsz h1 h2 (by omega))
 exact evF hc (zgC h hd hs0 hsz h1 h2 (by omega))
def yH.f (k:Nat) (a0_0:Bool) (a0_1:ByteArray) (a0_2:Int) (a1:Int):Option (Bool×ByteArray×Int):=(zV.f k a0_0 a0_1 (wrap64 (a0_2+a1))).bind fun bt727=>(some (bt727.1,bt727.2.1,bt727.2.2))
set_option maxHeartbeats 8000000 in
set_option maxRecDepth 100000 in
theorem yH.calls (k:Nat) (a0_0:Bool) (a0_1:ByteArray) (a0_2:Int) (a1:Int) (r1:Bool) (r2:ByteArray) (r3:Int) (w:World) (h:yH.f k a0_0 a0_1 a0_2 a1=some (r1,r2,r3)) :
  Calls Tryz.prog 23 #[.agg #[.bool a0_0,.string a0_1,.int .i64 a0_2],.int .i64 a1] w fun e w'=>e=.returned (.agg #[.bool r1,.string r2,.int .i64 r3])∧Below w.heap.size w w':=by
 have hu23:=Tryz.underlying23;have HB:=K_ (Below.refl w.heap.size w);have H:((zV.f k a0_0 a0_1 (wrap64 (a0_2+a1))).bind fun bt727=>(some (bt727.1,bt727.2.1,bt727.2.2)))=some (r1,r2,r3):=h;clear h;obtain⟨⟨t727,t728,t729⟩,A30,H⟩:=Option.bind_eq_some_iff.mp H
 (try dsimp -simprocs only at H)
 have A3:=K_ A30;clear A30;simp only[Option.some.injEq,Prod.mk.injEq] at H
 obtain⟨rfl,rfl,rfl⟩:=H;go_enter Tryz.func23,Tryz.ntmps23
 go_wp2_with (first|(refine be_ 2 #[.bool a0_0,.string a0_1,.int .i64 a0_2] 23 ?_;intro gb725 hg w4 hbox hb;have BK725:=K_ (hbox);have GW725:=ge_ hg HB;have GE725:=ge_ hg HB;replace HB:=zF HB hb;clear hb hbox hg)|(refine be_ 4 #[.bool false,.string (⟨#[]⟩:ByteArray),.int .i64 0] 23 ?_;intro gb726 hg w5 hbox hb;have BK726:=K_ (hbox);have GW726:=ge_ hg HB;have GE726:=ge_ hg HB;replace HB:=zF HB hb;have NB725_726:=nb_ hg BK725;have NB726_725:=nc_ hg BK725;replace BK725:=zC BK725 hb;clear hb hbox hg;have hnb6:=NB725_726.out;have hnc6:=NB726_725.out;obtain⟨⟨hcz7_0,hcz7_1,hcz7_2⟩,hfz7_0,hfz7_1,hfz7_2⟩:=ce3 BK725)|((with_reducible refine zK (f:=50) rfl ?_);refine zX (some 11) rfl rfl Tryz.func50 (by kernel_rfl) rfl #[.agg #[.bool a0_0,.string a0_1,.int .i64 (wrap64 (a0_2+a1))]] rfl MP ?_;(with_reducible refine (zV.calls k a0_0 a0_1 (wrap64 (a0_2+a1)) t727 t728 t729 _ A3.out).mono ?_);rintro e w8 ⟨rfl,hb⟩;refine⟨_,rfl,?_⟩;replace BK725:=K_ (zch (g:=gb725) (o:=.cells #[.bool a0_0,.string a0_1,.int .i64 (wrap64 (a0_2+a1))] 23 (0,0)) (BP BK725) hb);replace BK726:=K_ (zch (g:=gb726) (o:=.cells #[.bool false,.string (⟨#[]⟩:ByteArray),.int .i64 0] 23 (0,0)) (by (with_reducible repeat (first|refine jT ?_ _|refine jQ ?_|refine jS ?_ _));refine zP ?_ NB726_725.out _;(with_reducible repeat (first|refine jT ?_ _|refine jQ ?_|refine jS ?_ _));exact BK726.out) hb);replace HB:=zF HB hb;(try clear hb);(try clear hb2);(try clear hk);(try clear hi);obtain⟨⟨hcz9_0,hcz9_1,hcz9_2⟩,hfz9_0,hfz9_1,hfz9_2⟩:=ce3 BK726))
 refine bodyPost_ret (results_cell_row rfl _ _ gb726 23 #[.bool t727,.string t728,.int .i64 t729] (0,0) _ rfl (BP BK726) Tryz.underlying23 rfl (by kernel_rfl)) rfl ?_;exact⟨ER,BL HB⟩
def qM.f (k:Nat) (a0_0:Bool) (a0_1:ByteArray) (a0_2:Int):Option (Int):=(zM.f k a0_1).bind fun t739=>(if t739.toList=([]:List UInt8) then (some 0) else (some (wrap64 ((wrap64 (a0_2+(t739.size:Int)))-1))))
set_option maxHeartbeats 8000000 in
set_option maxRecDepth 100000 in
theorem qM.calls (k:Nat) (a0_0:Bool) (a0_1:ByteArray) (a0_2:Int) (r:Int) (w:World) (h:qM.f k a0_0 a0_1 a0_2=some r) :
  Calls Tryz.prog 51 #[.agg #[.bool a0_0,.string a0_1,.int .i64 a0_2]] w fun e w'=>e=.returned (.int .i64 r)∧Below w.heap.size w w':=by
 have hu23:=Tryz.underlying23;have HB:=K_ (Below.refl w.heap.size w);have H:((zM.f k a0_1).bind fun t739=>(if t739.toList=([]:List UInt8) then (some 0) else (some (wrap64 ((wrap64 (a0_2+(t739.size:Int)))-1)))))=some r:=h;clear h;replace H:=Option.bind_eq_some_iff.mp H;obtain⟨t739,A20,H⟩:=H;replace H:(if t739.toList=([]:List UInt8) then (some 0) else (some (wrap64 ((wrap64 (a0_2+(t739.size:Int)))-1))))=some r:=H;have A2:=K_ A20;clear A20;by_cases c3:t739.toList=([]:List UInt8)
 ·rw[if_pos c3] at H
  have c3b0:(t739.toList==([]:List UInt8))=true:=beq_iff_eq.mpr c3;have c3b1:(t739.toList !=([]:List UInt8))=false:=bne_eq_false_iff_eq.mpr c3;clear c3;obtain rfl:=Option.some.inj H;go_enter Tryz.func51,Tryz.ntmps51
  go_wp2_with (first|((with_reducible refine zE (N:=1) rfl ?_);refine zdq ?hg (N:=1) ?hd (cs:=#[.bool a0_0,.string a0_1,.int .i64 a0_2]) (t:=23) ?hr ?_;(case hd=>rfl);(case hg=>rfl);(case hr=>first|(go_simp;done)|(go_simp;rfl));intro gb738 hg w4 hbox hb;have n0_:=K_ (zdX (by repeat (first|(with_reducible first|exact HB.out|apply yC|apply jV|apply yX)|exact HB.out)) hb);have n1_:=K_ (hbox);have n2_:=K_ ((by rw[hg];exact (zS (by repeat (first|(with_reducible first|exact HB.out|apply yC|apply jV|apply yX)|exact HB.out))):w.heap.size≤gb738));have n3_:=K_ ((by rw[hg];exact (zS (by repeat (first|(with_reducible first|exact HB.out|apply yC|apply jV|apply yX)|exact HB.out))):w.heap.size≤gb738));clear HB;have HB:=n0_;have BK738:=n1_;have GW738:=n2_;have GE738:=n3_;clear n0_ n1_ n2_ n3_;clear hb hbox hg;have hcz5_0:w4.cell? ⟨gb738,0,none⟩=some (.bool a0_0):=(zA BK738.out 0).trans rfl;have hcz5_1:w4.cell? ⟨gb738,1,none⟩=some (.string a0_1):=(zA BK738.out 1).trans rfl;have hcz5_2:w4.cell? ⟨gb738,2,none⟩=some (.int .i64 a0_2):=(zA BK738.out 2).trans rfl;have hfz5_0:=zL BK738.out 0;have hfz5_1:=zL BK738.out 1;have hfz5_2:=zL BK738.out 2)|((with_reducible refine zK (f:=69) rfl ?_);refine zX (some 6) rfl rfl Tryz.func69 (by kernel_rfl) rfl #[.string a0_1] rfl (by (try simp only[List.map_toArray]);(try simp only[List.map_cons]);(try simp only[List.map_nil]);first|done|rfl|(simp only[List.length_drop,List.length_take];rfl)) ?_;(with_reducible refine (zM.calls k a0_1 t739 _ A2.out).mono ?_);rintro e w' ⟨rfl,⟨nd,rfl⟩⟩;refine⟨_,rfl,?_⟩))
  go_ret
  exact⟨by first|rfl|(simp[yG,yF] <;> rfl)|(simp[*,yG,yF] <;> rfl),by repeat (first|(with_reducible first|exact HB.out|apply yC|apply jV|apply yX|refine uX ?_ GE738.out)|exact HB.out)⟩
 rw[if_neg c3] at H;have c3b0:(t739.toList==([]:List UInt8))=false:=beq_eq_false_iff_ne.mpr c3;have c3b1:(t739.toList !=([]:List UInt8))=true:=bne_iff_ne.mpr c3;obtain rfl:=Option.some.inj H;go_enter Tryz.func51,Tryz.ntmps51
 go_wp2_with (first|((with_reducible refine zE (N:=1) rfl ?_);refine zdq ?hg (N:=1) ?hd (cs:=#[.bool a0_0,.string a0_1,.int .i64 a0_2]) (t:=23) ?hr ?_;(case hd=>rfl);(case hg=>rfl);(case hr=>first|(go_simp;done)|(go_simp;rfl));intro gb738 hg w6 hbox hb;have n0_:=K_ (zdX (by repeat (first|(with_reducible first|exact HB.out|apply yC|apply jV|apply yX)|exact HB.out)) hb);have n1_:=K_ (hbox);have n2_:=K_ ((by rw[hg];exact (zS (by repeat (first|(with_reducible first|exact HB.out|apply yC|apply jV|apply yX)|exact HB.out))):w.heap.size≤gb738));have n3_:=K_ ((by rw[hg];exact (zS (by repeat (first|(with_reducible first|exact HB.out|apply yC|apply jV|apply yX)|exact HB.out))):w.heap.size≤gb738));clear HB;have HB:=n0_;have BK738:=n1_;have GW738:=n2_;have GE738:=n3_;clear n0_ n1_ n2_ n3_;clear hb hbox hg;have hcz7_0:w6.cell? ⟨gb738,0,none⟩=some (.bool a0_0):=(zA BK738.out 0).trans rfl;have hcz7_1:w6.cell? ⟨gb738,1,none⟩=some (.string a0_1):=(zA BK738.out 1).trans rfl;have hcz7_2:w6.cell? ⟨gb738,2,none⟩=some (.int .i64 a0_2):=(zA BK738.out 2).trans rfl;have hfz7_0:=zL BK738.out 0;have hfz7_1:=zL BK738.out 1;have hfz7_2:=zL BK738.out 2)|((with_reducible refine zK (f:=69) rfl ?_);refine zX (some 6) rfl rfl Tryz.func69 (by kernel_rfl) rfl #[.string a0_1] rfl (by (try simp only[List.map_toArray]);(try simp only[List.map_cons]);(try simp only[List.map_nil]);first|done|rfl|(simp only[List.length_drop,List.length_take];rfl)) ?_;(with_reducible refine (zM.calls k a0_1 t739 _ A2.out).mono ?_);rintro e w' ⟨rfl,⟨nd,rfl⟩⟩;refine⟨_,rfl,?_⟩))
 go_ret
 exact⟨by first|rfl|(simp[yG,yF] <;> rfl)|(simp[*,yG,yF] <;> rfl),by repeat (first|(with_reducible first|exact HB.out|apply yC|apply jV|apply yX|refine uX ?_ GE738.out)|exact HB.out)⟩
theorem ziL {b:Bool} {s:ByteArray} {e:Int} (h:OkD s e):Ev (fun k=>qM.f k b s e) (vJ (vB s) e):=by
 have h1:=h.sz;have h2:=h.lo;have h3:=h.hi;have hz:=h.val;unfold qM.f;refine Ev.bind (zbx (by omega) h.d) ?_;by_cases h0:vB s=0
 ·simp only[uV.2 h0,if_true]
  rw[h0];exact Ev.now _
 have h3:¬ (zW (vB s)).toList=([]:List UInt8):=fun hh=>h0 (uV.1 hh)
 simp only[h3,if_false]
 have hw:wrap64 (wrap64 (e+((zW (vB s)).size:Int))-1)=e+((zW (vB s)).size:Int)-1:=by
  rw[w64 (x:=e+((zW (vB s)).size:Int)) (by omega) (by omega),w64 (by omega) (by omega)]
 rw[hw];unfold vJ;rw[if_neg h0];exact Ev.now _
end Go.Proofs.YtcmgdjnjmobkoaaGreatDoor.Px
namespace Go.Proofs.YtcmgdjnjmobkoaaGreatDoor.Px
set_option linter.all false
open Fig Go.RowKit Go.Proofs.YtcmgdjnjmobkoaaGreatDoorW.PrintWords Go.Proofs.YtcmgdjnjmobkoaaGreatDoorW.PrintLast Go.Proofs.YtcmgdjnjmobkoaaGreatDoorW.PrintMore
attribute [local go_sem] yJ yN vE vF jZ yA yM yK
set_option maxHeartbeats 4000000 in
set_option maxRecDepth 100000 in
theorem zgL (q:Pat) (w:World) (hr:xV q w):Calls Tryz.prog 24 #[.agg q.cs] w fun e w'=>e=.returned (.int .i64 q.mult)∧Below w.heap.size w w':=by
 have HB:=K_ (Below.refl w.heap.size w);have HK:=K_ hr;have HM:=K_ (show q.mult=if 0<q.sg 4 then 2 else if 0<q.sg 5 then 3 else 0 from rfl);obtain⟨n4,hn4⟩:∃ n4,n4=q.sg 4:=⟨_,rfl⟩
 obtain⟨n5,hn5⟩:∃ n5,n5=q.sg 5:=⟨_,rfl⟩
 have H4:∀ W,xV q W→Aside0 (Calls Tryz.prog 53 #[.agg q.cs,.int .i64 4] W fun e w'=>e=.returned (.int .i64 ((n4:Nat):Int))∧Below W.heap.size W w'):=fun W h=>K_ (by rw[hn4];exact zeo q 4 W h.r0 h.r1 h.r3 h.r4 h.s0 h.s1 h.s3 h.s4)
 have H5:∀ W,xV q W→Aside0 (Calls Tryz.prog 53 #[.agg q.cs,.int .i64 5] W fun e w'=>e=.returned (.int .i64 ((n5:Nat):Int))∧Below W.heap.size W w'):=fun W h=>K_ (by rw[hn5];exact zeo q 5 W h.r0 h.r1 h.r3 h.r4 h.s0 h.s1 h.s3 h.s4)
 rw[←hn4,←hn5] at HM;clear hr hn4 hn5;go_enter Tryz.func24,Tryz.ntmps24
 go_upto_region 1 with ((with_reducible refine zE (N:=1) rfl ?_);refine bx_ 1 (q.cs) 26 ?_ rfl rfl rfl rfl rfl;intro g1 hg w2 hbox hb;have BK1:=K_ hbox;have GE1:=ge_ hg HB;replace HB:=zF HB hb;clear hb hbox hg)
 by_cases h4:0<n4
 ·rw[if_pos h4] at HM
  have d4:decide (0<n4)=true:=decide_eq_true h4;go_wp2_with (first|((with_reducible refine zE (N:=3) rfl ?_);refine lo_ (g:=g1) (cs:=q.cs) _ ⟨BK BK1⟩ ?_ rfl rfl rfl Tryz.underlying26 rfl jR)|((with_reducible refine zE (N:=6) rfl ?_);refine lo_ (g:=g1) (cs:=q.cs) _ ⟨BK BK1⟩ ?_ rfl rfl rfl Tryz.underlying26 rfl jR)|(go_at_call 53;with_reducible refine ((H4 _ (HK.out.below (BL HB))).out).mono ?_;rintro e w' ⟨rfl,hb⟩;replace HB:=zF HB hb;replace BK1:=zC BK1 hb;clear hb)|(go_at_call 53;with_reducible refine ((H5 _ (HK.out.below (BL HB))).out).mono ?_;rintro e w' ⟨rfl,hb⟩;replace HB:=zF HB hb;replace BK1:=zC BK1 hb;clear hb))
  go_ret
  exact⟨by rw[HM.out];rfl,BL HB⟩
 rw[if_neg h4] at HM;have d4:decide (0<n4)=false:=decide_eq_false h4;by_cases h5:0<n5
 ·rw[if_pos h5] at HM
  have d5:decide (0<n5)=true:=decide_eq_true h5;go_wp2_with (first|((with_reducible refine zE (N:=3) rfl ?_);refine lo_ (g:=g1) (cs:=q.cs) _ ⟨BK BK1⟩ ?_ rfl rfl rfl Tryz.underlying26 rfl jR)|((with_reducible refine zE (N:=6) rfl ?_);refine lo_ (g:=g1) (cs:=q.cs) _ ⟨BK BK1⟩ ?_ rfl rfl rfl Tryz.underlying26 rfl jR)|(go_at_call 53;with_reducible refine ((H4 _ (HK.out.below (BL HB))).out).mono ?_;rintro e w' ⟨rfl,hb⟩;replace HB:=zF HB hb;replace BK1:=zC BK1 hb;clear hb)|(go_at_call 53;with_reducible refine ((H5 _ (HK.out.below (BL HB))).out).mono ?_;rintro e w' ⟨rfl,hb⟩;replace HB:=zF HB hb;replace BK1:=zC BK1 hb;clear hb))
  go_ret
  exact⟨by rw[HM.out];rfl,BL HB⟩
 rw[if_neg h5] at HM;have d5:decide (0<n5)=false:=decide_eq_false h5;go_wp2_with (first|((with_reducible refine zE (N:=3) rfl ?_);refine lo_ (g:=g1) (cs:=q.cs) _ ⟨BK BK1⟩ ?_ rfl rfl rfl Tryz.underlying26 rfl jR)|((with_reducible refine zE (N:=6) rfl ?_);refine lo_ (g:=g1) (cs:=q.cs) _ ⟨BK BK1⟩ ?_ rfl rfl rfl Tryz.underlying26 rfl jR)|(go_at_call 53;with_reducible refine ((H4 _ (HK.out.below (BL HB))).out).mono ?_;rintro e w' ⟨rfl,hb⟩;replace HB:=zF HB hb;replace BK1:=zC BK1 hb;clear hb)|(go_at_call 53;with_reducible refine ((H5 _ (HK.out.below (BL HB))).out).mono ?_;rintro e w' ⟨rfl,hb⟩;replace HB:=zF HB hb;replace BK1:=zC BK1 hb;clear hb))
 go_ret
 exact⟨by rw[HM.out];rfl,BL HB⟩
theorem zcR {b:Bool} {s:ByteArray} {e n:Int} (h:OkD s (e+n)) (h1:-1000000≤e) (h2:e≤1000000) (h3:-1000000≤n) (h4:n≤1000000):Ev (fun k=>yH.f k b s e n) (b,nD (vB s),nE (vB s) (e+n)):=by
 unfold yH.f;rw[w64 (x:=e+n) (by omega) (by omega)];exact Ev.bind (zdi h) (Ev.now _)
set_option maxHeartbeats 8000000 in
set_option maxRecDepth 100000 in
theorem zew (q:Pat) (hq:zaE q) (m:Int) (h0:0≤m) (h7:m≤7) (b:Bool) (s:ByteArray) (e:Int) (ok:OkS s e) (ht1:vJ (vB s) e≤10000) (ht2:-5000≤vJ (vB s) e) (r1:Bool) (r2:ByteArray) (r3 r4:Int)
  (hr:zbj m b (vB s) e (stP q.P (vJ (vB s) e)).1 (stP q.P (vJ (vB s) e)).2=(r1,r2,r3,r4)) (w:World) :
  Calls Tryz.prog 49 #[.agg q.cs,.int .i64 m,.agg #[.bool b,.string s,.int .i64 e]] w fun e w'=>e=.returned (.tuple #[.agg #[.bool r1,.string r2,.int .i64 r3],.int .i64 r4])∧Below w.heap.size w w':=by
 have HB:=K_ (Below.refl w.heap.size w);have HGD:=K_ hq.good;have HQM:=K_ hq.more;obtain⟨c1,c2,c3⟩:=znp hq.good;have hxf:=hq.good.mf0;have hxf2:=hq.good.mfx;have hxf3:=hq.good.xf4;have hi4:=hq.good.inc4;obtain⟨tp,htp⟩:∃ tp,tp=vJ (vB s) e:=⟨_,rfl⟩
 obtain⟨kt,hkt⟩:=Ev.rounds (ziL (b:=b) ok.ok);rw[←htp] at hr ht1 ht2 hkt;have HT:=K_ hkt;obtain⟨mx9,hmx⟩:∃ mx9,mx9=(zao q.P).2:=⟨_,rfl⟩
 have hwn:wrap64 (-q.P.xf)=-q.P.xf:=w64 (by omega) (by omega);have one:vB ⟨#[49]⟩=1:=rfl;by_cases hs:q.P.sci=true∨0<q.P.ms
 ·have e1:stP q.P tp=(1,tp-(cS q.P:Int)+1):=by unfold stP;rw[if_pos hs]
  rw[e1] at hr;have hw:wrap64 (wrap64 (tp-mx9)+1)=tp-(cS q.P:Int)+1:=by rw[hmx,c3,w64 (x:=tp-(cS q.P:Int)) (by omega) (by omega),w64 (by omega) (by omega)]
  obtain⟨k,hk⟩:=Ev.rounds (zel (m:=m) (b:=b) (st:=⟨#[49]⟩) (p:=tp-(cS q.P:Int)+1) ok rfl (by decide) (by decide) (by omega) (by omega));rw[one,hr,←hw] at hk;have HR:=K_ hk;have HMX:=K_ hmx;clear hk hr hw e1 one ok hmx hkt htp c3;go_enter Tryz.func49,Tryz.ntmps49
  go_upto_region 1 with (first|((with_reducible refine zE (N:=3) rfl ?_);refine bx_ 3 (q.cs) 26 ?_ rfl rfl rfl rfl rfl;intro g3 hg w2 hbox hb;have BK3:=K_ hbox;have GE3:=ge_ hg HB;replace HB:=zF HB hb;clear hb hbox hg)|((with_reducible refine zE (N:=5) rfl ?_);refine bx_ 5 (#[.bool b,.string s,.int .i64 e]) 23 ?_ rfl rfl rfl rfl rfl;intro g5 hg w2 hbox hb;have BK5:=K_ hbox;have GE5:=ge_ hg HB;have NB3_5:=nb_ hg BK3;replace BK3:=zC BK3 hb;replace HB:=zF HB hb;clear hb hbox hg)|((with_reducible refine zE (N:=6) rfl ?_);refine be_ 6 (#[.bool false,.string (⟨#[]⟩:ByteArray),.int .i64 0]) 23 ?_;intro g6 hg w2 hbox hb;have BK6:=K_ hbox;have GE6:=ge_ hg HB;have NB3_6:=nb_ hg BK3;replace BK3:=zC BK3 hb;have NB5_6:=nb_ hg BK5;replace BK5:=zC BK5 hb;replace HB:=zF HB hb;clear hb hbox hg))
  have e14:=(show w2.cell? ⟨g3,14,none⟩=some (.bool q.P.sci) from (zA BK3.out 14).trans rfl)
  have e9:=(show w2.cell? ⟨g3,9,none⟩=some (.int .i64 q.P.ms) from (zA BK3.out 9).trans rfl)
  rcases hs with hs|hs
  ·rw[hs] at e14
   clear hs;go_upto_region 3 with (first|((with_reducible refine zE (N:=18) rfl ?_);refine lo_ (g:=g3) (cs:=q.cs) _ ⟨BK BK3⟩ ?_ rfl rfl rfl Tryz.underlying26 rfl jR)|(go_at_call 26;refine (zeE q HGD.out _).mono ?_;rintro e9 w' ⟨rfl,hb⟩;replace HB:=zF HB hb;replace BK3:=zC BK3 hb;replace BK5:=zC BK5 hb;replace BK6:=zC BK6 hb;clear hb))
   simp only[←HMX.out]
   refine yE (n:=12) (S:=fun W=>W.heap[g5]?=some (.cells #[.bool b,.string s,.int .i64 e] 23 (0,0))) (ds:=[]) #[false,false,false,false,false,false,false,false,false,false,false,false] (by kernel_rfl) rfl rfl (BK BK5) (fun hHeld=>?_);refine jH (fun W=>W.heap[g5]?=some (.cells #[.bool b,.string s,.int .i64 e] 23 (0,0))∧W.heap[g6]?=some (.cells #[.bool false,.string (⟨#[]⟩:ByteArray),.int .i64 0] 23 (0,0))∧Below w.heap.size w W) ⟨BK BK5,BK BK6,BL HB⟩ ?_;clear hHeld BK3 BK5 BK6 HB;rintro W ⟨hb5,hb6,hbw⟩;have BK5:=K_ hb5;have BK6:=K_ hb6;have HB:=K_ hbw;clear hb5 hb6 hbw;have hHeld:=(show W.heap[g5]?=some (.cells #[.bool b,.string s,.int .i64 e] 23 (0,0)) from BK5.out)
   refine pw_ 0 22 (bb 12 1) ?_;refine tr_ 1 23 (bb 12 3) (#[.bool b,.string s,.int .i64 e]) (fun _ hs=>⟨hs⟩) Tryz.underlying23 jK hHeld ?_;refine tr_ 2 24 (bb 12 7) (#[.bool b,.string s,.int .i64 e]) (fun _ hs=>⟨hs⟩) Tryz.underlying23 jK hHeld ?_;refine pw_ 4 26 (bb 12 23) ?_;refine on_ 3 (some 25) (bb 12 31) (fun K hK=>?_);refine gq_ Tryz.func51 #[.agg #[.bool b,.string s,.int .i64 e]] ?_;refine (qM.calls kt b s e tp _ HT.out).mono ?_;rintro e9 w' ⟨rfl,hb⟩;refine⟨_,rfl,?_⟩;replace HB:=zF HB hb;replace BK5:=zC BK5 hb;replace BK6:=zC BK6 hb;clear hb;clear hHeld;refine hK.out _ _ BK5.out (fun hHeld=>?_);clear hK K;refine no_ (some 25) ?_;refine pw_ 5 27 (bb 12 63) ?_;refine pw_ 6 28 (bb 12 127) ?_;refine on_ 7 (some 29) (bb 12 255) (fun K hK=>?_);refine gq_ Tryz.func83 #[.int .i64 m,.agg #[.bool b,.string s,.int .i64 e],.string (⟨#[49]⟩:ByteArray),.int .i64 (wrap64 (wrap64 (tp-mx9)+1))] ?_;refine (zH.calls k m b s e ⟨#[49]⟩ (wrap64 (wrap64 (tp-mx9)+1)) r1 r2 r3 r4 _ HR.out).mono ?_;rintro e9 w' ⟨rfl,hb⟩;refine⟨_,rfl,?_⟩;replace HB:=zF HB hb;replace BK5:=zC BK5 hb;replace BK6:=zC BK6 hb;clear hb;clear hHeld;refine hK.out _ _ BK5.out (fun hHeld=>?_);clear hK K;refine no_ (some 29) ?_;refine pw_ 8 30 (bb 12 511) ?_;refine pw_ 9 31 (bb 12 1023) ?_;refine on_ 10 none (bb 12 2047) (fun K hK=>?_);refine yT (g:=g6) (cs:=#[.bool false,.string (⟨#[]⟩:ByteArray),.int .i64 0]) (#[.bool r1,.string r2,.int .i64 r3]) BK6 ?_ rfl rfl rfl rfl rfl jK rfl rfl;intro w9 hbk hfar hbel;replace BK5:=K_ (hfar _ _ NB5_6.out BK5.out)
   replace BK6:=K_ hbk;replace HB:=K_ (hbel _ _ GE6.out HB.out);refine hK.out _ _ BK5.out (fun _=>?_);clear hK K hbk hfar hbel;refine pw_ 11 7 (bb 12 4095) ?_;refine yZ (by kernel_rfl) ?_;go_wp2_with (fail)
   refine bodyPost_ret (jF rfl _ _ g6 23 #[.bool r1,.string r2,.int .i64 r3] (0,0) _ rfl BK6.out Tryz.underlying23 rfl jK) rfl ?_;exact⟨rfl,BL HB⟩
  have d9:decide (0<q.P.ms)=true:=decide_eq_true hs;cases hsc:q.P.sci
  all_goals
   rw[hsc] at e14;clear hsc;go_upto_region 3 with (first|((with_reducible refine zE (N:=18) rfl ?_);refine lo_ (g:=g3) (cs:=q.cs) _ ⟨BK BK3⟩ ?_ rfl rfl rfl Tryz.underlying26 rfl jR)|(go_at_call 26;refine (zeE q HGD.out _).mono ?_;rintro e9 w' ⟨rfl,hb⟩;replace HB:=zF HB hb;replace BK3:=zC BK3 hb;replace BK5:=zC BK5 hb;replace BK6:=zC BK6 hb;clear hb))
   simp only[←HMX.out]
   refine yE (n:=12) (S:=fun W=>W.heap[g5]?=some (.cells #[.bool b,.string s,.int .i64 e] 23 (0,0))) (ds:=[]) #[false,false,false,false,false,false,false,false,false,false,false,false] (by kernel_rfl) rfl rfl (BK BK5) (fun hHeld=>?_);refine jH (fun W=>W.heap[g5]?=some (.cells #[.bool b,.string s,.int .i64 e] 23 (0,0))∧W.heap[g6]?=some (.cells #[.bool false,.string (⟨#[]⟩:ByteArray),.int .i64 0] 23 (0,0))∧Below w.heap.size w W) ⟨BK BK5,BK BK6,BL HB⟩ ?_;clear hHeld BK3 BK5 BK6 HB;rintro W ⟨hb5,hb6,hbw⟩;have BK5:=K_ hb5;have BK6:=K_ hb6;have HB:=K_ hbw;clear hb5 hb6 hbw;have hHeld:=(show W.heap[g5]?=some (.cells #[.bool b,.string s,.int .i64 e] 23 (0,0)) from BK5.out)
   refine pw_ 0 22 (bb 12 1) ?_;refine tr_ 1 23 (bb 12 3) (#[.bool b,.string s,.int .i64 e]) (fun _ hs=>⟨hs⟩) Tryz.underlying23 jK hHeld ?_;refine tr_ 2 24 (bb 12 7) (#[.bool b,.string s,.int .i64 e]) (fun _ hs=>⟨hs⟩) Tryz.underlying23 jK hHeld ?_;refine pw_ 4 26 (bb 12 23) ?_;refine on_ 3 (some 25) (bb 12 31) (fun K hK=>?_);refine gq_ Tryz.func51 #[.agg #[.bool b,.string s,.int .i64 e]] ?_;refine (qM.calls kt b s e tp _ HT.out).mono ?_;rintro e9 w' ⟨rfl,hb⟩;refine⟨_,rfl,?_⟩;replace HB:=zF HB hb;replace BK5:=zC BK5 hb;replace BK6:=zC BK6 hb;clear hb;clear hHeld;refine hK.out _ _ BK5.out (fun hHeld=>?_);clear hK K;refine no_ (some 25) ?_;refine pw_ 5 27 (bb 12 63) ?_;refine pw_ 6 28 (bb 12 127) ?_;refine on_ 7 (some 29) (bb 12 255) (fun K hK=>?_);refine gq_ Tryz.func83 #[.int .i64 m,.agg #[.bool b,.string s,.int .i64 e],.string (⟨#[49]⟩:ByteArray),.int .i64 (wrap64 (wrap64 (tp-mx9)+1))] ?_;refine (zH.calls k m b s e ⟨#[49]⟩ (wrap64 (wrap64 (tp-mx9)+1)) r1 r2 r3 r4 _ HR.out).mono ?_;rintro e9 w' ⟨rfl,hb⟩;refine⟨_,rfl,?_⟩;replace HB:=zF HB hb;replace BK5:=zC BK5 hb;replace BK6:=zC BK6 hb;clear hb;clear hHeld;refine hK.out _ _ BK5.out (fun hHeld=>?_);clear hK K;refine no_ (some 29) ?_;refine pw_ 8 30 (bb 12 511) ?_;refine pw_ 9 31 (bb 12 1023) ?_;refine on_ 10 none (bb 12 2047) (fun K hK=>?_);refine yT (g:=g6) (cs:=#[.bool false,.string (⟨#[]⟩:ByteArray),.int .i64 0]) (#[.bool r1,.string r2,.int .i64 r3]) BK6 ?_ rfl rfl rfl rfl rfl jK rfl rfl;intro w9 hbk hfar hbel;replace BK5:=K_ (hfar _ _ NB5_6.out BK5.out)
   replace BK6:=K_ hbk;replace HB:=K_ (hbel _ _ GE6.out HB.out);refine hK.out _ _ BK5.out (fun _=>?_);clear hK K hbk hfar hbel;refine pw_ 11 7 (bb 12 4095) ?_;refine yZ (by kernel_rfl) ?_;go_wp2_with (fail)
   refine bodyPost_ret (jF rfl _ _ g6 23 #[.bool r1,.string r2,.int .i64 r3] (0,0) _ rfl BK6.out Tryz.underlying23 rfl jK) rfl ?_;exact⟨rfl,BL HB⟩
 have hsc:q.P.sci=false:=by cases h:q.P.sci;rfl;exact absurd (.inl h) hs
 have d9:decide (0<q.P.ms)=false:=decide_eq_false (fun h=>hs (.inr h));by_cases hi:q.P.inc.size=0
 ·have e1:stP q.P tp=(1,-q.P.xf):=by unfold stP;rw[if_neg hs,if_neg (by omega)]
  rw[e1] at hr;obtain⟨k,hk⟩:=Ev.rounds (zel (m:=m) (b:=b) (st:=⟨#[49]⟩) (p:=-q.P.xf) ok rfl (by decide) (by decide) (by omega) (by omega));rw[one,hr] at hk;have HR:=K_ hk;have hie:q.P.inc=⟨#[]⟩:=zpy hi;clear hk hr e1 one ok hmx hkt htp hi hs;go_enter Tryz.func49,Tryz.ntmps49
  go_upto_region 1 with (first|((with_reducible refine zE (N:=3) rfl ?_);refine bx_ 3 (q.cs) 26 ?_ rfl rfl rfl rfl rfl;intro g3 hg w2 hbox hb;have BK3:=K_ hbox;have GE3:=ge_ hg HB;replace HB:=zF HB hb;clear hb hbox hg)|((with_reducible refine zE (N:=5) rfl ?_);refine bx_ 5 (#[.bool b,.string s,.int .i64 e]) 23 ?_ rfl rfl rfl rfl rfl;intro g5 hg w2 hbox hb;have BK5:=K_ hbox;have GE5:=ge_ hg HB;have NB3_5:=nb_ hg BK3;replace BK3:=zC BK3 hb;replace HB:=zF HB hb;clear hb hbox hg)|((with_reducible refine zE (N:=6) rfl ?_);refine be_ 6 (#[.bool false,.string (⟨#[]⟩:ByteArray),.int .i64 0]) 23 ?_;intro g6 hg w2 hbox hb;have BK6:=K_ hbox;have GE6:=ge_ hg HB;have NB3_6:=nb_ hg BK3;replace BK3:=zC BK3 hb;have NB5_6:=nb_ hg BK5;replace BK5:=zC BK5 hb;replace HB:=zF HB hb;clear hb hbox hg))
  have e14:=(show w2.cell? ⟨g3,14,none⟩=some (.bool q.P.sci) from (zA BK3.out 14).trans rfl)
  have e9:=(show w2.cell? ⟨g3,9,none⟩=some (.int .i64 q.P.ms) from (zA BK3.out 9).trans rfl)
  have e13:=(show w2.cell? ⟨g3,13,none⟩=some (.string q.P.inc) from (zA BK3.out 13).trans rfl)
  have e8:=(show w2.cell? ⟨g3,8,none⟩=some (.int .i64 q.P.xf) from (zA BK3.out 8).trans rfl)
  rw[hsc] at e14;rw[hie] at e13;clear hsc hie;go_wp2_with (first|((with_reducible refine zE (N:=46) rfl ?_);refine lo_ (g:=g5) (cs:=#[.bool b,.string s,.int .i64 e]) _ ⟨BK BK5⟩ ?_ rfl rfl rfl Tryz.underlying23 rfl jK)|(go_at_call 83;refine (zH.calls k m b s e ⟨#[49]⟩ (-q.P.xf) r1 r2 r3 r4 _ HR.out).mono ?_;rintro e9 w' ⟨rfl,hb⟩;replace HB:=zF HB hb;replace BK5:=zC BK5 hb;replace BK6:=zC BK6 hb;clear hb)|((with_reducible refine zY (p:=6) rfl ?_);refine so_ (g:=g6) (cs:=#[.bool false,.string (⟨#[]⟩:ByteArray),.int .i64 0]) (#[.bool r1,.string r2,.int .i64 r3]) ⟨BK BK6⟩ ?_ rfl rfl rfl rfl rfl jK rfl rfl;intro w9 hbk hfar hbel;replace BK6:=K_ hbk;replace HB:=K_ (hbel _ _ GE6.out (BL HB));clear hbk hfar hbel))
  refine bodyPost_ret (jF rfl _ _ g6 23 #[.bool r1,.string r2,.int .i64 r3] (0,0) _ rfl BK6.out Tryz.underlying23 rfl jK) rfl ?_;exact⟨rfl,BL HB⟩
 have e1:stP q.P tp=(vB q.P.inc,-q.P.xf):=by unfold stP;rw[if_neg hs,if_pos hi]
 rw[e1] at hr;obtain⟨k,hk⟩:=Ev.rounds (zel (m:=m) (b:=b) (st:=q.P.inc) (p:=-q.P.xf) ok (HQM.out.dig hi).1 (HQM.out.dig hi).2 (by omega) (by omega) (by omega));rw[hr] at hk;have HR:=K_ hk;have hie2:=zdL (Nat.pos_of_ne_zero hi);clear hk hr e1 one ok hmx hkt htp hi hs;go_enter Tryz.func49,Tryz.ntmps49
 go_upto_region 1 with (first|((with_reducible refine zE (N:=3) rfl ?_);refine bx_ 3 (q.cs) 26 ?_ rfl rfl rfl rfl rfl;intro g3 hg w2 hbox hb;have BK3:=K_ hbox;have GE3:=ge_ hg HB;replace HB:=zF HB hb;clear hb hbox hg)|((with_reducible refine zE (N:=5) rfl ?_);refine bx_ 5 (#[.bool b,.string s,.int .i64 e]) 23 ?_ rfl rfl rfl rfl rfl;intro g5 hg w2 hbox hb;have BK5:=K_ hbox;have GE5:=ge_ hg HB;have NB3_5:=nb_ hg BK3;replace BK3:=zC BK3 hb;replace HB:=zF HB hb;clear hb hbox hg)|((with_reducible refine zE (N:=6) rfl ?_);refine be_ 6 (#[.bool false,.string (⟨#[]⟩:ByteArray),.int .i64 0]) 23 ?_;intro g6 hg w2 hbox hb;have BK6:=K_ hbox;have GE6:=ge_ hg HB;have NB3_6:=nb_ hg BK3;replace BK3:=zC BK3 hb;have NB5_6:=nb_ hg BK5;replace BK5:=zC BK5 hb;replace HB:=zF HB hb;clear hb hbox hg))
 have e14:=(show w2.cell? ⟨g3,14,none⟩=some (.bool q.P.sci) from (zA BK3.out 14).trans rfl)
 have e9:=(show w2.cell? ⟨g3,9,none⟩=some (.int .i64 q.P.ms) from (zA BK3.out 9).trans rfl)
 have e13:=(show w2.cell? ⟨g3,13,none⟩=some (.string q.P.inc) from (zA BK3.out 13).trans rfl)
 have e8:=(show w2.cell? ⟨g3,8,none⟩=some (.int .i64 q.P.xf) from (zA BK3.out 8).trans rfl)
 rw[hsc] at e14;clear hsc;go_wp2_with (first|((with_reducible refine zE (N:=36) rfl ?_);refine lo_ (g:=g5) (cs:=#[.bool b,.string s,.int .i64 e]) _ ⟨BK BK5⟩ ?_ rfl rfl rfl Tryz.underlying23 rfl jK)|(go_at_call 83;refine (zH.calls k m b s e q.P.inc (-q.P.xf) r1 r2 r3 r4 _ HR.out).mono ?_;rintro e9 w' ⟨rfl,hb⟩;replace HB:=zF HB hb;replace BK5:=zC BK5 hb;replace BK6:=zC BK6 hb;clear hb)|((with_reducible refine zY (p:=6) rfl ?_);refine so_ (g:=g6) (cs:=#[.bool false,.string (⟨#[]⟩:ByteArray),.int .i64 0]) (#[.bool r1,.string r2,.int .i64 r3]) ⟨BK BK6⟩ ?_ rfl rfl rfl rfl rfl jK rfl rfl;intro w9 hbk hfar hbel;replace BK6:=K_ hbk;replace HB:=K_ (hbel _ _ GE6.out (BL HB));clear hbk hfar hbel))
 refine bodyPost_ret (jF rfl _ _ g6 23 #[.bool r1,.string r2,.int .i64 r3] (0,0) _ rfl BK6.out Tryz.underlying23 rfl jK) rfl ?_;exact⟨rfl,BL HB⟩
theorem zlJ {q:Pat} (hq:zaE q) {m:Int} (h0:0≤m) (h7:m≤7) (b:Bool) {s:ByteArray} {e:Int} (hg:zbc s e=true) (hrg:zaR (vB s) e=true) :
  ∃ (x2:ByteArray) (x3:Int) (y1:Bool) (y2:ByteArray) (y3 y4:Int),Ev (fun k=>yH.f k b s e q.mult) (b,x2,x3)∧(OkS x2 x3∧vJ (vB x2) x3≤10000∧-5000≤vJ (vB x2) x3)∧zbj m b (vB x2) x3 (stP q.P (vJ (vB x2) x3)).1 (stP q.P (vJ (vB x2) x3)).2=(y1,y2,y3,y4) ∧
   ((y4≠0∧zaz q m b s e=(false,⟨#[]⟩,0,y4))∨(y4=0∧∃ (z2:ByteArray) (z3:Int) (g:Bool),Ev (fun k=>yH.f k y1 y2 y3 (-q.mult)) (b,z2,z3)∧Ev (fun k=>vD.f k b z2 z3) g∧zaz q m b s e=if g=true then (b,z2,z3,0) else (false,⟨#[]⟩,0,10))):=by
 obtain⟨g1,g2,g3,g4,g5⟩:=zbV.1 hg;obtain⟨m0,m3⟩:=zfg q;have okd:=OkD.of_good hg;have hn:(zW (vB s)).size≤1000:=Nat.le_trans okd.val g3;have okE:OkD s (e+q.mult):=⟨g1,g2,by omega,by omega,by omega⟩
 have okS:=OkS.norm (n:=vB s) (e:=e+q.mult) (by omega) (by omega) (by omega);have hc:vB (nD (vB s))=yU (vB s):=zfm _;have ht:=zlD (n:=vB s) (e:=e+q.mult) (by omega) (by omega) (by omega);have hF:zaz q m b s e=zjj q m b (vB s) e:=by unfold zaz;rw[if_pos ⟨h0,h7⟩,if_pos hg,if_pos hrg]
 rw[hF];by_cases hx:m=7∧zeP q (vB s) e=false
 ·obtain⟨rfl,hf⟩:=hx
  have hf2:¬ atE (yU (vB s)) (nE (vB s) (e+q.mult)) (rK q (vB s) e) % atE (stP q.P (vJ (vB s) (e+q.mult))).1 (stP q.P (vJ (vB s) (e+q.mult))).2 (rK q (vB s) e)=0:=of_decide_eq_false hf;refine⟨nD (vB s),nE (vB s) (e+q.mult),false,⟨#[]⟩,0,11,zcR okE (by omega) (by omega) (by omega) (by omega),⟨okS,by rw[hc,zbZ];omega,by rw[hc,zbZ];omega⟩,?_,.inl ⟨by decide,?_⟩⟩
  ·rw[hc,zbZ];exact zeZ hf2
  unfold zjj;rw[if_pos ⟨rfl,hf⟩]
 obtain⟨k1,k2,k3⟩:=zov hq m b (n:=vB s) (e:=e) hn (by omega) (by omega);obtain⟨N,hN⟩:∃ N,N=rN q m b (vB s) e:=⟨_,rfl⟩
 obtain⟨k,hk⟩:∃ k,k=rK q (vB s) e:=⟨_,rfl⟩
 have e1:rX q m b (vB s) e=nE (yU N) (nE N k + -q.mult):=by unfold rX;rw[←hN,←hk]
 rw[←hN] at k1;rw[←hk] at k2 k3;have a1:=zgy N k k1;have a2:=zfb N k;have a3:=zkA (n:=N) k1 (by omega);have hcz:(zW (yU N)).size≤8000:=zaF (zhb N) k1;have b1:=zgy (yU N) (nE N k + -q.mult) hcz;have b2:=zfb (yU N) (nE N k + -q.mult);refine⟨nD (vB s),nE (vB s) (e+q.mult),b,nD N,nE N k,0,zcR okE (by omega) (by omega) (by omega) (by omega),⟨okS,by rw[hc,zbZ];omega,by rw[hc,zbZ];omega⟩,?_,.inr ⟨rfl,nD N,nE (yU N) (nE N k + -q.mult),zaR (yU N) (nE (yU N) (nE N k + -q.mult)),?_,?_,?_⟩⟩
 ·rw[hc,zbZ,hN,hk]
  exact zkr hq b (fun h=>by cases hh:zeP q (vB s) e;exact absurd ⟨h,hh⟩ hx;rfl)
 ·have h:=zcR (b:=b) (s:=nD N) (e:=nE N k) (n:=-q.mult) ⟨zgI N,zgj N,by omega,by omega,by omega⟩ (by omega) (by omega) (by omega) (by omega)
  rw[zfm,zkd] at h;exact h
 ·have h:=zfB (b:=b) (s:=nD N) (e:=nE (yU N) (nE N k + -q.mult)) ⟨zgI N,zgj N,by omega,by omega,by omega⟩
  rw[zfm] at h;exact h
 unfold zjj zgT;rw[if_neg hx,e1,←hN]
set_option maxHeartbeats 8000000 in
set_option maxRecDepth 100000 in
theorem zjp (q:Pat) (hq:zaE q) (m:Int) (b:Bool) (s:ByteArray) (e:Int) (hs:s.size≤4611686018427387904) (w:World) (hr:xV q w) :
  Calls Tryz.prog 21 #[.agg q.cs,.int .i64 m,.agg #[.bool b,.string s,.int .i64 e]] w fun e' w'=>e'=.returned (.tuple #[.agg #[.bool (zaz q m b s e).1,.string (zaz q m b s e).2.1,.int .i64 (zaz q m b s e).2.2.1],.int .i64 (zaz q m b s e).2.2.2])∧Below w.heap.size w w':=by
 have HB:=K_ (Below.refl w.heap.size w);have HQ:=K_ hq;have HRW:=K_ hr;clear hq hr;by_cases h0:m<0
 ·have d0:decide (m<0)=true:=decide_eq_true h0
  rw[show zaz q m b s e=(false,⟨#[]⟩,0,1) by unfold zaz;rw[if_neg (by omega)]];clear h0;go_enter Tryz.func21,Tryz.ntmps21
  go_upto_region 1 with (first|((with_reducible refine zE (N:=3) rfl ?_);refine bx_ 3 (q.cs) 26 ?_ rfl rfl rfl rfl rfl;intro g3 hg w2 hbox hb;have BK3:=K_ hbox;have GE3:=ge_ hg HB;replace HB:=zF HB hb;clear hb hbox hg)|((with_reducible refine zE (N:=5) rfl ?_);refine bx_ 5 (#[.bool b,.string s,.int .i64 e]) 23 ?_ rfl rfl rfl rfl rfl;intro g5 hg w2 hbox hb;have BK5:=K_ hbox;have GE5:=ge_ hg HB;have NB3_5:=nb_ hg BK3;replace BK3:=zC BK3 hb;replace HB:=zF HB hb;clear hb hbox hg)|((with_reducible refine zE (N:=6) rfl ?_);refine be_ 6 (#[.bool false,.string (⟨#[]⟩:ByteArray),.int .i64 0]) 23 ?_;intro g6 hg w2 hbox hb;have BK6:=K_ hbox;have GE6:=ge_ hg HB;have NB3_6:=nb_ hg BK3;replace BK3:=zC BK3 hb;have NB5_6:=nb_ hg BK5;replace BK5:=zC BK5 hb;replace HB:=zF HB hb;clear hb hbox hg))
  go_wp2_with ((with_reducible refine zY (p:=6) rfl ?_);refine so_ (g:=g6) (cs:=#[.bool false,.string (⟨#[]⟩:ByteArray),.int .i64 0]) (#[.bool false,.string (⟨#[]⟩:ByteArray),.int .i64 0]) ⟨BK BK6⟩ ?_ rfl rfl rfl rfl rfl jK rfl rfl;intro w9 hbk hfar hbel;replace BK3:=K_ (hfar _ _ (by first|exact NB3_6.out|exact Ne.symm NB6_3.out) (BK BK3));replace BK5:=K_ (hfar _ _ (by first|exact NB5_6.out|exact Ne.symm NB6_5.out) (BK BK5));replace BK6:=K_ hbk;replace HB:=K_ (hbel _ _ GE6.out (BL HB));clear hbk hfar hbel)
  refine bodyPost_ret (jF rfl _ _ g6 23 #[.bool false,.string (⟨#[]⟩:ByteArray),.int .i64 0] (0,0) _ rfl BK6.out Tryz.underlying23 rfl jK) rfl ?_;exact⟨rfl,BL HB⟩
 have d0:decide (m<0)=false:=decide_eq_false h0;by_cases h7:m>7
 ·have d7:decide (m>7)=true:=decide_eq_true h7
  rw[show zaz q m b s e=(false,⟨#[]⟩,0,1) by unfold zaz;rw[if_neg (by omega)]];clear h0 h7;go_enter Tryz.func21,Tryz.ntmps21
  go_upto_region 1 with (first|((with_reducible refine zE (N:=3) rfl ?_);refine bx_ 3 (q.cs) 26 ?_ rfl rfl rfl rfl rfl;intro g3 hg w2 hbox hb;have BK3:=K_ hbox;have GE3:=ge_ hg HB;replace HB:=zF HB hb;clear hb hbox hg)|((with_reducible refine zE (N:=5) rfl ?_);refine bx_ 5 (#[.bool b,.string s,.int .i64 e]) 23 ?_ rfl rfl rfl rfl rfl;intro g5 hg w2 hbox hb;have BK5:=K_ hbox;have GE5:=ge_ hg HB;have NB3_5:=nb_ hg BK3;replace BK3:=zC BK3 hb;replace HB:=zF HB hb;clear hb hbox hg)|((with_reducible refine zE (N:=6) rfl ?_);refine be_ 6 (#[.bool false,.string (⟨#[]⟩:ByteArray),.int .i64 0]) 23 ?_;intro g6 hg w2 hbox hb;have BK6:=K_ hbox;have GE6:=ge_ hg HB;have NB3_6:=nb_ hg BK3;replace BK3:=zC BK3 hb;have NB5_6:=nb_ hg BK5;replace BK5:=zC BK5 hb;replace HB:=zF HB hb;clear hb hbox hg))
  go_wp2_with ((with_reducible refine zY (p:=6) rfl ?_);refine so_ (g:=g6) (cs:=#[.bool false,.string (⟨#[]⟩:ByteArray),.int .i64 0]) (#[.bool false,.string (⟨#[]⟩:ByteArray),.int .i64 0]) ⟨BK BK6⟩ ?_ rfl rfl rfl rfl rfl jK rfl rfl;intro w9 hbk hfar hbel;replace BK3:=K_ (hfar _ _ (by first|exact NB3_6.out|exact Ne.symm NB6_3.out) (BK BK3));replace BK5:=K_ (hfar _ _ (by first|exact NB5_6.out|exact Ne.symm NB6_5.out) (BK BK5));replace BK6:=K_ hbk;replace HB:=K_ (hbel _ _ GE6.out (BL HB));clear hbk hfar hbel)
  refine bodyPost_ret (jF rfl _ _ g6 23 #[.bool false,.string (⟨#[]⟩:ByteArray),.int .i64 0] (0,0) _ rfl BK6.out Tryz.underlying23 rfl jK) rfl ?_;exact⟨rfl,BL HB⟩
 have d7:decide (m>7)=false:=decide_eq_false h7;replace h0:0≤m:=by omega
 replace h7:m≤7:=by omega
 obtain⟨kg,hkg⟩:=Ev.rounds (zlO (b:=b) (s:=s) (e:=e) hs);cases hg:zbc s e
 ·rw[hg] at hkg
  have HKG:=K_ hkg;rw[show zaz q m b s e=(false,⟨#[]⟩,0,9) by unfold zaz;rw[if_pos ⟨h0,h7⟩,if_neg (by rw[hg];decide)]];clear hkg hg h0 h7;go_enter Tryz.func21,Tryz.ntmps21
  go_upto_region 1 with (first|((with_reducible refine zE (N:=3) rfl ?_);refine bx_ 3 (q.cs) 26 ?_ rfl rfl rfl rfl rfl;intro g3 hg w2 hbox hb;have BK3:=K_ hbox;have GE3:=ge_ hg HB;replace HB:=zF HB hb;clear hb hbox hg)|((with_reducible refine zE (N:=5) rfl ?_);refine bx_ 5 (#[.bool b,.string s,.int .i64 e]) 23 ?_ rfl rfl rfl rfl rfl;intro g5 hg w2 hbox hb;have BK5:=K_ hbox;have GE5:=ge_ hg HB;have NB3_5:=nb_ hg BK3;replace BK3:=zC BK3 hb;replace HB:=zF HB hb;clear hb hbox hg)|((with_reducible refine zE (N:=6) rfl ?_);refine be_ 6 (#[.bool false,.string (⟨#[]⟩:ByteArray),.int .i64 0]) 23 ?_;intro g6 hg w2 hbox hb;have BK6:=K_ hbox;have GE6:=ge_ hg HB;have NB3_6:=nb_ hg BK3;replace BK3:=zC BK3 hb;have NB5_6:=nb_ hg BK5;replace BK5:=zC BK5 hb;replace HB:=zF HB hb;clear hb hbox hg))
  go_wp2_with (first|((with_reducible refine zE (N:=18) rfl ?_);refine lo_ (g:=g5) (cs:=#[.bool b,.string s,.int .i64 e]) _ ⟨BK BK5⟩ ?_ rfl rfl rfl Tryz.underlying23 rfl jK)|(go_at_call 40;refine (qB.calls kg b s e _ _ HKG.out).mono ?_;rintro e9 w' ⟨rfl,hb⟩;replace HB:=zF HB hb;replace BK3:=zC BK3 hb;replace BK5:=zC BK5 hb;replace BK6:=zC BK6 hb;clear hb)|((with_reducible refine zY (p:=6) rfl ?_);refine so_ (g:=g6) (cs:=#[.bool false,.string (⟨#[]⟩:ByteArray),.int .i64 0]) (#[.bool false,.string (⟨#[]⟩:ByteArray),.int .i64 0]) ⟨BK BK6⟩ ?_ rfl rfl rfl rfl rfl jK rfl rfl;intro w9 hbk hfar hbel;replace BK3:=K_ (hfar _ _ (by first|exact NB3_6.out|exact Ne.symm NB6_3.out) (BK BK3));replace BK5:=K_ (hfar _ _ (by first|exact NB5_6.out|exact Ne.symm NB6_5.out) (BK BK5));replace BK6:=K_ hbk;replace HB:=K_ (hbel _ _ GE6.out (BL HB));clear hbk hfar hbel))
  refine bodyPost_ret (jF rfl _ _ g6 23 #[.bool false,.string (⟨#[]⟩:ByteArray),.int .i64 0] (0,0) _ rfl BK6.out Tryz.underlying23 rfl jK) rfl ?_;exact⟨rfl,BL HB⟩
 rw[hg] at hkg;have HKG:=K_ hkg;obtain⟨kr,hkr⟩:=Ev.rounds (zfB (b:=b) (OkD.of_good hg));cases hrg:zaR (vB s) e
 ·rw[hrg] at hkr
  have HKR:=K_ hkr;rw[show zaz q m b s e=(false,⟨#[]⟩,0,10) by unfold zaz;rw[if_pos ⟨h0,h7⟩,if_pos hg,if_neg (by rw[hrg];decide)]];clear hkg hkr hg hrg h0 h7;go_enter Tryz.func21,Tryz.ntmps21
  go_upto_region 1 with (first|((with_reducible refine zE (N:=3) rfl ?_);refine bx_ 3 (q.cs) 26 ?_ rfl rfl rfl rfl rfl;intro g3 hg w2 hbox hb;have BK3:=K_ hbox;have GE3:=ge_ hg HB;replace HB:=zF HB hb;clear hb hbox hg)|((with_reducible refine zE (N:=5) rfl ?_);refine bx_ 5 (#[.bool b,.string s,.int .i64 e]) 23 ?_ rfl rfl rfl rfl rfl;intro g5 hg w2 hbox hb;have BK5:=K_ hbox;have GE5:=ge_ hg HB;have NB3_5:=nb_ hg BK3;replace BK3:=zC BK3 hb;replace HB:=zF HB hb;clear hb hbox hg)|((with_reducible refine zE (N:=6) rfl ?_);refine be_ 6 (#[.bool false,.string (⟨#[]⟩:ByteArray),.int .i64 0]) 23 ?_;intro g6 hg w2 hbox hb;have BK6:=K_ hbox;have GE6:=ge_ hg HB;have NB3_6:=nb_ hg BK3;replace BK3:=zC BK3 hb;have NB5_6:=nb_ hg BK5;replace BK5:=zC BK5 hb;replace HB:=zF HB hb;clear hb hbox hg))
  go_wp2_with (first|((with_reducible refine zE (N:=18) rfl ?_);refine lo_ (g:=g5) (cs:=#[.bool b,.string s,.int .i64 e]) _ ⟨BK BK5⟩ ?_ rfl rfl rfl Tryz.underlying23 rfl jK)|(go_at_call 40;refine (qB.calls kg b s e _ _ HKG.out).mono ?_;rintro e9 w' ⟨rfl,hb⟩;replace HB:=zF HB hb;replace BK3:=zC BK3 hb;replace BK5:=zC BK5 hb;replace BK6:=zC BK6 hb;clear hb)|((with_reducible refine zE (N:=22) rfl ?_);refine lo_ (g:=g5) (cs:=#[.bool b,.string s,.int .i64 e]) _ ⟨BK BK5⟩ ?_ rfl rfl rfl Tryz.underlying23 rfl jK)|(go_at_call 41;refine (vD.calls kr b s e _ _ HKR.out).mono ?_;rintro e9 w' ⟨rfl,hb⟩;replace HB:=zF HB hb;replace BK3:=zC BK3 hb;replace BK5:=zC BK5 hb;replace BK6:=zC BK6 hb;clear hb)|((with_reducible refine zY (p:=6) rfl ?_);refine so_ (g:=g6) (cs:=#[.bool false,.string (⟨#[]⟩:ByteArray),.int .i64 0]) (#[.bool false,.string (⟨#[]⟩:ByteArray),.int .i64 0]) ⟨BK BK6⟩ ?_ rfl rfl rfl rfl rfl jK rfl rfl;intro w9 hbk hfar hbel;replace BK3:=K_ (hfar _ _ (by first|exact NB3_6.out|exact Ne.symm NB6_3.out) (BK BK3));replace BK5:=K_ (hfar _ _ (by first|exact NB5_6.out|exact Ne.symm NB6_5.out) (BK BK5));replace BK6:=K_ hbk;replace HB:=K_ (hbel _ _ GE6.out (BL HB));clear hbk hfar hbel))
  refine bodyPost_ret (jF rfl _ _ g6 23 #[.bool false,.string (⟨#[]⟩:ByteArray),.int .i64 0] (0,0) _ rfl BK6.out Tryz.underlying23 rfl jK) rfl ?_;exact⟨rfl,BL HB⟩
 rw[hrg] at hkr;have HKR:=K_ hkr;obtain⟨x2,x3,y1,y2,y3,y4,hx,hox,hy,hend⟩:=zlJ HQ.out h0 h7 b hg hrg;obtain⟨kt,hkt⟩:=Ev.rounds hx;have HX:=K_ hkt;have HOX:=K_ hox;have HY:=K_ hy;have HEND:=K_ hend;clear hkg hkr hg hrg hx hkt hox hy hend;go_enter Tryz.func21,Tryz.ntmps21
 go_upto_region 1 with (first|((with_reducible refine zE (N:=3) rfl ?_);refine bx_ 3 (q.cs) 26 ?_ rfl rfl rfl rfl rfl;intro g3 hg w2 hbox hb;have BK3:=K_ hbox;have GE3:=ge_ hg HB;replace HB:=zF HB hb;clear hb hbox hg)|((with_reducible refine zE (N:=5) rfl ?_);refine bx_ 5 (#[.bool b,.string s,.int .i64 e]) 23 ?_ rfl rfl rfl rfl rfl;intro g5 hg w2 hbox hb;have BK5:=K_ hbox;have GE5:=ge_ hg HB;have NB3_5:=nb_ hg BK3;replace BK3:=zC BK3 hb;replace HB:=zF HB hb;clear hb hbox hg)|((with_reducible refine zE (N:=6) rfl ?_);refine be_ 6 (#[.bool false,.string (⟨#[]⟩:ByteArray),.int .i64 0]) 23 ?_;intro g6 hg w2 hbox hb;have BK6:=K_ hbox;have GE6:=ge_ hg HB;have NB3_6:=nb_ hg BK3;replace BK3:=zC BK3 hb;have NB5_6:=nb_ hg BK5;replace BK5:=zC BK5 hb;replace HB:=zF HB hb;clear hb hbox hg))
 go_upto_region 8 with (first|((with_reducible refine zE (N:=18) rfl ?_);refine lo_ (g:=g5) (cs:=#[.bool b,.string s,.int .i64 e]) _ ⟨BK BK5⟩ ?_ rfl rfl rfl Tryz.underlying23 rfl jK)|(go_at_call 40;refine (qB.calls kg b s e _ _ HKG.out).mono ?_;rintro e9 w' ⟨rfl,hb⟩;replace HB:=zF HB hb;replace BK3:=zC BK3 hb;replace BK5:=zC BK5 hb;replace BK6:=zC BK6 hb;clear hb)|((with_reducible refine zE (N:=22) rfl ?_);refine lo_ (g:=g5) (cs:=#[.bool b,.string s,.int .i64 e]) _ ⟨BK BK5⟩ ?_ rfl rfl rfl Tryz.underlying23 rfl jK)|(go_at_call 41;refine (vD.calls kr b s e _ _ HKR.out).mono ?_;rintro e9 w' ⟨rfl,hb⟩;replace HB:=zF HB hb;replace BK3:=zC BK3 hb;replace BK5:=zC BK5 hb;replace BK6:=zC BK6 hb;clear hb)|((with_reducible refine zE (N:=26) rfl ?_);refine lo_ (g:=g3) (cs:=q.cs) _ ⟨BK BK3⟩ ?_ rfl rfl rfl Tryz.underlying26 rfl jR)|(go_at_call 24;refine (zgL q _ (HRW.out.below (BL HB))).mono ?_;rintro e9 w' ⟨rfl,hb⟩;replace HB:=zF HB hb;replace BK3:=zC BK3 hb;replace BK5:=zC BK5 hb;replace BK6:=zC BK6 hb;clear hb))
 refine yE (n:=12) (S:=fun W=>W.heap[g3]?=some (.cells q.cs 26 (0,0))∧W.heap[g5]?=some (.cells #[.bool b,.string s,.int .i64 e] 23 (0,0))) (ds:=[]) #[false,false,false,false,false,false,false,false,false,false,false,false] (by kernel_rfl) rfl rfl ⟨BK BK3,BK BK5⟩ (fun hHeld=>?_);refine jH (fun W=>W.heap[g3]?=some (.cells q.cs 26 (0,0))∧W.heap[g5]?=some (.cells #[.bool b,.string s,.int .i64 e] 23 (0,0))∧W.heap[g6]?=some (.cells #[.bool false,.string (⟨#[]⟩:ByteArray),.int .i64 0] 23 (0,0))∧Below w.heap.size w W) ⟨BK BK3,BK BK5,BK BK6,BL HB⟩ ?_;clear hHeld BK3 BK5 BK6 HB;rintro W ⟨hb3,hb5,hb6,hbw⟩;have BK3:=K_ hb3;have BK5:=K_ hb5;have BK6:=K_ hb6;have HB:=K_ hbw;have hHeld:=(show W.heap[g3]?=some (.cells q.cs 26 (0,0))∧W.heap[g5]?=some (.cells #[.bool b,.string s,.int .i64 e] 23 (0,0)) from ⟨hb3,hb5⟩)
 clear hb3 hb5 hb6 hbw;refine tr_ 0 29 (bb 12 1) (q.cs) (fun _ hs=>⟨hs.1⟩) Tryz.underlying26 jR hHeld ?_;refine pw_ 1 30 (bb 12 3) ?_;refine tr_ 2 31 (bb 12 7) (#[.bool b,.string s,.int .i64 e]) (fun _ hs=>⟨hs.2⟩) Tryz.underlying23 jK hHeld ?_;refine pw_ 3 32 (bb 12 15) ?_;refine zaG (σ:=Nat) 2 (bb 12 1023) (fun s_=>[(33,(.agg #[.bool b,.string x2,.int .i64 x3])),(34,(.tuple #[.agg #[.bool y1,.string y2,.int .i64 y3],.int .i64 y4])),(28,(.tuple #[.agg #[.bool y1,.string y2,.int .i64 y3],.int .i64 y4])),(35,(.agg #[.bool y1,.string y2,.int .i64 y3])),(36,(.int .i64 y4)),(9,(.pointer (some ⟨s_,0,none⟩)))]) (fun s_ W=>W.heap[s_]?=some (.cells (#[.bool false,.string (⟨#[]⟩:ByteArray),.int .i64 0]) 23 (0,0))∧g3≠s_∧g5≠s_∧g6≠s_∧w.heap.size≤s_∧W.heap[g3]?=some (.cells (q.cs) 26 (0,0))∧W.heap[g5]?=some (.cells (#[.bool b,.string s,.int .i64 e]) 23 (0,0))∧W.heap[g6]?=some (.cells (#[.bool false,.string (⟨#[]⟩:ByteArray),.int .i64 0]) 23 (0,0))∧Below w.heap.size w W) ?hcj ?hrj
 case hrj =>
  intro J_4_5_9;refine zaG (σ:=Unit) 3 (bb 12 511) (fun s_=>[(33,(.agg #[.bool b,.string x2,.int .i64 x3])),(34,(.tuple #[.agg #[.bool y1,.string y2,.int .i64 y3],.int .i64 y4])),(28,(.tuple #[.agg #[.bool y1,.string y2,.int .i64 y3],.int .i64 y4])),(35,(.agg #[.bool y1,.string y2,.int .i64 y3])),(36,(.int .i64 y4))]) (fun s_ W=>W.heap[g3]?=some (.cells (q.cs) 26 (0,0))∧W.heap[g5]?=some (.cells (#[.bool b,.string s,.int .i64 e]) 23 (0,0))∧W.heap[g6]?=some (.cells (#[.bool false,.string (⟨#[]⟩:ByteArray),.int .i64 0]) 23 (0,0))∧Below w.heap.size w W) ?_ ?_
  ·skip
   clear hHeld;rintro _ W8 ⟨hBK3,hBK5,hBK6,hHB⟩;have BK3:=K_ hBK3;have BK5:=K_ hBK5;have BK6:=K_ hBK6;have HB:=K_ hHB;clear hBK3 hBK5 hBK6 hHB;refine np_ ?_;refine on_ 9 (some 9) (bb 12 1023) (fun K hK=>?_);refine bs_ 9 (#[.bool false,.string (⟨#[]⟩:ByteArray),.int .i64 0]) 23 ?_;intro g9 hg w' hbox hb;have BK9:=K_ hbox;have GE9:=ge_ hg HB;have NB3_9:=nb_ hg BK3;have NB5_9:=nb_ hg BK5;have NB6_9:=nb_ hg BK6;replace BK3:=zC BK3 hb;replace BK5:=zC BK5 hb;replace BK6:=zC BK6 hb;replace HB:=zF HB hb;clear hb hbox hg;refine hK.out _ _ ⟨BK3.out,BK5.out⟩ (fun hHeld=>?_);clear hK K;refine no_ (some 9) ?_;exact nj_ (J_4_5_9 g9 _ ⟨BK9.out,(by first|exact NB3_9.out|exact Ne.symm NB9_3.out),(by first|exact NB5_9.out|exact Ne.symm NB9_5.out),(by first|exact NB6_9.out|exact Ne.symm NB9_6.out),GE9.out,BK3.out,BK5.out,BK6.out,HB.out⟩)
  intro J_4_5;refine zaG (σ:=Nat) 6 (bb 12 543) (fun s_=>[(33,(.agg #[.bool b,.string x2,.int .i64 x3])),(9,(.pointer (some ⟨s_,0,none⟩)))]) (fun s_ W=>W.heap[s_]?=some (.cells (#[.bool false,.string (⟨#[]⟩:ByteArray),.int .i64 0]) 23 (0,0))∧g3≠s_∧g5≠s_∧g6≠s_∧w.heap.size≤s_∧W.heap[g3]?=some (.cells (q.cs) 26 (0,0))∧W.heap[g5]?=some (.cells (#[.bool b,.string s,.int .i64 e]) 23 (0,0))∧W.heap[g6]?=some (.cells (#[.bool false,.string (⟨#[]⟩:ByteArray),.int .i64 0]) 23 (0,0))∧Below w.heap.size w W) ?_ ?_
  ·skip
   clear hHeld;rintro g9 W8 ⟨hBK9,hNB3_9,hNB5_9,hNB6_9,hGE9,hBK3,hBK5,hBK6,hHB⟩;have BK9:=K_ hBK9;have NB3_9:=K_ hNB3_9;have NB5_9:=K_ hNB5_9;have NB6_9:=K_ hNB6_9;have GE9:=K_ hGE9;have BK3:=K_ hBK3;have BK5:=K_ hBK5;have BK6:=K_ hBK6;have HB:=K_ hHB;clear hBK9 hNB3_9 hNB5_9 hNB6_9 hGE9 hBK3 hBK5 hBK6 hHB;refine np_ ?_;refine on_ 5 (some 34) (bb 12 575) (fun K hK=>?_);refine gq_ Tryz.func49 #[.agg q.cs,.int .i64 m,.agg #[.bool b,.string x2,.int .i64 x3]] ?_;refine (zew q HQ.out m h0 h7 b x2 x3 HOX.out.1 HOX.out.2.1 HOX.out.2.2 y1 y2 y3 y4 HY.out _).mono ?_;rintro e9 w' ⟨rfl,hb⟩;refine⟨_,rfl,?_⟩;replace BK9:=zC BK9 hb;replace BK3:=zC BK3 hb;replace BK5:=zC BK5 hb;replace BK6:=zC BK6 hb;replace HB:=zF HB hb;clear hb;refine hK.out _ _ ⟨BK3.out,BK5.out⟩ (fun hHeld=>?_);clear hK K;refine no_ (some 34) ?_;refine pw_ 6 28 (bb 12 639) ?_;refine pw_ 7 35 (bb 12 767) ?_;refine pw_ 8 36 (bb 12 1023) ?_;exact nj_ (J_4_5_9 g9 _ ⟨BK9.out,(by first|exact NB3_9.out|exact Ne.symm NB9_3.out),(by first|exact NB5_9.out|exact Ne.symm NB9_5.out),(by first|exact NB6_9.out|exact Ne.symm NB9_6.out),GE9.out,BK3.out,BK5.out,BK6.out,HB.out⟩)
  intro J_4_9;refine zaG (σ:=Unit) 7 (bb 12 31) (fun s_=>[(33,(.agg #[.bool b,.string x2,.int .i64 x3]))]) (fun s_ W=>W.heap[g3]?=some (.cells (q.cs) 26 (0,0))∧W.heap[g5]?=some (.cells (#[.bool b,.string s,.int .i64 e]) 23 (0,0))∧W.heap[g6]?=some (.cells (#[.bool false,.string (⟨#[]⟩:ByteArray),.int .i64 0]) 23 (0,0))∧Below w.heap.size w W) ?_ ?_
  ·skip
   clear hHeld;rintro _ W8 ⟨hBK3,hBK5,hBK6,hHB⟩;have BK3:=K_ hBK3;have BK5:=K_ hBK5;have BK6:=K_ hBK6;have HB:=K_ hHB;clear hBK3 hBK5 hBK6 hHB;refine np_ ?_;refine zdF (i:=5) (j:=9) (Ni:=some 34) (Nj:=some 9) (bb 12 63) (bb 12 543) rfl rfl rfl rfl (by kernel_rfl) (by decide) (by decide) (fun K hK=>?_) (fun K hK=>?_)
   ·skip
    refine gq_ Tryz.func49 #[.agg q.cs,.int .i64 m,.agg #[.bool b,.string x2,.int .i64 x3]] ?_;refine (zew q HQ.out m h0 h7 b x2 x3 HOX.out.1 HOX.out.2.1 HOX.out.2.2 y1 y2 y3 y4 HY.out _).mono ?_;rintro e9 w' ⟨rfl,hb⟩;refine⟨_,rfl,?_⟩;replace BK3:=zC BK3 hb;replace BK5:=zC BK5 hb;replace BK6:=zC BK6 hb;replace HB:=zF HB hb;clear hb;refine hK.out _ _ ⟨BK3.out,BK5.out⟩ (fun hHeld=>?_);clear hK K;refine no_ (some 34) ?_;refine pw_ 6 28 (bb 12 127) ?_;refine pw_ 7 35 (bb 12 255) ?_;refine pw_ 8 36 (bb 12 511) ?_;exact nj_ (J_4_5 () _ ⟨BK3.out,BK5.out,BK6.out,HB.out⟩)
   skip
   refine bs_ 9 (#[.bool false,.string (⟨#[]⟩:ByteArray),.int .i64 0]) 23 ?_;intro g9 hg w' hbox hb;have BK9:=K_ hbox;have GE9:=ge_ hg HB;have NB3_9:=nb_ hg BK3;have NB5_9:=nb_ hg BK5;have NB6_9:=nb_ hg BK6;replace BK3:=zC BK3 hb;replace BK5:=zC BK5 hb;replace BK6:=zC BK6 hb;replace HB:=zF HB hb;clear hb hbox hg;refine hK.out _ _ ⟨BK3.out,BK5.out⟩ (fun hHeld=>?_);clear hK K;refine no_ (some 9) ?_;exact nj_ (J_4_9 g9 _ ⟨BK9.out,(by first|exact NB3_9.out|exact Ne.symm NB9_3.out),(by first|exact NB5_9.out|exact Ne.symm NB9_5.out),(by first|exact NB6_9.out|exact Ne.symm NB9_6.out),GE9.out,BK3.out,BK5.out,BK6.out,HB.out⟩)
  intro J_4;refine zaG (σ:=Nat) 7 (bb 12 527) (fun s_=>[(9,(.pointer (some ⟨s_,0,none⟩)))]) (fun s_ W=>W.heap[s_]?=some (.cells (#[.bool false,.string (⟨#[]⟩:ByteArray),.int .i64 0]) 23 (0,0))∧g3≠s_∧g5≠s_∧g6≠s_∧w.heap.size≤s_∧W.heap[g3]?=some (.cells (q.cs) 26 (0,0))∧W.heap[g5]?=some (.cells (#[.bool b,.string s,.int .i64 e]) 23 (0,0))∧W.heap[g6]?=some (.cells (#[.bool false,.string (⟨#[]⟩:ByteArray),.int .i64 0]) 23 (0,0))∧Below w.heap.size w W) ?_ ?_
  ·skip
   clear hHeld;rintro g9 W8 ⟨hBK9,hNB3_9,hNB5_9,hNB6_9,hGE9,hBK3,hBK5,hBK6,hHB⟩;have BK9:=K_ hBK9;have NB3_9:=K_ hNB3_9;have NB5_9:=K_ hNB5_9;have NB6_9:=K_ hNB6_9;have GE9:=K_ hGE9;have BK3:=K_ hBK3;have BK5:=K_ hBK5;have BK6:=K_ hBK6;have HB:=K_ hHB;clear hBK9 hNB3_9 hNB5_9 hNB6_9 hGE9 hBK3 hBK5 hBK6 hHB;refine np_ ?_;refine on_ 4 (some 33) (bb 12 543) (fun K hK=>?_);refine gq_ Tryz.func23 #[.agg #[.bool b,.string s,.int .i64 e],.int .i64 q.mult] ?_;refine (yH.calls kt b s e q.mult b x2 x3 _ HX.out).mono ?_;rintro e9 w' ⟨rfl,hb⟩;refine⟨_,rfl,?_⟩;replace BK9:=zC BK9 hb;replace BK3:=zC BK3 hb;replace BK5:=zC BK5 hb;replace BK6:=zC BK6 hb;replace HB:=zF HB hb;clear hb;refine hK.out _ _ ⟨BK3.out,BK5.out⟩ (fun hHeld=>?_);clear hK K;refine no_ (some 33) ?_;exact nj_ (J_4_9 g9 _ ⟨BK9.out,(by first|exact NB3_9.out|exact Ne.symm NB9_3.out),(by first|exact NB5_9.out|exact Ne.symm NB9_5.out),(by first|exact NB6_9.out|exact Ne.symm NB9_6.out),GE9.out,BK3.out,BK5.out,BK6.out,HB.out⟩)
  intro J_9;clear hHeld;refine zdF (i:=4) (j:=9) (Ni:=some 33) (Nj:=some 9) (bb 12 31) (bb 12 527) rfl rfl rfl rfl (by kernel_rfl) (by decide) (by decide) (fun K hK=>?_) (fun K hK=>?_)
  ·skip
   refine gq_ Tryz.func23 #[.agg #[.bool b,.string s,.int .i64 e],.int .i64 q.mult] ?_;refine (yH.calls kt b s e q.mult b x2 x3 _ HX.out).mono ?_;rintro e9 w' ⟨rfl,hb⟩;refine⟨_,rfl,?_⟩;replace BK3:=zC BK3 hb;replace BK5:=zC BK5 hb;replace BK6:=zC BK6 hb;replace HB:=zF HB hb;clear hb;refine hK.out _ _ ⟨BK3.out,BK5.out⟩ (fun hHeld=>?_);clear hK K;refine no_ (some 33) ?_;exact nj_ (J_4 () _ ⟨BK3.out,BK5.out,BK6.out,HB.out⟩)
  skip
  refine bs_ 9 (#[.bool false,.string (⟨#[]⟩:ByteArray),.int .i64 0]) 23 ?_;intro g9 hg w' hbox hb;have BK9:=K_ hbox;have GE9:=ge_ hg HB;have NB3_9:=nb_ hg BK3;have NB5_9:=nb_ hg BK5;have NB6_9:=nb_ hg BK6;replace BK3:=zC BK3 hb;replace BK5:=zC BK5 hb;replace BK6:=zC BK6 hb;replace HB:=zF HB hb;clear hb hbox hg;refine hK.out _ _ ⟨BK3.out,BK5.out⟩ (fun hHeld=>?_);clear hK K;refine no_ (some 9) ?_;exact nj_ (J_9 g9 _ ⟨BK9.out,(by first|exact NB3_9.out|exact Ne.symm NB9_3.out),(by first|exact NB5_9.out|exact Ne.symm NB9_5.out),(by first|exact NB6_9.out|exact Ne.symm NB9_6.out),GE9.out,BK3.out,BK5.out,BK6.out,HB.out⟩)
 case hcj =>
  clear hHeld;rintro g9 W8 ⟨hBK9,hNB3_9,hNB5_9,hNB6_9,hGE9,hBK3,hBK5,hBK6,hHB⟩;have BK9:=K_ hBK9;have NB3_9:=K_ hNB3_9;have NB5_9:=K_ hNB5_9;have NB6_9:=K_ hNB6_9;have GE9:=K_ hGE9;have BK3:=K_ hBK3;have BK5:=K_ hBK5;have BK6:=K_ hBK6;have HB:=K_ hHB;clear hBK9 hNB3_9 hNB5_9 hNB6_9 hGE9 hBK3 hBK5 hBK6 hHB;refine np_ ?_;refine on_ 10 none (bb 12 2047) (fun K hK=>?_);refine yT (g:=g9) (cs:=#[.bool false,.string (⟨#[]⟩:ByteArray),.int .i64 0]) (#[.bool y1,.string y2,.int .i64 y3]) BK9 ?_ rfl rfl rfl rfl rfl jK rfl rfl;intro w9 hbk hfar hbel;replace BK3:=K_ (hfar _ _ NB3_9.out BK3.out);replace BK5:=K_ (hfar _ _ NB5_9.out BK5.out);replace BK6:=K_ (hfar _ _ NB6_9.out BK6.out);replace BK9:=K_ hbk;replace HB:=K_ (hbel _ _ GE9.out HB.out);refine hK.out _ _ ⟨BK3.out,BK5.out⟩ (fun _=>?_);clear hK K hbk hfar hbel;refine pw_ 11 10 (bb 12 4095) ?_;refine yZ (by kernel_rfl) ?_;rcases HEND.out with ⟨hne,hr⟩|⟨hz,z2,z3,g,hz1,hz2,hr⟩
  ·have dn:(y4 !=0)=true:=by simpa using hne
   have HRS:=K_ hr;clear hr hne;go_wp2_with (first|((with_reducible refine zY (p:=6) rfl ?_);refine so_ (g:=g6) (cs:=#[.bool false,.string (⟨#[]⟩:ByteArray),.int .i64 0]) (#[.bool false,.string (⟨#[]⟩:ByteArray),.int .i64 0]) ⟨BK BK6⟩ ?_ rfl rfl rfl rfl rfl jK rfl rfl;intro w9 hbk hfar hbel;replace BK9:=K_ (hfar _ _ (by first|exact NB9_6.out|exact Ne.symm NB6_9.out) (BK BK9));replace BK6:=K_ hbk;replace HB:=K_ (hbel _ _ GE6.out (BL HB));clear hbk hfar hbel))
   refine bodyPost_ret (jF rfl _ _ g6 23 #[.bool false,.string (⟨#[]⟩:ByteArray),.int .i64 0] (0,0) _ rfl BK6.out Tryz.underlying23 rfl jK) rfl ?_;exact⟨by rw[HRS.out];rfl,BL HB⟩
  subst hz;obtain⟨kt2,hkt2⟩:=Ev.rounds hz1;have HX2:=K_ hkt2;obtain⟨kr2,hkr2⟩:=Ev.rounds hz2;have HRS:=K_ hr;have hwk:wrap64 (-q.mult)=-q.mult:=by unfold Pat.mult wrap64;split;decide;split <;> decide
  clear hz1 hz2 hr hkt2 HEND;cases g
  ·have HKR2:=K_ hkr2
   clear hkr2;go_wp2_with (first|((with_reducible refine zE (N:=41) rfl ?_);refine lo_ (g:=g9) (cs:=#[.bool y1,.string y2,.int .i64 y3]) _ ⟨BK BK9⟩ ?_ rfl rfl rfl Tryz.underlying23 rfl jK)|(go_at_call 23;refine (yH.calls kt2 y1 y2 y3 (-q.mult) b z2 z3 _ HX2.out).mono ?_;rintro e9 w' ⟨rfl,hb⟩;replace HB:=zF HB hb;replace BK6:=zC BK6 hb;replace BK9:=zC BK9 hb;clear hb)|((with_reducible refine zY (p:=9) rfl ?_);refine so_ (g:=g9) (cs:=#[.bool y1,.string y2,.int .i64 y3]) (#[.bool b,.string z2,.int .i64 z3]) ⟨BK BK9⟩ ?_ rfl rfl rfl rfl rfl jK rfl rfl;intro w9 hbk hfar hbel;replace BK6:=K_ (hfar _ _ (by first|exact NB6_9.out|exact Ne.symm NB9_6.out) (BK BK6));replace BK9:=K_ hbk;replace HB:=K_ (hbel _ _ GE9.out (BL HB));clear hbk hfar hbel)|((with_reducible refine zE (N:=45) rfl ?_);refine lo_ (g:=g9) (cs:=#[.bool b,.string z2,.int .i64 z3]) _ ⟨BK BK9⟩ ?_ rfl rfl rfl Tryz.underlying23 rfl jK)|(go_at_call 41;refine (vD.calls kr2 b z2 z3 _ _ HKR2.out).mono ?_;rintro e9 w' ⟨rfl,hb⟩;replace HB:=zF HB hb;replace BK6:=zC BK6 hb;replace BK9:=zC BK9 hb;clear hb)|((with_reducible refine zY (p:=6) rfl ?_);refine so_ (g:=g6) (cs:=#[.bool false,.string (⟨#[]⟩:ByteArray),.int .i64 0]) (#[.bool false,.string (⟨#[]⟩:ByteArray),.int .i64 0]) ⟨BK BK6⟩ ?_ rfl rfl rfl rfl rfl jK rfl rfl;intro w9 hbk hfar hbel;replace BK9:=K_ (hfar _ _ (by first|exact NB9_6.out|exact Ne.symm NB6_9.out) (BK BK9));replace BK6:=K_ hbk;replace HB:=K_ (hbel _ _ GE6.out (BL HB));clear hbk hfar hbel))
   refine bodyPost_ret (jF rfl _ _ g6 23 #[.bool false,.string (⟨#[]⟩:ByteArray),.int .i64 0] (0,0) _ rfl BK6.out Tryz.underlying23 rfl jK) rfl ?_;exact⟨by rw[HRS.out];rfl,BL HB⟩
  have HKR2:=K_ hkr2;clear hkr2;go_wp2_with (first|((with_reducible refine zE (N:=41) rfl ?_);refine lo_ (g:=g9) (cs:=#[.bool y1,.string y2,.int .i64 y3]) _ ⟨BK BK9⟩ ?_ rfl rfl rfl Tryz.underlying23 rfl jK)|(go_at_call 23;refine (yH.calls kt2 y1 y2 y3 (-q.mult) b z2 z3 _ HX2.out).mono ?_;rintro e9 w' ⟨rfl,hb⟩;replace HB:=zF HB hb;replace BK6:=zC BK6 hb;replace BK9:=zC BK9 hb;clear hb)|((with_reducible refine zY (p:=9) rfl ?_);refine so_ (g:=g9) (cs:=#[.bool y1,.string y2,.int .i64 y3]) (#[.bool b,.string z2,.int .i64 z3]) ⟨BK BK9⟩ ?_ rfl rfl rfl rfl rfl jK rfl rfl;intro w9 hbk hfar hbel;replace BK6:=K_ (hfar _ _ (by first|exact NB6_9.out|exact Ne.symm NB9_6.out) (BK BK6));replace BK9:=K_ hbk;replace HB:=K_ (hbel _ _ GE9.out (BL HB));clear hbk hfar hbel)|((with_reducible refine zE (N:=45) rfl ?_);refine lo_ (g:=g9) (cs:=#[.bool b,.string z2,.int .i64 z3]) _ ⟨BK BK9⟩ ?_ rfl rfl rfl Tryz.underlying23 rfl jK)|(go_at_call 41;refine (vD.calls kr2 b z2 z3 _ _ HKR2.out).mono ?_;rintro e9 w' ⟨rfl,hb⟩;replace HB:=zF HB hb;replace BK6:=zC BK6 hb;replace BK9:=zC BK9 hb;clear hb)|((with_reducible refine zE (N:=49) rfl ?_);refine lo_ (g:=g9) (cs:=#[.bool b,.string z2,.int .i64 z3]) _ ⟨BK BK9⟩ ?_ rfl rfl rfl Tryz.underlying23 rfl jK)|((with_reducible refine zY (p:=6) rfl ?_);refine so_ (g:=g6) (cs:=#[.bool false,.string (⟨#[]⟩:ByteArray),.int .i64 0]) (#[.bool b,.string z2,.int .i64 z3]) ⟨BK BK6⟩ ?_ rfl rfl rfl rfl rfl jK rfl rfl;intro w9 hbk hfar hbel;replace BK9:=K_ (hfar _ _ (by first|exact NB9_6.out|exact Ne.symm NB6_9.out) (BK BK9));replace BK6:=K_ hbk;replace HB:=K_ (hbel _ _ GE6.out (BL HB));clear hbk hfar hbel))
  refine bodyPost_ret (jF rfl _ _ g6 23 #[.bool b,.string z2,.int .i64 z3] (0,0) _ rfl BK6.out Tryz.underlying23 rfl jK) rfl ?_;exact⟨by rw[HRS.out];rfl,BL HB⟩
end Go.Proofs.YtcmgdjnjmobkoaaGreatDoor.Px
namespace Go.Proofs.YtcmgdjnjmobkoaaGreatDoor.Px
open Fig Go.RowKit Go.Proofs.YtcmgdjnjmobkoaaGreatDoorW.PrintWords Go.Proofs.YtcmgdjnjmobkoaaGreatDoorW.PrintLast Go.Proofs.YtcmgdjnjmobkoaaGreatDoorW.PrintMore
attribute [local go_sem] yJ yN vE vF jZ yA yM yK
attribute [local go_sem] uJ uN uI uS uQ uP uH uF uG uR uL uK uM uO
def xH.f (a0_0:Bool) (a0_1:ByteArray) (a0_2:Int) (a1:Int):Option (ByteArray):=if (wrap64 (a1-a0_2))<0 then (some (⟨#[48]⟩:ByteArray)) else (if (wrap64 (a1-a0_2)) ≥ (a0_1.size:Int) then (some (⟨#[48]⟩:ByteArray)) else (if 0≤(wrap64 ((wrap64 ((a0_1.size:Int)-1))-(wrap64 (a1-a0_2)))) then (if (wrap64 ((wrap64 ((a0_1.size:Int)-1))-(wrap64 (a1-a0_2))))≤(wrap64 ((wrap64 ((wrap64 ((a0_1.size:Int)-1))-(wrap64 (a1-a0_2))))+1)) then (if (wrap64 ((wrap64 ((wrap64 ((a0_1.size:Int)-1))-(wrap64 (a1-a0_2))))+1))≤(a0_1.size:Int) then (some (a0_1.extract ((wrap64 ((wrap64 ((a0_1.size:Int)-1))-(wrap64 (a1-a0_2)))):Int).toNat ((wrap64 ((wrap64 ((wrap64 ((a0_1.size:Int)-1))-(wrap64 (a1-a0_2))))+1)):Int).toNat)) else (none)) else (none)) else (none)))
set_option maxHeartbeats 8000000 in
set_option maxRecDepth 100000 in
theorem xH.calls (a0_0:Bool) (a0_1:ByteArray) (a0_2:Int) (a1:Int) (r:ByteArray) (w:World) (h:xH.f a0_0 a0_1 a0_2 a1=some r) :
  Calls Tryz.prog 84 #[.agg #[.bool a0_0,.string a0_1,.int .i64 a0_2],.int .i64 a1] w fun e w'=>e=.returned (.string r)∧Below w.heap.size w w':=by
 have hu23:=Tryz.underlying23;have HB:=K_ (Below.refl w.heap.size w);have H:(if (wrap64 (a1-a0_2))<0 then (some (⟨#[48]⟩:ByteArray)) else (if (wrap64 (a1-a0_2)) ≥ (a0_1.size:Int) then (some (⟨#[48]⟩:ByteArray)) else (if 0≤(wrap64 ((wrap64 ((a0_1.size:Int)-1))-(wrap64 (a1-a0_2)))) then (if (wrap64 ((wrap64 ((a0_1.size:Int)-1))-(wrap64 (a1-a0_2))))≤(wrap64 ((wrap64 ((wrap64 ((a0_1.size:Int)-1))-(wrap64 (a1-a0_2))))+1)) then (if (wrap64 ((wrap64 ((wrap64 ((a0_1.size:Int)-1))-(wrap64 (a1-a0_2))))+1))≤(a0_1.size:Int) then (some (a0_1.extract ((wrap64 ((wrap64 ((a0_1.size:Int)-1))-(wrap64 (a1-a0_2)))):Int).toNat ((wrap64 ((wrap64 ((wrap64 ((a0_1.size:Int)-1))-(wrap64 (a1-a0_2))))+1)):Int).toNat)) else (none)) else (none)) else (none))))=some r:=h;clear h;by_cases c3:(wrap64 (a1-a0_2))<0
 ·rw[if_pos c3] at H
  have c3b0:decide ((wrap64 (a1-a0_2))<0)=true:=decide_eq_true c3;clear c3;obtain rfl:=Option.some.inj H;go_enter Tryz.func84,Tryz.ntmps84
  go_wp2_with (first|((with_reducible refine zE (N:=2) rfl ?_);(try (refine yI (by rfl) ?_;dsimp only));refine be_ 2 #[.bool a0_0,.string a0_1,.int .i64 a0_2] 23 ?_;intro gb845 hg w4 hbox hb;have BK845:=K_ (hbox);have GW845:=ge_ hg HB;have GE845:=ge_ hg HB;replace HB:=zF HB hb;clear hb hbox hg;obtain⟨⟨hcz5_0,hcz5_1,hcz5_2⟩,hfz5_0,hfz5_1,hfz5_2⟩:=ce3 BK845))
  go_ret
  exact⟨ER,BL HB⟩
 rw[if_neg c3] at H;have c3b0:decide ((wrap64 (a1-a0_2))<0)=false:=decide_eq_false c3;clear c3;by_cases c6:(wrap64 (a1-a0_2)) ≥ (a0_1.size:Int)
 ·rw[if_pos c6] at H
  have c6b0:decide ((a0_1.size:Int)≤(wrap64 (a1-a0_2)))=true:=decide_eq_true c6;clear c6;obtain rfl:=Option.some.inj H;go_enter Tryz.func84,Tryz.ntmps84
  go_wp2_with (first|((with_reducible refine zE (N:=2) rfl ?_);(try (refine yI (by rfl) ?_;dsimp only));refine be_ 2 #[.bool a0_0,.string a0_1,.int .i64 a0_2] 23 ?_;intro gb845 hg w7 hbox hb;have BK845:=K_ (hbox);have GW845:=ge_ hg HB;have GE845:=ge_ hg HB;replace HB:=zF HB hb;clear hb hbox hg;obtain⟨⟨hcz8_0,hcz8_1,hcz8_2⟩,hfz8_0,hfz8_1,hfz8_2⟩:=ce3 BK845))
  go_ret
  exact⟨ER,BL HB⟩
 rw[if_neg c6] at H;have c6b0:decide ((a0_1.size:Int)≤(wrap64 (a1-a0_2)))=false:=decide_eq_false c6;clear c6;obtain⟨ji9,hji9⟩:∃ j_:Int,(wrap64 ((wrap64 ((a0_1.size:Int)-1))-(wrap64 (a1-a0_2))))=j_:=⟨_,rfl⟩
 replace H:(if 0≤(ji9) then (if (ji9)≤(wrap64 ((ji9)+1)) then (if (wrap64 ((ji9)+1))≤(a0_1.size:Int) then (some (a0_1.extract ((ji9):Int).toNat ((wrap64 ((ji9)+1)):Int).toNat)) else (none)) else (none)) else (none))=some r:=by first|(rw[hji9] at H;exact H)|(simp only[hji9] at H ⊢;exact H)
 have hji9w:(IntKind.i64.wrap ((wrap64 ((a0_1.size:Int)-1))-(wrap64 (a1-a0_2))))=ji9:=(vN _).trans hji9;by_cases c10:0≤(ji9)
 ·rw[if_pos c10] at H
  have c10b0:=eq_true c10;have c10b1:decide (0≤(ji9))=true:=decide_eq_true c10;clear c10;by_cases c11:(ji9)≤(wrap64 ((ji9)+1))
  ·rw[if_pos c11] at H
   have c11b0:=eq_true c11;have c11b1:decide ((ji9)≤(wrap64 ((ji9)+1)))=true:=decide_eq_true c11;by_cases c12:(wrap64 ((ji9)+1))≤(a0_1.size:Int)
   ·rw[if_pos c12] at H
    have c12b0:=eq_true c12;have c12b1:decide ((wrap64 ((ji9)+1))≤(a0_1.size:Int))=true:=decide_eq_true c12;obtain rfl:=Option.some.inj H;go_enter Tryz.func84,Tryz.ntmps84
    go_wp2_with (first|((with_reducible refine zE (N:=2) rfl ?_);(try (refine yI (by rfl) ?_;dsimp only));refine be_ 2 #[.bool a0_0,.string a0_1,.int .i64 a0_2] 23 ?_;intro gb845 hg w13 hbox hb;have BK845:=K_ (hbox);have GW845:=ge_ hg HB;have GE845:=ge_ hg HB;replace HB:=zF HB hb;clear hb hbox hg;obtain⟨⟨hcz14_0,hcz14_1,hcz14_2⟩,hfz14_0,hfz14_1,hfz14_2⟩:=ce3 BK845))
    go_ret
    exact⟨by first|rfl|(simp[yG,yF] <;> rfl)|(simp only[←hji9];first|rfl|(simp[yG,yF] <;> rfl))|(simp[*,yG,yF] <;> rfl),BL HB⟩
   rw[if_neg c12] at H;exact absurd H (by simp)
  rw[if_neg c11] at H;exact absurd H (by simp)
 rw[if_neg c10] at H;exact absurd H (by simp)
def jU.l0:Nat→Int→ByteArray→Int→Bool→ByteArray→Int→Option (ByteArray)
 | 0,_,_,_,_,_,_=>none
 | k+1,x2,x7,x8,x847000,x847001,x847002=>if x8 ≥ x2 then ((xH.f x847000 x847001 x847002 x8).bind fun t847=>(if x7.size+t847.size≤9223372036854775807 then (jU.l0 k x2 (x7++t847) (wrap64 (x8-1)) x847000 x847001 x847002) else (none))) else (some x7)
def jU.f (k:Nat) (a0_0:Bool) (a0_1:ByteArray) (a0_2:Int) (a1:Int) (a2:Int):Option (ByteArray):=jU.l0 k a2 (⟨#[]⟩:ByteArray) a1 a0_0 a0_1 a0_2
set_option maxHeartbeats 8000000 in
set_option maxRecDepth 100000 in
theorem jU.calls (k:Nat) (a0_0:Bool) (a0_1:ByteArray) (a0_2:Int) (a1:Int) (a2:Int) (r:ByteArray) (w:World) (h:jU.f k a0_0 a0_1 a0_2 a1 a2=some r) :
  Calls Tryz.prog 52 #[.agg #[.bool a0_0,.string a0_1,.int .i64 a0_2],.int .i64 a1,.int .i64 a2] w fun e w'=>e=.returned (.string r)∧Below w.heap.size w w':=by
 have hu23:=Tryz.underlying23;have HB:=K_ (Below.refl w.heap.size w);have H:(jU.l0 k a2 (⟨#[]⟩:ByteArray) a1 a0_0 a0_1 a0_2)=some r:=h;clear h;have H':=K_ H;clear H;go_enter Tryz.func52,Tryz.ntmps52
 go_wp2_with (first|(refine be_ 3 #[.bool a0_0,.string a0_1,.int .i64 a0_2] 23 ?_;intro gb846 hg w4 hbox hb;have BK846:=K_ (hbox);have GW846:=ge_ hg HB;have GE846:=ge_ hg HB;replace HB:=zF HB hb;clear hb hbox hg))
 go_loopg [7,8] k (fun kq v7 v8 w'=>∃ (x7_1:ByteArray) (x8_1:Int),v7=.string x7_1∧v8=.int .i64 x8_1∧Aside0 (jU.l0 kq a2 x7_1 x8_1 a0_0 a0_1 a0_2=some r)∧Aside0 (kq≤k)∧Aside0 (w'.heap[gb846]?=some (.cells #[.bool a0_0,.string a0_1,.int .i64 a0_2] 23 (0,0)))∧Aside0 (Below w.heap.size w w'))
 case atStart=>exact⟨((⟨#[]⟩:ByteArray)),(a1),SR,SR,H',⟨Nat.le_refl _⟩,⟨BK BK846⟩,⟨BL HB⟩⟩
 case round =>
  clear H';obtain⟨x7_1,x8_1,rfl,rfl,HA,HK1,BK846,HB⟩:=hrel;obtain _|k1:=gk
  ·exact absurd HA.out (by simp[jU.l0])
  have H:=HA.out;clear HA;simp only[jU.l0] at H
  by_cases c5:x8_1 ≥ a2
  ·rw[if_pos c5] at H
   have c5b0:decide (a2≤x8_1)=true:=decide_eq_true c5;clear c5;obtain⟨t847,A60,H⟩:=Option.bind_eq_some_iff.mp H
   (try dsimp -simprocs only at H)
   have A6:=K_ A60;clear A60;by_cases c7:x7_1.size+t847.size≤9223372036854775807
   ·rw[if_pos c7] at H
    have c7b0:=eq_true c7;have c7b1:decide (x7_1.size+t847.size≤9223372036854775807)=true:=decide_eq_true c7;try have c7b2:(9223372036854775807<x7_1.size+t847.size)=False:=eq_false (Nat.not_lt.2 c7)
    have H':=K_ H;clear H;obtain⟨⟨hcz8_0,hcz8_1,hcz8_2⟩,hfz8_0,hfz8_1,hfz8_2⟩:=ce3 BK846;go_wp2_with (first|((with_reducible refine zK (f:=84) rfl ?_);refine zX (some 18) rfl rfl Tryz.func84 (by kernel_rfl) rfl #[.agg #[.bool a0_0,.string a0_1,.int .i64 a0_2],.int .i64 x8_1] rfl MP ?_;(with_reducible refine (xH.calls a0_0 a0_1 a0_2 x8_1 t847 _ A6.out).mono ?_);rintro e w9 ⟨rfl,hb⟩;refine⟨_,rfl,?_⟩;replace BK846:=zC BK846 hb;replace HB:=zF HB hb;(try clear hb);(try clear hb2);(try clear hk);(try clear hi)))
    go_roundg k1
    case measure=>have:=HK1.out;omega
    case rel=>exact⟨(x7_1++t847),(wrap64 (x8_1-1)),SR,SR,H',⟨by have:=HK1.out;omega⟩,⟨BK BK846⟩,⟨BL HB⟩⟩
   rw[if_neg c7] at H;exact absurd H (by simp)
  rw[if_neg c5] at H;have c5b0:decide (a2≤x8_1)=false:=decide_eq_false c5;clear c5;obtain rfl:=Option.some.inj H;go_wp2
  go_ret
  exact⟨ER,BL HB⟩
end Go.Proofs.YtcmgdjnjmobkoaaGreatDoor.Px
namespace Go.Proofs.YtcmgdjnjmobkoaaGreatDoor.Px
set_option linter.all false
open Fig Go.RowKit Go.Proofs.YtcmgdjnjmobkoaaGreatDoorW.PrintWords Go.Proofs.YtcmgdjnjmobkoaaGreatDoorW.PrintLast Go.Proofs.YtcmgdjnjmobkoaaGreatDoorW.PrintMore
attribute [local go_sem] yJ yN vE vF jZ yA yM yK
theorem zpn {b:Bool} {s:ByteArray} {e p:Int} (h:OkD s e) (h1:-1000000≤p) (h2:p≤1000000):xH.f b s e p=some ⟨#[dgB (vB s) e p]⟩:=by
 have hz:=h.val;have l1:=h.sz;have l2:=h.lo;have l3:=h.hi;have hne:=h.ne;unfold xH.f;rw[w64 (x:=p-e) (by omega) (by omega),w64 (x:=(s.size:Int)-1) (by omega) (by omega)];by_cases c1:p-e<0
 ·rw[if_pos c1]
  have e0:zaY (vB s) e p=0:=by unfold zaY;rw[if_pos (by omega)]
  unfold dgB;rw[e0];rfl
 rw[if_neg c1];by_cases c2:p-e ≥ (s.size:Int)
 ·rw[if_pos c2]
  have e0:zaY (vB s) e p=0:=zgZ (by omega);unfold dgB;rw[e0];rfl
 rw[if_neg c2,w64 (x:=(s.size:Int)-1-(p-e)) (by omega) (by omega)];rw[w64 (x:=(s.size:Int)-1-(p-e)+1) (by omega) (by omega),if_pos (by omega),if_pos (by omega),if_pos (by omega)];obtain⟨j,hj⟩:∃ j:Nat,j=(p-e).toNat:=⟨_,rfl⟩
 have hj2:j<s.size:=by omega
 have e1:((s.size:Int)-1-(p-e)).toNat=s.size-1-j:=by omega
 have e2:((s.size:Int)-1-(p-e)+1).toNat=s.size-1-j+1:=by omega
 rw[e1,e2];congr 1
 apply qS
 rw[xI];have hl:s.size-1-j<s.data.toList.length:=by rw[←zR];omega
 have h9:=zie h.d hj2;have e3:zaY (vB s) e p=((vB s / 10 ^ j % 10:Nat):Int):=by unfold zaY;rw[if_neg (by omega),←hj]
 have hlt:=Nat.mod_lt (vB s / 10 ^ j) (show 0<10 by decide);have e4:s.data.toList[s.size-1-j]=dgB (vB s) e p:=by
  apply UInt8.toNat_inj.1
  have:=zki (vB s) e p
  rw[e3] at this;omega
 rw[show s.size-1-j+1-(s.size-1-j)=1 by omega,List.drop_eq_getElem_cons hl,e4];rfl
theorem zlZ {b:Bool} {s:ByteArray} {e:Int} (h:OkD s e) {hi lo:Int} (h1:-200000≤lo) (h2:hi≤200000) (h3:lo≤200000) (h4:-200000≤hi):Ev (fun k=>jU.f k b s e hi lo) (zZ (vB s) e hi lo):=by
 unfold jU.f;have key:∀ (d k:Nat),(hi-lo+1).toNat-k=d→k≤(hi-lo+1).toNat→Ev (fun f=>jU.l0 f lo ⟨(xZ (vB s) e hi k).toArray⟩ (hi-k) b s e) (zZ (vB s) e hi lo):=by
  intro d
  induction d with
  | zero =>
   intro k hd hk;refine Ev.step (f:=fun _=>some (zZ (vB s) e hi lo)) (fun f=>?_) (Ev.now _);rw[jU.l0,if_neg (by omega)]
   rw[show k=(hi-lo+1).toNat by omega];rfl
  | succ d ih =>
   intro k hd hk;have hs:(⟨(xZ (vB s) e hi k).toArray⟩:ByteArray).size=k:=by show (xZ (vB s) e hi k).toArray.size=k;rw[List.size_toArray,zdz]
   refine Ev.step (f:=fun f=>jU.l0 f lo ⟨(xZ (vB s) e hi (k+1)).toArray⟩ (hi-(k+1:Nat)) b s e) (fun f=>?_) (ih (k+1) (by omega) (by omega));rw[jU.l0,if_pos (by omega),zpn h (by omega) (by omega)];simp only[Option.bind_some]
   rw[hs,if_pos (by show k+1≤_;omega),w64 (by omega) (by omega)];have e5:(⟨(xZ (vB s) e hi k).toArray⟩:ByteArray)++⟨#[dgB (vB s) e (hi-k)]⟩=⟨(xZ (vB s) e hi (k+1)).toArray⟩:=by
    apply qS;rw[zcr];rfl
   rw[e5,show hi-(k:Int)-1=hi-((k+1:Nat):Int) by omega]
 have h0:=key _ 0 rfl (Nat.zero_le _);rw[show hi-(0:Nat)=hi by omega] at h0;exact h0
theorem zlM {t k y:Int} (hk:1<k) (h1:t-t % k≤y) (h2:y≤t):(y.tmod k !=0)=decide (y≠t-t % k):=by
 have he:=Int.mul_ediv_add_emod t k;have hm1:=Int.emod_nonneg t (show k≠0 by omega);have hm2:=Int.emod_lt_of_pos t (show 0<k by omega);obtain⟨d,hd⟩:∃ d,d=y-(t-t % k):=⟨_,rfl⟩
 have e1:y=d+k * (t / k):=by omega
 have e2:y % k=d:=by rw[e1,Int.add_mul_emod_self_left];exact Int.emod_eq_of_lt (by omega) (by omega)
 rw[Bool.eq_iff_iff,bne_iff_ne,decide_eq_true_eq];constructor
 ·intro h h3;apply h
  have:k ∣ y:=Int.dvd_of_emod_eq_zero (by rw[e2];omega)
  exact Int.tmod_eq_zero_of_dvd this
 intro h h3;apply h;have:=Int.emod_eq_zero_of_dvd (Int.dvd_of_tmod_eq_zero h3)
 omega
theorem zcx (b:Bool) (s:ByteArray) (e:Int) (ok:OkD s e) (hi lo:Int) (h1:-200000≤lo) (h2:hi≤200000) (h3:lo≤200000) (h4:-200000≤hi) {x y:Int} (hx:x=hi) (hy:y=lo) (w:World) :
  Calls Tryz.prog 52 #[.agg #[.bool b,.string s,.int .i64 e],.int .i64 x,.int .i64 y] w fun e' w'=>e'=.returned (.string (zZ (vB s) e hi lo))∧Below w.heap.size w w':=by
 subst hx;subst hy;obtain⟨k,hk⟩:=Ev.rounds (zlZ (b:=b) ok h1 h2 h3 h4);exact jU.calls k b s e x y _ w hk
set_option maxHeartbeats 8000000 in
set_option maxRecDepth 100000 in
theorem zlB (q:Pat) (hq:zaE q) (b:Bool) (s:ByteArray) (e:Int) (ok0:OkS s e) (s1:ByteArray) (e1:Int) (h1:s1=nD (vB s)) (h2:e1=nE (vB s) e) (ok:OkS s1 e1) (w:World) :
  Calls Tryz.prog 22 #[.agg q.cs,.agg #[.bool b,.string s,.int .i64 e]] w fun e' w'=>e'=.returned (.agg #[.bool b,.string (qE q.P (vB s1) e1).1,.string (qE q.P (vB s1) e1).2.1,.int .i64 (qE q.P (vB s1) e1).2.2])∧Below w.heap.size w w':=by
 have HB:=K_ (Below.refl w.heap.size w);have HGD:=K_ hq.good;have HOK:=K_ ok;obtain⟨kn,hkn⟩:=Ev.rounds (zdi (b:=b) ok0.ok);rw[←h1,←h2] at hkn;have HNM:=K_ hkn;obtain⟨kt,hkt⟩:=Ev.rounds (ziL (b:=b) ok.ok);have ht:=zdK ok;have hel:=ok.lo;have heh:=ok.hi;have hwb:=zbs hq.good;have hxi:=And.intro hq.good.xi0 hq.good.xi4;have hsb:=zhm hq.good;have hmi:=And.intro hq.good.mi0 hq.good.mi4;have hmf:=And.intro hq.good.mf0 (And.intro hq.good.mfx hq.good.xf4);have hms:=And.intro hq.good.ms0 (And.intro hq.good.msx hq.good.xs4);obtain⟨zr,hzr⟩:∃ zr:Bool,zr=decide (vB s1=0):=⟨_,rfl⟩
 have hz0:vB s1=0 ↔ vB s=0:=by
  rw[h1,zfm];constructor
  ·intro h;cases Nat.eq_zero_or_pos (vB s) with
   | inl h0=>exact h0
   | inr h0=>exact absurd h (zaO (by omega))
  intro h;rw[h,zaS]
 have hzs:(s1.toList==([48]:List UInt8))=zr:=by
  rw[hzr,Bool.eq_iff_iff,beq_iff_eq,decide_eq_true_eq,hz0,h1];exact zhD _
 obtain⟨tp,htp⟩:∃ tp,tp=vJ (vB s1) e1:=⟨_,rfl⟩
 rw[←htp] at hkt ht;have HT:=K_ hkt;have HTP:=K_ htp;have HZR:=K_ hzr;clear hkn hkt ok0 h1 h2 hz0 htp hzr hq ok;go_enter Tryz.func22,Tryz.ntmps22
 go_upto_region 3 with (first|((with_reducible refine zE (N:=2) rfl ?_);refine bx_ 2 (q.cs) 26 ?_ rfl rfl rfl rfl rfl;intro g2 hg w2 hbox hb;have BK2:=K_ hbox;have GE2:=ge_ hg HB;replace HB:=zF HB hb;clear hb hbox hg)|((with_reducible refine zE (N:=3) rfl ?_);refine bx_ 3 (#[.bool b,.string s,.int .i64 e]) 23 ?_ rfl rfl rfl rfl rfl;intro g3 hg w2 hbox hb;have BK3:=K_ hbox;have GE3:=ge_ hg HB;have NB2_3:=nb_ hg BK2;replace BK2:=zC BK2 hb;replace HB:=zF HB hb;clear hb hbox hg)|((with_reducible refine zE (N:=4) rfl ?_);refine be_ 4 (#[.bool false,.string (⟨#[]⟩:ByteArray),.string (⟨#[]⟩:ByteArray),.int .i64 0]) 36 ?_;intro g4 hg w2 hbox hb;have BK4:=K_ hbox;have GE4:=ge_ hg HB;have NB2_4:=nb_ hg BK2;replace BK2:=zC BK2 hb;have NB3_4:=nb_ hg BK3;replace BK3:=zC BK3 hb;replace HB:=zF HB hb;clear hb hbox hg)|((with_reducible refine zE (N:=15) rfl ?_);refine lo_ (g:=g3) (cs:=#[.bool b,.string s,.int .i64 e]) _ ⟨BK BK3⟩ ?_ rfl rfl rfl Tryz.underlying23 rfl jK)|(go_at_call 50;refine (zV.calls kn b s e b s1 e1 _ HNM.out).mono ?_;rintro e9 w' ⟨rfl,hb⟩;replace HB:=zF HB hb;replace BK2:=zC BK2 hb;replace BK3:=zC BK3 hb;replace BK4:=zC BK4 hb;clear hb)|((with_reducible refine zY (p:=3) rfl ?_);refine so_ (g:=g3) (cs:=#[.bool b,.string s,.int .i64 e]) (#[.bool b,.string s1,.int .i64 e1]) ⟨BK BK3⟩ ?_ rfl rfl rfl rfl rfl jK rfl rfl;intro w9 hbk hfar hbel;replace BK2:=K_ (hfar _ _ (by first|exact NB2_3.out|exact Ne.symm NB3_2.out) (BK BK2));replace BK4:=K_ (hfar _ _ (by first|exact NB4_3.out|exact Ne.symm NB3_4.out) (BK BK4));replace BK3:=K_ hbk;replace HB:=K_ (hbel _ _ GE3.out (BL HB));clear hbk hfar hbel)|((with_reducible refine zE (N:=17) rfl ?_);refine lo_ (g:=g3) (cs:=#[.bool b,.string s1,.int .i64 e1]) _ ⟨BK BK3⟩ ?_ rfl rfl rfl Tryz.underlying23 rfl jK)|(go_at_call 51;refine (qM.calls kt b s1 e1 tp _ HT.out).mono ?_;rintro e9 w' ⟨rfl,hb⟩;replace HB:=zF HB hb;replace BK2:=zC BK2 hb;replace BK3:=zC BK3 hb;replace BK4:=zC BK4 hb;clear hb))
 have e31:=(show w'.cell? ⟨g3,1,none⟩=some (.string s1) from (zA BK3.out 1).trans rfl)
 go_upto_region 4 with (fail)
 clear e31;have e30:=(show w'.cell? ⟨g3,0,none⟩=some (.bool b) from (zA BK3.out 0).trans rfl)
 go_upto_region 5 with (first|((with_reducible refine zE (N:=7) rfl ?_);refine be_ 7 (#[.bool false,.string (⟨#[]⟩:ByteArray),.string (⟨#[]⟩:ByteArray),.int .i64 0]) 36 ?_;intro g7 hg w2 hbox hb;have BK7:=K_ hbox;have GE7:=ge_ hg HB;have NB2_7:=nb_ hg BK2;replace BK2:=zC BK2 hb;have NB3_7:=nb_ hg BK3;replace BK3:=zC BK3 hb;have NB4_7:=nb_ hg BK4;replace BK4:=zC BK4 hb;replace HB:=zF HB hb;clear hb hbox hg)|((with_reducible refine zY (p:=7) rfl ?_);refine so_ (g:=g7) (cs:=#[.bool false,.string (⟨#[]⟩:ByteArray),.string (⟨#[]⟩:ByteArray),.int .i64 0]) (#[.bool b,.string (⟨#[]⟩:ByteArray),.string (⟨#[]⟩:ByteArray),.int .i64 (0)]) ⟨BK BK7⟩ ?_ rfl rfl rfl rfl rfl qI rfl rfl;intro w9 hbk hfar hbel;replace BK2:=K_ (hfar _ _ (by first|exact NB2_7.out|exact Ne.symm NB7_2.out) (BK BK2));replace BK3:=K_ (hfar _ _ (by first|exact NB3_7.out|exact Ne.symm NB7_3.out) (BK BK3));replace BK4:=K_ (hfar _ _ (by first|exact NB4_7.out|exact Ne.symm NB7_4.out) (BK BK4));replace BK7:=K_ hbk;replace HB:=K_ (hbel _ _ GE7.out (BL HB));clear hbk hfar hbel))
 clear e30;have HS1:=K_ hzs;clear hzs;have e14:=(show w9.cell? ⟨g2,14,none⟩=some (.bool q.P.sci) from (zA BK2.out 14).trans rfl)
 cases hsci:q.P.sci
 ·rw[hsci] at e14
  obtain⟨k0,hk0⟩:∃ k0,k0=if 0<q.P.ms then q.P.ms-1-tp else q.P.mf:=⟨_,rfl⟩
  obtain⟨n0,hn0⟩:∃ n0,n0=if 0<q.P.ms then 1 else q.P.mi:=⟨_,rfl⟩
  obtain⟨c1,hc1⟩:∃ c1,c1=(decide (-e1>k0)&&!zr):=⟨_,rfl⟩
  obtain⟨k1,hk1⟩:∃ k1,k1=if c1=true then -e1 else k0:=⟨_,rfl⟩
  obtain⟨k2,hk2⟩:∃ k2,k2=if k1<0 then 0 else k1:=⟨_,rfl⟩
  obtain⟨c3,hc3⟩:∃ c3,c3=((decide (tp ≥ 0)&&!zr)&&decide (tp+1>n0)):=⟨_,rfl⟩
  obtain⟨n1,hn1⟩:∃ n1,n1=if c3=true then tp+1 else n0:=⟨_,rfl⟩
  obtain⟨n2,hn2⟩:∃ n2,n2=if n1+k2=0 then 1 else n1:=⟨_,rfl⟩
  have b0:-20100≤k0∧k0≤20000:=by rw[hk0];split <;> omega
  have b1:0≤n0∧n0≤40:=by rw[hn0];split <;> omega
  have b2:-20100≤k1∧k1≤20000:=by rw[hk1];split <;> omega
  have b3:0≤k2∧k2≤20000:=by rw[hk2];split <;> omega
  have b4:0≤n1∧n1≤30000:=by
   rw[hn1];cases c3
   ·rw[if_neg (by decide)];omega
   rw[if_pos rfl];have:=hc3.symm
   simp only[Bool.and_eq_true,decide_eq_true_eq] at this
   omega
  have b5:0≤n2∧n2≤30001:=by rw[hn2];split <;> omega
  have hB:zde q.P (vB s1) e1=k2:=by
   unfold zde zcl;rw[←HTP.out,←hk0,hk2,hk1,hc1,HZR.out];by_cases h0:vB s1=0
   ·rw[if_pos h0,decide_eq_true h0];simp;split <;> omega
   rw[if_neg h0,decide_eq_false h0];by_cases hg:-e1>k0
   ·rw[decide_eq_true hg];simp;split <;> omega
   rw[decide_eq_false hg];simp;split <;> omega
  have hN:zcE q.P (vB s1) e1=n1:=by
   unfold zcE;rw[←HTP.out,←hn0,hn1,hc3,HZR.out];by_cases h0:vB s1=0
   ·rw[if_pos h0,decide_eq_true h0];simp
   rw[if_neg h0,decide_eq_false h0];by_cases hg:tp ≥ 0
   ·by_cases hg2:tp+1>n0
    ·rw[decide_eq_true hg,decide_eq_true hg2];simp;omega
    rw[decide_eq_true hg,decide_eq_false hg2];simp;omega
   rw[decide_eq_false hg];simp;omega
  have HLAY:=K_ (show qE q.P (vB s1) e1=(zZ (vB s1) e1 (n2-1) 0,zZ (vB s1) e1 (-1) (-k2),0) by
   have hL:qE q.P (vB s1) e1=zco (zZ (vB s1) e1 (n1-1) 0,zZ (vB s1) e1 (-1) (-k2),0):=by
    unfold qE;rw[hsci,←hN,←hB];rfl
   rw[hL];unfold zco;by_cases hz:n1+k2=0
   ·have e1_:n1=0:=by omega
    have e2_:k2=0:=by omega
    have hd0:zaY (vB s1) e1 0=0:=by
     by_cases h0:vB s1=0
     ·unfold zaY;rw[h0];split <;> simp
     have ht0:tp+1≤0:=by
      have h9:n1=max n0 (tp+1):=by rw[←hN];unfold zcE;rw[if_neg h0,←hn0,←HTP.out]
      omega
     rw[HTP.out] at ht0;unfold vJ at ht0;rw[if_neg h0] at ht0;exact zgZ (by omega)
    have s1_:zZ (vB s1) e1 (n1-1) 0=⟨#[]⟩:=by unfold zZ;rw[show (n1-1-0+1).toNat=0 by omega];rfl
    have s2_:zZ (vB s1) e1 (-1) (-k2)=⟨#[]⟩:=by unfold zZ;rw[show (-1 - -k2+1).toNat=0 by omega];rfl
    have s3_:zZ (vB s1) e1 (n2-1) 0=⟨#[48]⟩:=by
     rw[hn2,if_pos hz];unfold zZ;rw[show ((1:Int)-1-0+1).toNat=1 by omega];show (⟨([]++[dgB (vB s1) e1 (1-1-((0:Nat):Int))]).toArray⟩:ByteArray)=_
     unfold dgB;rw[show (1:Int)-1-((0:Nat):Int)=0 by omega,hd0];rfl
    rw[if_pos (by rw[s1_,s2_];rfl),s3_]
   have h9:n2=n1:=by rw[hn2,if_neg hz]
   rw[h9,if_neg];intro h;have h8:=congrArg ByteArray.size h;rw[ByteArray.size_append,zaH,zaH] at h8;have h7:(⟨#[]⟩:ByteArray).size=0:=rfl;rw[h7] at h8;omega)
  have HK0:=K_ hk0;have HN0:=K_ hn0;have HC1:=K_ hc1;have HK1:=K_ hk1;have HK2:=K_ hk2;have HC3:=K_ hc3;have HN1:=K_ hn1;have HN2:=K_ hn2;have hwe:wrap64 (-e1)=-e1:=w64 (by omega) (by omega);have hwt:wrap64 (tp+1)=tp+1:=w64 (by omega) (by omega);have hwm:wrap64 (wrap64 (q.P.ms-1)-tp)=q.P.ms-1-tp:=by rw[w64 (x:=q.P.ms-1) (by omega) (by omega),w64 (by omega) (by omega)]
  have hwk:wrap64 (n1+k2)=n1+k2:=w64 (by omega) (by omega);have HW1:=K_ (show wrap64 (n2-1)=n2-1 from w64 (by omega) (by omega));have HW2:=K_ (show wrap64 (-k2)=-k2 from w64 (by omega) (by omega));clear hk0 hn0 hc1 hk1 hk2 hc3 hn1 hn2 hB hN;have e27:=(show w9.cell? ⟨g2,7,none⟩=some (.int .i64 q.P.mf) from (zA BK2.out 7).trans rfl)
  have e25:=(show w9.cell? ⟨g2,5,none⟩=some (.int .i64 q.P.mi) from (zA BK2.out 5).trans rfl)
  have e29:=(show w9.cell? ⟨g2,9,none⟩=some (.int .i64 q.P.ms) from (zA BK2.out 9).trans rfl)
  go_upto_if 112 with (fail)
  go_cut [13,14] from 110 to 117 (fun v u wx=>v=.int .i64 k0∧u=.int .i64 n0∧wx.heap[g2]?=some (.cells q.cs 26 (0,0))∧wx.heap[g3]?=some (.cells #[.bool b,.string s1,.int .i64 e1] 23 (0,0))∧wx.heap[g4]?=some (.cells #[.bool false,.string (⟨#[]⟩:ByteArray),.string (⟨#[]⟩:ByteArray),.int .i64 0] 36 (0,0))∧wx.heap[g7]?=some (.cells #[.bool b,.string (⟨#[]⟩:ByteArray),.string (⟨#[]⟩:ByteArray),.int .i64 (0)] 36 (0,0))∧Below w.heap.size w wx)
  case first =>
   by_cases hz:0<q.P.ms
   ·have dz:decide (0<q.P.ms)=true:=decide_eq_true hz
    have hx:=HK0.out;have hy:=HN0.out;rw[if_pos hz] at hx hy;subst hx hy;go_wp2
    go_meet
    case rel=>exact⟨rfl,rfl,BK BK2,BK BK3,BK BK4,BK BK7,BL HB⟩
   have dz:decide (0<q.P.ms)=false:=decide_eq_false hz;have hx:=HK0.out;have hy:=HN0.out;rw[if_neg hz] at hx hy;subst hx hy;go_wp2
   go_meet
   case rel=>exact⟨rfl,rfl,BK BK2,BK BK3,BK BK4,BK BK7,BL HB⟩
  case rest =>
   obtain⟨rfl,rfl,hb2,hb3,hb4,hb7,hbw⟩:=hcut;replace BK2:=K_ hb2;replace BK3:=K_ hb3;replace BK4:=K_ hb4;replace BK7:=K_ hb7;replace HB:=K_ hbw;clear hb2 hb3 hb4 hb7 hbw;clear e27 e25 e29 e14;go_upto_region 29 with (fail)
   have e32:=(show wc.cell? ⟨g3,2,none⟩=some (.int .i64 e1) from (zA BK3.out 2).trans rfl)
   go_cut [126] from 118 to 126 (fun v wx=>v=.bool c1∧wx.heap[g2]?=some (.cells q.cs 26 (0,0))∧wx.heap[g3]?=some (.cells #[.bool b,.string s1,.int .i64 e1] 23 (0,0))∧wx.heap[g4]?=some (.cells #[.bool false,.string (⟨#[]⟩:ByteArray),.string (⟨#[]⟩:ByteArray),.int .i64 0] 36 (0,0))∧wx.heap[g7]?=some (.cells #[.bool b,.string (⟨#[]⟩:ByteArray),.string (⟨#[]⟩:ByteArray),.int .i64 (0)] 36 (0,0))∧Below w.heap.size w wx)
   case first =>
    have hx:=HC1.out;cases h1:decide (-e1>k0)
    ·rw[h1] at hx
     subst hx;go_wp2
     go_meet
     case rel=>exact⟨rfl,BK BK2,BK BK3,BK BK4,BK BK7,BL HB⟩
    rw[h1] at hx;subst hx;cases zr
    all_goals
     go_wp2
     go_meet
     case rel=>exact⟨rfl,BK BK2,BK BK3,BK BK4,BK BK7,BL HB⟩
   case rest =>
    obtain⟨rfl,hb2,hb3,hb4,hb7,hbw⟩:=hcut;replace BK2:=K_ hb2;replace BK3:=K_ hb3;replace BK4:=K_ hb4;replace BK7:=K_ hb7;replace HB:=K_ hbw;clear hb2 hb3 hb4 hb7 hbw;clear e32;go_upto_if 126 with (fail)
    go_cut [13] from 126 to 129 (fun v wx=>v=.int .i64 k1∧wx.heap[g2]?=some (.cells q.cs 26 (0,0))∧wx.heap[g3]?=some (.cells #[.bool b,.string s1,.int .i64 e1] 23 (0,0))∧wx.heap[g4]?=some (.cells #[.bool false,.string (⟨#[]⟩:ByteArray),.string (⟨#[]⟩:ByteArray),.int .i64 0] 36 (0,0))∧wx.heap[g7]?=some (.cells #[.bool b,.string (⟨#[]⟩:ByteArray),.string (⟨#[]⟩:ByteArray),.int .i64 (0)] 36 (0,0))∧Below w.heap.size w wx)
    case first =>
     have e32:=(show wc.cell? ⟨g3,2,none⟩=some (.int .i64 e1) from (zA BK3.out 2).trans rfl)
     have hx:=HK1.out;cases c1
     ·rw[if_neg (by decide)] at hx
      subst hx;go_wp2
      go_meet
      case rel=>exact⟨rfl,BK BK2,BK BK3,BK BK4,BK BK7,BL HB⟩
     rw[if_pos rfl] at hx;subst hx;go_wp2
     go_meet
     case rel=>exact⟨rfl,BK BK2,BK BK3,BK BK4,BK BK7,BL HB⟩
    case rest =>
     obtain⟨rfl,hb2,hb3,hb4,hb7,hbw⟩:=hcut;replace BK2:=K_ hb2;replace BK3:=K_ hb3;replace BK4:=K_ hb4;replace BK7:=K_ hb7;replace HB:=K_ hbw;clear hb2 hb3 hb4 hb7 hbw;go_upto_if 131 with (fail)
     go_cut [13] from 130 to 131 (fun v wx=>v=.int .i64 k2∧wx.heap[g2]?=some (.cells q.cs 26 (0,0))∧wx.heap[g3]?=some (.cells #[.bool b,.string s1,.int .i64 e1] 23 (0,0))∧wx.heap[g4]?=some (.cells #[.bool false,.string (⟨#[]⟩:ByteArray),.string (⟨#[]⟩:ByteArray),.int .i64 0] 36 (0,0))∧wx.heap[g7]?=some (.cells #[.bool b,.string (⟨#[]⟩:ByteArray),.string (⟨#[]⟩:ByteArray),.int .i64 (0)] 36 (0,0))∧Below w.heap.size w wx)
     case first =>
      by_cases hz:k1<0
      ·have dz:decide (k1<0)=true:=decide_eq_true hz
       have hx:=HK2.out;rw[if_pos hz] at hx;subst hx;go_wp2
       go_meet
       case rel=>exact⟨rfl,BK BK2,BK BK3,BK BK4,BK BK7,BL HB⟩
      have dz:decide (k1<0)=false:=decide_eq_false hz;have hx:=HK2.out;rw[if_neg hz] at hx;subst hx;go_wp2
      go_meet
      case rel=>exact⟨rfl,BK BK2,BK BK3,BK BK4,BK BK7,BL HB⟩
     case rest =>
      obtain⟨rfl,hb2,hb3,hb4,hb7,hbw⟩:=hcut;replace BK2:=K_ hb2;replace BK3:=K_ hb3;replace BK4:=K_ hb4;replace BK7:=K_ hb7;replace HB:=K_ hbw;clear hb2 hb3 hb4 hb7 hbw;go_upto_region 33 with (fail)
      go_cut [143] from 132 to 143 (fun v wx=>v=.bool c3∧wx.heap[g2]?=some (.cells q.cs 26 (0,0))∧wx.heap[g3]?=some (.cells #[.bool b,.string s1,.int .i64 e1] 23 (0,0))∧wx.heap[g4]?=some (.cells #[.bool false,.string (⟨#[]⟩:ByteArray),.string (⟨#[]⟩:ByteArray),.int .i64 0] 36 (0,0))∧wx.heap[g7]?=some (.cells #[.bool b,.string (⟨#[]⟩:ByteArray),.string (⟨#[]⟩:ByteArray),.int .i64 (0)] 36 (0,0))∧Below w.heap.size w wx)
      case first =>
       have hx:=HC3.out;cases h1:decide (tp ≥ 0)
       ·rw[h1] at hx
        subst hx;go_wp2
        go_meet
        case rel=>exact⟨rfl,BK BK2,BK BK3,BK BK4,BK BK7,BL HB⟩
       cases zr
       ·cases h2:decide (tp+1>n0)
        all_goals
         rw[h1,h2] at hx;subst hx;go_wp2
         go_meet
         case rel=>exact⟨rfl,BK BK2,BK BK3,BK BK4,BK BK7,BL HB⟩
       rw[h1] at hx;subst hx;go_wp2
       go_meet
       case rel=>exact⟨rfl,BK BK2,BK BK3,BK BK4,BK BK7,BL HB⟩
      case rest =>
       obtain⟨rfl,hb2,hb3,hb4,hb7,hbw⟩:=hcut;replace BK2:=K_ hb2;replace BK3:=K_ hb3;replace BK4:=K_ hb4;replace BK7:=K_ hb7;replace HB:=K_ hbw;clear hb2 hb3 hb4 hb7 hbw;go_upto_if 143 with (fail)
       go_cut [14] from 143 to 145 (fun v wx=>v=.int .i64 n1∧wx.heap[g2]?=some (.cells q.cs 26 (0,0))∧wx.heap[g3]?=some (.cells #[.bool b,.string s1,.int .i64 e1] 23 (0,0))∧wx.heap[g4]?=some (.cells #[.bool false,.string (⟨#[]⟩:ByteArray),.string (⟨#[]⟩:ByteArray),.int .i64 0] 36 (0,0))∧wx.heap[g7]?=some (.cells #[.bool b,.string (⟨#[]⟩:ByteArray),.string (⟨#[]⟩:ByteArray),.int .i64 (0)] 36 (0,0))∧Below w.heap.size w wx)
       case first =>
        have hx:=HN1.out;cases c3
        ·rw[if_neg (by decide)] at hx
         subst hx;go_wp2
         go_meet
         case rel=>exact⟨rfl,BK BK2,BK BK3,BK BK4,BK BK7,BL HB⟩
        rw[if_pos rfl] at hx;subst hx;go_wp2
        go_meet
        case rel=>exact⟨rfl,BK BK2,BK BK3,BK BK4,BK BK7,BL HB⟩
       case rest =>
        obtain⟨rfl,hb2,hb3,hb4,hb7,hbw⟩:=hcut;replace BK2:=K_ hb2;replace BK3:=K_ hb3;replace BK4:=K_ hb4;replace BK7:=K_ hb7;replace HB:=K_ hbw;clear hb2 hb3 hb4 hb7 hbw;go_upto_if 149 with (fail)
        go_cut [14] from 146 to 149 (fun v wx=>v=.int .i64 n2∧wx.heap[g2]?=some (.cells q.cs 26 (0,0))∧wx.heap[g3]?=some (.cells #[.bool b,.string s1,.int .i64 e1] 23 (0,0))∧wx.heap[g4]?=some (.cells #[.bool false,.string (⟨#[]⟩:ByteArray),.string (⟨#[]⟩:ByteArray),.int .i64 0] 36 (0,0))∧wx.heap[g7]?=some (.cells #[.bool b,.string (⟨#[]⟩:ByteArray),.string (⟨#[]⟩:ByteArray),.int .i64 (0)] 36 (0,0))∧Below w.heap.size w wx)
        case first =>
         by_cases hz:n1+k2=0
         ·have dz:(n1+k2==0)=true:=beq_iff_eq.2 hz
          have hx:=HN2.out;rw[if_pos hz] at hx;subst hx;go_wp2
          go_meet
          case rel=>exact⟨rfl,BK BK2,BK BK3,BK BK4,BK BK7,BL HB⟩
         have dz:(n1+k2==0)=false:=beq_eq_false_iff_ne.2 hz;have hx:=HN2.out;rw[if_neg hz] at hx;subst hx;go_wp2
         go_meet
         case rel=>exact⟨rfl,BK BK2,BK BK3,BK BK4,BK BK7,BL HB⟩
        case rest =>
         obtain⟨rfl,hb2,hb3,hb4,hb7,hbw⟩:=hcut;replace BK2:=K_ hb2;replace BK3:=K_ hb3;replace BK4:=K_ hb4;replace BK7:=K_ hb7;replace HB:=K_ hbw;clear hb2 hb3 hb4 hb7 hbw;go_upto_region 37 with (fail)
         refine yE (n:=12) (S:=fun W=>W.heap[g3]?=some (.cells #[.bool b,.string s1,.int .i64 e1] 23 (0,0))∧W.cell? ⟨g7,3,none⟩=some (.int .i64 (0))) (ds:=[]) #[false,false,false,false,false,false,false,false,false,false,false,false] (by kernel_rfl) rfl rfl ⟨BK BK3,(zA (BK BK7) 3).trans rfl⟩ (fun hHeld=>?_);refine jH (fun W=>W.heap[g3]?=some (.cells #[.bool b,.string s1,.int .i64 e1] 23 (0,0))∧W.heap[g4]?=some (.cells #[.bool false,.string (⟨#[]⟩:ByteArray),.string (⟨#[]⟩:ByteArray),.int .i64 0] 36 (0,0))∧W.heap[g7]?=some (.cells #[.bool b,.string (⟨#[]⟩:ByteArray),.string (⟨#[]⟩:ByteArray),.int .i64 (0)] 36 (0,0))∧Below w.heap.size w W) ⟨BK BK3,BK BK4,BK BK7,BL HB⟩ ?_;clear hHeld BK2 BK3 BK4 BK7 HB;rintro W ⟨hb3,hb4,hb7,hbw⟩;have BK3:=K_ hb3;have BK4:=K_ hb4;have BK7:=K_ hb7;have HB:=K_ hbw;clear hb3 hb4 hb7 hbw;have hHeld:=(show W.heap[g3]?=some (.cells #[.bool b,.string s1,.int .i64 e1] 23 (0,0))∧W.cell? ⟨g7,3,none⟩=some (.int .i64 (0)) from ⟨BK3.out,(zA BK7.out 3).trans rfl⟩)
         refine tr_ 0 150 (bb 12 1) (#[.bool b,.string s1,.int .i64 e1]) (fun _ hs=>⟨hs.1⟩) Tryz.underlying23 jK hHeld ?_;refine pw_ 1 151 (bb 12 3) ?_;refine pw_ 2 152 (bb 12 7) ?_;refine tr_ 4 154 (bb 12 23) (#[.bool b,.string s1,.int .i64 e1]) (fun _ hs=>⟨hs.1⟩) Tryz.underlying23 jK hHeld ?_;refine pw_ 5 155 (bb 12 55) ?_;refine pw_ 6 156 (bb 12 119) ?_;refine on_ 3 (some 153) (bb 12 127) (fun K hK=>?_);refine gq_ Tryz.func52 #[.agg #[.bool b,.string s1,.int .i64 e1],.int .i64 (wrap64 (n2-1)),.int .i64 (0)] ?_;refine (zcx b s1 e1 HOK.out.ok (n2-1) (0) (by omega) (by omega) (by omega) (by omega) HW1.out rfl _).mono ?_;rintro e9 w' ⟨rfl,hb⟩;refine⟨_,rfl,?_⟩;replace HB:=zF HB hb;replace BK3:=zC BK3 hb;replace BK4:=zC BK4 hb;replace BK7:=zC BK7 hb;clear hb;clear hHeld;refine hK.out _ _ ⟨BK3.out,(zA BK7.out 3).trans rfl⟩ (fun hHeld=>?_);clear hK K;refine no_ (some 153) ?_;refine pw_ 8 158 (bb 12 383) ?_;refine on_ 7 (some 157) (bb 12 511) (fun K hK=>?_);refine gq_ Tryz.func52 #[.agg #[.bool b,.string s1,.int .i64 e1],.int .i64 (-1),.int .i64 (wrap64 (-k2))] ?_;refine (zcx b s1 e1 HOK.out.ok (-1) (-k2) (by omega) (by omega) (by omega) (by omega) rfl HW2.out _).mono ?_;rintro e9 w' ⟨rfl,hb⟩;refine⟨_,rfl,?_⟩;replace HB:=zF HB hb;replace BK3:=zC BK3 hb;replace BK4:=zC BK4 hb;replace BK7:=zC BK7 hb;clear hb;clear hHeld;refine hK.out _ _ ⟨BK3.out,(zA BK7.out 3).trans rfl⟩ (fun hHeld=>?_);clear hK K;refine no_ (some 157) ?_;refine on_ 9 none (bb 12 1023) (fun K hK=>?_);have hs:w'.cell? ⟨g7,1,none⟩=some (.string ⟨#[]⟩):=(zA BK7.out 1).trans rfl
         have hf:=zL BK7.out 1;refine xT (w1:=w'.setCell ⟨g7,1,none⟩ (.string (zZ (vB s1) e1 (n2-1) (0)))) (by rfl) rfl (by go_simp;try rfl) ?_;replace BK3:=K_ (zP (p:=⟨g7,1,none⟩) BK3.out NB3_7.out (.string (zZ (vB s1) e1 (n2-1) (0))));replace BK4:=K_ (zP (p:=⟨g7,1,none⟩) BK4.out NB4_7.out (.string (zZ (vB s1) e1 (n2-1) (0))));replace HB:=K_ (uX HB.out GE7.out (j:=1) (v:=.string (zZ (vB s1) e1 (n2-1) (0))));replace BK7:=K_ (uC BK7.out (i:=1) (u:=.string (zZ (vB s1) e1 (n2-1) (0))) (cs':=#[.bool b,.string (zZ (vB s1) e1 (n2-1) (0):ByteArray),.string (⟨#[]⟩:ByteArray),.int .i64 (0)]) rfl);refine hK.out _ _ ⟨BK3.out,(zA BK7.out 3).trans rfl⟩ (fun hHeld=>?_);clear hK K hs hf hHeld;refine jH (fun W=>W.heap[g3]?=some (.cells #[.bool b,.string s1,.int .i64 e1] 23 (0,0))∧W.heap[g4]?=some (.cells #[.bool false,.string (⟨#[]⟩:ByteArray),.string (⟨#[]⟩:ByteArray),.int .i64 0] 36 (0,0))∧W.heap[g7]?=some (.cells #[.bool b,.string (zZ (vB s1) e1 (n2-1) (0):ByteArray),.string (⟨#[]⟩:ByteArray),.int .i64 (0)] 36 (0,0))∧Below w.heap.size w W) ⟨BK3.out,BK4.out,BK7.out,HB.out⟩ ?_;clear BK3 BK4 BK7 HB;rintro W ⟨hb3,hb4,hb7,hbw⟩;have BK3:=K_ hb3;have BK4:=K_ hb4;have BK7:=K_ hb7;have HB:=K_ hbw;clear hb3 hb4 hb7 hbw;have hHeld:=(show W.heap[g3]?=some (.cells #[.bool b,.string s1,.int .i64 e1] 23 (0,0))∧W.cell? ⟨g7,3,none⟩=some (.int .i64 (0)) from ⟨BK3.out,(zA BK7.out 3).trans rfl⟩)
         refine pw_ 10 159 (bb 12 2047) ?_;refine on_ 11 none (bb 12 4095) (fun K hK=>?_);have hs:W.cell? ⟨g7,2,none⟩=some (.string ⟨#[]⟩):=(zA BK7.out 2).trans rfl;have hf:=zL BK7.out 2;refine xT (w1:=W.setCell ⟨g7,2,none⟩ (.string (zZ (vB s1) e1 (-1) (-k2)))) (by rfl) rfl (by go_simp;try rfl) ?_;replace BK3:=K_ (zP (p:=⟨g7,2,none⟩) BK3.out NB3_7.out (.string (zZ (vB s1) e1 (-1) (-k2))));replace BK4:=K_ (zP (p:=⟨g7,2,none⟩) BK4.out NB4_7.out (.string (zZ (vB s1) e1 (-1) (-k2))));replace HB:=K_ (uX HB.out GE7.out (j:=2) (v:=.string (zZ (vB s1) e1 (-1) (-k2))));replace BK7:=K_ (uC BK7.out (i:=2) (u:=.string (zZ (vB s1) e1 (-1) (-k2))) (cs':=#[.bool b,.string (zZ (vB s1) e1 (n2-1) (0):ByteArray),.string (zZ (vB s1) e1 (-1) (-k2):ByteArray),.int .i64 (0)]) rfl);refine hK.out _ _ ⟨BK3.out,(zA BK7.out 3).trans rfl⟩ (fun hHeld=>?_);clear hK K hs hf hHeld;refine jH (fun W=>W.heap[g3]?=some (.cells #[.bool b,.string s1,.int .i64 e1] 23 (0,0))∧W.heap[g4]?=some (.cells #[.bool false,.string (⟨#[]⟩:ByteArray),.string (⟨#[]⟩:ByteArray),.int .i64 0] 36 (0,0))∧W.heap[g7]?=some (.cells #[.bool b,.string (zZ (vB s1) e1 (n2-1) (0):ByteArray),.string (zZ (vB s1) e1 (-1) (-k2):ByteArray),.int .i64 (0)] 36 (0,0))∧Below w.heap.size w W) ⟨BK3.out,BK4.out,BK7.out,HB.out⟩ ?_;clear BK3 BK4 BK7 HB;rintro W ⟨hb3,hb4,hb7,hbw⟩;have BK3:=K_ hb3;have BK4:=K_ hb4;have BK7:=K_ hb7;have HB:=K_ hbw;clear hb3 hb4 hb7 hbw;have hHeld:=(show W.heap[g3]?=some (.cells #[.bool b,.string s1,.int .i64 e1] 23 (0,0))∧W.cell? ⟨g7,3,none⟩=some (.int .i64 (0)) from ⟨BK3.out,(zA BK7.out 3).trans rfl⟩)
         refine yZ (by kernel_rfl) ?_;go_wp2_with (first|((with_reducible refine zE (N:=160) rfl ?_);refine lo_ (g:=g7) (cs:=#[.bool b,.string (zZ (vB s1) e1 (n2-1) (0):ByteArray),.string (zZ (vB s1) e1 (-1) (-k2):ByteArray),.int .i64 (0)]) _ ⟨BK BK7⟩ ?_ rfl rfl rfl Tryz.underlying36 rfl qI)|((with_reducible refine zY (p:=4) rfl ?_);refine so_ (g:=g4) (cs:=#[.bool false,.string (⟨#[]⟩:ByteArray),.string (⟨#[]⟩:ByteArray),.int .i64 0]) (#[.bool b,.string (zZ (vB s1) e1 (n2-1) (0):ByteArray),.string (zZ (vB s1) e1 (-1) (-k2):ByteArray),.int .i64 (0)]) ⟨BK BK4⟩ ?_ rfl rfl rfl rfl rfl qI rfl rfl;intro w9 hbk hfar hbel;replace BK4:=K_ hbk;replace HB:=K_ (hbel _ _ GE4.out (BL HB));clear hbk hfar hbel))
         refine bodyPost_ret (results_cell_row rfl _ _ g4 36 (#[.bool b,.string (zZ (vB s1) e1 (n2-1) (0):ByteArray),.string (zZ (vB s1) e1 (-1) (-k2):ByteArray),.int .i64 (0)]) (0,0) _ rfl BK4.out Tryz.underlying36 rfl qI) rfl ?_;exact⟨by rw[HLAY.out],BL HB⟩
 rw[hsci] at e14;obtain⟨wh,hwh⟩:∃ wh,wh=jY q.P:=⟨_,rfl⟩
 obtain⟨nn,hnn⟩:∃ nn,nn=zda q.P (vB s1) e1:=⟨_,rfl⟩
 obtain⟨xx,hxx⟩:∃ xx,xx=zct q.P (vB s1) e1:=⟨_,rfl⟩
 obtain⟨sg,hsg⟩:∃ sg,sg=(zao q.P).1:=⟨_,rfl⟩
 obtain⟨kk,hkk⟩:∃ kk,kk=if (decide (xx-e1>sg-nn)&&!zr)=true then xx-e1 else sg-nn:=⟨_,rfl⟩
 have hxe:xx=if zr=true then 0 else zbD q.P (vB s1) e1:=by
  rw[hxx,HZR.out];unfold zct;by_cases h0:vB s1=0
  ·rw[if_pos h0,if_pos (decide_eq_true h0)]
  rw[if_neg h0,if_neg (by simpa using h0)]
 have hne:(xM q.P=true∧1<q.P.xi∧zbD q.P (vB s1) e1=tp-tp % q.P.xi∧nn=tp-(tp-tp % q.P.xi)+1)∨(xM q.P=false∧zbD q.P (vB s1) e1=tp-wh+1∧nn=wh):=by
  cases hE:xM q.P
  ·exact .inr ⟨rfl,by rw[HTP.out,hwh];unfold zbD;rw[hE];rfl,by rw[hnn,hwh];unfold zda;rw[hE];rfl⟩
  exact .inl ⟨rfl,zhf hE,by rw[HTP.out];unfold zbD;rw[hE];rfl,by rw[hnn,HTP.out];unfold zda;rw[hE];rfl⟩
 have htz:zr=true→tp=0:=by
  intro h;rw[HZR.out,decide_eq_true_eq] at h;rw[HTP.out];unfold vJ;rw[if_pos h]
 rw[←hwh] at hwb;rw[←hsg] at hsb;have hxb:-20000≤xx∧xx≤30000∧0≤nn∧nn≤100:=by
  rcases hne with ⟨_,h2,h3,h4⟩|⟨_,h3,h4⟩
  ·have m1:=Int.emod_nonneg tp (show q.P.xi≠0 by omega)
   have m2:=Int.emod_lt_of_pos tp (show 0<q.P.xi by omega);rw[hxe,h3];split <;> omega
  rw[hxe,h3];split <;> omega
 have hkb:-40000≤kk∧kk≤60000:=by rw[hkk];split <;> omega
 have HLAY:=K_ (show qE q.P (vB s1) e1=zco (zZ (vB s1) e1 (xx+nn-1) xx,zZ (vB s1) e1 (xx-1) (xx-kk),xx) by
  have hb:zZ (vB s1) e1 (xx-1) (xx-kk)=zZ (vB s1) e1 (xx-1) (xx-zfS q.P (vB s1) e1):=by
   have hB:zfS q.P (vB s1) e1=max kk 0:=by
    rw[hkk];unfold zfS zcl;rw[←hsg,←hnn,←hxx];by_cases h0:vB s1=0
    ·have hz:zr=true:=by rw[HZR.out];exact decide_eq_true h0
     rw[hz,if_pos h0,if_neg (by simp)];try omega
    have hz:zr=false:=by rw[HZR.out];exact decide_eq_false h0
    rw[hz,if_neg h0];by_cases hgt:xx-e1>sg-nn
    ·rw[if_pos (by simp[hgt])];omega
    rw[if_neg (by simp[hgt])];omega
   rw[hB];by_cases hk0:0≤kk
   ·rw[show max kk 0=kk by omega]
   unfold zZ;rw[show (xx-1-(xx-kk)+1).toNat=0 by omega,show (xx-1-(xx-max kk 0)+1).toNat=0 by omega]
  rw[hb,hnn,hxx];unfold qE;rw[hsci];rfl)
 have HNE:=K_ hne;have HXE:=K_ hxe;have HKK:=K_ hkk;have HTZ:=K_ htz;have HWH:=K_ hwh;have HSG:=K_ hsg;have HW1:=K_ (show wrap64 (wrap64 (xx+nn)-1)=xx+nn-1 by rw[w64 (x:=xx+nn) (by omega) (by omega),w64 (by omega) (by omega)]);have HW2:=K_ (show wrap64 (xx-1)=xx-1 by rw[w64 (by omega) (by omega)]);have HW3:=K_ (show wrap64 (xx-kk)=xx-kk by rw[w64 (by omega) (by omega)]);clear hne hxe hkk htz hwh hsg hnn hxx;go_upto_if 30 with (first|((with_reducible refine zE (N:=27) rfl ?_);refine lo_ (g:=g2) (cs:=q.cs) _ ⟨BK BK2⟩ ?_ rfl rfl rfl Tryz.underlying26 rfl jR)|(go_at_call 30;refine (zfL q HGD.out _).mono ?_;rintro e9 w' ⟨rfl,hb⟩;replace HB:=zF HB hb;replace BK2:=zC BK2 hb;replace BK3:=zC BK3 hb;replace BK4:=zC BK4 hb;replace BK7:=zC BK7 hb;clear hb))
 simp only[←HWH.out]
 go_cut [] from 29 to 35 (fun wx=>wx.heap[g2]?=some (.cells q.cs 26 (0,0))∧wx.heap[g3]?=some (.cells #[.bool b,.string s1,.int .i64 e1] 23 (0,0))∧wx.heap[g4]?=some (.cells #[.bool false,.string (⟨#[]⟩:ByteArray),.string (⟨#[]⟩:ByteArray),.int .i64 0] 36 (0,0))∧wx.heap[g7]?=some (.cells #[.bool b,.string (⟨#[]⟩:ByteArray),.string (⟨#[]⟩:ByteArray),.int .i64 (if zr=true then 0 else tp-wh+1)] 36 (0,0))∧Below w.heap.size w wx)
 case first =>
  cases zr
  ·have hw1:wrap64 (wrap64 (tp-wh)+1)=tp-wh+1:=by rw[w64 (x:=tp-wh) (by omega) (by omega),w64 (by omega) (by omega)]
   have s73:=(show w'.cell? ⟨g7,3,none⟩=some (.int .i64 0) from (zA BK7.out 3).trans rfl)
   have f73:=zL BK7.out 3;go_wp2
   go_meet
   case rel=>exact⟨zP (BK BK2) NB2_7.out _,zP (BK BK3) NB3_7.out _,zP (BK BK4) NB4_7.out _,BP BK7,BL HB⟩
  go_wp2
  go_meet
  case rel=>exact⟨BK BK2,BK BK3,BK BK4,BK BK7,BL HB⟩
 case rest =>
  obtain⟨hb2,hb3,hb4,hb7,hbw⟩:=hcut;replace BK2:=K_ hb2;replace BK3:=K_ hb3;replace BK4:=K_ hb4;replace BK7:=K_ hb7;replace HB:=K_ hbw;clear hb2 hb3 hb4 hb7 hbw;go_upto_if 37 with (first|((with_reducible refine zE (N:=36) rfl ?_);refine lo_ (g:=g2) (cs:=q.cs) _ ⟨BK BK2⟩ ?_ rfl rfl rfl Tryz.underlying26 rfl jR)|(go_at_call 28;refine (zhv q _).mono ?_;rintro e9 w' ⟨rfl,hb⟩;replace HB:=zF HB hb;replace BK2:=zC BK2 hb;replace BK3:=zC BK3 hb;replace BK4:=zC BK4 hb;replace BK7:=zC BK7 hb;clear hb))
  go_cut [8] from 37 to 56 (fun v wx=>v=.int .i64 nn∧wx.heap[g2]?=some (.cells q.cs 26 (0,0))∧wx.heap[g3]?=some (.cells #[.bool b,.string s1,.int .i64 e1] 23 (0,0))∧wx.heap[g4]?=some (.cells #[.bool false,.string (⟨#[]⟩:ByteArray),.string (⟨#[]⟩:ByteArray),.int .i64 0] 36 (0,0))∧wx.heap[g7]?=some (.cells #[.bool b,.string (⟨#[]⟩:ByteArray),.string (⟨#[]⟩:ByteArray),.int .i64 (xx)] 36 (0,0))∧Below w.heap.size w wx)
  case first =>
   rcases HNE.out with ⟨hE,x1,h3,h4⟩|⟨hE,h3,h4⟩
   ·rw[hE]
    clear hE;cases zr
    ·have hx2:xx=tp-tp % q.P.xi:=by rw[HXE.out,if_neg (by decide),h3]
     have hw5:wrap64 (wrap64 (tp-xx)+1)=tp-xx+1:=by rw[w64 (x:=tp-xx) (by omega) (by omega),w64 (by omega) (by omega)]
     have hm1:=Int.emod_nonneg tp (show q.P.xi≠0 by omega);have hm2:=Int.emod_lt_of_pos tp (show 0<q.P.xi by omega);have HN4:=K_ (show tp-xx+1=nn by rw[h4,hx2]);have HX2:=K_ hx2;have hq0:(q.P.xi==0)=false:=beq_eq_false_iff_ne.2 (by omega);have hq1:¬ q.P.xi=0:=by omega
     have hxt:xx≤tp:=by omega
     have s73:=(show w'.cell? ⟨g7,3,none⟩=some (.int .i64 (if false=true then 0 else tp-wh+1)) from (zA BK7.out 3).trans rfl)
     have f73:=zL BK7.out 3;clear h3 h4 hx2;go_wp2_with (fail)
     clear s73 f73;go_loopw [] (fun wr=>∃ y:Int,xx≤y∧y≤tp∧wr.heap[g2]?=some (.cells q.cs 26 (0,0))∧wr.heap[g3]?=some (.cells #[.bool b,.string s1,.int .i64 e1] 23 (0,0))∧wr.heap[g4]?=some (.cells #[.bool false,.string (⟨#[]⟩:ByteArray),.string (⟨#[]⟩:ByteArray),.int .i64 0] 36 (0,0))∧wr.heap[g7]?=some (.cells #[.bool b,.string (⟨#[]⟩:ByteArray),.string (⟨#[]⟩:ByteArray),.int .i64 (y)] 36 (0,0))∧Below w.heap.size w wr) (fun wr=>(intOf ((wr.cell? ⟨g7,3,none⟩).getD (.bool false))-xx).toNat)
     case atStart=>exact⟨tp,hxt,Int.le_refl _,zP (BK BK2) NB2_7.out _,zP (BK BK3) NB3_7.out _,zP (BK BK4) NB4_7.out _,BP BK7,BL HB⟩
     case round =>
      obtain⟨y,hy1,hy2,hb2,hb3,hb4,hb7,hbw⟩:=hrel;replace BK2:=K_ hb2;replace BK3:=K_ hb3;replace BK4:=K_ hb4;replace BK7:=K_ hb7;replace HB:=K_ hbw;clear hb2 hb3 hb4 hb7 hbw;have e73:=(show wr.cell? ⟨g7,3,none⟩=some (.int .i64 y) from (zA BK7.out 3).trans rfl)
      have e26:=(show wr.cell? ⟨g2,6,none⟩=some (.int .i64 q.P.xi) from (zA BK2.out 6).trans rfl)
      have f73:=zL BK7.out 3;have hr:=zlM x1 (by rw[←HX2.out];exact hy1) hy2;rw[←HX2.out] at hr;by_cases hxy:y=xx
      ·subst hxy
       rw[show decide (y≠y)=false by simp] at hr;clear hm1 hm2;go_wp2
       go_meet
       case rel=>exact⟨congrArg (Value.int .i64) HN4.out,BK BK2,BK BK3,BK BK4,BK BK7,BL HB⟩
      rw[decide_eq_true hxy] at hr;have hwy:wrap64 (y-1)=y-1:=w64 (by omega) (by omega);clear hm1 hm2;go_wp2
      go_roundw
      case rel=>exact⟨y-1,by omega,by omega,zP (BK BK2) NB2_7.out _,zP (BK BK3) NB3_7.out _,zP (BK BK4) NB4_7.out _,BP BK7,BL HB⟩
      case measure =>
       rw[e73];rw[show (World.setCell wr ⟨g7,3,none⟩ (.int .i64 (y-1))).cell? ⟨g7,3,none⟩=some (.int .i64 (y-1)) from (zA (uC BK7.out (i:=3) (u:=.int .i64 (y-1)) (cs':=#[.bool b,.string (⟨#[]⟩:ByteArray),.string (⟨#[]⟩:ByteArray),.int .i64 (y-1)]) rfl) 3).trans rfl];simp only[Option.getD_some,intOf];omega
    have hx2:xx=0:=by rw[HXE.out,if_pos rfl]
    have htz:=HTZ.out rfl;have hn1:nn=1:=by rw[h4,htz];simp
    subst hx2 hn1;rw[if_pos rfl] at BK7;clear h3 h4 htz;go_wp2
    go_meet
    case rel=>exact⟨rfl,BK BK2,BK BK3,BK BK4,BK BK7,BL HB⟩
   rw[hE];have hx2:xx=if zr=true then 0 else tp-wh+1:=by rw[HXE.out,h3]
   rw[←hx2] at BK7;subst h4;clear hE h3 hx2;go_wp2
   go_meet
   case rel=>exact⟨rfl,BK BK2,BK BK3,BK BK4,BK BK7,BL HB⟩
  case rest =>
   obtain⟨rfl,hb2,hb3,hb4,hb7,hbw⟩:=hcut;replace BK2:=K_ hb2;replace BK3:=K_ hb3;replace BK4:=K_ hb4;replace BK7:=K_ hb7;replace HB:=K_ hbw;clear hb2 hb3 hb4 hb7 hbw;go_upto_region 17 with (first|((with_reducible refine zE (N:=58) rfl ?_);refine lo_ (g:=g2) (cs:=q.cs) _ ⟨BK BK2⟩ ?_ rfl rfl rfl Tryz.underlying26 rfl jR)|(go_at_call 26;refine (zeE q HGD.out _).mono ?_;rintro e9 w' ⟨rfl,hb⟩;replace HB:=zF HB hb;replace BK2:=zC BK2 hb;replace BK3:=zC BK3 hb;replace BK4:=zC BK4 hb;replace BK7:=zC BK7 hb;clear hb))
   simp only[←HSG.out]
   have hws:wrap64 (sg-nn)=sg-nn:=w64 (by omega) (by omega);have hwx:wrap64 (xx-e1)=xx-e1:=w64 (by omega) (by omega);have e73:=(show w'.cell? ⟨g7,3,none⟩=some (.int .i64 xx) from (zA BK7.out 3).trans rfl)
   have e32:=(show w'.cell? ⟨g3,2,none⟩=some (.int .i64 e1) from (zA BK3.out 2).trans rfl)
   obtain⟨cz,hcz⟩:∃ cz,cz=(decide (xx-e1>sg-nn)&&!zr):=⟨_,rfl⟩
   have hkz:kk=if cz=true then xx-e1 else sg-nn:=by rw[hcz];exact HKK.out
   have HCZ:=K_ hcz;have HKZ:=K_ hkz;clear hcz hkz;go_upto_region 19 with (fail)
   clear e73 e32;go_cut [76] from 70 to 76 (fun v wx=>v=.bool cz∧wx.heap[g2]?=some (.cells q.cs 26 (0,0))∧wx.heap[g3]?=some (.cells #[.bool b,.string s1,.int .i64 e1] 23 (0,0))∧wx.heap[g4]?=some (.cells #[.bool false,.string (⟨#[]⟩:ByteArray),.string (⟨#[]⟩:ByteArray),.int .i64 0] 36 (0,0))∧wx.heap[g7]?=some (.cells #[.bool b,.string (⟨#[]⟩:ByteArray),.string (⟨#[]⟩:ByteArray),.int .i64 (xx)] 36 (0,0))∧Below w.heap.size w wx)
   case first =>
    have hcz:=HCZ.out;cases hd:decide (xx-e1>sg-nn)
    ·rw[hd] at hcz
     subst hcz;go_wp2
     go_meet
     case rel=>exact⟨rfl,BK BK2,BK BK3,BK BK4,BK BK7,BL HB⟩
    rw[hd] at hcz;subst hcz;cases zr
    all_goals
     go_wp2
     go_meet
     case rel=>exact⟨rfl,BK BK2,BK BK3,BK BK4,BK BK7,BL HB⟩
   case rest =>
    obtain⟨rfl,hb2,hb3,hb4,hb7,hbw⟩:=hcut;replace BK2:=K_ hb2;replace BK3:=K_ hb3;replace BK4:=K_ hb4;replace BK7:=K_ hb7;replace HB:=K_ hbw;clear hb2 hb3 hb4 hb7 hbw;go_upto_if 76 with (fail)
    go_cut [11] from 76 to 77 (fun v wx=>v=.int .i64 kk∧wx.heap[g2]?=some (.cells q.cs 26 (0,0))∧wx.heap[g3]?=some (.cells #[.bool b,.string s1,.int .i64 e1] 23 (0,0))∧wx.heap[g4]?=some (.cells #[.bool false,.string (⟨#[]⟩:ByteArray),.string (⟨#[]⟩:ByteArray),.int .i64 0] 36 (0,0))∧wx.heap[g7]?=some (.cells #[.bool b,.string (⟨#[]⟩:ByteArray),.string (⟨#[]⟩:ByteArray),.int .i64 (xx)] 36 (0,0))∧Below w.heap.size w wx)
    case first =>
     have hkz:=HKZ.out;cases cz
     ·rw[if_neg (by decide)] at hkz
      subst hkz;go_wp2
      go_meet
      case rel=>exact⟨rfl,BK BK2,BK BK3,BK BK4,BK BK7,BL HB⟩
     rw[if_pos rfl] at hkz;subst hkz;go_wp2
     go_meet
     case rel=>exact⟨rfl,BK BK2,BK BK3,BK BK4,BK BK7,BL HB⟩
    case rest =>
     obtain⟨rfl,hb2,hb3,hb4,hb7,hbw⟩:=hcut;replace BK2:=K_ hb2;replace BK3:=K_ hb3;replace BK4:=K_ hb4;replace BK7:=K_ hb7;replace HB:=K_ hbw;clear hb2 hb3 hb4 hb7 hbw;go_upto_region 21 with (fail)
     refine yE (n:=22) (S:=fun W=>W.heap[g3]?=some (.cells #[.bool b,.string s1,.int .i64 e1] 23 (0,0))∧W.cell? ⟨g7,3,none⟩=some (.int .i64 (xx))) (ds:=[]) #[false,false,false,false,false,false,false,false,false,false,false,false,false,false,false,false,false,false,false,false,false,false] (by kernel_rfl) rfl rfl ⟨BK BK3,(zA (BK BK7) 3).trans rfl⟩ (fun hHeld=>?_);refine jH (fun W=>W.heap[g3]?=some (.cells #[.bool b,.string s1,.int .i64 e1] 23 (0,0))∧W.heap[g4]?=some (.cells #[.bool false,.string (⟨#[]⟩:ByteArray),.string (⟨#[]⟩:ByteArray),.int .i64 0] 36 (0,0))∧W.heap[g7]?=some (.cells #[.bool b,.string (⟨#[]⟩:ByteArray),.string (⟨#[]⟩:ByteArray),.int .i64 (xx)] 36 (0,0))∧Below w.heap.size w W) ⟨BK BK3,BK BK4,BK BK7,BL HB⟩ ?_;clear hHeld BK2 BK3 BK4 BK7 HB;rintro W ⟨hb3,hb4,hb7,hbw⟩;have BK3:=K_ hb3;have BK4:=K_ hb4;have BK7:=K_ hb7;have HB:=K_ hbw;clear hb3 hb4 hb7 hbw;have hHeld:=(show W.heap[g3]?=some (.cells #[.bool b,.string s1,.int .i64 e1] 23 (0,0))∧W.cell? ⟨g7,3,none⟩=some (.int .i64 (xx)) from ⟨BK3.out,(zA BK7.out 3).trans rfl⟩)
     refine tr_ 0 78 (bb 22 1) (#[.bool b,.string s1,.int .i64 e1]) (fun _ hs=>⟨hs.1⟩) Tryz.underlying23 jK hHeld ?_;refine pw_ 1 79 (bb 22 3) ?_;refine tw_ 2 80 (bb 22 7) hHeld ?_;refine pw_ 3 81 (bb 22 15) ?_;refine pw_ 4 82 (bb 22 31) ?_;refine pw_ 5 83 (bb 22 63) ?_;refine pw_ 6 84 (bb 22 127) ?_;refine tw_ 7 85 (bb 22 255) hHeld ?_;refine tr_ 9 87 (bb 22 767) (#[.bool b,.string s1,.int .i64 e1]) (fun _ hs=>⟨hs.1⟩) Tryz.underlying23 jK hHeld ?_;refine pw_ 10 88 (bb 22 1791) ?_;refine tw_ 11 89 (bb 22 3839) hHeld ?_;refine pw_ 12 90 (bb 22 7935) ?_;refine pw_ 13 91 (bb 22 16127) ?_;refine tw_ 14 92 (bb 22 32511) hHeld ?_;refine pw_ 15 93 (bb 22 65279) ?_;refine pw_ 16 94 (bb 22 130815) ?_;refine on_ 8 (some 86) (bb 22 131071) (fun K hK=>?_);refine gq_ Tryz.func52 #[.agg #[.bool b,.string s1,.int .i64 e1],.int .i64 (wrap64 (wrap64 (xx+nn)-1)),.int .i64 (xx)] ?_;refine (zcx b s1 e1 HOK.out.ok (xx+nn-1) (xx) (by omega) (by omega) (by omega) (by omega) HW1.out rfl _).mono ?_;rintro e9 w' ⟨rfl,hb⟩;refine⟨_,rfl,?_⟩;replace HB:=zF HB hb;replace BK3:=zC BK3 hb;replace BK4:=zC BK4 hb;replace BK7:=zC BK7 hb;clear hb;clear hHeld;refine hK.out _ _ ⟨BK3.out,(zA BK7.out 3).trans rfl⟩ (fun hHeld=>?_);clear hK K;refine no_ (some 86) ?_;refine pw_ 18 96 (bb 22 393215) ?_;refine on_ 17 (some 95) (bb 22 524287) (fun K hK=>?_);refine gq_ Tryz.func52 #[.agg #[.bool b,.string s1,.int .i64 e1],.int .i64 (wrap64 (xx-1)),.int .i64 (wrap64 (xx-kk))] ?_;refine (zcx b s1 e1 HOK.out.ok (xx-1) (xx-kk) (by omega) (by omega) (by omega) (by omega) HW2.out HW3.out _).mono ?_
     rintro e9 w' ⟨rfl,hb⟩;refine⟨_,rfl,?_⟩;replace HB:=zF HB hb;replace BK3:=zC BK3 hb;replace BK4:=zC BK4 hb;replace BK7:=zC BK7 hb;clear hb;clear hHeld;refine hK.out _ _ ⟨BK3.out,(zA BK7.out 3).trans rfl⟩ (fun hHeld=>?_);clear hK K;refine no_ (some 95) ?_;refine on_ 19 none (bb 22 1048575) (fun K hK=>?_);have hs:w'.cell? ⟨g7,1,none⟩=some (.string ⟨#[]⟩):=(zA BK7.out 1).trans rfl;have hf:=zL BK7.out 1;refine xT (w1:=w'.setCell ⟨g7,1,none⟩ (.string (zZ (vB s1) e1 (xx+nn-1) (xx)))) (by rfl) rfl (by go_simp;try rfl) ?_;replace BK3:=K_ (zP (p:=⟨g7,1,none⟩) BK3.out NB3_7.out (.string (zZ (vB s1) e1 (xx+nn-1) (xx))));replace BK4:=K_ (zP (p:=⟨g7,1,none⟩) BK4.out NB4_7.out (.string (zZ (vB s1) e1 (xx+nn-1) (xx))));replace HB:=K_ (uX HB.out GE7.out (j:=1) (v:=.string (zZ (vB s1) e1 (xx+nn-1) (xx))));replace BK7:=K_ (uC BK7.out (i:=1) (u:=.string (zZ (vB s1) e1 (xx+nn-1) (xx))) (cs':=#[.bool b,.string (zZ (vB s1) e1 (xx+nn-1) (xx):ByteArray),.string (⟨#[]⟩:ByteArray),.int .i64 (xx)]) rfl);refine hK.out _ _ ⟨BK3.out,(zA BK7.out 3).trans rfl⟩ (fun hHeld=>?_);clear hK K hs hf hHeld;refine jH (fun W=>W.heap[g3]?=some (.cells #[.bool b,.string s1,.int .i64 e1] 23 (0,0))∧W.heap[g4]?=some (.cells #[.bool false,.string (⟨#[]⟩:ByteArray),.string (⟨#[]⟩:ByteArray),.int .i64 0] 36 (0,0))∧W.heap[g7]?=some (.cells #[.bool b,.string (zZ (vB s1) e1 (xx+nn-1) (xx):ByteArray),.string (⟨#[]⟩:ByteArray),.int .i64 (xx)] 36 (0,0))∧Below w.heap.size w W) ⟨BK3.out,BK4.out,BK7.out,HB.out⟩ ?_;clear BK3 BK4 BK7 HB
     rintro W ⟨hb3,hb4,hb7,hbw⟩;have BK3:=K_ hb3;have BK4:=K_ hb4;have BK7:=K_ hb7;have HB:=K_ hbw;clear hb3 hb4 hb7 hbw;have hHeld:=(show W.heap[g3]?=some (.cells #[.bool b,.string s1,.int .i64 e1] 23 (0,0))∧W.cell? ⟨g7,3,none⟩=some (.int .i64 (xx)) from ⟨BK3.out,(zA BK7.out 3).trans rfl⟩)
     refine pw_ 20 97 (bb 22 2097151) ?_;refine on_ 21 none (bb 22 4194303) (fun K hK=>?_);have hs:W.cell? ⟨g7,2,none⟩=some (.string ⟨#[]⟩):=(zA BK7.out 2).trans rfl;have hf:=zL BK7.out 2;refine xT (w1:=W.setCell ⟨g7,2,none⟩ (.string (zZ (vB s1) e1 (xx-1) (xx-kk)))) (by rfl) rfl (by go_simp;try rfl) ?_;replace BK3:=K_ (zP (p:=⟨g7,2,none⟩) BK3.out NB3_7.out (.string (zZ (vB s1) e1 (xx-1) (xx-kk))));replace BK4:=K_ (zP (p:=⟨g7,2,none⟩) BK4.out NB4_7.out (.string (zZ (vB s1) e1 (xx-1) (xx-kk))));replace HB:=K_ (uX HB.out GE7.out (j:=2) (v:=.string (zZ (vB s1) e1 (xx-1) (xx-kk))));replace BK7:=K_ (uC BK7.out (i:=2) (u:=.string (zZ (vB s1) e1 (xx-1) (xx-kk))) (cs':=#[.bool b,.string (zZ (vB s1) e1 (xx+nn-1) (xx):ByteArray),.string (zZ (vB s1) e1 (xx-1) (xx-kk):ByteArray),.int .i64 (xx)]) rfl);refine hK.out _ _ ⟨BK3.out,(zA BK7.out 3).trans rfl⟩ (fun hHeld=>?_);clear hK K hs hf hHeld;refine jH (fun W=>W.heap[g3]?=some (.cells #[.bool b,.string s1,.int .i64 e1] 23 (0,0))∧W.heap[g4]?=some (.cells #[.bool false,.string (⟨#[]⟩:ByteArray),.string (⟨#[]⟩:ByteArray),.int .i64 0] 36 (0,0))∧W.heap[g7]?=some (.cells #[.bool b,.string (zZ (vB s1) e1 (xx+nn-1) (xx):ByteArray),.string (zZ (vB s1) e1 (xx-1) (xx-kk):ByteArray),.int .i64 (xx)] 36 (0,0))∧Below w.heap.size w W) ⟨BK3.out,BK4.out,BK7.out,HB.out⟩ ?_;clear BK3 BK4 BK7 HB;rintro W ⟨hb3,hb4,hb7,hbw⟩;have BK3:=K_ hb3;have BK4:=K_ hb4;have BK7:=K_ hb7;have HB:=K_ hbw;clear hb3 hb4 hb7 hbw;have hHeld:=(show W.heap[g3]?=some (.cells #[.bool b,.string s1,.int .i64 e1] 23 (0,0))∧W.cell? ⟨g7,3,none⟩=some (.int .i64 (xx)) from ⟨BK3.out,(zA BK7.out 3).trans rfl⟩)
     refine yZ (by kernel_rfl) ?_;go_upto_region 22 with (fail)
     obtain⟨A,hA⟩:∃ A,A=zZ (vB s1) e1 (xx+nn-1) (xx):=⟨_,rfl⟩
     obtain⟨B,hB⟩:∃ B,B=zZ (vB s1) e1 (xx-1) (xx-kk):=⟨_,rfl⟩
     rw[←hA,←hB] at BK7;have hsz:A.size≤200000∧B.size≤200000:=by rw[hA,hB,zaH,zaH];omega
     have hbig:¬ 9223372036854775807<A.size+B.size:=by omega
     have HRES:=K_ (show qE q.P (vB s1) e1=zco (A,B,xx) from by rw[HLAY.out,hA,hB]);clear hA hB hsz;have e71:=(show W.cell? ⟨g7,1,none⟩=some (.string A) from (zA BK7.out 1).trans rfl)
     have e72:=(show W.cell? ⟨g7,2,none⟩=some (.string B) from (zA BK7.out 2).trans rfl)
     have f71:=zL BK7.out 1;by_cases hem:A++B=(⟨#[]⟩:ByteArray)
     ·have hie:(A++B).toList.isEmpty=true:=by rw[hem,ByteArray.toList_eq];rfl
      have HRE:=K_ (show Ending.returned (Value.agg #[.bool b,.string (⟨#[48]⟩:ByteArray),.string B,.int .i64 xx])=.returned (.agg #[.bool b,.string (qE q.P (vB s1) e1).1,.string (qE q.P (vB s1) e1).2.1,.int .i64 (qE q.P (vB s1) e1).2.2]) by rw[HRES.out];unfold zco;rw[if_pos hem]);clear hem HRES;go_upto_region 24 with (fail)
      refine zba (fun wx=>wx.heap[g7]?=some (.cells #[.bool b,.string (⟨#[48]⟩:ByteArray),.string B,.int .i64 xx] 36 (0,0))∧wx.heap[g4]?=some (.cells #[.bool false,.string (⟨#[]⟩:ByteArray),.string (⟨#[]⟩:ByteArray),.int .i64 0] 36 (0,0))∧Below w.heap.size w wx) ⟨BP BK7,zP (BK BK4) NB4_7.out _,BL HB⟩ ?_;clear e71 e72 f71 BK7 BK4 HB;rintro W5 ⟨hb7,hb4,hbw⟩;have BK7:=K_ hb7;have BK4:=K_ hb4;have HB:=K_ hbw;clear hb7 hb4 hbw;go_wp2_with (first|((with_reducible refine zE (N:=105) rfl ?_);refine lo_ (g:=g7) (cs:=#[.bool b,.string (⟨#[48]⟩:ByteArray),.string B,.int .i64 xx]) _ ⟨BK BK7⟩ ?_ rfl rfl rfl Tryz.underlying36 rfl qI)|((with_reducible refine zY (p:=4) rfl ?_);refine so_ (g:=g4) (cs:=#[.bool false,.string (⟨#[]⟩:ByteArray),.string (⟨#[]⟩:ByteArray),.int .i64 0]) (#[.bool b,.string (⟨#[48]⟩:ByteArray),.string B,.int .i64 xx]) ⟨BK BK4⟩ ?_ rfl rfl rfl rfl rfl qI rfl rfl;intro w9 hbk hfar hbel;replace BK4:=K_ hbk;replace HB:=K_ (hbel _ _ GE4.out (BL HB));clear hbk hfar hbel))
      refine bodyPost_ret (results_cell_row rfl _ _ g4 36 (#[.bool b,.string (⟨#[48]⟩:ByteArray),.string B,.int .i64 xx]) (0,0) _ rfl BK4.out Tryz.underlying36 rfl qI) rfl ?_;exact⟨HRE.out,BL HB⟩
     have hie:(A++B).toList.isEmpty=false:=by
      cases hh:(A++B).toList.isEmpty
      ·rfl
      exact absurd (qS (by rw[←ByteArray.toList_eq,List.isEmpty_iff.1 hh])) hem
     have HRE:=K_ (show Ending.returned (Value.agg #[.bool b,.string A,.string B,.int .i64 xx])=.returned (.agg #[.bool b,.string (qE q.P (vB s1) e1).1,.string (qE q.P (vB s1) e1).2.1,.int .i64 (qE q.P (vB s1) e1).2.2]) by rw[HRES.out];unfold zco;rw[if_neg hem]);clear hem HRES;go_wp2_with (first|((with_reducible refine zE (N:=105) rfl ?_);refine lo_ (g:=g7) (cs:=#[.bool b,.string A,.string B,.int .i64 xx]) _ ⟨BK BK7⟩ ?_ rfl rfl rfl Tryz.underlying36 rfl qI)|((with_reducible refine zY (p:=4) rfl ?_);refine so_ (g:=g4) (cs:=#[.bool false,.string (⟨#[]⟩:ByteArray),.string (⟨#[]⟩:ByteArray),.int .i64 0]) (#[.bool b,.string A,.string B,.int .i64 xx]) ⟨BK BK4⟩ ?_ rfl rfl rfl rfl rfl qI rfl rfl;intro w9 hbk hfar hbel;replace BK4:=K_ hbk;replace HB:=K_ (hbel _ _ GE4.out (BL HB));clear hbk hfar hbel))
     refine bodyPost_ret (results_cell_row rfl _ _ g4 36 (#[.bool b,.string A,.string B,.int .i64 xx]) (0,0) _ rfl BK4.out Tryz.underlying36 rfl qI) rfl ?_;exact⟨HRE.out,BL HB⟩
theorem zmN {q:Pat} (hq:zaE q) {m:Int} {b:Bool} {s:ByteArray} {e:Int} (h:(zaz q m b s e).2.2.2=0):zbc (zaz q m b s e).2.1 (zaz q m b s e).2.2.1=true:=by
 obtain⟨hm,hg,hr,h7,hrg,hv⟩:=znH h;rw[hv];by_cases h0:rN q m b (vB s) e=0
 ·have hX:rX q m b (vB s) e=0:=by unfold rX;rw[h0,zaS];rfl
  rw[h0,hX];show zbc (nD 0) 0=true;decide
 exact zjz h0 hrg
theorem zna {q:Pat} (hq:zaE q) (b:Bool) {s:ByteArray} {e:Int} (hg:zbc s e=true) (w:World) (hr:xV q w) :
  Calls Tryz.prog 16 #[.agg q.cs,.agg #[.bool b,.string s,.int .i64 e]] w fun e' w'=>e'=.returned (.agg #[.bool b,.string (qE q.P (vB (nD (vB s))) (nE (vB s) (e+q.mult))).1,.string (qE q.P (vB (nD (vB s))) (nE (vB s) (e+q.mult))).2.1,.int .i64 (qE q.P (vB (nD (vB s))) (nE (vB s) (e+q.mult))).2.2])∧Below w.heap.size w w':=by
 obtain⟨g1,g2,g3,g4,g5⟩:=zbV.1 hg;obtain⟨m0,m3⟩:=zfg q;have hn:(zW (vB s)).size≤1000:=Nat.le_trans (OkD.of_good hg).val g3;exact zjf q hq.good b s e _ _ (zoE ⟨g1,g2,by omega,by omega,by omega⟩ (by omega) (by omega) (by omega) (by omega)) (OkS.norm (by omega) (by omega) (by omega)) w hr
set_option maxHeartbeats 8000000 in
set_option maxRecDepth 100000 in
theorem zcV (q:Pat) (hg:uZ q.P) (hsci:q.P.sci=true) (m:Int) (b:Bool) (s:ByteArray) (e:Int) (r:Bool×ByteArray×Int×Int) (k:Nat) (h:vH.f k m b s e (zao q.P).2=some r) (w:World) (hG:Fig.Glob w) :
  Calls Tryz.prog 36 #[.agg q.cs,.int .i64 m,.agg #[.bool b,.string s,.int .i64 e]] w fun e w'=>e=.returned (.tuple #[.agg #[.bool r.1,.string r.2.1,.int .i64 r.2.2.1],.int .i64 r.2.2.2])∧Below w.heap.size w w':=by
 have HB:=K_ (Below.refl w.heap.size w);have HGD:=K_ hg;have HG:=K_ hG;have HKK:=K_ h;clear hg hG h;go_enter Tryz.func36,Tryz.ntmps36
 go_upto_region 1 with (first|((with_reducible refine zE (N:=3) rfl ?_);refine bx_ 3 q.cs 26 ?_ rfl rfl rfl rfl rfl;intro g3 hg w2 hbox hb;have BK3:=K_ hbox;replace HB:=zF HB hb;clear hb hbox hg)|((with_reducible refine zE (N:=5) rfl ?_);refine bx_ 5 #[.bool b,.string s,.int .i64 e] 23 ?_ rfl rfl rfl rfl rfl;intro g5 hg w2 hbox hb;have BK5:=K_ hbox;have NB3_5:=nb_ hg BK3;replace BK3:=zC BK3 hb;replace HB:=zF HB hb;clear hb hbox hg)|((with_reducible refine zE (N:=6) rfl ?_);refine be_ 6 #[.bool false,.string (⟨#[]⟩:ByteArray),.int .i64 0] 23 ?_;intro g6 hg w2 hbox hb;have BK6:=K_ hbox;have GE6:=ge_ hg HB;have NB3_6:=nb_ hg BK3;replace BK3:=zC BK3 hb;have NB5_6:=nb_ hg BK5;replace BK5:=zC BK5 hb;replace HB:=zF HB hb;clear hb hbox hg))
 have e14:=(show w2.cell? ⟨g3,14,none⟩=some (.bool q.P.sci) from (zA BK3.out 14).trans rfl)
 rw[hsci] at e14;clear hsci;go_wp2_with (first|((with_reducible refine zE (N:=19) rfl ?_);refine lo_ (g:=g3) (cs:=q.cs) _ ⟨BK BK3⟩ ?_ rfl rfl rfl Tryz.underlying26 rfl jR)|(go_at_call 25;refine (ziN q HGD.out _).mono ?_;rintro e w' ⟨rfl,hb⟩;replace HB:=zF HB hb;replace BK3:=zC BK3 hb;replace BK5:=zC BK5 hb;replace BK6:=zC BK6 hb;clear hb)|((with_reducible refine zE (N:=24) rfl ?_);refine lo_ (g:=g5) (cs:=#[.bool b,.string s,.int .i64 e]) _ ⟨BK BK5⟩ ?_ rfl rfl rfl Tryz.underlying23 rfl jK)|(go_at_call 62;refine (vH.calls k m b s e (zao q.P).2 r.1 r.2.1 r.2.2.1 r.2.2.2 _ (Fig.Glob.below HG.out (BL HB)) HKK.out).mono ?_;rintro e w' ⟨rfl,hb⟩;replace HB:=zF HB hb;replace BK3:=zC BK3 hb;replace BK5:=zC BK5 hb;replace BK6:=zC BK6 hb;clear hb)|((with_reducible refine zY (p:=6) rfl ?_);refine so_ (g:=g6) (cs:=#[.bool false,.string (⟨#[]⟩:ByteArray),.int .i64 0]) (#[.bool r.1,.string r.2.1,.int .i64 r.2.2.1]) ⟨BK BK6⟩ ?_ rfl rfl rfl rfl rfl jK rfl rfl;intro w9 hbk hfar hbel;replace BK3:=K_ (hfar _ _ NB3_6.out (BK BK3));replace BK5:=K_ (hfar _ _ NB5_6.out (BK BK5));replace BK6:=K_ hbk;replace HB:=K_ (hbel _ _ GE6.out (BL HB));clear hbk hfar hbel))
 refine bodyPost_ret (jF rfl _ _ g6 23 #[.bool r.1,.string r.2.1,.int .i64 r.2.2.1] (0,0) _ rfl BK6.out Tryz.underlying23 rfl jK) rfl ?_;exact⟨rfl,BL HB⟩
set_option maxHeartbeats 8000000 in
set_option maxRecDepth 100000 in
theorem zhl (q:Pat) (hg:uZ q.P) (hsci:q.P.sci=true) (m:Int) (b:Bool) (s:ByteArray) (e:Int) (x1:Bool) (x2:ByteArray) (x3:Int) (y1:Bool) (y2:ByteArray) (y3:Int) (z1:Bool) (z2:ByteArray) (z3:Int) (kk:Nat)
  (hm:xG.f m=some true) (hd:zea.f b s e=some true) (hr:zbC.f b s e=some true) (hx:vU.f b s e q.mult=some (x1,x2,x3)) (hy:vH.f kk m x1 x2 x3 (zao q.P).2=some (y1,y2,y3,0))
  (hz:vU.f y1 y2 y3 (-q.mult)=some (z1,z2,z3)) (hzr:zbC.f z1 z2 z3=some true) (w:World) (hrw:xV q w) (hG:Fig.Glob w) :
  Calls Tryz.prog 14 #[.agg q.cs,.int .i64 m,.agg #[.bool b,.string s,.int .i64 e]] w fun e w'=>e=.returned (.tuple #[.agg #[.bool z1,.string z2,.int .i64 z3],.int .i64 0])∧Below w.heap.size w w':=by
 have HB:=K_ (Below.refl w.heap.size w);have HGD:=K_ hg;have HSC:=K_ hsci;have HM:=K_ hm;have HDG:=K_ hd;have HDR:=K_ hr;have HX:=K_ hx;have HY:=K_ hy;have HZ:=K_ hz;have HZR:=K_ hzr;have HRW:=K_ hrw;have HG:=K_ hG;clear hg hsci hm hd hr hx hy hz hzr hrw hG;go_enter Tryz.func14,Tryz.ntmps14
 go_upto_region 1 with (first|((with_reducible refine zE (N:=3) rfl ?_);refine bx_ 3 (q.cs) 26 ?_ rfl rfl rfl rfl rfl;intro g3 hg w2 hbox hb;have BK3:=K_ hbox;have GE3:=ge_ hg HB;replace HB:=zF HB hb;clear hb hbox hg)|((with_reducible refine zE (N:=5) rfl ?_);refine bx_ 5 (#[.bool b,.string s,.int .i64 e]) 23 ?_ rfl rfl rfl rfl rfl;intro g5 hg w2 hbox hb;have BK5:=K_ hbox;have GE5:=ge_ hg HB;have NB3_5:=nb_ hg BK3;replace BK3:=zC BK3 hb;replace HB:=zF HB hb;clear hb hbox hg)|((with_reducible refine zE (N:=6) rfl ?_);refine be_ 6 (#[.bool false,.string (⟨#[]⟩:ByteArray),.int .i64 0]) 23 ?_;intro g6 hg w2 hbox hb;have BK6:=K_ hbox;have GE6:=ge_ hg HB;have NB3_6:=nb_ hg BK3;replace BK3:=zC BK3 hb;have NB5_6:=nb_ hg BK5;replace BK5:=zC BK5 hb;replace HB:=zF HB hb;clear hb hbox hg))
 go_upto_region 8 with (first|(go_at_call 32;refine (xG.calls m _ _ HM.out).mono ?_;rintro e9 w' ⟨rfl,⟨nd,rfl⟩⟩)|((with_reducible refine zE (N:=17) rfl ?_);refine lo_ (g:=g5) (cs:=#[.bool b,.string s,.int .i64 e]) _ ⟨BK BK5⟩ ?_ rfl rfl rfl Tryz.underlying23 rfl jK)|(go_at_call 33;refine (zea.calls b s e _ _ HDG.out).mono ?_;rintro e9 w' ⟨rfl,hb⟩;replace HB:=zF HB hb;replace BK3:=zC BK3 hb;replace BK5:=zC BK5 hb;replace BK6:=zC BK6 hb;clear hb)|((with_reducible refine zE (N:=22) rfl ?_);refine lo_ (g:=g5) (cs:=#[.bool b,.string s,.int .i64 e]) _ ⟨BK BK5⟩ ?_ rfl rfl rfl Tryz.underlying23 rfl jK)|(go_at_call 34;refine (zbC.calls b s e _ _ HDR.out).mono ?_;rintro e9 w' ⟨rfl,hb⟩;replace HB:=zF HB hb;replace BK3:=zC BK3 hb;replace BK5:=zC BK5 hb;replace BK6:=zC BK6 hb;clear hb)|((with_reducible refine zE (N:=26) rfl ?_);refine lo_ (g:=g3) (cs:=q.cs) _ ⟨BK BK3⟩ ?_ rfl rfl rfl Tryz.underlying26 rfl jR)|(go_at_call 35;refine (zeB q _ (HRW.out.below (BL HB))).mono ?_;rintro e9 w' ⟨rfl,hb⟩;replace HB:=zF HB hb;replace BK3:=zC BK3 hb;replace BK5:=zC BK5 hb;replace BK6:=zC BK6 hb;clear hb))
 refine yE (n:=12) (S:=fun W=>W.heap[g3]?=some (.cells q.cs 26 (0,0))∧W.heap[g5]?=some (.cells #[.bool b,.string s,.int .i64 e] 23 (0,0))) (ds:=[]) #[false,false,false,false,false,false,false,false,false,false,false,false] (by kernel_rfl) rfl rfl ⟨BK BK3,BK BK5⟩ (fun hHeld=>?_);refine jH (fun W=>W.heap[g3]?=some (.cells q.cs 26 (0,0))∧W.heap[g5]?=some (.cells #[.bool b,.string s,.int .i64 e] 23 (0,0))∧W.heap[g6]?=some (.cells #[.bool false,.string (⟨#[]⟩:ByteArray),.int .i64 0] 23 (0,0))∧Below w.heap.size w W) ⟨BK BK3,BK BK5,BK BK6,BL HB⟩ ?_;clear hHeld BK3 BK5 BK6 HB;rintro W ⟨hb3,hb5,hb6,hbw⟩;have BK3:=K_ hb3;have BK5:=K_ hb5;have BK6:=K_ hb6;have HB:=K_ hbw;have hHeld:=(show W.heap[g3]?=some (.cells q.cs 26 (0,0))∧W.heap[g5]?=some (.cells #[.bool b,.string s,.int .i64 e] 23 (0,0)) from ⟨hb3,hb5⟩)
 clear hb3 hb5 hb6 hbw;refine tr_ 0 29 (bb 12 1) (q.cs) (fun _ hs=>⟨hs.1⟩) Tryz.underlying26 jR hHeld ?_;refine pw_ 1 30 (bb 12 3) ?_;refine tr_ 2 31 (bb 12 7) (#[.bool b,.string s,.int .i64 e]) (fun _ hs=>⟨hs.2⟩) Tryz.underlying23 jK hHeld ?_;refine pw_ 3 32 (bb 12 15) ?_;refine zaG (σ:=Nat) 2 (bb 12 1023) (fun s_=>[(33,(.agg #[.bool x1,.string x2,.int .i64 x3])),(34,(.tuple #[.agg #[.bool y1,.string y2,.int .i64 y3],.int .i64 0])),(28,(.tuple #[.agg #[.bool y1,.string y2,.int .i64 y3],.int .i64 0])),(35,(.agg #[.bool y1,.string y2,.int .i64 y3])),(36,(.int .i64 0)),(9,(.pointer (some ⟨s_,0,none⟩)))]) (fun s_ W=>W.heap[s_]?=some (.cells (#[.bool false,.string (⟨#[]⟩:ByteArray),.int .i64 0]) 23 (0,0))∧g3≠s_∧g5≠s_∧g6≠s_∧w.heap.size≤s_∧W.heap[g3]?=some (.cells (q.cs) 26 (0,0))∧W.heap[g5]?=some (.cells (#[.bool b,.string s,.int .i64 e]) 23 (0,0))∧W.heap[g6]?=some (.cells (#[.bool false,.string (⟨#[]⟩:ByteArray),.int .i64 0]) 23 (0,0))∧Below w.heap.size w W) ?hcj ?hrj
 case hrj =>
  intro J_4_5_9;refine zaG (σ:=Unit) 3 (bb 12 511) (fun s_=>[(33,(.agg #[.bool x1,.string x2,.int .i64 x3])),(34,(.tuple #[.agg #[.bool y1,.string y2,.int .i64 y3],.int .i64 0])),(28,(.tuple #[.agg #[.bool y1,.string y2,.int .i64 y3],.int .i64 0])),(35,(.agg #[.bool y1,.string y2,.int .i64 y3])),(36,(.int .i64 0))]) (fun s_ W=>W.heap[g3]?=some (.cells (q.cs) 26 (0,0))∧W.heap[g5]?=some (.cells (#[.bool b,.string s,.int .i64 e]) 23 (0,0))∧W.heap[g6]?=some (.cells (#[.bool false,.string (⟨#[]⟩:ByteArray),.int .i64 0]) 23 (0,0))∧Below w.heap.size w W) ?_ ?_
  ·skip
   clear hHeld;rintro _ W8 ⟨hBK3,hBK5,hBK6,hHB⟩;have BK3:=K_ hBK3;have BK5:=K_ hBK5;have BK6:=K_ hBK6;have HB:=K_ hHB;clear hBK3 hBK5 hBK6 hHB;refine np_ ?_;refine on_ 9 (some 9) (bb 12 1023) (fun K hK=>?_);refine bs_ 9 (#[.bool false,.string (⟨#[]⟩:ByteArray),.int .i64 0]) 23 ?_;intro g9 hg w' hbox hb;have BK9:=K_ hbox;have GE9:=ge_ hg HB;have NB3_9:=nb_ hg BK3;have NB5_9:=nb_ hg BK5;have NB6_9:=nb_ hg BK6;replace BK3:=zC BK3 hb;replace BK5:=zC BK5 hb;replace BK6:=zC BK6 hb;replace HB:=zF HB hb;clear hb hbox hg;refine hK.out _ _ ⟨BK3.out,BK5.out⟩ (fun hHeld=>?_);clear hK K;refine no_ (some 9) ?_;exact nj_ (J_4_5_9 g9 _ ⟨BK9.out,(by first|exact NB3_9.out|exact Ne.symm NB9_3.out),(by first|exact NB5_9.out|exact Ne.symm NB9_5.out),(by first|exact NB6_9.out|exact Ne.symm NB9_6.out),GE9.out,BK3.out,BK5.out,BK6.out,HB.out⟩)
  intro J_4_5;refine zaG (σ:=Nat) 6 (bb 12 543) (fun s_=>[(33,(.agg #[.bool x1,.string x2,.int .i64 x3])),(9,(.pointer (some ⟨s_,0,none⟩)))]) (fun s_ W=>W.heap[s_]?=some (.cells (#[.bool false,.string (⟨#[]⟩:ByteArray),.int .i64 0]) 23 (0,0))∧g3≠s_∧g5≠s_∧g6≠s_∧w.heap.size≤s_∧W.heap[g3]?=some (.cells (q.cs) 26 (0,0))∧W.heap[g5]?=some (.cells (#[.bool b,.string s,.int .i64 e]) 23 (0,0))∧W.heap[g6]?=some (.cells (#[.bool false,.string (⟨#[]⟩:ByteArray),.int .i64 0]) 23 (0,0))∧Below w.heap.size w W) ?_ ?_
  ·skip
   clear hHeld;rintro g9 W8 ⟨hBK9,hNB3_9,hNB5_9,hNB6_9,hGE9,hBK3,hBK5,hBK6,hHB⟩;have BK9:=K_ hBK9;have NB3_9:=K_ hNB3_9;have NB5_9:=K_ hNB5_9;have NB6_9:=K_ hNB6_9;have GE9:=K_ hGE9;have BK3:=K_ hBK3;have BK5:=K_ hBK5;have BK6:=K_ hBK6;have HB:=K_ hHB;clear hBK9 hNB3_9 hNB5_9 hNB6_9 hGE9 hBK3 hBK5 hBK6 hHB;refine np_ ?_;refine on_ 5 (some 34) (bb 12 575) (fun K hK=>?_);refine gq_ Tryz.func36 #[.agg q.cs,.int .i64 m,.agg #[.bool x1,.string x2,.int .i64 x3]] ?_;refine (zcV q HGD.out HSC.out m x1 x2 x3 (y1,y2,y3,0) kk HY.out _ (Fig.Glob.below HG.out (BL HB))).mono ?_;rintro e9 w' ⟨rfl,hb⟩;refine⟨_,rfl,?_⟩;replace BK9:=zC BK9 hb;replace BK3:=zC BK3 hb;replace BK5:=zC BK5 hb;replace BK6:=zC BK6 hb;replace HB:=zF HB hb;clear hb;refine hK.out _ _ ⟨BK3.out,BK5.out⟩ (fun hHeld=>?_);clear hK K;refine no_ (some 34) ?_;refine pw_ 6 28 (bb 12 639) ?_;refine pw_ 7 35 (bb 12 767) ?_;refine pw_ 8 36 (bb 12 1023) ?_;exact nj_ (J_4_5_9 g9 _ ⟨BK9.out,(by first|exact NB3_9.out|exact Ne.symm NB9_3.out),(by first|exact NB5_9.out|exact Ne.symm NB9_5.out),(by first|exact NB6_9.out|exact Ne.symm NB9_6.out),GE9.out,BK3.out,BK5.out,BK6.out,HB.out⟩)
  intro J_4_9;refine zaG (σ:=Unit) 7 (bb 12 31) (fun s_=>[(33,(.agg #[.bool x1,.string x2,.int .i64 x3]))]) (fun s_ W=>W.heap[g3]?=some (.cells (q.cs) 26 (0,0))∧W.heap[g5]?=some (.cells (#[.bool b,.string s,.int .i64 e]) 23 (0,0))∧W.heap[g6]?=some (.cells (#[.bool false,.string (⟨#[]⟩:ByteArray),.int .i64 0]) 23 (0,0))∧Below w.heap.size w W) ?_ ?_
  ·skip
   clear hHeld;rintro _ W8 ⟨hBK3,hBK5,hBK6,hHB⟩;have BK3:=K_ hBK3;have BK5:=K_ hBK5;have BK6:=K_ hBK6;have HB:=K_ hHB;clear hBK3 hBK5 hBK6 hHB;refine np_ ?_;refine zdF (i:=5) (j:=9) (Ni:=some 34) (Nj:=some 9) (bb 12 63) (bb 12 543) rfl rfl rfl rfl (by kernel_rfl) (by decide) (by decide) (fun K hK=>?_) (fun K hK=>?_)
   ·skip
    refine gq_ Tryz.func36 #[.agg q.cs,.int .i64 m,.agg #[.bool x1,.string x2,.int .i64 x3]] ?_;refine (zcV q HGD.out HSC.out m x1 x2 x3 (y1,y2,y3,0) kk HY.out _ (Fig.Glob.below HG.out (BL HB))).mono ?_;rintro e9 w' ⟨rfl,hb⟩;refine⟨_,rfl,?_⟩;replace BK3:=zC BK3 hb;replace BK5:=zC BK5 hb;replace BK6:=zC BK6 hb;replace HB:=zF HB hb;clear hb;refine hK.out _ _ ⟨BK3.out,BK5.out⟩ (fun hHeld=>?_);clear hK K;refine no_ (some 34) ?_;refine pw_ 6 28 (bb 12 127) ?_;refine pw_ 7 35 (bb 12 255) ?_;refine pw_ 8 36 (bb 12 511) ?_;exact nj_ (J_4_5 () _ ⟨BK3.out,BK5.out,BK6.out,HB.out⟩)
   skip
   refine bs_ 9 (#[.bool false,.string (⟨#[]⟩:ByteArray),.int .i64 0]) 23 ?_;intro g9 hg w' hbox hb;have BK9:=K_ hbox;have GE9:=ge_ hg HB;have NB3_9:=nb_ hg BK3;have NB5_9:=nb_ hg BK5;have NB6_9:=nb_ hg BK6;replace BK3:=zC BK3 hb;replace BK5:=zC BK5 hb;replace BK6:=zC BK6 hb;replace HB:=zF HB hb;clear hb hbox hg;refine hK.out _ _ ⟨BK3.out,BK5.out⟩ (fun hHeld=>?_);clear hK K;refine no_ (some 9) ?_;exact nj_ (J_4_9 g9 _ ⟨BK9.out,(by first|exact NB3_9.out|exact Ne.symm NB9_3.out),(by first|exact NB5_9.out|exact Ne.symm NB9_5.out),(by first|exact NB6_9.out|exact Ne.symm NB9_6.out),GE9.out,BK3.out,BK5.out,BK6.out,HB.out⟩)
  intro J_4;refine zaG (σ:=Nat) 7 (bb 12 527) (fun s_=>[(9,(.pointer (some ⟨s_,0,none⟩)))]) (fun s_ W=>W.heap[s_]?=some (.cells (#[.bool false,.string (⟨#[]⟩:ByteArray),.int .i64 0]) 23 (0,0))∧g3≠s_∧g5≠s_∧g6≠s_∧w.heap.size≤s_∧W.heap[g3]?=some (.cells (q.cs) 26 (0,0))∧W.heap[g5]?=some (.cells (#[.bool b,.string s,.int .i64 e]) 23 (0,0))∧W.heap[g6]?=some (.cells (#[.bool false,.string (⟨#[]⟩:ByteArray),.int .i64 0]) 23 (0,0))∧Below w.heap.size w W) ?_ ?_
  ·skip
   clear hHeld;rintro g9 W8 ⟨hBK9,hNB3_9,hNB5_9,hNB6_9,hGE9,hBK3,hBK5,hBK6,hHB⟩;have BK9:=K_ hBK9;have NB3_9:=K_ hNB3_9;have NB5_9:=K_ hNB5_9;have NB6_9:=K_ hNB6_9;have GE9:=K_ hGE9;have BK3:=K_ hBK3;have BK5:=K_ hBK5;have BK6:=K_ hBK6;have HB:=K_ hHB;clear hBK9 hNB3_9 hNB5_9 hNB6_9 hGE9 hBK3 hBK5 hBK6 hHB;refine np_ ?_;refine on_ 4 (some 33) (bb 12 543) (fun K hK=>?_);refine gq_ Tryz.func37 #[.agg #[.bool b,.string s,.int .i64 e],.int .i64 q.mult] ?_;refine (vU.calls b s e q.mult x1 x2 x3 _ HX.out).mono ?_;rintro e9 w' ⟨rfl,hb⟩;refine⟨_,rfl,?_⟩;replace BK9:=zC BK9 hb;replace BK3:=zC BK3 hb;replace BK5:=zC BK5 hb;replace BK6:=zC BK6 hb;replace HB:=zF HB hb;clear hb;refine hK.out _ _ ⟨BK3.out,BK5.out⟩ (fun hHeld=>?_);clear hK K;refine no_ (some 33) ?_;exact nj_ (J_4_9 g9 _ ⟨BK9.out,(by first|exact NB3_9.out|exact Ne.symm NB9_3.out),(by first|exact NB5_9.out|exact Ne.symm NB9_5.out),(by first|exact NB6_9.out|exact Ne.symm NB9_6.out),GE9.out,BK3.out,BK5.out,BK6.out,HB.out⟩)
  intro J_9;clear hHeld;refine zdF (i:=4) (j:=9) (Ni:=some 33) (Nj:=some 9) (bb 12 31) (bb 12 527) rfl rfl rfl rfl (by kernel_rfl) (by decide) (by decide) (fun K hK=>?_) (fun K hK=>?_)
  ·skip
   refine gq_ Tryz.func37 #[.agg #[.bool b,.string s,.int .i64 e],.int .i64 q.mult] ?_;refine (vU.calls b s e q.mult x1 x2 x3 _ HX.out).mono ?_;rintro e9 w' ⟨rfl,hb⟩;refine⟨_,rfl,?_⟩;replace BK3:=zC BK3 hb;replace BK5:=zC BK5 hb;replace BK6:=zC BK6 hb;replace HB:=zF HB hb;clear hb;refine hK.out _ _ ⟨BK3.out,BK5.out⟩ (fun hHeld=>?_);clear hK K;refine no_ (some 33) ?_;exact nj_ (J_4 () _ ⟨BK3.out,BK5.out,BK6.out,HB.out⟩)
  skip
  refine bs_ 9 (#[.bool false,.string (⟨#[]⟩:ByteArray),.int .i64 0]) 23 ?_;intro g9 hg w' hbox hb;have BK9:=K_ hbox;have GE9:=ge_ hg HB;have NB3_9:=nb_ hg BK3;have NB5_9:=nb_ hg BK5;have NB6_9:=nb_ hg BK6;replace BK3:=zC BK3 hb;replace BK5:=zC BK5 hb;replace BK6:=zC BK6 hb;replace HB:=zF HB hb;clear hb hbox hg;refine hK.out _ _ ⟨BK3.out,BK5.out⟩ (fun hHeld=>?_);clear hK K;refine no_ (some 9) ?_;exact nj_ (J_9 g9 _ ⟨BK9.out,(by first|exact NB3_9.out|exact Ne.symm NB9_3.out),(by first|exact NB5_9.out|exact Ne.symm NB9_5.out),(by first|exact NB6_9.out|exact Ne.symm NB9_6.out),GE9.out,BK3.out,BK5.out,BK6.out,HB.out⟩)
 case hcj =>
  clear hHeld;rintro g9 W8 ⟨hBK9,hNB3_9,hNB5_9,hNB6_9,hGE9,hBK3,hBK5,hBK6,hHB⟩;have BK9:=K_ hBK9;have NB3_9:=K_ hNB3_9;have NB5_9:=K_ hNB5_9;have NB6_9:=K_ hNB6_9;have GE9:=K_ hGE9;have BK3:=K_ hBK3;have BK5:=K_ hBK5;have BK6:=K_ hBK6;have HB:=K_ hHB;clear hBK9 hNB3_9 hNB5_9 hNB6_9 hGE9 hBK3 hBK5 hBK6 hHB;refine np_ ?_;refine on_ 10 none (bb 12 2047) (fun K hK=>?_);refine yT (g:=g9) (cs:=#[.bool false,.string (⟨#[]⟩:ByteArray),.int .i64 0]) (#[.bool y1,.string y2,.int .i64 y3]) BK9 ?_ rfl rfl rfl rfl rfl jK rfl rfl;intro w9 hbk hfar hbel;replace BK3:=K_ (hfar _ _ NB3_9.out BK3.out);replace BK5:=K_ (hfar _ _ NB5_9.out BK5.out);replace BK6:=K_ (hfar _ _ NB6_9.out BK6.out);replace BK9:=K_ hbk;replace HB:=K_ (hbel _ _ GE9.out HB.out);refine hK.out _ _ ⟨BK3.out,BK5.out⟩ (fun _=>?_);clear hK K hbk hfar hbel;refine pw_ 11 10 (bb 12 4095) ?_;refine yZ (by kernel_rfl) ?_;have hwk:wrap64 (-q.mult)=-q.mult:=by unfold Pat.mult wrap64;split;decide;split <;> decide
  go_wp2_with (first|((with_reducible refine zE (N:=41) rfl ?_);refine lo_ (g:=g9) (cs:=#[.bool y1,.string y2,.int .i64 y3]) _ ⟨BK BK9⟩ ?_ rfl rfl rfl Tryz.underlying23 rfl jK)|(go_at_call 37;refine (vU.calls y1 y2 y3 (-q.mult) z1 z2 z3 _ HZ.out).mono ?_;rintro e9 w' ⟨rfl,hb⟩;replace HB:=zF HB hb;replace BK6:=zC BK6 hb;replace BK9:=zC BK9 hb;clear hb)|((with_reducible refine zY (p:=9) rfl ?_);refine so_ (g:=g9) (cs:=#[.bool y1,.string y2,.int .i64 y3]) (#[.bool z1,.string z2,.int .i64 z3]) ⟨BK BK9⟩ ?_ rfl rfl rfl rfl rfl jK rfl rfl;intro w9 hbk hfar hbel;replace BK6:=K_ (hfar _ _ (by first|exact NB6_9.out|exact Ne.symm NB9_6.out) (BK BK6));replace BK9:=K_ hbk;replace HB:=K_ (hbel _ _ GE9.out (BL HB));clear hbk hfar hbel)|((with_reducible refine zE (N:=45) rfl ?_);refine lo_ (g:=g9) (cs:=#[.bool z1,.string z2,.int .i64 z3]) _ ⟨BK BK9⟩ ?_ rfl rfl rfl Tryz.underlying23 rfl jK)|(go_at_call 34;refine (zbC.calls z1 z2 z3 _ _ HZR.out).mono ?_;rintro e9 w' ⟨rfl,hb⟩;replace HB:=zF HB hb;replace BK6:=zC BK6 hb;replace BK9:=zC BK9 hb;clear hb)|((with_reducible refine zE (N:=49) rfl ?_);refine lo_ (g:=g9) (cs:=#[.bool z1,.string z2,.int .i64 z3]) _ ⟨BK BK9⟩ ?_ rfl rfl rfl Tryz.underlying23 rfl jK)|((with_reducible refine zY (p:=6) rfl ?_);refine so_ (g:=g6) (cs:=#[.bool false,.string (⟨#[]⟩:ByteArray),.int .i64 0]) (#[.bool z1,.string z2,.int .i64 z3]) ⟨BK BK6⟩ ?_ rfl rfl rfl rfl rfl jK rfl rfl;intro w9 hbk hfar hbel;replace BK9:=K_ (hfar _ _ (by first|exact NB9_6.out|exact Ne.symm NB6_9.out) (BK BK9));replace BK6:=K_ hbk;replace HB:=K_ (hbel _ _ GE6.out (BL HB));clear hbk hfar hbel))
  refine bodyPost_ret (jF rfl _ _ g6 23 #[.bool z1,.string z2,.int .i64 z3] (0,0) _ rfl BK6.out Tryz.underlying23 rfl jK) rfl ?_;exact⟨rfl,BL HB⟩
theorem zpF:vH.f 60 4 false ⟨#[49,50,51,52,53]⟩ 0 (zao P19).2=some (false,⟨#[49,50,51]⟩,2,0):=by kernel_rfl
theorem zmV {q:Pat} (hq:zaE q) (hP:q.P=P19) (hm:q.mult=0) (w:World) (hr:xV q w) (hG:Fig.Glob w) :
  Calls Tryz.prog 14 #[.agg q.cs,.int .i64 4,.agg #[.bool false,.string (⟨#[49,50,51,52,53]⟩:ByteArray),.int .i64 0]] w fun e w'=>e=.returned (.tuple #[.agg #[.bool false,.string (⟨#[49,50,51]⟩:ByteArray),.int .i64 2],.int .i64 0])∧Below w.heap.size w w':=
 zhl q hq.good (by rw[hP];rfl) 4 false ⟨#[49,50,51,52,53]⟩ 0 false ⟨#[49,50,51,52,53]⟩ 0 false ⟨#[49,50,51]⟩ 2 false ⟨#[49,50,51]⟩ 2 60 (by kernel_rfl) (by kernel_rfl) (by kernel_rfl) (by rw[hm];kernel_rfl) (by rw[hP];exact zpF) (by rw[hm];kernel_rfl) (by kernel_rfl) w hr hG
set_option maxHeartbeats 8000000 in
set_option maxRecDepth 100000 in
theorem zcn (w:World) (hG:Fig.Glob w):Calls Tryz.prog 13 #[] w fun e w'=>e=.returned (.bool true)∧Below w.heap.size w w':=by
 have HB:=K_ (Below.refl w.heap.size w);have HG:=K_ hG;clear hG;go_enter Tryz.func13,Tryz.ntmps13
 go_upto_region 2 with (first|(go_at_call 31;refine (zjd ⟨#[35,35,48,46,35,35,69,48]⟩ (by decide) _).mono ?_;rintro e9 w' ⟨q,E,a,rfl,hrr,hb,hqg,hex⟩;obtain⟨rfl,hP,hm⟩:=zoA hex;have HP:=K_ hP;have HM:=K_ hm;have HRR:=K_ (hrr.lower (zS (BL HB)));have HQ:=K_ (hqg rfl);replace HB:=zF HB hb;clear hb hrr hqg hex hP hm)|((with_reducible refine zE (N:=1) rfl ?_);refine be_ 1 (Z26) 26 ?_;intro g1 hg w2 hbox hb;have BK1:=K_ hbox;have GE1:=ge_ hg HB;replace HRR:=K_ (HRR.out.below hb);replace HB:=zF HB hb;clear hb hbox hg)|((with_reducible refine zE (N:=2) rfl ?_);refine be_ 2 (Z51) 51 ?_;intro g2 hg w2 hbox hb;have BK2:=K_ hbox;have GE2:=ge_ hg HB;have NB1_2:=nb_ hg BK1;replace BK1:=zC BK1 hb;replace HRR:=K_ (HRR.out.below hb);replace HB:=zF HB hb;clear hb hbox hg)|((with_reducible refine zY (p:=1) rfl ?_);refine so_ (g:=g1) (cs:=Z26) (q.cs) ⟨BK BK1⟩ ?_ rfl rfl rfl rfl rfl jR rfl rfl;intro w9 hbk hfar hbel;replace BK2:=K_ (hfar _ _ (by first|exact NB2_1.out|exact Ne.symm NB1_2.out) (BK BK2));replace HRR:=K_ (HRR.out.so (BK BK1) (by decide) hfar);replace BK1:=K_ hbk;replace HB:=K_ (hbel _ _ GE1.out (BL HB));clear hbk hfar hbel)|((with_reducible refine zY (p:=2) rfl ?_);refine so_ (g:=g2) (cs:=Z51) (#[.int .i64 0,.int .i64 a]) ⟨BK BK2⟩ ?_ rfl rfl rfl rfl rfl qG rfl rfl;intro w9 hbk hfar hbel;replace BK1:=K_ (hfar _ _ (by first|exact NB1_2.out|exact Ne.symm NB2_1.out) (BK BK1));replace HRR:=K_ (HRR.out.so (BK BK2) (by decide) hfar);replace BK2:=K_ hbk;replace HB:=K_ (hbel _ _ GE2.out (BL HB));clear hbk hfar hbel))
 clear BK2;go_upto_region 3 with (first|((with_reducible refine zE (N:=11) rfl ?_);refine lo_ (g:=g1) (cs:=q.cs) _ ⟨BK BK1⟩ ?_ rfl rfl rfl Tryz.underlying26 rfl jR)|(go_at_call 14;refine (zmV HQ.out HP.out HM.out _ (qW.ok HRR.out HQ.out) (Fig.Glob.below HG.out (BL HB))).mono ?_;rintro e9 w' ⟨rfl,hb⟩;replace HRR:=K_ (HRR.out.below hb);replace HB:=zF HB hb;replace BK1:=zC BK1 hb;clear hb)|((with_reducible refine zE (N:=3) rfl ?_);refine be_ 3 (#[.bool false,.string (⟨#[]⟩:ByteArray),.int .i64 0]) 23 ?_;intro g3 hg w2 hbox hb;have BK3:=K_ hbox;have GE3:=ge_ hg HB;have NB1_3:=nb_ hg BK1;replace BK1:=zC BK1 hb;replace HRR:=K_ (HRR.out.below hb);replace HB:=zF HB hb;clear hb hbox hg)|((with_reducible refine zY (p:=3) rfl ?_);refine so_ (g:=g3) (cs:=#[.bool false,.string (⟨#[]⟩:ByteArray),.int .i64 0]) (#[.bool false,.string (⟨#[49,50,51]⟩:ByteArray),.int .i64 2]) ⟨BK BK3⟩ ?_ rfl rfl rfl rfl rfl jK rfl rfl;intro w9 hbk hfar hbel;replace BK1:=K_ (hfar _ _ (by first|exact NB1_3.out|exact Ne.symm NB3_1.out) (BK BK1));replace HRR:=K_ (HRR.out.so (BK BK3) (by decide) hfar);replace BK3:=K_ hbk;replace HB:=K_ (hbel _ _ GE3.out (BL HB));clear hbk hfar hbel))
 go_upto_region 4 with (first|((with_reducible refine zE (N:=16) rfl ?_);refine lo_ (g:=g1) (cs:=q.cs) _ ⟨BK BK1⟩ ?_ rfl rfl rfl Tryz.underlying26 rfl jR)|((with_reducible refine zE (N:=17) rfl ?_);refine lo_ (g:=g3) (cs:=#[.bool false,.string (⟨#[49,50,51]⟩:ByteArray),.int .i64 2]) _ ⟨BK BK3⟩ ?_ rfl rfl rfl Tryz.underlying23 rfl jK)|(go_at_call 16;refine (zjf q HQ.out.good false ⟨#[49,50,51]⟩ 2 ⟨#[49,50,51]⟩ 2 (zoa HM.out) zpC _ (qW.ok HRR.out HQ.out)).mono ?_;rintro e9 w' ⟨he9,hb⟩;rw[zpz HP.out] at he9;subst he9;replace HRR:=K_ (HRR.out.below hb);replace HB:=zF HB hb;replace BK1:=zC BK1 hb;replace BK3:=zC BK3 hb;clear hb)|((with_reducible refine zE (N:=5) rfl ?_);refine be_ 5 (#[.bool false,.string (⟨#[]⟩:ByteArray),.string (⟨#[]⟩:ByteArray),.int .i64 0]) 36 ?_;intro g5 hg w2 hbox hb;have BK5:=K_ hbox;have GE5:=ge_ hg HB;have NB1_5:=nb_ hg BK1;replace BK1:=zC BK1 hb;have NB3_5:=nb_ hg BK3;replace BK3:=zC BK3 hb;replace HRR:=K_ (HRR.out.below hb);replace HB:=zF HB hb;clear hb hbox hg)|((with_reducible refine zY (p:=5) rfl ?_);refine so_ (g:=g5) (cs:=#[.bool false,.string (⟨#[]⟩:ByteArray),.string (⟨#[]⟩:ByteArray),.int .i64 0]) (#[.bool false,.string (⟨#[49,50]⟩:ByteArray),.string (⟨#[51]⟩:ByteArray),.int .i64 3]) ⟨BK BK5⟩ ?_ rfl rfl rfl rfl rfl qI rfl rfl;intro w9 hbk hfar hbel;replace BK1:=K_ (hfar _ _ (by first|exact NB1_5.out|exact Ne.symm NB5_1.out) (BK BK1));replace BK3:=K_ (hfar _ _ (by first|exact NB3_5.out|exact Ne.symm NB5_3.out) (BK BK3));replace HRR:=K_ (HRR.out.so (BK BK5) (by decide) hfar);replace BK5:=K_ hbk;replace HB:=K_ (hbel _ _ GE5.out (BL HB));clear hbk hfar hbel))
 go_wp2_with (first|((with_reducible refine zE (N:=22) rfl ?_);refine zdG (g:=g3) (cs:=#[.bool false,.string (⟨#[49,50,51]⟩:ByteArray),.int .i64 2]) _ ⟨BK BK3⟩ ?_ (by rfl) rfl rfl Tryz.underlying23 rfl jK)|((with_reducible refine zE (N:=27) rfl ?_);refine zdG (g:=g5) (cs:=#[.bool false,.string (⟨#[49,50]⟩:ByteArray),.string (⟨#[51]⟩:ByteArray),.int .i64 3]) _ ⟨BK BK5⟩ ?_ (by rfl) rfl rfl Tryz.underlying36 rfl qI)|((with_reducible refine zE (N:=32) rfl ?_);refine zdG (g:=g1) (cs:=q.cs) _ ⟨BK BK1⟩ ?_ (by rfl) rfl rfl Tryz.underlying26 rfl jR)|(go_at_call 27;refine (zfM q _).mono ?_;rintro e9 w' ⟨he9,hb⟩;rw[HP.out,show xM P19=true from rfl] at he9;subst he9;replace HB:=zF HB hb;clear hb))
 go_ret
 exact⟨rfl,BL HB⟩
set_option maxHeartbeats 8000000 in
set_option maxRecDepth 100000 in
theorem lays_law (s:ByteArray) (hs:s.size≤1048576) (m:Int) (b:Bool) (s2:ByteArray) (e:Int) (hs2:s2.size≤140737488351232) (w:World) (hG:Fig.Glob w) :
  Calls Tryz.prog 9 #[.string s,.int .i64 m,.agg #[.bool b,.string s2,.int .i64 e]] w fun e w'=>e=.returned (.bool true)∧Below w.heap.size w w':=by
 have HB:=K_ (Below.refl w.heap.size w);have HG:=K_ hG;have HS2:=K_ hs2;have HSZ:=K_ (show s2.size≤4611686018427387904 by omega);clear hG hs2;go_enter Tryz.func9,Tryz.ntmps9
 go_upto_region 2 with (first|((with_reducible refine zE (N:=5) rfl ?_);refine bx_ 5 (#[.bool b,.string s2,.int .i64 e]) 23 ?_ rfl rfl rfl rfl rfl;intro g5 hg w2 hbox hb;have BK5:=K_ hbox;have GE5:=ge_ hg HB;replace HB:=zF HB hb;clear hb hbox hg)|((with_reducible refine zE (N:=13) rfl ?_);refine lo_ (g:=g5) (cs:=#[.bool b,.string s2,.int .i64 e]) _ ⟨BK BK5⟩ ?_ rfl rfl rfl Tryz.underlying23 rfl jK)|(go_at_call 12;refine (zjo s hs b s2 e HS2.out _).mono ?_;rintro e9 w' ⟨q,ok,rfl,hrr,hb,hqg⟩;have HRR:=K_ (hrr.lower (zS (BL HB)));have HQ:=K_ hqg;replace HB:=zF HB hb;replace BK5:=zC BK5 hb;clear hb hrr hqg)|((with_reducible refine zE (N:=7) rfl ?_);refine be_ 7 (Z26) 26 ?_;intro g7 hg w2 hbox hb;have BK7:=K_ hbox;have GE7:=ge_ hg HB;have NB5_7:=nb_ hg BK5;replace BK5:=zC BK5 hb;replace HRR:=K_ (HRR.out.below hb);replace HB:=zF HB hb;clear hb hbox hg)|((with_reducible refine zY (p:=7) rfl ?_);refine so_ (g:=g7) (cs:=Z26) (q.cs) ⟨BK BK7⟩ ?_ rfl rfl rfl rfl rfl jR rfl rfl;intro w9 hbk hfar hbel;replace BK5:=K_ (hfar _ _ (by first|exact NB5_7.out|exact Ne.symm NB7_5.out) (BK BK5));replace HRR:=K_ (HRR.out.so (BK BK7) (by decide) hfar);replace BK7:=K_ hbk;replace HB:=K_ (hbel _ _ GE7.out (BL HB));clear hbk hfar hbel))
 cases ok
 ·go_wp2_with (go_at_call 13;refine (zcn _ (Fig.Glob.below HG.out (BL HB))).mono ?_;rintro e9 w' ⟨rfl,hb⟩;replace HB:=zF HB hb;clear hb)
  go_ret
  exact⟨rfl,BL HB⟩
 obtain⟨hq,hsz⟩:=HQ.out rfl;replace HQ:=K_ hq;obtain⟨v,hv⟩:∃ v,v=zaz q m b s2 e:=⟨_,rfl⟩
 have HV:=K_ hv;clear hq hsz hv;go_upto_region 5 with (first|((with_reducible refine zE (N:=21) rfl ?_);refine lo_ (g:=g7) (cs:=q.cs) _ ⟨BK BK7⟩ ?_ rfl rfl rfl Tryz.underlying26 rfl jR)|((with_reducible refine zE (N:=23) rfl ?_);refine lo_ (g:=g5) (cs:=#[.bool b,.string s2,.int .i64 e]) _ ⟨BK BK5⟩ ?_ rfl rfl rfl Tryz.underlying23 rfl jK)|(go_at_call 21;refine (zjp q HQ.out m b s2 e HSZ.out _ (qW.ok HRR.out HQ.out)).mono ?_;rintro e9 w' ⟨he9,hb⟩;rw[←HV.out] at he9;subst he9;replace HRR:=K_ (HRR.out.below hb);replace HB:=zF HB hb;replace BK5:=zC BK5 hb;replace BK7:=zC BK7 hb;clear hb)|((with_reducible refine zE (N:=9) rfl ?_);refine be_ 9 (#[.bool false,.string (⟨#[]⟩:ByteArray),.int .i64 0]) 23 ?_;intro g9 hg w2 hbox hb;have BK9:=K_ hbox;have GE9:=ge_ hg HB;have NB5_9:=nb_ hg BK5;replace BK5:=zC BK5 hb;have NB7_9:=nb_ hg BK7;replace BK7:=zC BK7 hb;replace HRR:=K_ (HRR.out.below hb);replace HB:=zF HB hb;clear hb hbox hg)|((with_reducible refine zY (p:=9) rfl ?_);refine so_ (g:=g9) (cs:=#[.bool false,.string (⟨#[]⟩:ByteArray),.int .i64 0]) (#[.bool v.1,.string v.2.1,.int .i64 v.2.2.1]) ⟨BK BK9⟩ ?_ rfl rfl rfl rfl rfl jK rfl rfl;intro w9 hbk hfar hbel;replace BK5:=K_ (hfar _ _ (by first|exact NB5_9.out|exact Ne.symm NB9_5.out) (BK BK5));replace BK7:=K_ (hfar _ _ (by first|exact NB7_9.out|exact Ne.symm NB9_7.out) (BK BK7));replace HRR:=K_ (HRR.out.so (BK BK9) (by decide) hfar);replace BK9:=K_ hbk;replace HB:=K_ (hbel _ _ GE9.out (BL HB));clear hbk hfar hbel))
 by_cases hE:v.2.2.2=0
 ·have dE:(v.2.2.2 !=0)=false:=by rw[hE];rfl
  have hg2:=zmN HQ.out (m:=m) (b:=b) (s:=s2) (e:=e) (by rw[←HV.out];exact hE);rw[←HV.out] at hg2;obtain⟨g1,g2_,g3,g4,g5_⟩:=zbV.1 hg2;obtain⟨m0,m3⟩:=zfg q;have hn:(zW (vB v.2.1)).size≤1000:=Nat.le_trans (OkD.of_good hg2).val g3;obtain⟨x2,hx2⟩:∃ x2,x2=nD (vB v.2.1):=⟨_,rfl⟩
  obtain⟨x3,hx3⟩:∃ x3,x3=nE (vB v.2.1) (v.2.2.1+q.mult):=⟨_,rfl⟩
  have okx:OkS x2 x3:=by rw[hx2,hx3];exact OkS.norm (by omega) (by omega) (by omega)
  obtain⟨kt,hkt⟩:=Ev.rounds (zcR (b:=v.1) (s:=v.2.1) (e:=v.2.2.1) (n:=q.mult) ⟨g1,g2_,by omega,by omega,by omega⟩ (by omega) (by omega) (by omega) (by omega));rw[←hx2,←hx3] at hkt;have HX:=K_ hkt;obtain⟨A,B,C,hABC⟩:∃ (A B:ByteArray) (C:Int),(A,B,C)=qE q.P (vB x2) x3:=⟨_,_,_,rfl⟩
  have HL1:∀ W,xV q W→Aside0 (Calls Tryz.prog 16 #[.agg q.cs,.agg #[.bool v.1,.string v.2.1,.int .i64 v.2.2.1]] W fun e' w'=>e'=.returned (.agg #[.bool v.1,.string A,.string B,.int .i64 C])∧Below W.heap.size W w'):=fun W hW=>⟨by
   have h:=zna HQ.out v.1 hg2 W hW;rw[←hx2,←hx3,←hABC] at h;exact h⟩
  have HL2:∀ W,Aside0 (Calls Tryz.prog 22 #[.agg q.cs,.agg #[.bool v.1,.string x2,.int .i64 x3]] W fun e' w'=>e'=.returned (.agg #[.bool v.1,.string A,.string B,.int .i64 C])∧Below W.heap.size W w'):=fun W=>⟨by
   have h:=zlB q HQ.out v.1 x2 x3 okx x2 x3 (by rw[hx2,zfm,zkd]) (by rw[hx2,zfm,hx3,znY]) okx W;rw[←hABC] at h;exact h⟩
  clear hg2 g1 g2_ g3 g4 g5_ m0 m3 hn hx2 hx3 okx hkt hABC hE;go_upto_region 7 with (fail)
  refine yE (n:=14) (S:=fun W=>W.heap[g7]?=some (.cells q.cs 26 (0,0))∧W.heap[g9]?=some (.cells #[.bool v.1,.string v.2.1,.int .i64 v.2.2.1] 23 (0,0))) (ds:=[]) #[false,false,false,false,false,false,false,false,false,false,false,false,false,false] (by kernel_rfl) rfl rfl ⟨BK BK7,BK BK9⟩ (fun hHeld=>?_);refine jH (fun W=>W.heap[g7]?=some (.cells q.cs 26 (0,0))∧W.heap[g9]?=some (.cells #[.bool v.1,.string v.2.1,.int .i64 v.2.2.1] 23 (0,0))∧qW q W w.heap.size∧Below w.heap.size w W) ⟨BK BK7,BK BK9,HRR.out.drew,BL HB⟩ ?_;clear hHeld BK5 BK7 BK9 HRR HB;rintro W ⟨hb7,hb9,hrr,hbw⟩;have BK7:=K_ hb7;have BK9:=K_ hb9;have HRR:=K_ hrr;have HB:=K_ hbw;have hHeld:=(show W.heap[g7]?=some (.cells q.cs 26 (0,0))∧W.heap[g9]?=some (.cells #[.bool v.1,.string v.2.1,.int .i64 v.2.2.1] 23 (0,0)) from ⟨hb7,hb9⟩)
  clear hb7 hb9 hrr hbw;refine on_ 0 (some 30) (bb 14 1) (fun K hK=>?_);refine gq_ Tryz.func13 #[] ?_;refine (zcn _ (Fig.Glob.below HG.out (BL HB))).mono ?_;rintro e9 w' ⟨rfl,hb⟩;refine⟨_,rfl,?_⟩;replace HB:=zF HB hb;replace BK7:=zC BK7 hb;replace BK9:=zC BK9 hb;replace HRR:=K_ (HRR.out.below hb);clear hb;clear hHeld;refine hK.out _ _ ⟨BK7.out,BK9.out⟩ (fun hHeld=>?_);clear hK K;refine no_ (some 30) ?_;refine pw_ 1 31 (bb 14 3) ?_;refine tr_ 2 32 (bb 14 7) (q.cs) (fun _ hs=>⟨hs.1⟩) Tryz.underlying26 jR hHeld ?_;refine tr_ 3 33 (bb 14 15) (#[.bool v.1,.string v.2.1,.int .i64 v.2.2.1]) (fun _ hs=>⟨hs.2⟩) Tryz.underlying23 jK hHeld ?_;refine tr_ 5 35 (bb 14 47) (q.cs) (fun _ hs=>⟨hs.1⟩) Tryz.underlying26 jR hHeld ?_;refine tr_ 6 36 (bb 14 111) (#[.bool v.1,.string v.2.1,.int .i64 v.2.2.1]) (fun _ hs=>⟨hs.2⟩) Tryz.underlying23 jK hHeld ?_;refine tr_ 7 37 (bb 14 239) (q.cs) (fun _ hs=>⟨hs.1⟩) Tryz.underlying26 jR hHeld ?_;refine on_ 4 (some 34) (bb 14 255) (fun K hK=>?_);refine gq_ Tryz.func16 #[.agg q.cs,.agg #[.bool v.1,.string v.2.1,.int .i64 v.2.2.1]] ?_;refine ((HL1 _ (qW.ok HRR.out HQ.out)).out).mono ?_;rintro e9 w' ⟨rfl,hb⟩;refine⟨_,rfl,?_⟩;replace HB:=zF HB hb;replace BK7:=zC BK7 hb;replace BK9:=zC BK9 hb;replace HRR:=K_ (HRR.out.below hb);clear hb;clear hHeld;refine hK.out _ _ ⟨BK7.out,BK9.out⟩ (fun hHeld=>?_);clear hK K;refine no_ (some 34) ?_;refine on_ 8 (some 38) (bb 14 511) (fun K hK=>?_);refine gq_ Tryz.func24 #[.agg q.cs] ?_;refine (zgL q _ (qW.ok HRR.out HQ.out)).mono ?_
  rintro e9 w' ⟨rfl,hb⟩;refine⟨_,rfl,?_⟩;replace HB:=zF HB hb;replace BK7:=zC BK7 hb;replace BK9:=zC BK9 hb;replace HRR:=K_ (HRR.out.below hb);clear hb;clear hHeld;refine hK.out _ _ ⟨BK7.out,BK9.out⟩ (fun hHeld=>?_);clear hK K;refine no_ (some 38) ?_;refine on_ 9 (some 39) (bb 14 1023) (fun K hK=>?_);refine gq_ Tryz.func23 #[.agg #[.bool v.1,.string v.2.1,.int .i64 v.2.2.1],.int .i64 q.mult] ?_;refine (yH.calls kt v.1 v.2.1 v.2.2.1 q.mult v.1 x2 x3 _ HX.out).mono ?_;rintro e9 w' ⟨rfl,hb⟩;refine⟨_,rfl,?_⟩;replace HB:=zF HB hb;replace BK7:=zC BK7 hb;replace BK9:=zC BK9 hb;replace HRR:=K_ (HRR.out.below hb);clear hb;clear hHeld;refine hK.out _ _ ⟨BK7.out,BK9.out⟩ (fun hHeld=>?_);clear hK K;refine no_ (some 39) ?_;refine on_ 10 (some 40) (bb 14 2047) (fun K hK=>?_);refine gq_ Tryz.func22 #[.agg q.cs,.agg #[.bool v.1,.string x2,.int .i64 x3]] ?_;refine ((HL2 _).out).mono ?_;rintro e9 w' ⟨rfl,hb⟩;refine⟨_,rfl,?_⟩;replace HB:=zF HB hb;replace BK7:=zC BK7 hb;replace BK9:=zC BK9 hb;replace HRR:=K_ (HRR.out.below hb);clear hb;clear hHeld;refine hK.out _ _ ⟨BK7.out,BK9.out⟩ (fun hHeld=>?_);clear hK K;refine no_ (some 40) ?_;refine vV (i:=11) (N:=some 41) (v:=.bool true) (bb 14 4095) rfl rfl (by kernel_rfl) (fun _ _ _ h=>h) (Or.inl ⟨by rfl,fun w'=>by first|(go_simp;done)|(go_simp;rw[beq_self_eq_true];done)|(go_simp;rw[beq_self_eq_true];rfl)|(go_simp;simp[beq_self_eq_true];done)⟩) (by simp only[Act.put,List.setIfInBounds_toArray,List.set_cons_zero,List.set_cons_succ];rfl) ?_;refine pw_ 12 42 (bb 14 8191) ?_
  refine pw_ 13 6 (bb 14 16383) ?_;refine yZ (by kernel_rfl) ?_;go_wp2_with (fail)
  go_ret
  exact⟨rfl,BL HB⟩
 have dE:(v.2.2.2 !=0)=true:=by simpa using hE
 clear hE;go_wp2_with (go_at_call 13;refine (zcn _ (Fig.Glob.below HG.out (BL HB))).mono ?_;rintro e9 w' ⟨rfl,hb⟩;replace HB:=zF HB hb;clear hb)
 go_ret
 exact⟨rfl,BL HB⟩
end Go.Proofs.YtcmgdjnjmobkoaaGreatDoor.Px
section
namespace Go.Proofs.YtcmgdjnjmobkoaaGreatDoorW.PrintWords
open Go.ChangeShapes Go.WideShapes
end Go.Proofs.YtcmgdjnjmobkoaaGreatDoorW.PrintWords
end
section
namespace Fig
open Go Go.ChangeShapes
theorem zmy {α:Type} {l:List α} {i n:Nat} (hl:l.length=n) (hi:i<n):∃ v,(l.drop i).take 1=[v]∧l[i]?=some v:=by
 refine⟨l[i],?_,List.getElem?_eq_getElem (by omega)⟩;rw[List.drop_eq_getElem_cons (by omega)];rfl
theorem zmd {P:Program} {W:World} {name:String} {d:DataW Unit} (h:funcsAt P W name d) {g:Nat} {t e:TypeId} {n:Nat} {fld:Field} {ps rs:Array TypeId} {va:Bool}
  (hg:P.globalNamed name=some g) (hty:(P.globals[g]?).map (·.type)=some t) (ht:P.underlying t=some (.array n e)) (he:P.underlying e=some (.struct #[fld])) (hft:P.underlying fld.type=some (.func ps rs va))
  (ce:P.cellsOf e=1) (cf:P.cellsOf fld.type=1) (ho:fld.offset=0) (ct:P.cellsOf t=n) {ds:List (DataW (List UInt8))} (hd:d.funcsOut=.agg ds)
  {i:Nat} (hi:i<n) {b:UInt8} {r:List UInt8} (hdi:ds[i]?=some (.agg [.held (b :: r)])) {f0:FuncId}
  (hone:((List.range P.funcs.size).filter fun f=>(P.funcs[f]?).any (·.name.toUTF8.data.toList==b :: r))=[f0]):W.cell? ⟨g,i,none⟩=some (.func (.func f0) #[] #[]):=by
 obtain⟨g',t',cs,fuel,p,hg',ht',hv,hr⟩:=h;obtain rfl:=Option.some.inj (hg.symm.trans hg');obtain rfl:=Option.some.inj (hty.symm.trans ht');obtain⟨xs,m,_,ex,hcl,hl,hel⟩:=DataW.trod_array ht hr;rw[hd] at ex;have e3:xs.map (·.1)=ds:=(DataW.agg.inj (Prod.mk.inj ex).1).symm;obtain⟨v,hv1,hv2⟩:=zmy (l:=cs.toList) (n:=n) (hcl.trans ct) hi;have hE:=hel i hi;rw[ce,Nat.mul_one,hv1] at hE;rw[←e3,List.getElem?_map] at hdi
 cases hx:xs[i]? with
 | none=>rw[hx] at hdi;cases hdi
 | some x =>
  rw[hx] at hE hdi;simp only[Option.map_some,Option.some.injEq] at hdi
  obtain⟨y0,k,rfl,_,hy⟩:=trod_struct1 he hE;rw[cf,ho,List.drop_zero] at hy;have hy0:y0.1=.held (b :: r):=by simpa using hdi
  obtain⟨y1,y2⟩:=y0;subst hy0;obtain rfl:=func_of_trod hft hone (show DataW.trod _ P W 0 _ true k fld.type [v]=_ from hy);rw[World.var?_cell hg hv i];simpa using hv2
theorem zfy (g:Nat):∀ (l:List Value) (i:Nat) (w:World),((l.zipIdx i).foldl (fun w x=>w.setCell ⟨g,x.2,none⟩ x.1) w).os=w.os
 | [],_,_=>rfl
 | _ :: l,i,w=>by rw[List.zipIdx_cons,List.foldl_cons,zfy g l (i+1)];rfl
end Fig
end
section
namespace Fig
open Go Go.Proofs Go.Proofs.YtcmgdjnjmobkoaaGreatDoor
set_option maxRecDepth 100000
def ziI:List (String×DataW Unit):=[("unicode/utf8.acceptRanges",Rows.laid_unicode_utf8_acceptRanges),("figurehead/ten.powers",Rows.laid_figurehead_ten_powers),("unicode/utf8.first",Rows.laid_unicode_utf8_first)]
def zfk:List (String×DataW Unit):=[("figurehead/mode.ways",Rows.laid_figurehead_mode_ways),("unicode/utf8.acceptRanges",Rows.laid_unicode_utf8_acceptRanges),("figurehead/ten.powers",Rows.laid_figurehead_ten_powers),("unicode/utf8.first",Rows.laid_unicode_utf8_first)]
def zmh:List Value:=[.func (.func 173) #[] #[],.func (.func 174) #[] #[],.func (.func 175) #[] #[],.func (.func 176) #[] #[],.func (.func 177) #[] #[],.func (.func 178) #[] #[],.func (.func 179) #[] #[],.func (.func 180) #[] #[]]
noncomputable def startW (os:Os):World:=(zmh.zipIdx 0).foldl (fun w x=>w.setCell ⟨1,x.2,none⟩ x.1) (World.laidAll Tryz.prog os ziI)
theorem startW_os (os:Os):(startW os).os=os:=(zfy _ _ _ _).trans (World.laidAll_os _ _ _)
theorem met (os:Os) (args:Array Value):laidMetH Tryz.prog zfk ((startW os).forCall (fun _ _=>0) ⟨#[],args,[]⟩).memory:=
 laidMetH_of_parts3 (fuel:=8) (laidMet_of_run' 8 (by kernel_rfl) (by kernel_rfl)) (by kernel_rfl) (by kernel_rfl)
theorem zjy:(zfk.filter fun x=>x.2.handleName?.isNone)=ziI:=by kernel_rfl
theorem zmi {W:World} (h:laidMetH Tryz.prog zfk W):laidMet Tryz.prog ziI W:=zjy ▸ (laidMetH_iff.1 h).1
theorem znX {W:World} (h:laidMetH Tryz.prog zfk W):∀ i f,([173,174,175,176,177,178,179,180]:List Nat)[i]?=some f→W.cell? ⟨1,i,none⟩=some (.func (.func f) #[] #[]):=by
 have hF:=h.funcs (n:= "figurehead/mode.ways") (List.mem_cons_self);have gN:Tryz.prog.globalNamed "figurehead/mode.ways"=some 1:=by kernel_rfl
 have gT:(Tryz.prog.globals[1]?).map (·.type)=some 130:=by kernel_rfl
 have c1:Tryz.prog.cellsOf 129=1:=by kernel_rfl
 have c2:Tryz.prog.cellsOf 127=1:=by kernel_rfl
 have c3:Tryz.prog.cellsOf 130=8:=by kernel_rfl
 intro i f hf;have key:∀ {b:UInt8} {r:List UInt8} {j:Nat} {f0:FuncId},j<8→_→_→W.cell? ⟨1,j,none⟩=some (.func (.func f0) #[] #[]):=fun {b} {r} {j} {f0} hj hdi hone=>zmd (b:=b) (r:=r) hF gN gT Tryz.underlying130 Tryz.underlying129 Tryz.underlying127 c1 c2 rfl c3 rfl hj hdi hone
 match i,hf with
 | 0,hf=>obtain rfl:=Option.some.inj hf;exact key (b:=102) (r:=[105,103,117,114,101,104,101,97,100,47,109,111,100,101,46,119,97,121,115,36,49]) (by decide) rfl (by kernel_rfl)
 | 1,hf=>obtain rfl:=Option.some.inj hf;exact key (b:=102) (r:=[105,103,117,114,101,104,101,97,100,47,109,111,100,101,46,119,97,121,115,36,50]) (by decide) rfl (by kernel_rfl)
 | 2,hf=>obtain rfl:=Option.some.inj hf;exact key (b:=102) (r:=[105,103,117,114,101,104,101,97,100,47,109,111,100,101,46,119,97,121,115,36,51]) (by decide) rfl (by kernel_rfl)
 | 3,hf=>obtain rfl:=Option.some.inj hf;exact key (b:=102) (r:=[105,103,117,114,101,104,101,97,100,47,109,111,100,101,46,119,97,121,115,36,52]) (by decide) rfl (by kernel_rfl)
 | 4,hf=>obtain rfl:=Option.some.inj hf;exact key (b:=102) (r:=[105,103,117,114,101,104,101,97,100,47,109,111,100,101,46,119,97,121,115,36,53]) (by decide) rfl (by kernel_rfl)
 | 5,hf=>obtain rfl:=Option.some.inj hf;exact key (b:=102) (r:=[105,103,117,114,101,104,101,97,100,47,109,111,100,101,46,119,97,121,115,36,54]) (by decide) rfl (by kernel_rfl)
 | 6,hf=>obtain rfl:=Option.some.inj hf;exact key (b:=102) (r:=[105,103,117,114,101,104,101,97,100,47,109,111,100,101,46,119,97,121,115,36,55]) (by decide) rfl (by kernel_rfl)
 | 7,hf=>obtain rfl:=Option.some.inj hf;exact key (b:=102) (r:=[105,103,117,114,101,104,101,97,100,47,109,111,100,101,46,119,97,121,115,36,56]) (by decide) rfl (by kernel_rfl)
 | k+8,hf=>simp at hf
theorem zoi {W:World} (h:laidMetH Tryz.prog zfk W):∀ i,i<9→W.cell? ⟨0,i,none⟩=some (.int .u32 (([1,10,100,1000,10000,100000,1000000,10000000,100000000]:List Int).getD i 0)):=by
 have gN:Tryz.prog.globalNamed "figurehead/ten.powers"=some 0:=by kernel_rfl
 have gT:(Tryz.prog.globals[0]?).map (·.type)=some 124:=by kernel_rfl
 have hT:=Lib.tabIs_of_head (k:=.u32) (zs:=[1,10,100,1000,10000,100000,1000000,10000000,100000000]) gN gT Tryz.underlying124 Tryz.underlying95 (by kernel_rfl) (by kernel_rfl) (laidMet.tail (zmi h));exact fun i hi=>hT.cell gN i hi
theorem of_laid {W:World} (h:laidMetH Tryz.prog zfk W):Glob W:=⟨znX h,zoi h⟩
end Fig
end
section
namespace Fig
open Go Go.ChangeShapes Go.WideShapes Go.RowKit Go.Deep Go.WideElems Go.Joins
theorem open_dec {H:Type} {enc:TypeId×Value→H} {P:Program} {w:World} {base:Nat} {spare:Nat→Bool} {held:Bool} {r:Reach} {b0:Nat} {t:TypeId} {f0 f1 f2:Field} {v:Value} {d:DataW H} {p:List MemPlace} {k:IntKind} (hs:P.underlying t=some (.struct #[f0,f1,f2])) (hone:oneCellFields P #[f0,f1,f2]=true) (hC:P.cellsOf t=3)
  (u0:P.underlying f0.type=some .bool) (u1:P.underlying f1.type=some .string) (u2:P.underlying f2.type=some (.int k)) (hv:Value.okWide P w r b0 t v) (h:DataW.Trod enc P w base spare held t v d p) :
  ∃ (x:Bool) (s:ByteArray) (n:Int),v=.agg #[.bool x,.string s,.int k n]∧d=.agg [.lit (.bool x),.lit (.string s.data.toList),.lit (.int k n)]∧p=[]∧s.size≤maxLen∧(Lit.int k n).wf=true:=by
 obtain⟨v0,v1,v2,y0,y1,y2,n,rfl,rfl,rfl,h0,h1,h2⟩:=open_agg3 hs hone hC hv h;obtain⟨x,e0,rfl⟩:=DataW.trod_bool u0 h0;obtain⟨s,e1,rfl,hl⟩:=DataW.trod_string u1 h1;obtain⟨m,e2,rfl,hw⟩:=DataW.trod_int u2 h2;simp only[List.cons.injEq,and_true] at e0 e1 e2
 subst e0 e1 e2;exact⟨x,s,m,rfl,rfl,rfl,hl,hw⟩
theorem shut_dec {H:Type} {enc:TypeId×Value→H} {P:Program} {w:World} {base:Nat} {spare:Nat→Bool} {held:Bool} {t:TypeId} {f0 f1 f2:Field} {k:IntKind} {x:Bool} {s:ByteArray} {n:Int} (hs:P.underlying t=some (.struct #[f0,f1,f2])) (hone:oneCellFields P #[f0,f1,f2]=true) (hC:P.cellsOf t=3)
  (u0:P.underlying f0.type=some .bool) (u1:P.underlying f1.type=some .string) (u2:P.underlying f2.type=some (.int k)) (hl:s.size≤maxLen) (hw:(Lit.int k n).wf=true) :
  DataW.Trod enc P w base spare held t (.agg #[.bool x,.string s,.int k n]) (.agg [.lit (.bool x),.lit (.string s.data.toList),.lit (.int k n)]) []:=
 shut_agg3 (y0:=(.lit (.bool x),[])) (y1:=(.lit (.string s.data.toList),[])) (y2:=(.lit (.int k n),[])) hs hone hC ⟨1,by simp[DataW.trod,u0]⟩ ⟨1,by simp[DataW.trod,u1,hl]⟩ ⟨1,by simp[DataW.trod,u2,hw]⟩
theorem sized_dec {H:Type} {P:Program} {ts:List TypeId} {ds:List (DataW H)} (h:(DataW.weightsEach P ts ds).all (·≤reachBytes)=true) {j:Nat} {t:TypeId} {f0 f1 f2:Field} {x y:DataW H} {bytes:List UInt8} (ht:ts[j]?=some t) (hd:ds[j]?=some (.agg [x,.lit (.string bytes),y])) (hs:P.underlying t=some (.struct #[f0,f1,f2])):bytes.length≤reachBytes:=by
 have:=List.all_eq_true.1 h _ (DataW.weights_mem_each ht hd bytes.length (by simp[DataW.weights,DataW.weightsEach,hs]))
 simpa using this
end Fig
end
