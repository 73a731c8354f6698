/- The functions that the law ShapeRoundsUpto reaches, told as plain functions, with what is proved of them, and the words they need (part 4). -/
import Derived.Test.YtcmgdjnjmobkoaaGreatDoorCShapeRoundsUpto0
import Derived.Test.YtcmgdjnjmobkoaaGreatDoorCShapeRoundsUpto1
import Derived.Test.YtcmgdjnjmobkoaaGreatDoorCShapeRoundsUpto3
import Derived.Test.YtcmgdjnjmobkoaaGreatDoorCShapeRoundsUpto2
set_option linter.unusedVariables false
set_option linter.unusedSimpArgs false
namespace Go.Proofs.YtcmgdjnjmobkoaaGreatDoor.Px
set_option linter.all false
open Fig Go.RowKit Go.Proofs.YtcmgdjnjmobkoaaGreatDoorW.PrintWords Go.Proofs.YtcmgdjnjmobkoaaGreatDoorW.PrintLast Go.Proofs.YtcmgdjnjmobkoaaGreatDoorW.PrintMore
attribute [local go_sem] vK vL uE uD yS yP vM vJ
set_option maxHeartbeats 16000000 in
set_option maxRecDepth 100000 in
theorem zcn (A:Option Addr) (c:Nat) (l:List S73) (b0:Int) (fst:Bool) (w:World) (hr:Kd.C k73 w A l.length l) (hc:l.length≤c) (hl:l.length≤1000) :
  Calls Tryz.prog 57 #[.slice A l.length c,.int .i64 b0,.bool fst] w (zna l w):=by
 have HR:=K_ hr;have HL:=K_ hl;have HCC:=K_ hc;have HB:=K_ (Below.refl w.heap.size w);clear hr hc;go_enter Tryz.func57,Tryz.ntmps57
 go_upto_region 1 with (first
  | ((with_reducible refine zE (N:=6) rfl ?_);refine be_ 6 Z76 76 ?_;intro g6 hg w2 hbox hb;have BK6:=K_ hbox;have GE6:=ge_ hg HB;replace HB:=zF HB hb;clear hb hbox hg)
  | ((with_reducible refine zE (N:=7) rfl ?_);refine be_ 7 Z51 51 ?_;intro g7 hg w4 hbox hb;have BK7:=K_ hbox;have GE7:=ge_ hg HB;have NB:=nb_ hg BK6;replace BK6:=zC BK6 hb;replace HB:=zF HB hb;clear hb hbox hg))
 go_wp2_with (fail)
 go_loopw [8] (fun v wr=>∃ k:Nat,k≤l.length∧v=.int .i64 k∧xC (fun x=>!vT x) l k=qK l∧wr.heap[g6]?=some (.cells Z76 76 (0,0))∧wr.heap[g7]?=some (.cells Z51 51 (0,0))∧Below w.heap.size w wr) (fun v _=>l.length-(intOf v).toNat)
 case atStart=>exact⟨0,by omega,rfl,rfl,BK BK6,BK BK7,BL HB⟩
 case round =>
  obtain⟨k,hk,rfl,hrun,hb6,hb7,hbw⟩:=hrel;have HRun:=K_ hrun;replace BK6:=K_ hb6;replace BK7:=K_ hb7;replace HB:=K_ hbw;clear hrun hb6 hb7 hbw;have hcl:=HCC.out;by_cases hlt:k<l.length
  ·have dlt:decide ((k:Int)<(l.length:Int))=true:=decide_eq_true (by omega)
   obtain⟨x,hx⟩:∃ x,x=l[k]:=⟨_,rfl⟩
   obtain⟨ad,ea,h0,h1,h2,h3⟩:=zaQ (Kd.C_below HR.out HB.out) (k:Int) (by omega) (by omega);rw[zcU hlt,←hx] at h0 h1 h2 h3;simp only[Int.toNat_natCast] at h0 h1 h2 h3
   have HX:=K_ hx;have HA:=K_ ea;clear hx;subst ea;cases hb:vT x
   ·have HC:∀ W,Aside0 (Calls Tryz.prog 87 #[.agg #[.int .i32 x.f0.f0,.bool x.f0.f1,.int .i64 x.f0.f2,.bool x.f1]] W fun e w'=>e=.returned (.bool false)∧Below W.heap.size W w'):=fun W=>⟨by have h:=zdU x W;rw[hb] at h;exact h⟩
    have HR2:=K_ (show xC (fun x=>!vT x) l (k+1)=qK l by rw[←zho hlt (by rw[←HX.out,hb];rfl)];exact HRun.out);clear hb;go_wp2_with (go_at_call 87;refine ((HC _).out).mono ?_;rintro e w' ⟨rfl,hb⟩;replace HB:=zF HB hb;replace BK6:=zC BK6 hb;replace BK7:=zC BK7 hb;clear hb)
    go_roundw
    case rel=>exact⟨k+1,by omega,by go_num,HR2.out,BK BK6,BK BK7,BL HB⟩
    case measure=>simp[intOf];omega
   have HC:∀ W,Aside0 (Calls Tryz.prog 87 #[.agg #[.int .i32 x.f0.f0,.bool x.f0.f1,.int .i64 x.f0.f2,.bool x.f1]] W fun e w'=>e=.returned (.bool true)∧Below W.heap.size W w'):=fun W=>⟨by have h:=zdU x W;rw[hb] at h;exact h⟩
   have HBEG:=K_ (show qK l=k by rw[←HRun.out];exact zfe hlt (by rw[←HX.out,hb];rfl));have HKL:=K_ hlt;have dne:((k:Int)==(l.length:Int))=false:=beq_eq_false_iff_ne.2 (by omega);clear hb;go_upto_region 6 with (go_at_call 87;refine ((HC _).out).mono ?_;rintro e w' ⟨rfl,hb⟩;replace HB:=zF HB hb;replace BK6:=zC BK6 hb;replace BK7:=zC BK7 hb;clear hb)
   go_wp2_with (fail)
   go_loopw [9] (fun v wr=>∃ j:Nat,k≤j∧j≤l.length∧v=.int .i64 j∧xC vT l j=xC vT l (k)∧wr.heap[g6]?=some (.cells Z76 76 (0,0))∧wr.heap[g7]?=some (.cells Z51 51 (0,0))∧Below w.heap.size w wr) (fun v _=>l.length-(intOf v).toNat)
   case atStart=>exact⟨k,Nat.le_refl _,by omega,rfl,rfl,BK BK6,BK BK7,BL HB⟩
   case round =>
    obtain⟨j,hj0,hj,rfl,hrun,hb6,hb7,hbw⟩:=hrel;have HRun:=K_ hrun;replace BK6:=K_ hb6;replace BK7:=K_ hb7;replace HB:=K_ hbw;clear hrun hb6 hb7 hbw;go_upto_region 7 with (fail)
    go_cut [55] from 45 to 55 (fun c wx=>c=.bool (zaP l j)∧wx.heap[g6]?=some (.cells Z76 76 (0,0))∧wx.heap[g7]?=some (.cells Z51 51 (0,0))∧Below w.heap.size w wx)
    case first =>
     have hcl:=HCC.out;by_cases hlt:j<l.length
     ·have dlt:decide (((j:Nat):Int)<(l.length:Int))=true:=decide_eq_true (by omega)
      obtain⟨x,hx⟩:∃ x,x=l[j]:=⟨_,rfl⟩
      obtain⟨ad2,ea,h0,h1,h2,h3⟩:=zaQ (Kd.C_below HR.out HB.out) ((j:Nat):Int) (by omega) (by omega);rw[zcU hlt,←hx] at h0 h1 h2 h3;simp only[Int.toNat_natCast] at h0 h1 h2 h3
      have HX:=K_ hx;obtain rfl:=Option.some.inj ea;clear hx ea;have HV:=K_ (show zaP l j=vT x by rw[HX.out];exact zdM hlt);cases hb:vT x
      all_goals
       rw[hb] at HV;have HC:∀ W,Aside0 (Calls Tryz.prog 87 #[.agg #[.int .i32 x.f0.f0,.bool x.f0.f1,.int .i64 x.f0.f2,.bool x.f1]] W fun e w'=>e=.returned (.bool _)∧Below W.heap.size W w'):=fun W=>⟨by have h:=zdU x W;rw[hb] at h;exact h⟩
       clear hb;go_wp2_with (go_at_call 87;refine ((HC _).out).mono ?_;rintro e w' ⟨rfl,hb⟩;replace HB:=zF HB hb;replace BK6:=zC BK6 hb;replace BK7:=zC BK7 hb;clear hb)
       go_meet
       case rel=>exact⟨by rw[HV.out],BK BK6,BK BK7,BL HB⟩
     have dlt:decide (((j:Nat):Int)<(l.length:Int))=false:=decide_eq_false (by omega);have HV:=K_ (show zaP l j=false from zeF (by omega));go_wp2
     go_meet
     case rel=>exact⟨by rw[HV.out],BK BK6,BK BK7,BL HB⟩
    case rest =>
     obtain⟨rfl,hb6,hb7,hbw⟩:=hcut;replace BK6:=K_ hb6;replace BK7:=K_ hb7;replace HB:=K_ hbw;clear hb6 hb7 hbw;cases hb:zaP l j
     ·have HE0:=K_ (show xC vT l k=j by rw[←HRun.out];exact zmI hb)
      clear hb;have HEND:=K_ (show qF l=zfy l j by unfold qF;rw[HBEG.out,HE0.out]);go_upto_region 9 with (fail)
      go_cut [68] from 58 to 68 (fun c wx=>c=.bool (atS l j 69)∧wx.heap[g6]?=some (.cells Z76 76 (0,0))∧wx.heap[g7]?=some (.cells Z51 51 (0,0))∧Below w.heap.size w wx)
      case first =>
       have hcl:=HCC.out;by_cases hlt:j<l.length
       ·have dlt:decide (((j:Nat):Int)<(l.length:Int))=true:=decide_eq_true (by omega)
        obtain⟨x,hx⟩:∃ x,x=l[j]:=⟨_,rfl⟩
        obtain⟨ad2,ea,h0,h1,h2,h3⟩:=zaQ (Kd.C_below HR.out HB.out) ((j:Nat):Int) (by omega) (by omega);rw[zcU hlt,←hx] at h0 h1 h2 h3;simp only[Int.toNat_natCast] at h0 h1 h2 h3
        have HX:=K_ hx;obtain rfl:=Option.some.inj ea;clear hx ea;have HV:=K_ (show atS l j 69=zaF x 69 by rw[HX.out];exact zgX hlt 69);cases hb:zaF x 69
        all_goals
         rw[hb] at HV;have HC:∀ W,Aside0 (Calls Tryz.prog 56 #[.agg #[.int .i32 x.f0.f0,.bool x.f0.f1,.int .i64 x.f0.f2,.bool x.f1],.int .i32 69] W fun e w'=>e=.returned (.bool _)∧Below W.heap.size W w'):=fun W=>⟨by have h:=zbX x 69 W;rw[hb] at h;exact h⟩
         clear hb;go_wp2_with (go_at_call 56;refine ((HC _).out).mono ?_;rintro e w' ⟨rfl,hb⟩;replace HB:=zF HB hb;replace BK6:=zC BK6 hb;replace BK7:=zC BK7 hb;clear hb)
         go_meet
         case rel=>exact⟨by rw[HV.out],BK BK6,BK BK7,BL HB⟩
       have dlt:decide (((j:Nat):Int)<(l.length:Int))=false:=decide_eq_false (by omega);have HV:=K_ (show atS l j 69=false from zek (by omega) 69);go_wp2
       go_meet
       case rel=>exact⟨by rw[HV.out],BK BK6,BK BK7,BL HB⟩
      case rest =>
       obtain⟨rfl,hb6,hb7,hbw⟩:=hcut;replace BK6:=K_ hb6;replace BK7:=K_ hb7;replace HB:=K_ hbw;clear hb6 hb7 hbw;go_upto_if 68 with (fail)
       go_cut [9] from 58 to 96 (fun v wx=>v=.int .i64 ((qF l:Nat):Int)∧wx.heap[g6]?=some (.cells Z76 76 (0,0))∧wx.heap[g7]?=some (.cells Z51 51 (0,0))∧Below w.heap.size w wx)
       case first =>
        have hll:=HL.out;cases h69:atS l j 69
        ·have HEND2:=K_ (show qF l=j by rw[HEND.out];unfold zfy;rw[if_neg (by rw[h69];decide)])
         clear h69;go_wp2
         go_meet
         case rel=>exact⟨by rw[HEND2.out],BK BK6,BK BK7,BL HB⟩
        have hj1:=zmV h69;have HEND2:=K_ (show qF l=xC vT l (if atS l (j+1) 43=true then j+2 else j+1) by rw[HEND.out];unfold zfy;rw[if_pos h69]);have hwj:IntKind.i64.wrap ((j:Int)+1)=(j:Int)+1:=by rw[IntKind.wrap_i64];omega
        clear h69;go_upto_region 11 with (fail)
        obtain⟨j1,hj2⟩:∃ j1:Nat,j1=j+1:=⟨_,rfl⟩
        have hc1:((j:Int)+1)=((j1:Nat):Int):=by omega
        have hj3:j1≤l.length:=by omega
        have HEND3:=K_ (show qF l=xC vT l (if atS l j1 43=true then j1+1 else j1) by rw[HEND2.out,hj2]);rw[hc1];clear hc1 hwj hj2 HEND2;go_cut [81] from 71 to 81 (fun c wx=>c=.bool (atS l j1 43)∧wx.heap[g6]?=some (.cells Z76 76 (0,0))∧wx.heap[g7]?=some (.cells Z51 51 (0,0))∧Below w.heap.size w wx)
        case first =>
         have hcl:=HCC.out;by_cases hlt:j1<l.length
         ·have dlt:decide (((j1:Nat):Int)<(l.length:Int))=true:=decide_eq_true (by omega)
          obtain⟨x,hx⟩:∃ x,x=l[j1]:=⟨_,rfl⟩
          obtain⟨ad2,ea,h0,h1,h2,h3⟩:=zaQ (Kd.C_below HR.out HB.out) ((j1:Nat):Int) (by omega) (by omega);rw[zcU hlt,←hx] at h0 h1 h2 h3;simp only[Int.toNat_natCast] at h0 h1 h2 h3
          have HX:=K_ hx;obtain rfl:=Option.some.inj ea;clear hx ea;have HV:=K_ (show atS l j1 43=zaF x 43 by rw[HX.out];exact zgX hlt 43);cases hb:zaF x 43
          all_goals
           rw[hb] at HV;have HC:∀ W,Aside0 (Calls Tryz.prog 56 #[.agg #[.int .i32 x.f0.f0,.bool x.f0.f1,.int .i64 x.f0.f2,.bool x.f1],.int .i32 43] W fun e w'=>e=.returned (.bool _)∧Below W.heap.size W w'):=fun W=>⟨by have h:=zbX x 43 W;rw[hb] at h;exact h⟩
           clear hb;go_wp2_with (go_at_call 56;refine ((HC _).out).mono ?_;rintro e w' ⟨rfl,hb⟩;replace HB:=zF HB hb;replace BK6:=zC BK6 hb;replace BK7:=zC BK7 hb;clear hb)
           go_meet
           case rel=>exact⟨by rw[HV.out],BK BK6,BK BK7,BL HB⟩
         have dlt:decide (((j1:Nat):Int)<(l.length:Int))=false:=decide_eq_false (by omega);have HV:=K_ (show atS l j1 43=false from zek (by omega) 43);go_wp2
         go_meet
         case rel=>exact⟨by rw[HV.out],BK BK6,BK BK7,BL HB⟩
        case rest =>
         obtain⟨rfl,hb6,hb7,hbw⟩:=hcut;replace BK6:=K_ hb6;replace BK7:=K_ hb7;replace HB:=K_ hbw;clear hb6 hb7 hbw;go_upto_if 81 with (fail)
         go_cut [9] from 71 to 83 (fun v wx=>v=.int .i64 (((if atS l j1 43=true then j1+1 else j1):Nat):Int)∧wx.heap[g6]?=some (.cells Z76 76 (0,0))∧wx.heap[g7]?=some (.cells Z51 51 (0,0))∧Below w.heap.size w wx)
         case first =>
          cases h43:atS l j1 43
          ·go_wp2
           go_meet
           case rel=>exact⟨by rw[h43];rfl,BK BK6,BK BK7,BL HB⟩
          have hwj:IntKind.i64.wrap ((j1:Int)+1)=(j1:Int)+1:=by rw[IntKind.wrap_i64];omega
          go_wp2
          go_meet
          case rel=>exact⟨by rw[h43];rfl,BK BK6,BK BK7,BL HB⟩
         case rest =>
          obtain⟨rfl,hb6,hb7,hbw⟩:=hcut;replace BK6:=K_ hb6;replace BK7:=K_ hb7;replace HB:=K_ hbw;clear hb6 hb7 hbw;obtain⟨e1,he1⟩:∃ e1:Nat,e1=if atS l j1 43=true then j1+1 else j1:=⟨_,rfl⟩
          have hel:e1≤l.length:=by
           rw[he1];split
           ·rename_i h;have:=zmV h;omega
           exact hj3
          have HEND4:=K_ (show qF l=xC vT l e1 by rw[HEND3.out,he1]);rw[←he1];clear he1 HEND3;go_wp2_with (fail)
          go_loopw [9] (fun v wr=>∃ j:Nat,e1≤j∧j≤l.length∧v=.int .i64 j∧xC vT l j=xC vT l (e1)∧wr.heap[g6]?=some (.cells Z76 76 (0,0))∧wr.heap[g7]?=some (.cells Z51 51 (0,0))∧Below w.heap.size w wr) (fun v _=>l.length-(intOf v).toNat)
          case atStart=>exact⟨e1,Nat.le_refl _,by omega,rfl,rfl,BK BK6,BK BK7,BL HB⟩
          case round =>
           obtain⟨j,hj0,hj,rfl,hrun,hb6,hb7,hbw⟩:=hrel;have HRun:=K_ hrun;replace BK6:=K_ hb6;replace BK7:=K_ hb7;replace HB:=K_ hbw;clear hrun hb6 hb7 hbw;go_upto_region 13 with (fail)
           go_cut [94] from 84 to 94 (fun c wx=>c=.bool (zaP l j)∧wx.heap[g6]?=some (.cells Z76 76 (0,0))∧wx.heap[g7]?=some (.cells Z51 51 (0,0))∧Below w.heap.size w wx)
           case first =>
            have hcl:=HCC.out;by_cases hlt:j<l.length
            ·have dlt:decide (((j:Nat):Int)<(l.length:Int))=true:=decide_eq_true (by omega)
             obtain⟨x,hx⟩:∃ x,x=l[j]:=⟨_,rfl⟩
             obtain⟨ad2,ea,h0,h1,h2,h3⟩:=zaQ (Kd.C_below HR.out HB.out) ((j:Nat):Int) (by omega) (by omega);rw[zcU hlt,←hx] at h0 h1 h2 h3;simp only[Int.toNat_natCast] at h0 h1 h2 h3
             have HX:=K_ hx;obtain rfl:=Option.some.inj ea;clear hx ea;have HV:=K_ (show zaP l j=vT x by rw[HX.out];exact zdM hlt);cases hb:vT x
             all_goals
              rw[hb] at HV;have HC:∀ W,Aside0 (Calls Tryz.prog 87 #[.agg #[.int .i32 x.f0.f0,.bool x.f0.f1,.int .i64 x.f0.f2,.bool x.f1]] W fun e w'=>e=.returned (.bool _)∧Below W.heap.size W w'):=fun W=>⟨by have h:=zdU x W;rw[hb] at h;exact h⟩
              clear hb;go_wp2_with (go_at_call 87;refine ((HC _).out).mono ?_;rintro e w' ⟨rfl,hb⟩;replace HB:=zF HB hb;replace BK6:=zC BK6 hb;replace BK7:=zC BK7 hb;clear hb)
              go_meet
              case rel=>exact⟨by rw[HV.out],BK BK6,BK BK7,BL HB⟩
            have dlt:decide (((j:Nat):Int)<(l.length:Int))=false:=decide_eq_false (by omega);have HV:=K_ (show zaP l j=false from zeF (by omega));go_wp2
            go_meet
            case rel=>exact⟨by rw[HV.out],BK BK6,BK BK7,BL HB⟩
           case rest =>
            obtain⟨rfl,hb6,hb7,hbw⟩:=hcut;replace BK6:=K_ hb6;replace BK7:=K_ hb7;replace HB:=K_ hbw;clear hb6 hb7 hbw;cases hb:zaP l j
            ·have HE9:=K_ (show qF l=j by rw[HEND4.out,←HRun.out];exact zmI hb)
             clear hb;go_wp2
             go_meet
             case rel=>exact⟨by rw[HE9.out],BK BK6,BK BK7,BL HB⟩
            have hjl:=zfo hb;have HR2:=K_ (show xC vT l (j+1)=xC vT l e1 by rw[←zkz hb];exact HRun.out);clear hb;go_wp2
            go_roundw
            case rel=>exact⟨j+1,by omega,by omega,by go_num,HR2.out,BK BK6,BK BK7,BL HB⟩
            case measure=>simp[intOf];omega
       case rest =>
        obtain⟨rfl,hb6,hb7,hbw⟩:=hcut;replace BK6:=K_ hb6;replace BK7:=K_ hb7;replace HB:=K_ hbw;clear hb6 hb7 hbw;clear HEND HE0 HC HRun hk hj0 hj;obtain⟨e,hen⟩:∃ e,e=qF l:=⟨_,rfl⟩
        have HEN:=K_ hen;rw[←hen];clear hen;go_upto_region 16 with (first
         | ((with_reducible refine zE (N:=10) rfl ?_);refine be_ 10 Z76 76 ?_;intro g10 hg w10 hbox hb;have BK10:=K_ hbox;have GE10:=ge_ hg HB;have N6:=nb_ hg BK6;have N7:=nb_ hg BK7;replace BK6:=zC BK6 hb;replace BK7:=zC BK7 hb;replace HB:=zF HB hb;clear hb hbox hg)
         | ((with_reducible refine zW (p:=10) rfl ?_);refine so_ (g:=g10) (cs:=Z76) Z76 ⟨BK BK10⟩ ?_ rfl rfl rfl rfl rfl zbZ rfl rfl;intro w9 hbk hfar hbel;replace BK6:=K_ (hfar g6 _ N6.out (BK BK6));replace BK7:=K_ (hfar g7 _ N7.out (BK BK7));replace BK10:=K_ hbk;replace HB:=K_ (hbel _ _ GE10.out (BL HB));clear hbk hfar hbel))
        go_wp2_with (fail)
        go_loopw [11,12] (fun p i wr=>∃ (k pads:Nat) (at_ pad:Int),k≤l.length∧pads≤k∧i=.int .i64 k∧p=.int .i64 pads∧wr.heap[g10]?=some (.cells (qE (.slice none 0 0) (.slice none 0 0) jQ at_ pad 0) 76 (0,0))∧wr.heap[g6]?=some (.cells Z76 76 (0,0))∧wr.heap[g7]?=some (.cells Z51 51 (0,0))∧Below w.heap.size w wr) (fun _ i _=>l.length-(intOf i).toNat)
        case atStart=>exact⟨0,0,0,0,by omega,by omega,rfl,rfl,BK BK10,BK BK6,BK BK7,BL HB⟩
        case round =>
         obtain⟨i,pads,at_,pad,hi,hpd,rfl,rfl,hb10,hb6,hb7,hbw⟩:=hrel;replace BK10:=K_ hb10;replace BK6:=K_ hb6;replace BK7:=K_ hb7;replace HB:=K_ hbw;clear hb10 hb6 hb7 hbw;have hcl:=HCC.out;have hll:=HL.out;by_cases hlt:i<l.length
         ·have dlt:decide (((i:Nat):Int)<(l.length:Int))=true:=decide_eq_true (by omega)
          obtain⟨x,hx⟩:∃ x,x=l[i]:=⟨_,rfl⟩
          obtain⟨ad2,ea,h0,h1,h2,h3⟩:=zaQ (Kd.C_below HR.out HB.out) ((i:Nat):Int) (by omega) (by omega);rw[zcU hlt,←hx] at h0 h1 h2 h3;simp only[Int.toNat_natCast] at h0 h1 h2 h3
          have HX:=K_ hx;obtain rfl:=Option.some.inj ea;clear hx ea;cases hp:x.f1
          ·rw[hp] at h3
           clear hp;go_wp2
           go_roundw
           case rel=>exact⟨i+1,pads,at_,pad,by omega,by omega,by go_num,rfl,BK BK10,BK BK6,BK BK7,BL HB⟩
           case measure=>simp[intOf];omega
          have HPAD:=K_ (show (∀ x∈l,x.f1=false)→False by
           intro h;have:=h l[i] (List.getElem_mem hlt);rw[←HX.out,hp] at this;cases this)
          rw[hp] at h3;clear hp;have HXO:=K_ ((zaQ HR.out ((i:Nat):Int) (by omega) (by omega)).choose_spec.2.1);go_upto_block 8 with (fail)
          go_cut [13] from 110 to 127 (fun v wx=>(∃ a:Int,v=.int .i64 a)∧wx.heap[g10]?=some (.cells (qE (.slice none 0 0) (.slice none 0 0) jQ at_ pad 0) 76 (0,0))∧wx.heap[g6]?=some (.cells Z76 76 (0,0))∧wx.heap[g7]?=some (.cells Z51 51 (0,0))∧Below w.heap.size w wx)
          case first =>
           have hwk:IntKind.i64.wrap ((k:Int)-1)=(k:Int)-1:=by rw[IntKind.wrap_i64];omega
           have hwl:IntKind.i64.wrap ((l.length:Int)-1)=(l.length:Int)-1:=by rw[IntKind.wrap_i64];omega
           by_cases q1:((i:Nat):Int)=0
           ·have e1:(((i:Nat):Int)==0)=true:=beq_iff_eq.2 q1
            clear q1;go_wp2
            go_meet
            case rel=>exact⟨⟨_,rfl⟩,BK BK10,BK BK6,BK BK7,BL HB⟩
           have e1:(((i:Nat):Int)==0)=false:=beq_eq_false_iff_ne.2 q1;by_cases q2:((i:Nat):Int)=(k:Int)-1
           ·have e2:(((i:Nat):Int)==(k:Int)-1)=true:=beq_iff_eq.2 q2
            clear q1 q2;go_wp2
            go_meet
            case rel=>exact⟨⟨_,rfl⟩,BK BK10,BK BK6,BK BK7,BL HB⟩
           have e2:(((i:Nat):Int)==(k:Int)-1)=false:=beq_eq_false_iff_ne.2 q2;by_cases q3:((i:Nat):Int)=(e:Int)
           ·have e3:(((i:Nat):Int)==(e:Int))=true:=beq_iff_eq.2 q3
            clear q1 q2 q3;go_wp2
            go_meet
            case rel=>exact⟨⟨_,rfl⟩,BK BK10,BK BK6,BK BK7,BL HB⟩
           have e3:(((i:Nat):Int)==(e:Int))=false:=beq_eq_false_iff_ne.2 q3;by_cases q4:((i:Nat):Int)=(l.length:Int)-1
           ·have e4:(((i:Nat):Int)==(l.length:Int)-1)=true:=beq_iff_eq.2 q4
            clear q1 q2 q3 q4;go_wp2
            go_meet
            case rel=>exact⟨⟨_,rfl⟩,BK BK10,BK BK6,BK BK7,BL HB⟩
           have e4:(((i:Nat):Int)==(l.length:Int)-1)=false:=beq_eq_false_iff_ne.2 q4;clear q1 q2 q3 q4;go_wp2
           go_meet
           case rel=>exact⟨⟨_,rfl⟩,BK BK10,BK BK6,BK BK7,BL HB⟩
          case rest =>
           obtain⟨⟨a,rfl⟩,hb10,hb6,hb7,hbw⟩:=hcut;replace BK10:=K_ hb10;replace BK6:=K_ hb6;replace BK7:=K_ hb7;replace HB:=K_ hbw;clear hb10 hb6 hb7 hbw h0 h1 h2 h3;have hwp:IntKind.i64.wrap ((pads:Int)+1)=(pads:Int)+1:=by rw[IntKind.wrap_i64];omega
           go_upto_region 31 with (fail)
           go_cut [139] from 130 to 139 (fun v wx=>(∃ t:Bool,v=.bool t)∧wx.heap[g10]?=some (.cells (qE (.slice none 0 0) (.slice none 0 0) jQ at_ pad 0) 76 (0,0))∧wx.heap[g6]?=some (.cells Z76 76 (0,0))∧wx.heap[g7]?=some (.cells Z51 51 (0,0))∧Below w.heap.size w wx)
           case first =>
            by_cases q1:a=0
            ·have e1:(a==0)=true:=beq_iff_eq.2 q1
             clear q1;go_wp2
             go_meet
             case rel=>exact⟨⟨_,rfl⟩,BK BK10,BK BK6,BK BK7,BL HB⟩
            have e1:(a==0)=false:=beq_eq_false_iff_ne.2 q1;by_cases q2:(pads:Int)+1>1
            ·have e2:decide ((pads:Int)+1>1)=true:=decide_eq_true q2
             go_wp2
             go_meet
             case rel=>exact⟨⟨_,rfl⟩,BK BK10,BK BK6,BK BK7,BL HB⟩
            have e2:decide ((pads:Int)+1>1)=false:=decide_eq_false q2;go_wp2
            go_meet
            case rel=>exact⟨⟨_,rfl⟩,BK BK10,BK BK6,BK BK7,BL HB⟩
           case rest =>
            obtain⟨⟨t,rfl⟩,hb10,hb6,hb7,hbw⟩:=hcut;replace BK10:=K_ hb10;replace BK6:=K_ hb6;replace BK7:=K_ hb7;replace HB:=K_ hbw;clear hb10 hb6 hb7 hbw;obtain⟨ad2,ea,h0,h1,h2,h3⟩:=zaQ (Kd.C_below HR.out HB.out) ((i:Nat):Int) (by omega) (by omega);rw[zcU hlt,←HX.out] at h0 h1 h2 h3;simp only[Int.toNat_natCast] at h0 h1 h2 h3
            obtain rfl:=Option.some.inj ea;clear ea;have hbw:(ad.add (i * 4)).block<w.heap.size:=by
             obtain⟨ad3,ea3,h03,_⟩:=zaQ HR.out ((i:Nat):Int) (by omega) (by omega);obtain rfl:=Option.some.inj ea3;simp only[Int.toNat_natCast] at h03
             exact World.block_lt_of_cell? _ _ h03
            cases t
            ·have hbn:(ad.add (i * 4)).block≠g10:=Nat.ne_of_lt (Nat.lt_of_lt_of_le hbw GE10.out)
             have hcell2:∀ j v,(wc.setCell ⟨g10,j,none⟩ v).cell? (ad.add (i * 4))=some (.int .i32 x.f0.f0):=fun j v=>(yT hbn v).trans h0
             have hi0:(0:Int)≤(i:Int):=by omega
             have hi1:(i:Int)<(l.length:Int):=by omega
             have hi2:i+1≤l.length:=hlt;clear hbw;obtain⟨⟨cz0,cz1,cz2,cz3,cz4,cz5,cz6,cz7,cz8,cz9,cz10,cz11,cz12,cz13,cz14,cz15,cz16,cz17,cz18,cz19,cz20,cz21,cz22,cz23,cz24⟩,fz0,fz1,fz2,fz3,fz4,fz5,fz6,fz7,fz8,fz9,fz10,fz11,fz12,fz13,fz14,fz15,fz16,fz17,fz18,fz19,fz20,fz21,fz22,fz23,fz24⟩:=zqN BK10;go_upto_region 33 with (fail)
             go_region
             all_goals
              go_wp2_with (fail)
              go_roundw
              case rel=>exact⟨i+1,pads+1,a,x.f0.f0,by omega,by omega,by go_num,by go_num,BP BK10,(by (repeat (first|(with_reducible exact Aside0.out BK6)|(with_reducible refine jU ?_ _)|(with_reducible refine jS ?_)|(with_reducible refine jT ?_ _)|refine zS ?_ (Aside0.out N6) _))),(by (repeat (first|(with_reducible exact Aside0.out BK7)|(with_reducible refine jU ?_ _)|(with_reducible refine jS ?_)|(with_reducible refine jT ?_ _)|refine zS ?_ (Aside0.out N7) _))),BL HB⟩
              case measure=>simp[intOf];omega
            have hi0:(0:Int)≤(i:Int):=by omega
            have hi1:(i:Int)<(l.length:Int):=by omega
            have HE:=K_ (show (∀ x∈l,x.f1=false)→(∃ P,zaq l P)→(7:Int)=0 from fun h _=>(HPAD.out h).elim);have hb6:(ad.add (i * 4)).block≠g6:=Nat.ne_of_lt (Nat.lt_of_lt_of_le hbw GE6.out);have hb7:(ad.add (i * 4)).block≠g7:=Nat.ne_of_lt (Nat.lt_of_lt_of_le hbw GE7.out);go_upto_region 32 with (fail)
            refine yI (n:=10) (S:=fun w'=>w'.cell? ⟨(ad.add (i * 4)).block,(ad.add (i * 4)).off+2,none⟩=some (.int .i64 x.f0.f2)) (ds:=[]) #[false,false,false,false,false,false,false,false,false,false] (by kernel_rfl) rfl rfl h2 (fun hHeld=>?_);obtain⟨W,hW⟩:∃ W,W=World.drew wc:=⟨_,rfl⟩
            rw[←hW] at hHeld ⊢;replace BK6:=K_ (show W.heap[g6]?=some (.cells Z76 76 (0,0)) by rw[hW];exact BK BK6);replace BK7:=K_ (show W.heap[g7]?=some (.cells Z51 51 (0,0)) by rw[hW];exact BK BK7);replace HB:=K_ (show Below w.heap.size w W by rw[hW];exact BL HB);clear hW h0 h1 h2 h3;refine pw_ 0 140 (bb 10 1) ?_;refine pw_ 1 141 (bb 10 3) ?_;refine pw_ 2 142 (bb 10 7) ?_;refine pw_ 3 143 (bb 10 15) ?_;refine pw_ 4 144 (bb 10 31) ?_;refine pw_ 5 145 (bb 10 63) ?_;refine tw_ 6 146 (bb 10 127) hHeld ?_;refine pw_ 7 147 (bb 10 255) ?_;refine on_ 8 none (bb 10 511) (fun K hK=>?_);refine yX (g:=g6) (cs:=Z76) Z76 BK6 ?_ rfl rfl rfl rfl rfl zbZ rfl rfl;intro w8 hbk hfar hbel;have hHeld2:=zaI hfar (p:=⟨(ad.add (i * 4)).block,(ad.add (i * 4)).off+2,none⟩) hb6 hHeld;replace BK7:=K_ (hfar g7 _ (Ne.symm NB.out) BK7.out);replace BK6:=K_ hbk;replace HB:=K_ (hbel _ _ GE6.out HB.out);refine hK.out _ _ hHeld2 (fun _=>?_);clear hK K hbk hfar hbel;refine on_ 9 none (bb 10 1023) (fun K hK=>?_);refine yX (g:=g7) (cs:=Z51) #[.int .i64 7,.int .i64 x.f0.f2] BK7 ?_ rfl rfl rfl rfl rfl qD rfl rfl;intro w9 hbk hfar hbel;have hHeld3:=zaI hfar (p:=⟨(ad.add (i * 4)).block,(ad.add (i * 4)).off+2,none⟩) hb7 hHeld2;replace BK6:=K_ (hfar g6 _ NB.out BK6.out);replace BK7:=K_ hbk;replace HB:=K_ (hbel _ _ GE7.out HB.out);refine hK.out _ _ hHeld3 (fun _=>?_);clear hK K hbk hfar hbel;refine vF (by kernel_rfl) ?_;go_wp2_with (fail)
            (
             refine bodyPost_ret (xH rfl _ _ g6 g7 76 51 Z76 #[.int .i64 7,.int .i64 x.f0.f2] (0,0) (0,0) _ _ rfl BK6.out Tryz.underlying76 rfl zbZ rfl BK7.out Tryz.underlying51 rfl qD) rfl ?_;exact⟨_,_,[],[],jQ,0,0,0,7,x.f0.f2,rfl,Kd.R_nil _ _ _ _ _,Kd.R_nil _ _ _ _ _,BL HB,fun h=>absurd h (by decide),HE.out⟩)
         obtain rfl:i=l.length:=by omega
         have dlt:decide (((l.length:Nat):Int)<(l.length:Int))=false:=decide_eq_false (by omega);go_upto_region 34 with (fail)
         have hke:k≤e:=by have:=zpB l;rw[HBEG.out,←HEN.out] at this;exact this
         have HKE:=K_ hke;have hle:e≤l.length:=by rw[HEN.out];exact zpl l
         have HLE:=K_ hle;clear hke hle dlt;go_wp2_with (fail)
         go_loopw [14,15,16,17] (fun v14 v15 s i wr=>∃ j:Nat,j≤l.length∧i=.int .i64 j∧s=.string (zbk l k e j)∧Kd.R k71 71 wr w.heap.size (fun _=>True) v14 (uO l k j)∧Kd.R k71 71 wr w.heap.size (fun q=>some q≠v14.ownBlock) v15 (uN l e j)∧(j≤e→v15=.slice none 0 0)∧wr.heap[g10]?=some (.cells (qE (.slice none 0 0) (.slice none 0 0) jQ at_ pad 0) 76 (0,0))∧wr.heap[g6]?=some (.cells Z76 76 (0,0))∧wr.heap[g7]?=some (.cells Z51 51 (0,0))∧Below w.heap.size w wr) (fun _ _ _ i _=>l.length-(intOf i).toNat)
         case atStart=>exact⟨0,by omega,rfl,by rw[zmn],by rw[zma];exact Kd.R_nil _ _ _ _ _,by rw[zjK (Nat.zero_le _)];exact Kd.R_nil _ _ _ _ _,fun _=>rfl,BK BK10,BK BK6,BK BK7,BL HB⟩
         case round =>
          obtain⟨j,hj,rfl,rfl,hz14,hz15,hnil,hb10,hb6,hb7,hbw⟩:=hrel;replace BK10:=K_ hb10;replace BK6:=K_ hb6;replace BK7:=K_ hb7;replace HB:=K_ hbw;have HZ1:=K_ hz14;have HZ2:=K_ hz15;have HNIL:=K_ hnil;clear hz14 hz15 hnil hb10 hb6 hb7 hbw;have hcl:=HCC.out;have hll:=HL.out;by_cases hlt:j<l.length
          ·have dlt:decide (((j:Nat):Int)<(l.length:Int))=true:=decide_eq_true (by omega)
           obtain⟨x,hx⟩:∃ x,x=l[j]:=⟨_,rfl⟩
           obtain⟨ad2,ea,h0,h1,h2,h3⟩:=zaQ (Kd.C_below HR.out HB.out) ((j:Nat):Int) (by omega) (by omega);rw[zcU hlt,←hx] at h0 h1 h2 h3;simp only[Int.toNat_natCast] at h0 h1 h2 h3
           have HX:=K_ hx;obtain rfl:=Option.some.inj ea;clear hx ea;have HP1:=K_ (zpc (n:=k) hlt);have HS1:=K_ (zoA (e:=e) hlt);have HT1:=K_ (zoQ (n:=k) (e:=e) hlt);rw[←HX.out] at HP1 HS1 HT1;cases hp:x.f1
           ·rw[hp] at h3
            by_cases q1:j<k
            ·obtain rfl:=HNIL.out (Nat.le_of_lt (Nat.lt_of_lt_of_le q1 HKE.out))
             have d1:decide (((j:Nat):Int)<(k:Int))=true:=decide_eq_true (by omega);replace HP1:=K_ (show uO l k (j+1)=uO l k j++[x.f0] by rw[HP1.out,if_pos ⟨q1,hp⟩]);replace HS1:=K_ (show uN l e (j+1)=[] from zjK (Nat.le_trans q1 HKE.out));replace HT1:=K_ (show zbk l k e (j+1)=zbk l k e j by rw[HT1.out,if_neg (by omega)]);have HN6:=K_ (Kd.R_ne HZ1.out BK6.out (by decide));have HN7:=K_ (Kd.R_ne HZ1.out BK7.out (by decide));have HN10:=K_ (Kd.R_ne HZ1.out BK10.out (by decide));have HLN:=K_ (show ((uO l k j).length+1) * 16≤140737488355328 by have:=zfI l k j;omega);have HQ:=K_ (show j+1≤e from Nat.le_trans q1 HKE.out);obtain⟨A1,c1,rfl⟩:=Kd.R_slice HZ1.out;clear hp;go_wp2_with (((with_reducible refine jH (b:=.append) (xs:=#[.tmp 171,.tmp 177]) rfl ?_);at_builtin;(refine Kd.R_append k71 (w0:=w) w.heap.size rfl (.tmp 171) (.tmp 177) 66 71 (.agg #[(.int .i32 0),(.bool false),(.int .i64 0)]) 16 rfl Tryz.underlying66 zgZ rfl (by decide) (by omega) (.slice A1 (uO l k j).length c1) (uO l k j) x.f0 [.int .i32 x.f0.f0,.bool x.f0.f1,.int .i64 x.f0.f2] (fun _=>True) (fun _=>False) rfl (by first|(go_simp;done)|(go_simp;rfl)) (zel _ _ _ x.f0) (fun _ hk=>hk.elim) (fun _ _=>trivial) ?aO ?aB ?aS ?aL ?_;(case aO=>exact RB HZ1.out);(case aB=>exact BL HB);(case aS=>exact zQ (BL HB));(case aL=>exact HLN.out);intro v1 w5 ho2 hb2 hg2 hat2;rw[←HP1.out] at ho2;have HO3:=K_ ho2;have BK6a:=K_ (vC (BK BK6) hg2 HN6.out);have BK7a:=K_ (vC (BK BK7) hg2 HN7.out);have BK10a:=K_ (vC (BK BK10) hg2 HN10.out);replace HB:=K_ hb2;clear ho2 hb2 hg2 hat2)))
             go_roundw
             case rel=>exact⟨j+1,by omega,by go_num,by rw[HT1.out],RB HO3.out,by rw[HS1.out];exact Kd.R_nil _ _ _ _ _,fun _=>rfl,BK BK10a,BK BK6a,BK BK7a,BL HB⟩
             case measure=>simp[intOf];omega
            have d1:decide (((j:Nat):Int)<(k:Int))=false:=decide_eq_false (by omega);replace HP1:=K_ (show uO l k (j+1)=uO l k j by rw[HP1.out,if_neg (by omega)]);by_cases q2:j<e
            ·have d2:decide (((j:Nat):Int)<(e:Int))=true:=decide_eq_true (by omega)
             obtain⟨_,hr0,hr1⟩:=zjg (x:=x) (by rw[HX.out];exact zjd l j (by rw[HBEG.out];omega) (by rw[←HEN.out];exact q2) hlt);have HBY:=K_ (zfp hr0 hr1);replace HS1:=K_ (show uN l e (j+1)=uN l e j by rw[HS1.out,if_neg (by omega)]);replace HT1:=K_ (show zbk l k e (j+1)=zbk l k e j++strOfNums [x.f0.f0] by rw[HT1.out,if_pos ⟨by omega,q2⟩];rfl);have HNI:=K_ (HNIL.out (Nat.le_of_lt q2));have hts:=zkL l k e j;have hfb:¬ 9223372036854775807<(zbk l k e j).size+(strOfNums [x.f0.f0]).size:=by
              have:(strOfNums [x.f0.f0]).size=1:=rfl
              omega
             clear hp hr0 hr1;go_wp2_with (go_at_call 88;refine (vD.calls x.f0.f0 [x.f0.f0] _ HBY.out).mono ?_;rintro e9 w' ⟨v0,rfl,ho0,hb⟩;obtain⟨A9,c9,rfl⟩:∃ A9 c9,v0=.slice A9 1 c9:=Kd.R_slice ho0;have hcv:=Kd.C_string (c:=c9) Tryz.underlying107 Tryz.underlying5 Tryz.underlying9 (show (Kd.int .u8).C w' A9 1 [x.f0.f0] from (Kd.R_reads' ho0).2.2);replace HZ1:=K_ (Kd.R_below (RB HZ1.out) hb);replace HZ2:=K_ (Kd.R_below (RB HZ2.out) hb);replace HB:=zF HB hb;replace BK6:=zC BK6 hb;replace BK7:=zC BK7 hb;replace BK10:=zC BK10 hb;clear hb ho0)
             go_roundw
             case rel=>exact⟨j+1,by omega,by go_num,by rw[HT1.out],by rw[HP1.out];exact RB HZ1.out,by rw[HS1.out];exact RB HZ2.out,fun _=>HNI.out,BK BK10,BK BK6,BK BK7,BL HB⟩
             case measure=>simp[intOf];omega
            have d2:decide (((j:Nat):Int)<(e:Int))=false:=decide_eq_false (by omega);replace HS1:=K_ (show uN l e (j+1)=uN l e j++[x.f0] by rw[HS1.out,if_pos ⟨by omega,hp⟩]);replace HT1:=K_ (show zbk l k e (j+1)=zbk l k e j by rw[HT1.out,if_neg (by omega)]);have HN6:=K_ (Kd.R_ne HZ2.out BK6.out (by decide));have HN7:=K_ (Kd.R_ne HZ2.out BK7.out (by decide));have HN10:=K_ (Kd.R_ne HZ2.out BK10.out (by decide));have HLN:=K_ (show ((uN l e j).length+1) * 16≤140737488355328 by have:=zfD l e j;omega);obtain⟨A1,c1,rfl⟩:=Kd.R_slice HZ1.out;obtain⟨A2,c2,rfl⟩:=Kd.R_slice HZ2.out;clear hp;go_wp2_with (((with_reducible refine jH (b:=.append) (xs:=#[.tmp 192,.tmp 198]) rfl ?_);at_builtin;(refine Kd.R_append k71 (w0:=w) w.heap.size rfl (.tmp 192) (.tmp 198) 66 71 (.agg #[(.int .i32 0),(.bool false),(.int .i64 0)]) 16 rfl Tryz.underlying66 zgZ rfl (by decide) (by omega) (.slice A2 (uN l e j).length c2) (uN l e j) x.f0 [.int .i32 x.f0.f0,.bool x.f0.f1,.int .i64 x.f0.f2] (fun q=>some q≠(Value.slice A1 (uO l k j).length c1).ownBlock) (fun _=>False) rfl (by first|(go_simp;done)|(go_simp;rfl)) (zel _ _ _ x.f0) (fun _ hk=>hk.elim) ?aF ?aO ?aB ?aS ?aL ?_;(case aF=>exact fun q hq he=>absurd hq (Nat.not_le.2 (Kd.R_lt (RB HZ1.out) q he.symm)));(case aO=>exact RB HZ2.out);(case aB=>exact BL HB);(case aS=>exact zQ (BL HB));(case aL=>exact HLN.out);intro v1 w5 ho2 hb2 hg2 hat2;rw[←HS1.out] at ho2;have HO3:=K_ ho2;replace HZ1:=K_ (Kd.R_mono (ok':=fun _=>True) (Kd.R_grown (Kd.R_tight rfl (RB HZ1.out)) hg2 (fun q hq=>Kd.R_away HZ2.out (fun q2 hq2 he=>hq2 (by rw[he];exact hq)))) (fun _ _=>trivial));have BK6a:=K_ (vC (BK BK6) hg2 HN6.out);have BK7a:=K_ (vC (BK BK7) hg2 HN7.out);have BK10a:=K_ (vC (BK BK10) hg2 HN10.out);replace HB:=K_ hb2;clear ho2 hb2 hg2 hat2)))
            go_roundw
            case rel=>exact⟨j+1,by omega,by go_num,by rw[HT1.out],by rw[HP1.out];exact RB HZ1.out,RB HO3.out,fun h=>absurd h (by omega),BK BK10a,BK BK6a,BK BK7a,BL HB⟩
            case measure=>simp[intOf];omega
           have hnt:¬ (k≤j∧j<e):=fun h=>by
            have:=(zjg (x:=x) (by rw[HX.out];exact zjd l j (by rw[HBEG.out];exact h.1) (by rw[←HEN.out];exact h.2) hlt)).1
            rw[hp] at this;cases this
           replace HP1:=K_ (show uO l k (j+1)=uO l k j by rw[HP1.out,if_neg (by rw[hp];simp)]);replace HS1:=K_ (show uN l e (j+1)=uN l e j by rw[HS1.out,if_neg (by rw[hp];simp)]);replace HT1:=K_ (show zbk l k e (j+1)=zbk l k e j by rw[HT1.out,if_neg hnt]);rw[hp] at h3;clear hp hnt;go_wp2
           go_roundw
           case rel=>exact⟨j+1,by omega,by go_num,by rw[HT1.out],by rw[HP1.out];exact RB HZ1.out,by rw[HS1.out];exact RB HZ2.out,fun h=>HNIL.out (by omega),BK BK10,BK BK6,BK BK7,BL HB⟩
           case measure=>simp[intOf];omega
          obtain rfl:j=l.length:=by omega
          have dlt:decide (((l.length:Nat):Int)<(l.length:Int))=false:=decide_eq_false (by omega);go_upto_region 45 with (fail)
          obtain⟨pr,hpr⟩:∃ pr,pr=uO l k l.length:=⟨_,rfl⟩
          obtain⟨sf,hsf⟩:∃ sf,sf=uN l e l.length:=⟨_,rfl⟩
          obtain⟨tx,htx⟩:∃ tx,tx=zbk l k e l.length:=⟨_,rfl⟩
          have hpl:=zfI l k l.length;have hsl:=zfD l e l.length;have htl:=zkL l k e l.length;rw[←hpr] at HZ1 hpl;rw[←hsf] at HZ2 hsl;rw[←htx] at htl ⊢;have HPR:=K_ hpr;have HSF:=K_ hsf;have HTX:=K_ htx;have HPL:=K_ (show pr.length≤100000 by omega);have HSL:=K_ (show sf.length≤100000 by omega);have HTL:=K_ (show tx.size≤1048576 by omega);obtain⟨A1,c1,rfl⟩:=Kd.R_slice HZ1.out;obtain⟨A2,c2,rfl⟩:=Kd.R_slice HZ2.out;clear hpr hsf htx hpl hsl htl dlt hj hlt;go_upto_region 46 with (first
           | (go_at_call 89;refine (zhb A1 c1 pr _ (Kd.R_reads' (RB HZ1.out)).2.2 (Kd.R_reads' HZ1.out).2.1 HPL.out).mono ?_;rintro e9 w' ⟨v1,xs,E1,a1,rfl,ho1,hb,hpost⟩;have HO1:=K_ (Kd.R_lower ho1 (zQ (BL HB)));have HPO:=K_ hpost;replace HZ2:=K_ (Kd.R_below (RB HZ2.out) hb);replace HB:=zF HB hb;replace BK6:=zC BK6 hb;replace BK7:=zC BK7 hb;replace BK10:=zC BK10 hb;clear hb ho1 hpost)
           | ((with_reducible refine zE (N:=19) rfl ?_);refine be_ 19 Z51 51 ?_;intro g19 hg w10 hbox hb;have BK19:=K_ hbox;have GE19:=ge_ hg HB;have N6L:=nb_ hg BK6;have N7L:=nb_ hg BK7;have N10L:=nb_ hg BK10;replace HO1:=K_ (Kd.R_below (RB HO1.out) hb);replace HZ2:=K_ (Kd.R_below (RB HZ2.out) hb);replace HB:=zF HB hb;replace BK6:=zC BK6 hb;replace BK7:=zC BK7 hb;replace BK10:=zC BK10 hb;clear hb hbox hg)
           | ((with_reducible refine zW (p:=19) rfl ?_);refine so_ (g:=g19) (cs:=Z51) #[.int .i64 E1,.int .i64 a1] ⟨BK BK19⟩ ?_ rfl rfl rfl rfl rfl qD rfl rfl;intro w9 hbk hfar hbel;replace HO1:=K_ (uL (RB HO1.out) (BK BK19) (by decide) hfar);replace HZ2:=K_ (uL (RB HZ2.out) (BK BK19) (by decide) hfar);replace BK6:=K_ (hfar g6 _ N6L.out (BK BK6));replace BK7:=K_ (hfar g7 _ N7L.out (BK BK7));replace BK10:=K_ (hfar g10 _ N10L.out (BK BK10));replace BK19:=K_ hbk;replace HB:=K_ (hbel _ _ GE19.out (BL HB));clear hbk hfar hbel))
          obtain⟨⟨q0,q1⟩,q2,q3⟩:=ce2 BK19;rcases HPO.out with ⟨hE,ha,hok,hxs⟩|⟨hE,hno⟩
          ·obtain rfl:=hE
           obtain rfl:=ha;have HOK1:=K_ hok;have HXS:=K_ hxs;clear hok hxs;go_upto_region 49 with (first
            | (go_at_call 90;refine (zjT tx HTL.out _).mono ?_;rintro e9 w' ⟨PN,E2,rfl,hb,hpost⟩;have HNU:=K_ hpost;replace HO1:=K_ (Kd.R_below (RB HO1.out) hb);replace HZ2:=K_ (Kd.R_below (RB HZ2.out) hb);replace HB:=zF HB hb;replace BK6:=zC BK6 hb;replace BK7:=zC BK7 hb;replace BK10:=zC BK10 hb;replace BK19:=zC BK19 hb;clear hb hpost)
            | ((with_reducible refine zE (N:=20) rfl ?_);refine be_ 20 Z26 26 ?_;intro g20 hg w10 hbox hb;have BK20:=K_ hbox;have GE20:=ge_ hg HB;have N6M:=nb_ hg BK6;have N7M:=nb_ hg BK7;have N10M:=nb_ hg BK10;have N19M:=nb_ hg BK19;replace HO1:=K_ (Kd.R_below (RB HO1.out) hb);replace HZ2:=K_ (Kd.R_below (RB HZ2.out) hb);replace HB:=zF HB hb;replace BK6:=zC BK6 hb;replace BK7:=zC BK7 hb;replace BK10:=zC BK10 hb;replace BK19:=zC BK19 hb;clear hb hbox hg)
            | ((with_reducible refine zW (p:=20) rfl ?_);refine so_ (g:=g20) (cs:=Z26) PN.cs ⟨BK BK20⟩ ?_ rfl rfl rfl rfl rfl jX rfl rfl;intro w9 hbk hfar hbel;replace HO1:=K_ (uL (RB HO1.out) (BK BK20) (by decide) hfar);replace HZ2:=K_ (uL (RB HZ2.out) (BK BK20) (by decide) hfar);replace BK6:=K_ (hfar g6 _ N6M.out (BK BK6));replace BK7:=K_ (hfar g7 _ N7M.out (BK BK7));replace BK10:=K_ (hfar g10 _ N10M.out (BK BK10));replace BK19:=K_ (hfar g19 _ N19M.out (BK BK19));replace BK20:=K_ hbk;replace HB:=K_ (hbel _ _ GE20.out (BL HB));clear hbk hfar hbel))
           rcases HNU.out with ⟨hE,hnum⟩|⟨hE,hno⟩
           ·obtain rfl:=hE
            have HNUM:=K_ hnum;clear hnum q0 q1 q2 q3;go_upto_region 52 with (first
             | (go_at_call 89;refine (zhb A2 c2 sf _ (Kd.R_reads' (RB HZ2.out)).2.2 (Kd.R_reads' HZ2.out).2.1 HSL.out).mono ?_;rintro e9 w' ⟨v2,ys,E3,a3,rfl,ho2,hb,hpost⟩;have HO2:=K_ (Kd.R_lower ho2 (zQ (BL HB)));have HPO2:=K_ hpost;replace HO1:=K_ (Kd.R_below (RB HO1.out) hb);replace HB:=zF HB hb;replace BK6:=zC BK6 hb;replace BK7:=zC BK7 hb;replace BK10:=zC BK10 hb;replace BK19:=zC BK19 hb;replace BK20:=zC BK20 hb;clear hb ho2 hpost)
             | ((with_reducible refine zW (p:=19) rfl ?_);refine so_ (g:=g19) (cs:=Z51) #[.int .i64 E3,.int .i64 a3] ⟨BK BK19⟩ ?_ rfl rfl rfl rfl rfl qD rfl rfl;intro w9 hbk hfar hbel;replace HO1:=K_ (uL (RB HO1.out) (BK BK19) (by decide) hfar);replace HO2:=K_ (uL (RB HO2.out) (BK BK19) (by decide) hfar);replace BK6:=K_ (hfar g6 _ N6L.out (BK BK6));replace BK7:=K_ (hfar g7 _ N7L.out (BK BK7));replace BK10:=K_ (hfar g10 _ N10L.out (BK BK10));replace BK20:=K_ (hfar g20 _ (Ne.symm N19M.out) (BK BK20));replace BK19:=K_ hbk;replace HB:=K_ (hbel _ _ GE19.out (BL HB));clear hbk hfar hbel))
            obtain⟨⟨q0,q1⟩,q2,q3⟩:=ce2 BK19;rcases HPO2.out with ⟨hE,ha,hok,hxs⟩|⟨hE,hno⟩
            ·obtain rfl:=hE
             obtain rfl:=ha;have HOK2:=K_ hok;have HYS:=K_ hxs;clear hok hxs;have HALL:=K_ (show zaq l PN from ⟨by rw[HBEG.out];exact HKL.out,by rw[HBEG.out,←HPR.out];exact HOK1.out,by rw[HBEG.out,←HEN.out,←HTX.out];exact HNUM.out,by rw[←HEN.out,←HSF.out];exact HOK2.out⟩);obtain⟨B1,d1,rfl⟩:=Kd.R_slice HO1.out;obtain⟨B2,d2,rfl⟩:=Kd.R_slice HO2.out;go_upto_region 54 with (fail)
             clear q0 q1 q2 q3;refine yI (n:=13) (S:=fun w'=>w'.heap[g20]?=some (.cells PN.cs 26 (0,0))) (ds:=[]) #[false,false,false,false,false,false,false,false,false,false,false,false,false] (by kernel_rfl) rfl rfl (BK BK20) (fun _=>?_);refine jL (fun W=>W.heap[g20]?=some (.cells PN.cs 26 (0,0))∧Kd.R k80 80 W w.heap.size (fun _=>True) (.slice B1 xs.length d1) xs∧Kd.R k80 80 W w.heap.size (fun _=>True) (.slice B2 ys.length d2) ys∧W.heap[g6]?=some (.cells Z76 76 (0,0))∧W.heap[g7]?=some (.cells Z51 51 (0,0))∧W.heap[g10]?=some (.cells (qE (.slice none 0 0) (.slice none 0 0) jQ at_ pad 0) 76 (0,0))∧Below w.heap.size w W) ⟨BK BK20,RB HO1.out,RB HO2.out,BK BK6,BK BK7,BK BK10,BL HB⟩ ?_;clear HO1 HO2 BK6 BK7 BK10 HB;rintro W ⟨hHeld,ho1,ho2,hb6,hb7,hb10,hbw⟩;have HO1:=K_ ho1;have HO2:=K_ ho2;have BK6:=K_ hb6;have BK7:=K_ hb7;have BK10:=K_ hb10;have HB:=K_ hbw;clear ho1 ho2 hb6 hb7 hb10 hbw;refine pw_ 0 236 (bb 13 1) ?_;refine pw_ 1 237 (bb 13 3) ?_;refine pw_ 3 239 (bb 13 11) ?_;refine pw_ 4 240 (bb 13 27) ?_;refine pw_ 5 241 (bb 13 59) ?_;refine tr_ 2 238 (bb 13 63) (PN.cs) (fun _ hs=>⟨hs⟩) Tryz.underlying26 jX hHeld ?_;refine on_ 6 none (bb 13 127) (fun K hK=>?_);have hs:W.cell? ⟨g10,0,none⟩=some (.slice none 0 0):=(zA BK10.out 0).trans rfl;have hf:=zM BK10.out 0;refine zaU (w1:=W.setCell ⟨g10,0,none⟩ (.slice B1 xs.length d1)) (by rfl) rfl (by go_simp;try rfl) ?_;refine hK.out _ _ (zS hHeld (Ne.symm N10M.out) _) (fun _=>?_);clear hK K hs hf;refine jL (fun W=>W.heap[g20]?=some (.cells PN.cs 26 (0,0))∧Kd.R k80 80 W w.heap.size (fun _=>True) (.slice B1 xs.length d1) xs∧Kd.R k80 80 W w.heap.size (fun _=>True) (.slice B2 ys.length d2) ys∧W.heap[g6]?=some (.cells Z76 76 (0,0))∧W.heap[g7]?=some (.cells Z51 51 (0,0))∧W.heap[g10]?=some (.cells (qE (.slice B1 xs.length d1) (.slice none 0 0) jQ at_ pad 0) 76 (0,0))∧Below w.heap.size w W) ⟨zS hHeld (Ne.symm N10M.out) _,Kd.R_set HO1.out BK10.out (by decide) _ _,Kd.R_set HO2.out BK10.out (by decide) _ _,zS BK6.out N6.out _,zS BK7.out N7.out _,xM BK10.out rfl,BL HB⟩ ?_
             clear HO1 HO2 BK6 BK7 BK10 HB;rintro W ⟨hHeld,ho1,ho2,hb6,hb7,hb10,hbw⟩;have HO1:=K_ ho1;have HO2:=K_ ho2;have BK6:=K_ hb6;have BK7:=K_ hb7;have BK10:=K_ hb10;have HB:=K_ hbw;clear ho1 ho2 hb6 hb7 hb10 hbw;refine pw_ 7 242 (bb 13 255) ?_;refine on_ 8 none (bb 13 511) (fun K hK=>?_);have hs:W.cell? ⟨g10,1,none⟩=some (.slice none 0 0):=(zA BK10.out 1).trans rfl;have hf:=zM BK10.out 1;refine zaU (w1:=W.setCell ⟨g10,1,none⟩ (.slice B2 ys.length d2)) (by rfl) rfl (by go_simp;try rfl) ?_;refine hK.out _ _ (zS hHeld (Ne.symm N10M.out) _) (fun _=>?_);clear hK K hs hf;refine jL (fun W=>W.heap[g20]?=some (.cells PN.cs 26 (0,0))∧Kd.R k80 80 W w.heap.size (fun _=>True) (.slice B1 xs.length d1) xs∧Kd.R k80 80 W w.heap.size (fun _=>True) (.slice B2 ys.length d2) ys∧W.heap[g6]?=some (.cells Z76 76 (0,0))∧W.heap[g7]?=some (.cells Z51 51 (0,0))∧W.heap[g10]?=some (.cells (qE (.slice B1 xs.length d1) (.slice B2 ys.length d2) jQ at_ pad 0) 76 (0,0))∧Below w.heap.size w W) ⟨zS hHeld (Ne.symm N10M.out) _,Kd.R_set HO1.out BK10.out (by decide) _ _,Kd.R_set HO2.out BK10.out (by decide) _ _,zS BK6.out N6.out _,zS BK7.out N7.out _,xM BK10.out rfl,BL HB⟩ ?_;clear HO1 HO2 BK6 BK7 BK10 HB;rintro W ⟨hHeld,ho1,ho2,hb6,hb7,hb10,hbw⟩;have HO1:=K_ ho1;have HO2:=K_ ho2;have BK6:=K_ hb6;have BK7:=K_ hb7;have BK10:=K_ hb10;have HB:=K_ hbw;clear ho1 ho2 hb6 hb7 hb10 hbw;refine pw_ 9 243 (bb 13 1023) ?_;refine on_ 10 none (bb 13 2047) (fun K hK=>?_);refine zpC (g:=g10) (cs':=qE (.slice B1 xs.length d1) (.slice B2 ys.length d2) PN at_ pad 0) 2 PN.cs BK10 ?_ rfl rfl rfl rfl rfl jX (by show 22≤25;decide) rfl rfl
             intro w8 hbk hfar hbel;refine hK.out _ _ (hfar g20 _ (Ne.symm N10M.out) hHeld) (fun _=>?_);clear hK K;refine jL (fun W=>W.heap[g20]?=some (.cells PN.cs 26 (0,0))∧Kd.R k80 80 W w.heap.size (fun _=>True) (.slice B1 xs.length d1) xs∧Kd.R k80 80 W w.heap.size (fun _=>True) (.slice B2 ys.length d2) ys∧W.heap[g6]?=some (.cells Z76 76 (0,0))∧W.heap[g7]?=some (.cells Z51 51 (0,0))∧W.heap[g10]?=some (.cells (qE (.slice B1 xs.length d1) (.slice B2 ys.length d2) PN at_ pad 0) 76 (0,0))∧Below w.heap.size w W) ⟨hfar g20 _ (Ne.symm N10M.out) hHeld,uL HO1.out BK10.out (by decide) hfar,uL HO2.out BK10.out (by decide) hfar,hfar g6 _ N6.out BK6.out,hfar g7 _ N7.out BK7.out,hbk,hbel _ _ GE10.out HB.out⟩ ?_;clear HO1 HO2 BK6 BK7 BK10 HB;rintro W ⟨hHeld,ho1,ho2,hb6,hb7,hb10,hbw⟩;have HO1:=K_ ho1;have HO2:=K_ ho2;have BK6:=K_ hb6;have BK7:=K_ hb7;have BK10:=K_ hb10;have HB:=K_ hbw;clear ho1 ho2 hb6 hb7 hb10 hbw;refine pw_ 11 244 (bb 13 4095) ?_;refine on_ 12 none (bb 13 8191) (fun K hK=>?_);have hs:W.cell? ⟨g10,24,none⟩=some (.int .i64 0):=(zA BK10.out 24).trans rfl;have hf:=zM BK10.out 24;refine zaU (w1:=W.setCell ⟨g10,24,none⟩ (.int .i64 (tx.size:Int))) (by rfl) rfl (by go_simp;try rfl) ?_;refine hK.out _ _ (zS hHeld (Ne.symm N10M.out) _) (fun _=>?_);clear hK K hs hf;refine jL (fun W=>W.heap[g20]?=some (.cells PN.cs 26 (0,0))∧Kd.R k80 80 W w.heap.size (fun _=>True) (.slice B1 xs.length d1) xs∧Kd.R k80 80 W w.heap.size (fun _=>True) (.slice B2 ys.length d2) ys∧W.heap[g6]?=some (.cells Z76 76 (0,0))∧W.heap[g7]?=some (.cells Z51 51 (0,0))∧W.heap[g10]?=some (.cells (qE (.slice B1 xs.length d1) (.slice B2 ys.length d2) PN at_ pad (tx.size:Int)) 76 (0,0))∧Below w.heap.size w W) ⟨zS hHeld (Ne.symm N10M.out) _,Kd.R_set HO1.out BK10.out (by decide) _ _,Kd.R_set HO2.out BK10.out (by decide) _ _,zS BK6.out N6.out _,zS BK7.out N7.out _,xM BK10.out rfl,BL HB⟩ ?_
             clear HO1 HO2 BK6 BK7 BK10 HB;rintro W ⟨hHeld,ho1,ho2,hb6,hb7,hb10,hbw⟩;have HO1:=K_ ho1;have HO2:=K_ ho2;have BK6:=K_ hb6;have BK7:=K_ hb7;have BK10:=K_ hb10;have HB:=K_ hbw;clear ho1 ho2 hb6 hb7 hb10 hbw;refine vF (by kernel_rfl) ?_;go_wp2_with (first
              | ((with_reducible refine zE (N:=245) rfl ?_);refine lo_ (g:=g10) (cs:=qE (.slice B1 xs.length d1) (.slice B2 ys.length d2) PN at_ pad (tx.size:Int)) _ ⟨BK BK10⟩ ?_ rfl rfl rfl Tryz.underlying76 rfl zbZ)
              | ((with_reducible refine zW (p:=6) rfl ?_);refine so_ (g:=g6) (cs:=Z76) (qE (.slice B1 xs.length d1) (.slice B2 ys.length d2) PN at_ pad (tx.size:Int)) ⟨BK BK6⟩ ?_ rfl rfl rfl rfl rfl zbZ rfl rfl;intro w9 hbk hfar hbel;replace HO1:=K_ (uL (RB HO1.out) (BK BK6) (by decide) hfar);replace HO2:=K_ (uL (RB HO2.out) (BK BK6) (by decide) hfar);replace BK7:=K_ (hfar g7 _ (Ne.symm NB.out) (BK BK7));replace BK6:=K_ hbk;replace HB:=K_ (hbel _ _ GE6.out (BL HB));clear hbk hfar hbel)
              | ((with_reducible refine zW (p:=7) rfl ?_);refine so_ (g:=g7) (cs:=Z51) Z51 ⟨BK BK7⟩ ?_ rfl rfl rfl rfl rfl qD rfl rfl;intro w9 hbk hfar hbel;replace HO1:=K_ (uL (RB HO1.out) (BK BK7) (by decide) hfar);replace HO2:=K_ (uL (RB HO2.out) (BK BK7) (by decide) hfar);replace BK6:=K_ (hfar g6 _ NB.out (BK BK6));replace BK7:=K_ hbk;replace HB:=K_ (hbel _ _ GE7.out (BL HB));clear hbk hfar hbel))
             refine bodyPost_ret (xH rfl _ _ g6 g7 76 51 (qE (.slice B1 xs.length d1) (.slice B2 ys.length d2) PN at_ pad (tx.size:Int)) Z51 (0,0) (0,0) _ _ rfl BK6.out Tryz.underlying76 rfl zbZ rfl BK7.out Tryz.underlying51 rfl qD) rfl ?_;exact⟨_,_,xs,ys,PN,at_,pad,(tx.size:Int),0,0,rfl,HO1.out,HO2.out,BL HB,fun _=>⟨HALL.out,by rw[HBEG.out,←HPR.out];exact HXS.out,by rw[←HEN.out,←HSF.out];exact HYS.out⟩,fun _ _=>rfl⟩
            have dE:(E3 !=0)=true:=by simpa using hE
            have HEV:=K_ hE;have HE:=K_ (show (∀ x∈l,x.f1=false)→(∃ P,zaq l P)→E3=0 by
             rintro _ ⟨P,h⟩;have:=h.2.2.2;rw[←HEN.out,←HSF.out,hno] at this;cases this)
            clear hE hno;go_upto_region 53 with (fail)
            clear q0 q1 q2 q3;refine yI (n:=4) (S:=fun w'=>w'.heap[g19]?=some (.cells #[.int .i64 E3,.int .i64 a3] 51 (0,0))) (ds:=[]) #[false,false,false,false] (by kernel_rfl) rfl rfl (BK BK19) (fun hHeld=>?_);refine jL (fun W=>W.heap[g19]?=some (.cells #[.int .i64 E3,.int .i64 a3] 51 (0,0))∧W.heap[g6]?=some (.cells Z76 76 (0,0))∧W.heap[g7]?=some (.cells Z51 51 (0,0))∧Below w.heap.size w W) ⟨BK BK19,BK BK6,BK BK7,BL HB⟩ ?_;clear hHeld;rintro W ⟨hHeld,hb6,hb7,hbw⟩;replace BK6:=K_ hb6;replace BK7:=K_ hb7;replace HB:=K_ hbw;clear hb6 hb7 hbw;refine pw_ 0 234 (bb 4 1) ?_;refine tr_ 1 235 (bb 4 3) (#[.int .i64 E3,.int .i64 a3]) (fun _ hs=>⟨hs⟩) Tryz.underlying51 qD hHeld ?_;refine on_ 2 none (bb 4 7) (fun K hK=>?_);refine yX (g:=g6) (cs:=Z76) Z76 BK6 ?_ rfl rfl rfl rfl rfl zbZ rfl rfl;intro w8 hbk hfar hbel;have hHeld2:=hfar g19 _ (Ne.symm N6L.out) hHeld;replace BK7:=K_ (hfar g7 _ (Ne.symm NB.out) BK7.out);replace BK6:=K_ hbk;replace HB:=K_ (hbel _ _ GE6.out HB.out);refine hK.out _ _ hHeld2 (fun _=>?_);clear hK K hbk hfar hbel;refine on_ 3 none (bb 4 15) (fun K hK=>?_);refine yX (g:=g7) (cs:=Z51) #[.int .i64 E3,.int .i64 a3] BK7 ?_ rfl rfl rfl rfl rfl qD rfl rfl;intro w9 hbk hfar hbel;have hHeld3:=hfar g19 _ (Ne.symm N7L.out) hHeld2;replace BK6:=K_ (hfar g6 _ NB.out BK6.out);replace BK7:=K_ hbk;replace HB:=K_ (hbel _ _ GE7.out HB.out);refine hK.out _ _ hHeld3 (fun _=>?_);clear hK K hbk hfar hbel;refine vF (by kernel_rfl) ?_;go_wp2_with (fail)
            (
             refine bodyPost_ret (xH rfl _ _ g6 g7 76 51 Z76 #[.int .i64 E3,.int .i64 a3] (0,0) (0,0) _ _ rfl BK6.out Tryz.underlying76 rfl zbZ rfl BK7.out Tryz.underlying51 rfl qD) rfl ?_;exact⟨_,_,[],[],jQ,0,0,0,E3,a3,rfl,Kd.R_nil _ _ _ _ _,Kd.R_nil _ _ _ _ _,BL HB,fun h=>absurd h HEV.out,HE.out⟩)
           have dE:(E2 !=0)=true:=by simpa using hE
           have HEV:=K_ hE;have HE:=K_ (show (∀ x∈l,x.f1=false)→(∃ P,zaq l P)→E2=0 by
            rintro _ ⟨P,h⟩;have:=h.2.2.1;rw[HBEG.out,←HEN.out,←HTX.out,hno] at this;cases this)
           clear hE hno;have hkl:=HKL.out;obtain⟨x9,hx9⟩:∃ x9,x9=l[k]:=⟨_,rfl⟩
           obtain⟨ad2,ea,h0,h1,h2,h3⟩:=zaQ (Kd.C_below HR.out HB.out) ((k:Nat):Int) (by omega) (by omega);rw[zcU hkl,←hx9] at h0 h1 h2 h3;simp only[Int.toNat_natCast] at h0 h1 h2 h3
           obtain rfl:=Option.some.inj ea;clear hx9 ea;have hbw:(ad.add (k * 4)).block<w.heap.size:=by
            obtain⟨ad3,ea3,h03,_⟩:=zaQ HR.out ((k:Nat):Int) (by omega) (by omega);obtain rfl:=Option.some.inj ea3;simp only[Int.toNat_natCast] at h03
            exact World.block_lt_of_cell? _ _ h03
           have hi0:(0:Int)≤(k:Int):=by omega
           have hi1:(k:Int)<(l.length:Int):=by omega
           clear q0 q1 q2 q3;go_upto_region 50 with (fail)
           have hb6:(ad.add (k * 4)).block≠g6:=Nat.ne_of_lt (Nat.lt_of_lt_of_le hbw GE6.out);have hb7:(ad.add (k * 4)).block≠g7:=Nat.ne_of_lt (Nat.lt_of_lt_of_le hbw GE7.out);go_upto_region 50 with (fail)
           refine yI (n:=11) (S:=fun w'=>w'.cell? ⟨(ad.add (k * 4)).block,(ad.add (k * 4)).off+2,none⟩=some (.int .i64 x9.f0.f2)) (ds:=[]) #[false,false,false,false,false,false,false,false,false,false,false] (by kernel_rfl) rfl rfl h2 (fun hHeld=>?_);obtain⟨W,hW⟩:∃ W,W=World.drew w9:=⟨_,rfl⟩
           rw[←hW] at hHeld ⊢;replace BK6:=K_ (show W.heap[g6]?=some (.cells Z76 76 (0,0)) by rw[hW];exact BK BK6);replace BK7:=K_ (show W.heap[g7]?=some (.cells Z51 51 (0,0)) by rw[hW];exact BK BK7);replace HB:=K_ (show Below w.heap.size w W by rw[hW];exact BL HB);clear hW h0 h1 h2 h3;refine pw_ 0 217 (bb 11 1) ?_;refine pw_ 1 218 (bb 11 3) ?_;refine pw_ 2 219 (bb 11 7) ?_;refine pw_ 3 220 (bb 11 15) ?_;refine pw_ 4 221 (bb 11 31) ?_;refine pw_ 5 222 (bb 11 63) ?_;refine pw_ 6 223 (bb 11 127) ?_;refine tw_ 7 224 (bb 11 255) hHeld ?_;refine pw_ 8 225 (bb 11 511) ?_;refine on_ 9 none (bb 11 1023) (fun K hK=>?_);refine yX (g:=g6) (cs:=Z76) Z76 BK6 ?_ rfl rfl rfl rfl rfl zbZ rfl rfl;intro w8 hbk hfar hbel;have hHeld2:=zaI hfar (p:=⟨(ad.add (k * 4)).block,(ad.add (k * 4)).off+2,none⟩) hb6 hHeld;replace BK7:=K_ (hfar g7 _ (Ne.symm NB.out) BK7.out);replace BK6:=K_ hbk;replace HB:=K_ (hbel _ _ GE6.out HB.out);refine hK.out _ _ hHeld2 (fun _=>?_);clear hK K hbk hfar hbel;refine on_ 10 none (bb 11 2047) (fun K hK=>?_);refine yX (g:=g7) (cs:=Z51) #[.int .i64 E2,.int .i64 x9.f0.f2] BK7 ?_ rfl rfl rfl rfl rfl qD rfl rfl;intro w9 hbk hfar hbel;have hHeld3:=zaI hfar (p:=⟨(ad.add (k * 4)).block,(ad.add (k * 4)).off+2,none⟩) hb7 hHeld2;replace BK6:=K_ (hfar g6 _ NB.out BK6.out);replace BK7:=K_ hbk;replace HB:=K_ (hbel _ _ GE7.out HB.out);refine hK.out _ _ hHeld3 (fun _=>?_);clear hK K hbk hfar hbel;refine vF (by kernel_rfl) ?_;go_wp2_with (fail)
           (
            refine bodyPost_ret (xH rfl _ _ g6 g7 76 51 Z76 #[.int .i64 E2,.int .i64 x9.f0.f2] (0,0) (0,0) _ _ rfl BK6.out Tryz.underlying76 rfl zbZ rfl BK7.out Tryz.underlying51 rfl qD) rfl ?_;exact⟨_,_,[],[],jQ,0,0,0,E2,x9.f0.f2,rfl,Kd.R_nil _ _ _ _ _,Kd.R_nil _ _ _ _ _,BL HB,fun h=>absurd h HEV.out,HE.out⟩)
          have dE:(E1 !=0)=true:=by simpa using hE
          have HEV:=K_ hE;have HE:=K_ (show (∀ x∈l,x.f1=false)→(∃ P,zaq l P)→E1=0 by
           rintro _ ⟨P,h⟩;have:=h.2.1;rw[HBEG.out,←HPR.out,hno] at this;cases this)
          clear hE hno;go_upto_region 47 with (fail)
          clear q0 q1 q2 q3;refine yI (n:=4) (S:=fun w'=>w'.heap[g19]?=some (.cells #[.int .i64 E1,.int .i64 a1] 51 (0,0))) (ds:=[]) #[false,false,false,false] (by kernel_rfl) rfl rfl (BK BK19) (fun hHeld=>?_);refine jL (fun W=>W.heap[g19]?=some (.cells #[.int .i64 E1,.int .i64 a1] 51 (0,0))∧W.heap[g6]?=some (.cells Z76 76 (0,0))∧W.heap[g7]?=some (.cells Z51 51 (0,0))∧Below w.heap.size w W) ⟨BK BK19,BK BK6,BK BK7,BL HB⟩ ?_;clear hHeld;rintro W ⟨hHeld,hb6,hb7,hbw⟩;replace BK6:=K_ hb6;replace BK7:=K_ hb7;replace HB:=K_ hbw;clear hb6 hb7 hbw;refine pw_ 0 208 (bb 4 1) ?_;refine tr_ 1 209 (bb 4 3) (#[.int .i64 E1,.int .i64 a1]) (fun _ hs=>⟨hs⟩) Tryz.underlying51 qD hHeld ?_;refine on_ 2 none (bb 4 7) (fun K hK=>?_);refine yX (g:=g6) (cs:=Z76) Z76 BK6 ?_ rfl rfl rfl rfl rfl zbZ rfl rfl;intro w8 hbk hfar hbel;have hHeld2:=hfar g19 _ (Ne.symm N6L.out) hHeld;replace BK7:=K_ (hfar g7 _ (Ne.symm NB.out) BK7.out);replace BK6:=K_ hbk;replace HB:=K_ (hbel _ _ GE6.out HB.out);refine hK.out _ _ hHeld2 (fun _=>?_);clear hK K hbk hfar hbel;refine on_ 3 none (bb 4 15) (fun K hK=>?_);refine yX (g:=g7) (cs:=Z51) #[.int .i64 E1,.int .i64 a1] BK7 ?_ rfl rfl rfl rfl rfl qD rfl rfl;intro w9 hbk hfar hbel;have hHeld3:=hfar g19 _ (Ne.symm N7L.out) hHeld2;replace BK6:=K_ (hfar g6 _ NB.out BK6.out);replace BK7:=K_ hbk;replace HB:=K_ (hbel _ _ GE7.out HB.out);refine hK.out _ _ hHeld3 (fun _=>?_);clear hK K hbk hfar hbel;refine vF (by kernel_rfl) ?_;go_wp2_with (fail)
          (
           refine bodyPost_ret (xH rfl _ _ g6 g7 76 51 Z76 #[.int .i64 E1,.int .i64 a1] (0,0) (0,0) _ _ rfl BK6.out Tryz.underlying76 rfl zbZ rfl BK7.out Tryz.underlying51 rfl qD) rfl ?_;exact⟨_,_,[],[],jQ,0,0,0,E1,a1,rfl,Kd.R_nil _ _ _ _ _,Kd.R_nil _ _ _ _ _,BL HB,fun h=>absurd h HEV.out,HE.out⟩)
     have hjl:=zfo hb;have HR2:=K_ (show xC vT l (j+1)=xC vT l k by rw[←zkz hb];exact HRun.out);clear hb;go_wp2
     go_roundw
     case rel=>exact⟨j+1,by omega,by omega,by go_num,HR2.out,BK BK6,BK BK7,BL HB⟩
     case measure=>simp[intOf];omega
  obtain rfl:k=l.length:=by omega
  have dlt:decide ((l.length:Int)<(l.length:Int))=false:=decide_eq_false (by omega);have HE:=K_ (show (∀ x∈l,x.f1=false)→(∃ P,zaq l P)→(4:Int)=0 by
   rintro _ ⟨P,h⟩;have:=h.1;rw[←HRun.out,zjP (Nat.le_refl _)] at this;omega)
  go_upto_if 40 with (fail)
  (
   go_wp2_with (first
    | ((with_reducible refine zW (p:=6) rfl ?_);refine so_ (g:=g6) (cs:=Z76) Z76 ⟨BK BK6⟩ ?_ rfl rfl rfl rfl rfl zbZ rfl rfl;intro w9 hbk hfar hbel;replace BK7:=K_ (hfar g7 _ (Ne.symm (Aside0.out NB)) (BK BK7));replace BK6:=K_ hbk;replace HB:=K_ (hbel _ _ GE6.out (BL HB));clear hbk hfar hbel)
    | ((with_reducible refine zW (p:=7) rfl ?_);refine so_ (g:=g7) (cs:=Z51) #[.int .i64 4,.int .i64 b0] ⟨BK BK7⟩ ?_ rfl rfl rfl rfl rfl qD rfl rfl;intro w9 hbk hfar hbel;replace BK6:=K_ (hfar g6 _ (Aside0.out NB) (BK BK6));replace BK7:=K_ hbk;replace HB:=K_ (hbel _ _ GE7.out (BL HB));clear hbk hfar hbel))
   refine bodyPost_ret (xH rfl _ _ g6 g7 76 51 Z76 #[.int .i64 4,.int .i64 b0] (0,0) (0,0) _ _ rfl BK6.out Tryz.underlying76 rfl zbZ rfl BK7.out Tryz.underlying51 rfl qD) rfl ?_;exact⟨_,_,[],[],jQ,0,0,0,4,b0,rfl,Kd.R_nil _ _ _ _ _,Kd.R_nil _ _ _ _ _,BL HB,fun h=>absurd h (by decide),HE.out⟩)
section
section
variable {P:Program} {ops:Array Oper} {rest:List Oper} {o:Oper} {a:Act} {Q:Exit→Act→World→Prop}
theorem zqI {W:World} (N:Tmp) (n:Nat) (cs:Array Value) (t:TypeId) (h:∀ g,g=W.heap.size→∀ w1,w1.heap[g]?=some (.cells cs t (0,0))→Below W.heap.size W w1→wpList P ops Q rest (a.put o.dst (.slice (some ⟨g,0,none⟩) n n)) w1)
  (hd:o.dst=some N:=by with_reducible rfl) (hgd:o.guard=none:=by rfl) (hrun:(execOp a.eval o).run P W=.ok (.value (.slice (some ⟨W.heap.size,0,none⟩) n n)) (W.alloc (.cells cs t (0,0))):=by (first|(go_simp;done)|(go_simp;rfl))):wpList P ops Q (o :: rest) a W:=
 Kd.event_run hgd hrun (h _ rfl _ (zcl W _) (yC (Below.refl _ _) _))
end
theorem zpQ {l:List S80} {k:Nat} (h:k<l.length):qP l (k:Int)=l[k]:=by unfold qP;rw[Int.toNat_natCast,List.getD_eq_getElem?_getD,List.getElem?_eq_getElem h];rfl
theorem zms {a:Int} {l:List S80} {j:Nat} (h:j<l.length):zbw a (l.take (j+1))=zbw a (l.take j)+if l[j].f0=a then 1 else 0:=by
 unfold zbw;rw[List.take_succ_eq_append_getElem h,List.countP_append,List.countP_cons,List.countP_nil,Nat.zero_add];congr 1
 by_cases e:l[j].f0=a
 ·rw[if_pos e,if_pos (by simpa using e)]
 rw[if_neg e,if_neg (by simpa using e)]
theorem zkQ (a:Int) (l:List S80):zbw a l≤l.length:=List.countP_le_length
def zda (a:Int) (L:List PL) (k:Nat):Nat:=((L.take k).map fun x=>zbw a x.l).sum
theorem zit {a:Int} {L:List PL} {k:Nat} (h:k<L.length):zda a L (k+1)=zda a L k+zbw a (yV L k).l:=by
 unfold zda;rw[zfr h];simp
theorem zkC {a:Int} {L:List PL} (hl:∀ k,k<L.length→(yV L k).l.length≤1000):∀ k,k≤L.length→zda a L k≤1000 * k
 | 0,_=>by simp[zda]
 | k+1,h=>by have:=zkC (a:=a) hl k (by omega);have:=hl k (by omega);have:=zkQ a (yV L k).l;rw[zit (by omega)];omega
set_option maxHeartbeats 4000000 in
set_option maxRecDepth 100000 in
theorem zeD (q:Pat) (kd:Int) (w:World) (h0:Kd.C k80 w q.A0 q.l0.length q.l0) (h1:Kd.C k80 w q.A1 q.l1.length q.l1) (h3:Kd.C k80 w q.A3 q.l3.length q.l3) (h4:Kd.C k80 w q.A4 q.l4.length q.l4)
  (s0:q.l0.length≤1000) (s1:q.l1.length≤1000) (s3:q.l3.length≤1000) (s4:q.l4.length≤1000) :
  Calls Tryz.prog 53 #[.agg q.cs,.int .i64 kd] w fun e w'=>e=.returned (.int .i64 ((sgn kd q.l0 q.l1 q.l3 q.l4:Nat):Int))∧Below w.heap.size w w':=by
 have HB:=K_ (Below.refl w.heap.size w);obtain⟨L,hL⟩:∃ L:List PL,L=[⟨q.A0,q.c0,q.l0⟩,⟨q.A1,q.c1,q.l1⟩,⟨q.A3,q.c3,q.l3⟩,⟨q.A4,q.c4,q.l4⟩]:=⟨_,rfl⟩
 have hk:∀ k,k<4→(k=0∧yV L k=⟨q.A0,q.c0,q.l0⟩)∨(k=1∧yV L k=⟨q.A1,q.c1,q.l1⟩)∨(k=2∧yV L k=⟨q.A3,q.c3,q.l3⟩)∨(k=3∧yV L k=⟨q.A4,q.c4,q.l4⟩):=by
  intro k hk;rw[hL]
  match k,hk with
  | 0,_=>exact .inl ⟨rfl,rfl⟩
  | 1,_=>exact .inr (.inl ⟨rfl,rfl⟩)
  | 2,_=>exact .inr (.inr (.inl ⟨rfl,rfl⟩))
  | 3,_=>exact .inr (.inr (.inr ⟨rfl,rfl⟩))
 have hlen:∀ k,k<L.length→(yV L k).l.length≤1000:=by
  intro k h;rcases hk k (by rw[hL] at h;exact h) with ⟨_,e⟩|⟨_,e⟩|⟨_,e⟩|⟨_,e⟩ <;> rw[e] <;> assumption
 have HR:=K_ (show ∀ k,k<4→Kd.C k80 w (yV L k).A (yV L k).l.length (yV L k).l∧(yV L k).l.length≤1000∧zda kd L (k+1)=zda kd L k+zbw kd (yV L k).l∧zda kd L k≤4000 from fun k h=>by
  have hl:L.length=4:=by rw[hL];rfl
  refine⟨?_,hlen k (by omega),zit (by omega),by have:=zkC (a:=kd) hlen k (by omega);omega⟩;rcases hk k h with ⟨_,e⟩|⟨_,e⟩|⟨_,e⟩|⟨_,e⟩ <;> rw[e] <;> assumption)
 have HT:=K_ (show zda kd L 4=sgn kd q.l0 q.l1 q.l3 q.l4 by rw[hL];unfold zda sgn;simp;omega);have HK:=K_ hk;clear hL hk hlen h0 h1 h3 h4;go_enter Tryz.func53,Tryz.ntmps53
 go_upto_region 2 with ((with_reducible refine zE (N:=2) rfl ?_);refine bx_ 2 q.cs 26 ?_ rfl rfl rfl rfl rfl;intro g2 hg w2 hbox hb;have BK2:=K_ hbox;replace HB:=zF HB hb;clear hb hbox hg)
 have e0:w2.cell? ⟨g2,0,none⟩=some (.slice q.A0 q.l0.length q.c0):=(zA BK2.out 0).trans rfl;have e1:w2.cell? ⟨g2,1,none⟩=some (.slice q.A1 q.l1.length q.c1):=(zA BK2.out 1).trans rfl;have e3:w2.cell? ⟨g2,3,none⟩=some (.slice q.A3 q.l3.length q.c3):=(zA BK2.out 3).trans rfl;have e4:w2.cell? ⟨g2,4,none⟩=some (.slice q.A4 q.l4.length q.c4):=(zA BK2.out 4).trans rfl;go_wp2_with ((with_reducible refine zE (N:=17) rfl ?_);refine zqI 17 4 #[.slice q.A0 q.l0.length q.c0,.slice q.A1 q.l1.length q.c1,.slice q.A3 q.l3.length q.c3,.slice q.A4 q.l4.length q.c4] 24 ?_;intro g17 hg w3 hbox hb;have BK17:=K_ hbox;replace HB:=zF HB hb;clear hb hbox hg)
 clear e0 e1 e3 e4;have HC:=K_ (show ∀ k,k<4→w3.cell? ⟨g17,k,none⟩=some (.slice (yV L k).A (yV L k).l.length (yV L k).c) from fun k h=>by
  rcases HK.out k h with ⟨rfl,e⟩|⟨rfl,e⟩|⟨rfl,e⟩|⟨rfl,e⟩ <;> rw[e] <;> exact (zA BK17.out _).trans rfl)
 go_loop [5,19] (fun n i=>∃ j:Nat,j≤4∧i=.int .i64 j∧n=.int .i64 (zda kd L j)) (fun _ i=>4-(intOf i).toNat)
 case atStart=>exact⟨0,by omega,rfl,rfl⟩
 case round =>
  obtain⟨j,hj,rfl,rfl⟩:=hrel;by_cases hlt:j<4
  ·have hc:=HC.out j hlt
   obtain⟨hq,hql,hqs,hqt⟩:=HR.out j hlt;have HQS:=K_ hqs;have HQ:=K_ (Kd.C_below hq HB.out);have dlt:decide ((j:Int)<4)=true:=decide_eq_true (by omega);clear hq hqs;go_wp2
   go_loop [5,8] (fun n i=>∃ t:Nat,t≤(yV L j).l.length∧i=.int .i64 t∧n=.int .i64 ((zda kd L j+zbw kd ((yV L j).l.take t):Nat):Int)) (fun _ i=>(yV L j).l.length-(intOf i).toNat)
   case atStart=>exact⟨0,by omega,rfl,by rw[List.take_zero];rfl⟩
   case round =>
    obtain⟨t,ht,rfl,rfl⟩:=hrel;by_cases htl:t<(yV L j).l.length
    ·obtain⟨x,hx⟩:∃ x,x=(yV L j).l[t]:=⟨_,rfl⟩
     obtain⟨ad,ea,hx0,hx1⟩:=zjl HQ.out (t:Int) (by omega) (by omega);rw[zpQ htl,←hx] at hx0 hx1;simp only[Int.toNat_natCast] at hx0 hx1
     have HA:=K_ ea;have hs:=zms (a:=kd) htl;rw[←hx] at hs;have HS:=K_ hs;have hb:zbw kd ((yV L j).l.take t)≤1000:=Nat.le_trans (zkQ _ _) (by rw[List.length_take];omega);have dt:decide ((t:Int)<((yV L j).l.length:Int))=true:=decide_eq_true (by omega);clear hs hx;rw[ea] at hc;rw[HA.out];by_cases hk:x.f0=kd
     ·have dk:(x.f0==kd)=true:=beq_iff_eq.2 hk
      have HS2:=K_ (show zbw kd ((yV L j).l.take (t+1))=zbw kd ((yV L j).l.take t)+1 by rw[HS.out,if_pos hk]);clear hk;go_wp2
      go_round
      case rel=>exact⟨t+1,by omega,by go_num,by rw[HS2.out];go_num⟩
      case measure=>simp[intOf];omega
     have dk:(x.f0==kd)=false:=beq_eq_false_iff_ne.2 hk;have HS2:=K_ (show zbw kd ((yV L j).l.take (t+1))=zbw kd ((yV L j).l.take t) by rw[HS.out,if_neg hk,Nat.add_zero]);clear hk;go_wp2
     go_round
     case rel=>exact⟨t+1,by omega,by go_num,by rw[HS2.out]⟩
     case measure=>simp[intOf];omega
    obtain rfl:t=(yV L j).l.length:=by omega
    have dt:decide (((yV L j).l.length:Int)<((yV L j).l.length:Int))=false:=decide_eq_false (by omega);go_wp2
    go_round
    case rel=>exact⟨j+1,by omega,by go_num,by rw[HQS.out,List.take_length]⟩
    case measure=>simp[intOf];omega
  obtain rfl:j=4:=by omega
  go_wp2
  go_ret
  exact⟨by rw[HT.out];rfl,HB.out⟩
theorem zez (A0 A1 A3 A4:Option Addr) (c0 c1 c3 c4:Nat) (a b c d:List S80) (hn:Bool) (P:jZ) (at_ pad wd kd:Int) (w:World) {b0:Nat} {ok:Nat→Prop}
  (h0:Kd.R k80 80 w b0 ok (.slice A0 a.length c0) a) (h1:Kd.R k80 80 w b0 ok (.slice A1 b.length c1) b) (h3:Kd.R k80 80 w b0 ok (.slice A3 c.length c3) c) (h4:Kd.R k80 80 w b0 ok (.slice A4 d.length c4) d)
  (ha:a.length≤1000) (hb:b.length≤1000) (hc:c.length≤1000) (hd:d.length≤1000) :
  Calls Tryz.prog 53 #[.agg (zas (.slice A0 a.length c0) (.slice A1 b.length c1) hn (.slice A3 c.length c3) (.slice A4 d.length c4) P at_ pad wd),.int .i64 kd] w fun e w'=>e=.returned (.int .i64 ((sgn kd a b c d:Nat):Int))∧Below w.heap.size w w':=
 zeD ⟨A0,A1,A3,A4,c0,c1,c3,c4,a,b,c,d,hn,P,at_,pad,wd⟩ kd w (Kd.R_reads' h0).2.2 (Kd.R_reads' h1).2.2 (Kd.R_reads' h3).2.2 (Kd.R_reads' h4).2.2 ha hb hc hd
end
set_option maxHeartbeats 16000000 in
set_option maxRecDepth 100000 in
theorem zlJ (s:ByteArray) (hs:s.size≤1048576) (w:World):Calls Tryz.prog 31 #[.string s] w (zod s w):=by
 obtain⟨⟨l,E1,a1⟩,hEv,h4⟩:=znC s hs;obtain⟨K0,hK0⟩:=Ev.rounds hEv;have HK:=K_ hK0;have HEV1:=K_ hEv;have H4:=K_ (show E1=0→l.length≤400 from h4);have HB:=K_ (Below.refl w.heap.size w);clear hs hEv hK0 h4;go_enter Tryz.func31,Tryz.ntmps31
 go_upto_region 2 with (first
  | ((with_reducible refine zE (N:=2) rfl ?_);refine be_ 2 Z26 26 ?_;intro g2 hg w2 hbox hb;have BK2:=K_ hbox;have GE2:=ge_ hg HB;replace HB:=zF HB hb;clear hb hbox hg)
  | ((with_reducible refine zE (N:=3) rfl ?_);refine be_ 3 Z51 51 ?_;intro g3 hg w4 hbox hb;have BK3:=K_ hbox;have GE3:=ge_ hg HB;have NB:=nb_ hg BK2;replace BK2:=zC BK2 hb;replace HB:=zF HB hb;clear hb hbox hg)
  | (go_at_call 55;refine (zG.calls K0 s l E1 a1 _ HK.out).mono ?_;rintro e9 w' ⟨v0,rfl,ho,hb⟩;have HO:=K_ (Kd.R_lower ho (zQ (BL HB)));replace HB:=zF HB hb;replace BK2:=zC BK2 hb;replace BK3:=zC BK3 hb;clear hb ho)
  | ((with_reducible refine zE (N:=5) rfl ?_);refine be_ 5 Z51 51 ?_;intro g5 hg w10 hbox hb;have BK5:=K_ hbox;have GE5:=ge_ hg HB;have N2F:=nb_ hg BK2;have N3F:=nb_ hg BK3;replace HO:=K_ (Kd.R_below (RB HO.out) hb);replace HB:=zF HB hb;replace BK2:=zC BK2 hb;replace BK3:=zC BK3 hb;clear hb hbox hg)
  | ((with_reducible refine zW (p:=5) rfl ?_);refine so_ (g:=g5) (cs:=Z51) #[.int .i64 E1,.int .i64 a1] ⟨BK BK5⟩ ?_ rfl rfl rfl rfl rfl qD rfl rfl;intro w9 hbk hfar hbel;replace HO:=K_ (uL (RB HO.out) (BK BK5) (by decide) hfar);replace BK2:=K_ (hfar g2 _ N2F.out (BK BK2));replace BK3:=K_ (hfar g3 _ N3F.out (BK BK3));replace BK5:=K_ hbk;replace HB:=K_ (hbel _ _ GE5.out (BL HB));clear hbk hfar hbel))
 obtain⟨⟨q0,q1⟩,q2,q3⟩:=ce2 BK5;by_cases hE:E1=0
 ·subst hE
  have HL:=K_ (H4.out rfl);clear H4;go_upto_region 4 with (fail)
  clear q0 q1 q2 q3;obtain⟨A1,c1,rfl⟩:=Kd.R_slice HO.out;go_wp2_with (fail)
  go_loopw [6,7] (fun v i wr=>∃ (k:Nat) (xs:List S73),k≤l.length∧i=.int .i64 k∧xs.length≤k∧Kd.R k71 71 wr w.heap.size (fun _=>True) (.slice A1 l.length c1) l∧Kd.R k73 73 wr w.heap.size (fun _=>True) v xs∧(zai l→xs=(l.take k).map mk73)∧wr.heap[g5]?=some (.cells #[.int .i64 0,.int .i64 a1] 51 (0,0))∧wr.heap[g2]?=some (.cells Z26 26 (0,0))∧wr.heap[g3]?=some (.cells Z51 51 (0,0))∧Below w.heap.size w wr) (fun _ i _=>l.length-(intOf i).toNat)
  case atStart=>exact⟨0,[],by omega,rfl,Nat.le_refl _,RB HO.out,Kd.R_nil _ _ _ _ _,fun _=>rfl,BK BK5,BK BK2,BK BK3,BL HB⟩
  case round =>
   obtain⟨k,xs,hk,rfl,hxl,ho,hz,hst,hb5,hb2,hb3,hbw⟩:=hrel;replace HO:=K_ ho;have HZ:=K_ hz;have HST:=K_ hst;replace BK5:=K_ hb5;replace BK2:=K_ hb2;replace BK3:=K_ hb3;replace HB:=K_ hbw;clear ho hz hst hb5 hb2 hb3 hbw;have hll:=HL.out;have hcl:=(Kd.R_reads' HO.out).2.1;by_cases hlt:k<l.length
   ·obtain⟨x,hx⟩:∃ x,x=l[k]:=⟨_,rfl⟩
    obtain⟨ad,ea,h0,h1,h2⟩:=zjt (Kd.R_reads' HO.out).2.2 (k:Int) (by omega) (by omega);rw[znO hlt,←hx] at h0 h1 h2;simp only[Int.toNat_natCast] at h0 h1 h2
    subst ea;have HX:=K_ hx;clear hx;have dlt:decide (((k:Nat):Int)<(l.length:Int))=true:=decide_eq_true (by omega);go_upto_region 9 with (first
     | ((with_reducible refine zE (N:=8) rfl ?_);refine be_ 8 #[.int .i32 0,.bool false,.int .i64 0,.bool false] 73 ?_;intro g8 hg w10 hbox hb;have BK8:=K_ hbox;have GE8:=ge_ hg HB;have N5E:=nb_ hg BK5;have N2E:=nb_ hg BK2;have N3E:=nb_ hg BK3;replace HZ:=K_ (Kd.R_below (Kd.R_elderB (RB HZ.out) g8 (Nat.le_of_eq hg.symm)) hb);replace HO:=K_ (Kd.R_below (RB HO.out) hb);replace HB:=zF HB hb;replace BK2:=zC BK2 hb;replace BK3:=zC BK3 hb;replace BK5:=zC BK5 hb;clear hb hbox hg)
     | ((with_reducible refine zW (p:=8) rfl ?_);refine so_ (g:=g8) (cs:=#[.int .i32 0,.bool false,.int .i64 0,.bool false]) #[.int .i32 x.f0,.bool x.f1,.int .i64 x.f2,.bool false] ⟨BK BK8⟩ ?_ rfl rfl rfl rfl rfl zjj rfl rfl;intro w9 hbk hfar hbel;replace BK5:=K_ (hfar g5 _ N5E.out (BK BK5));replace BK2:=K_ (hfar g2 _ N2E.out (BK BK2));replace BK3:=K_ (hfar g3 _ N3E.out (BK BK3));replace HO:=K_ (uL (RB HO.out) (BK BK8) (by decide) hfar);replace HZ:=K_ (zos (ok:=fun q=>True∧q≠g8) (RB HZ.out) (fun q hq=>hq.2) hfar);replace BK8:=K_ hbk;replace HB:=K_ (hbel _ _ GE8.out (BL HB));clear hbk hfar hbel))
    obtain⟨A3,c3,rfl⟩:=Kd.R_slice HZ.out;cases hstar:zaF (mk73 x) 42
    ·have HC:∀ W,Aside0 (Calls Tryz.prog 56 #[.agg #[.int .i32 x.f0,.bool x.f1,.int .i64 x.f2,.bool false],.int .i32 42] W fun e w'=>e=.returned (.bool false)∧Below W.heap.size W w'):=fun W=>⟨by have h:=zbX (mk73 x) 42 W;rw[hstar] at h;exact h⟩
     have HST2:=K_ (show zai l→xs++[mk73 x]=(l.take (k+1)).map mk73 from fun h=>by rw[zpj hlt,←HX.out,HST.out h]);have HN5:=K_ (Kd.R_ne HZ.out BK5.out (by decide));have HN2:=K_ (Kd.R_ne HZ.out BK2.out (by decide));have HN3:=K_ (Kd.R_ne HZ.out BK3.out (by decide));have HLN:=K_ (show (xs.length+1) * 24≤140737488355328 by omega);clear hstar h0 h1 h2;go_wp2_with (first
      | ((with_reducible refine zE (N:=37) rfl ?_);refine lo_ (g:=g8) (cs:=#[.int .i32 x.f0,.bool x.f1,.int .i64 x.f2,.bool false]) _ ⟨BK BK8⟩ ?_ rfl rfl rfl Tryz.underlying73 rfl zjj)
      | ((with_reducible refine zE (N:=61) rfl ?_);refine lo_ (g:=g8) (cs:=#[.int .i32 x.f0,.bool x.f1,.int .i64 x.f2,.bool false]) _ ⟨BK BK8⟩ ?_ rfl rfl rfl Tryz.underlying73 rfl zjj)
      | (go_at_call 56;refine ((HC _).out).mono ?_;rintro e w' ⟨rfl,hb⟩;replace HO:=K_ (Kd.R_below (RB HO.out) hb);replace HZ:=K_ (Kd.R_below (RB HZ.out) hb);replace HB:=zF HB hb;replace BK2:=zC BK2 hb;replace BK3:=zC BK3 hb;replace BK5:=zC BK5 hb;replace BK8:=zC BK8 hb;clear hb)
      | ((with_reducible refine jH (b:=.append) (xs:=#[.tmp 60,.tmp 62]) rfl ?_);at_builtin;(refine Kd.R_append k73 (w0:=w) w.heap.size rfl (.tmp 60) (.tmp 62) 69 73 (.agg #[(.int .i32 0),(.bool false),(.int .i64 0),(.bool false)]) 24 rfl Tryz.underlying69 zjr rfl (by decide) (by omega) (.slice A3 xs.length c3) xs (mk73 x) [.int .i32 x.f0,.bool x.f1,.int .i64 x.f2,.bool false] (fun q=>True∧q≠g8) (fun _=>False) rfl (by first|(go_simp;done)|(go_simp;rfl)) (zkw _ _ _ (mk73 x)) (fun _ hk=>hk.elim) ?aF ?aO ?aB ?aS ?aL ?_;(case aF=>exact fun q hq=>⟨trivial,fun he=>absurd (zcP (BK BK8)) (Nat.not_lt.2 (he ▸ hq))⟩);(case aO=>exact RB HZ.out);(case aB=>exact BL HB);(case aS=>exact zQ (BL HB));(case aL=>exact HLN.out);intro v1 w5 ho2 hb2 hg2 hat2;have HO3:=K_ (Kd.R_mono (ok':=fun _=>True) ho2 (fun _ _=>trivial));replace HO:=K_ (Kd.R_over (RB HO.out) (RB HZ.out) (by decide) hg2);have BK5a:=K_ (vC (BK BK5) hg2 HN5.out);have BK2a:=K_ (vC (BK BK2) hg2 HN2.out);have BK3a:=K_ (vC (BK BK3) hg2 HN3.out);replace HB:=K_ hb2;clear ho2 hb2 hg2 hat2)))
     go_roundw
     case rel=>exact⟨k+1,xs++[mk73 x],by omega,by go_num,by rw[List.length_append];simp;omega,RB HO.out,RB HO3.out,HST2.out,BK BK5a,BK BK2a,BK BK3a,BL HB⟩
     case measure=>simp[intOf];omega
    have HC:∀ W,Aside0 (Calls Tryz.prog 56 #[.agg #[.int .i32 x.f0,.bool x.f1,.int .i64 x.f2,.bool false],.int .i32 42] W fun e w'=>e=.returned (.bool true)∧Below W.heap.size W w'):=fun W=>⟨by have h:=zbX (mk73 x) 42 W;rw[hstar] at h;exact h⟩
    have HNS:=K_ (show zai l→False from fun h=>by have:=h l[k] (List.getElem_mem hlt);rw[←HX.out,hstar] at this;cases this);clear hstar h0 h1 h2;go_upto_region 10 with (first
     | ((with_reducible refine zE (N:=37) rfl ?_);refine lo_ (g:=g8) (cs:=#[.int .i32 x.f0,.bool x.f1,.int .i64 x.f2,.bool false]) _ ⟨BK BK8⟩ ?_ rfl rfl rfl Tryz.underlying73 rfl zjj)
     | (go_at_call 56;refine ((HC _).out).mono ?_;rintro e w' ⟨rfl,hb⟩;replace HO:=K_ (Kd.R_below (RB HO.out) hb);replace HZ:=K_ (Kd.R_below (RB HZ.out) hb);replace HB:=zF HB hb;replace BK2:=zC BK2 hb;replace BK3:=zC BK3 hb;replace BK5:=zC BK5 hb;replace BK8:=zC BK8 hb;clear hb))
    have hwk:IntKind.i64.wrap ((k:Int)+1)=(k:Int)+1:=by rw[IntKind.wrap_i64];omega
    by_cases hl1:k+1=l.length
    ·have de:((k:Int)+1==(l.length:Int))=true:=beq_iff_eq.2 (by omega)
     go_upto_region 11 with (fail)
     have HEV:=K_ (show (7:Int)≠0 by decide);have HE:=K_ (show ∀ l',Ev (fun k=>zG.f k s) (l',0,0)→zai l'→zaN l'→∀ P0,zaq (l'.map mk73) P0→¬ mixed (jM (uO (l'.map mk73) (qK (l'.map mk73)) l'.length)) (jM (uN (l'.map mk73) (qF (l'.map mk73)) l'.length)) (⟨2,0⟩ :: jM (uO (l'.map mk73) (qK (l'.map mk73)) l'.length)) (jM (uN (l'.map mk73) (qF (l'.map mk73)) l'.length))→False from fun l' h1 hns _ _ _ _=>(HNS.out (by have e:=zej h1 HEV1.out;have e2:l'=l:=congrArg (fun r=>r.1) e;rw[←e2];exact hns)));refine yI (n:=7) (S:=fun w'=>w'.cell? ⟨g8,2,none⟩=some (.int .i64 x.f2)) (ds:=[]) #[false,false,false,false,false,false,false] (by kernel_rfl) rfl rfl ((zA (BK BK8) 2).trans rfl) (fun hHeld=>?_);refine jL (fun W=>W.cell? ⟨g8,2,none⟩=some (.int .i64 x.f2)∧W.heap[g2]?=some (.cells Z26 26 (0,0))∧W.heap[g3]?=some (.cells Z51 51 (0,0))∧Below w.heap.size w W) ⟨((zA (BK BK8) 2).trans rfl),BK BK2,BK BK3,BL HB⟩ ?_;clear hHeld;rintro W ⟨hHeld,hb2,hb3,hbw⟩;replace BK2:=K_ hb2;replace BK3:=K_ hb3;replace HB:=K_ hbw;clear hb2 hb3 hbw;refine pw_ 0 44 (bb 7 1) ?_;refine pw_ 1 45 (bb 7 3) ?_;refine pw_ 2 46 (bb 7 7) ?_;refine tw_ 3 47 (bb 7 15) hHeld ?_;refine pw_ 4 48 (bb 7 31) ?_;refine on_ 5 none (bb 7 63) (fun K hK=>?_);refine yX (g:=g2) (cs:=Z26) Z26 BK2 ?_ rfl rfl rfl rfl rfl jX rfl rfl;intro w8 hbk hfar hbel;have hHeld2:=zaI hfar (p:=⟨g8,2,none⟩) (Ne.symm N2E.out) hHeld;replace BK3:=K_ (hfar g3 _ (Ne.symm NB.out) BK3.out);replace BK2:=K_ hbk;replace HB:=K_ (hbel _ _ GE2.out HB.out);refine hK.out _ _ hHeld2 (fun _=>?_)
     clear hK K hbk hfar hbel;refine on_ 6 none (bb 7 127) (fun K hK=>?_);refine yX (g:=g3) (cs:=Z51) #[.int .i64 7,.int .i64 x.f2] BK3 ?_ rfl rfl rfl rfl rfl qD rfl rfl;intro w9 hbk hfar hbel;have hHeld3:=zaI hfar (p:=⟨g8,2,none⟩) (Ne.symm N3E.out) hHeld2;replace BK2:=K_ (hfar g2 _ NB.out BK2.out);replace BK3:=K_ hbk;replace HB:=K_ (hbel _ _ GE3.out HB.out);refine hK.out _ _ hHeld3 (fun _=>?_);clear hK K hbk hfar hbel;refine vF (by kernel_rfl) ?_;go_wp2_with (fail)
     (
      refine bodyPost_ret (xH rfl _ _ g2 g3 26 51 Z26 #[.int .i64 7,.int .i64 x.f2] (0,0) (0,0) _ _ rfl BK2.out Tryz.underlying26 rfl jX rfl BK3.out Tryz.underlying51 rfl qD) rfl ?_;exact⟨_,_,_,_,[],[],[],[],jQ,false,0,0,0,7,x.f2,rfl,Kd.R_nil _ _ _ _ _,Kd.R_nil _ _ _ _ _,Kd.R_nil _ _ _ _ _,Kd.R_nil _ _ _ _ _,BL HB,fun h=>absurd h HEV.out,fun l' h1 h2 h3 P0 h4 h5=>(HE.out l' h1 h2 h3 P0 h4 h5).elim⟩)
    have de:((k:Int)+1==(l.length:Int))=false:=beq_eq_false_iff_ne.2 (by omega);obtain⟨⟨c0,c1',c2,c3'⟩,f0,f1,f2,f3⟩:=ce4 BK8;have hlt2:k+1<l.length:=by omega
    obtain⟨ad2,ea,h0,h1,h2⟩:=zjt (Kd.R_reads' HO.out).2.2 ((k+1:Nat):Int) (by omega) (by omega);obtain⟨y,hy⟩:∃ y,y=l[k+1]:=⟨_,rfl⟩
    rw[znO hlt2,←hy] at h0 h1 h2;simp only[Int.toNat_natCast] at h0 h1 h2
    obtain rfl:=Option.some.inj ea;have hn1:((k:Int)+1).toNat=k+1:=by omega
    have H8:=K_ (Kd.R_ne HO.out BK8.out (by decide));have hbn:(ad.add ((k+1) * 3)).block≠g8:=by
     rw[zdO];intro e;exact H8.out (by simp[Value.ownBlock,e])
    have hfar2:∀ (W:World) j v,(W.setCell ⟨g8,j,none⟩ v).cell? (ad.add ((k+1) * 3))=W.cell? (ad.add ((k+1) * 3)):=fun W j v=>yT hbn v
    have hi0:(0:Int)≤(k:Int)+1:=by omega
    have hi1:(k:Int)+1<(l.length:Int):=by omega
    clear hy ea h1 h2;go_upto_region 14 with (fail)
    have hfar:∀ k o,k≠g8→w'.heap[k]?=some o→((w'.setCell ⟨g8,3,none⟩ (.bool true)).setCell ⟨g8,0,none⟩ (.int .i32 y.f0)).heap[k]?=some o:=fun k o hk e=>(Below.heap_setCell _ _ _ _ hk).trans ((Below.heap_setCell _ _ _ _ hk).trans e)
    refine zbO (fun W=>Kd.R k71 71 W w.heap.size (fun _=>True) (.slice (some ad) l.length c1) l∧Kd.R k73 73 W w.heap.size (fun q=>True∧q≠g8) (.slice A3 xs.length c3) xs∧W.heap[g5]?=some (.cells #[.int .i64 0,.int .i64 a1] 51 (0,0))∧W.heap[g2]?=some (.cells Z26 26 (0,0))∧W.heap[g3]?=some (.cells Z51 51 (0,0))∧W.heap[g8]?=some (.cells #[.int .i32 y.f0,.bool x.f1,.int .i64 x.f2,.bool true] 73 (0,0))∧Below w.heap.size w W) ⟨uL (RB HO.out) (BK BK8) (by decide) hfar,zos (ok:=fun q=>True∧q≠g8) (RB HZ.out) (fun q hq=>hq.2) hfar,hfar g5 _ N5E.out (BK BK5),hfar g2 _ N2E.out (BK BK2),hfar g3 _ N3E.out (BK BK3),BP BK8,BL HB⟩ ?_;clear hfar HO HZ BK5 BK2 BK3 BK8 HB f0 f1 f2 f3 c0 c1' c2 c3' H8 hbn hfar2 h0;rintro W ⟨ho,hz,hb5,hb2,hb3,hb8,hbw⟩;have HO:=K_ ho;have HZ:=K_ hz;have BK5:=K_ hb5;have BK2:=K_ hb2;have BK3:=K_ hb3;have BK8:=K_ hb8;have HB:=K_ hbw;clear ho hz hb5 hb2 hb3 hb8 hbw;have HN5:=K_ (Kd.R_ne HZ.out BK5.out (by decide));have HN2:=K_ (Kd.R_ne HZ.out BK2.out (by decide));have HN3:=K_ (Kd.R_ne HZ.out BK3.out (by decide));have HLN:=K_ (show (xs.length+1) * 24≤140737488355328 by omega);go_wp2_with (first
     | ((with_reducible refine zE (N:=61) rfl ?_);refine lo_ (g:=g8) (cs:=#[.int .i32 y.f0,.bool x.f1,.int .i64 x.f2,.bool true]) _ ⟨BK BK8⟩ ?_ rfl rfl rfl Tryz.underlying73 rfl zjj)
     | ((with_reducible refine jH (b:=.append) (xs:=#[.tmp 60,.tmp 62]) rfl ?_);at_builtin;(refine Kd.R_append k73 (w0:=w) w.heap.size rfl (.tmp 60) (.tmp 62) 69 73 (.agg #[(.int .i32 0),(.bool false),(.int .i64 0),(.bool false)]) 24 rfl Tryz.underlying69 zjr rfl (by decide) (by omega) (.slice A3 xs.length c3) xs (⟨⟨y.f0,x.f1,x.f2⟩,true⟩:S73) [.int .i32 y.f0,.bool x.f1,.int .i64 x.f2,.bool true] (fun q=>True∧q≠g8) (fun _=>False) rfl (by first|(go_simp;done)|(go_simp;rfl)) (zkw _ _ _ (⟨⟨y.f0,x.f1,x.f2⟩,true⟩:S73)) (fun _ hk=>hk.elim) ?aF ?aO ?aB ?aS ?aL ?_;(case aF=>exact fun q hq=>⟨trivial,fun he=>absurd (zcP (BK BK8)) (Nat.not_lt.2 (he ▸ hq))⟩);(case aO=>exact RB HZ.out);(case aB=>exact BL HB);(case aS=>exact zQ (BL HB));(case aL=>exact HLN.out);intro v1 w5 ho2 hb2 hg2 hat2;have HO3:=K_ (Kd.R_mono (ok':=fun _=>True) ho2 (fun _ _=>trivial));replace HO:=K_ (Kd.R_over (RB HO.out) (RB HZ.out) (by decide) hg2);have BK5a:=K_ (vC (BK BK5) hg2 HN5.out);have BK2a:=K_ (vC (BK BK2) hg2 HN2.out);have BK3a:=K_ (vC (BK BK3) hg2 HN3.out);replace HB:=K_ hb2;clear ho2 hb2 hg2 hat2)))
    go_roundw
    case rel=>exact⟨k+2,xs++[(⟨⟨y.f0,x.f1,x.f2⟩,true⟩:S73)],by omega,by go_num,by rw[List.length_append];simp;omega,RB HO.out,RB HO3.out,fun h=>(HNS.out h).elim,BK BK5a,BK BK2a,BK BK3a,BL HB⟩
    case measure=>simp[intOf];omega
   obtain rfl:k=l.length:=by omega
   have dlt:decide ((l.length:Int)<(l.length:Int))=false:=decide_eq_false (by omega);have HXS:=K_ (show zai l→xs=l.map mk73 from fun h=>by have:=HST.out h;rw[List.take_length] at this;exact this);have hxl2:xs.length≤400:=by omega
   obtain⟨A3,c3,rfl⟩:=Kd.R_slice HZ.out;clear hll hcl HST HL;go_wp2_with (fail)
   clear HO;go_loopw [9,10] (fun m i wr=>∃ (j:Nat) (sm:Int),j≤xs.length∧i=.int .i64 j∧m=.int .i64 sm∧(sm=-1∨(0≤sm∧sm<j))∧(zai l→zaN l→sm=-1)∧Kd.R k73 73 wr w.heap.size (fun _=>True) (.slice A3 xs.length c3) xs∧wr.heap[g5]?=some (.cells #[.int .i64 0,.int .i64 a1] 51 (0,0))∧wr.heap[g2]?=some (.cells Z26 26 (0,0))∧wr.heap[g3]?=some (.cells Z51 51 (0,0))∧Below w.heap.size w wr) (fun _ i _=>xs.length-(intOf i).toNat)
   case atStart=>exact⟨0,-1,Nat.zero_le _,rfl,rfl,.inl rfl,fun _ _=>rfl,RB HZ.out,BK BK5,BK BK2,BK BK3,BL HB⟩
   case round =>
    obtain⟨j,sm,hj,rfl,rfl,hsm,hns,hz,hb5,hb2,hb3,hbw⟩:=hrel;replace HZ:=K_ hz;have HNS:=K_ hns;have HSM:=K_ hsm;replace BK5:=K_ hb5;replace BK2:=K_ hb2;replace BK3:=K_ hb3;replace HB:=K_ hbw;clear hz hns hsm hb5 hb2 hb3 hbw;have hcl:=(Kd.R_reads' HZ.out).2.1;by_cases hlt:j<xs.length
    ·obtain⟨x,hx⟩:∃ x,x=xs[j]:=⟨_,rfl⟩
     obtain⟨ad,ea,h0,h1,h2,h3⟩:=zaQ (Kd.R_reads' HZ.out).2.2 (j:Int) (by omega) (by omega);rw[zcU hlt,←hx] at h0 h1 h2 h3;simp only[Int.toNat_natCast] at h0 h1 h2 h3
     have HX:=K_ hx;obtain rfl:=ea;clear hx;have dlt:decide (((j:Nat):Int)<(xs.length:Int))=true:=decide_eq_true (by omega);cases hst:zaF x 59
     ·have HC:∀ W,Aside0 (Calls Tryz.prog 56 #[.agg #[.int .i32 x.f0.f0,.bool x.f0.f1,.int .i64 x.f0.f2,.bool x.f1],.int .i32 59] W fun e w'=>e=.returned (.bool false)∧Below W.heap.size W w'):=fun W=>⟨by have h:=zbX x 59 W;rw[hst] at h;exact h⟩
      clear hst;go_wp2_with (go_at_call 56;refine ((HC _).out).mono ?_;rintro e w' ⟨rfl,hb⟩;replace HZ:=K_ (Kd.R_below (RB HZ.out) hb);replace HB:=zF HB hb;replace BK2:=zC BK2 hb;replace BK3:=zC BK3 hb;replace BK5:=zC BK5 hb;clear hb)
      go_roundw
      case rel=>exact⟨j+1,sm,by omega,by go_num,rfl,by have:=HSM.out;omega,HNS.out,RB HZ.out,BK BK5,BK BK2,BK BK3,BL HB⟩
      case measure=>simp[intOf];omega
     have HC:∀ W,Aside0 (Calls Tryz.prog 56 #[.agg #[.int .i32 x.f0.f0,.bool x.f0.f1,.int .i64 x.f0.f2,.bool x.f1],.int .i32 59] W fun e w'=>e=.returned (.bool true)∧Below W.heap.size W w'):=fun W=>⟨by have h:=zbX x 59 W;rw[hst] at h;exact h⟩
     have HNT:=K_ (show zai l→zaN l→False from fun q1 q2=>by
      have e:=HXS.out q1;have hm:x∈l.map mk73:=by rw[←e,HX.out];exact List.getElem_mem hlt
      obtain⟨t,ht,rfl⟩:=List.mem_map.1 hm;rw[q2 t ht] at hst;cases hst)
     clear hst;by_cases hs0:0≤sm
     ·have dsm:decide (0≤sm)=true:=decide_eq_true hs0
      have hlt2:=hlt;go_upto_region 22 with (go_at_call 56;refine ((HC _).out).mono ?_;rintro e w' ⟨rfl,hb⟩;replace HZ:=K_ (Kd.R_below (RB HZ.out) hb);replace HB:=zF HB hb;replace BK2:=zC BK2 hb;replace BK3:=zC BK3 hb;replace BK5:=zC BK5 hb;clear hb)
      clear h0 h1 h2 h3;obtain⟨ad2,ea,h0,h1,h2,h3⟩:=zaQ (Kd.R_reads' HZ.out).2.2 (j:Int) (by omega) (by omega);obtain rfl:=Option.some.inj ea;rw[zcU hlt,←HX.out] at h0 h1 h2 h3;simp only[Int.toNat_natCast] at h0 h1 h2 h3
      have H2:=K_ (Kd.R_ne HZ.out BK2.out (by decide));have H3:=K_ (Kd.R_ne HZ.out BK3.out (by decide));have hb2:(ad.add (j * 4)).block≠g2:=by
       rw[zdO];intro e;exact H2.out (by simp[Value.ownBlock,e])
      have hb3:(ad.add (j * 4)).block≠g3:=by
       rw[zdO];intro e;exact H3.out (by simp[Value.ownBlock,e])
      have HEV:=K_ (show (4:Int)≠0 by decide);have HE:=K_ (show ∀ l',Ev (fun k=>zG.f k s) (l',0,0)→zai l'→zaN l'→∀ P0,zaq (l'.map mk73) P0→¬ mixed (jM (uO (l'.map mk73) (qK (l'.map mk73)) l'.length)) (jM (uN (l'.map mk73) (qF (l'.map mk73)) l'.length)) (⟨2,0⟩ :: jM (uO (l'.map mk73) (qK (l'.map mk73)) l'.length)) (jM (uN (l'.map mk73) (qF (l'.map mk73)) l'.length))→False from fun l' h1 hns hsm _ _ _=>(by have e:=zej h1 HEV1.out;have e2:l'=l:=congrArg (fun r=>r.1) e;rw[e2] at hns hsm;exact HNT.out hns hsm));refine yI (n:=10) (S:=fun w'=>w'.cell? ⟨(ad.add (j * 4)).block,(ad.add (j * 4)).off+2,none⟩=some (.int .i64 x.f0.f2)) (ds:=[]) #[false,false,false,false,false,false,false,false,false,false] (by kernel_rfl) rfl rfl h2 (fun hHeld=>?_);refine jL (fun W=>W.cell? ⟨(ad.add (j * 4)).block,(ad.add (j * 4)).off+2,none⟩=some (.int .i64 x.f0.f2)∧W.heap[g2]?=some (.cells Z26 26 (0,0))∧W.heap[g3]?=some (.cells Z51 51 (0,0))∧Below w.heap.size w W) ⟨h2,BK BK2,BK BK3,BL HB⟩ ?_;clear hHeld;rintro W ⟨hHeld,hb2,hb3,hbw⟩;replace BK2:=K_ hb2;replace BK3:=K_ hb3;replace HB:=K_ hbw;clear hb2 hb3 hbw;refine pw_ 0 77 (bb 10 1) ?_;refine pw_ 1 78 (bb 10 3) ?_;refine pw_ 2 79 (bb 10 7) ?_;refine pw_ 3 80 (bb 10 15) ?_;refine pw_ 4 81 (bb 10 31) ?_;refine pw_ 5 82 (bb 10 63) ?_;refine tw_ 6 83 (bb 10 127) hHeld ?_;refine pw_ 7 84 (bb 10 255) ?_;refine on_ 8 none (bb 10 511) (fun K hK=>?_);refine yX (g:=g2) (cs:=Z26) Z26 BK2 ?_ rfl rfl rfl rfl rfl jX rfl rfl;intro w8 hbk hfar hbel;have hHeld2:=zaI hfar (p:=⟨(ad.add (j * 4)).block,(ad.add (j * 4)).off+2,none⟩) hb2 hHeld
      replace BK3:=K_ (hfar g3 _ (Ne.symm NB.out) BK3.out);replace BK2:=K_ hbk;replace HB:=K_ (hbel _ _ GE2.out HB.out);refine hK.out _ _ hHeld2 (fun _=>?_);clear hK K hbk hfar hbel;refine on_ 9 none (bb 10 1023) (fun K hK=>?_);refine yX (g:=g3) (cs:=Z51) #[.int .i64 4,.int .i64 x.f0.f2] BK3 ?_ rfl rfl rfl rfl rfl qD rfl rfl;intro w9 hbk hfar hbel;have hHeld3:=zaI hfar (p:=⟨(ad.add (j * 4)).block,(ad.add (j * 4)).off+2,none⟩) hb3 hHeld2;replace BK2:=K_ (hfar g2 _ NB.out BK2.out);replace BK3:=K_ hbk;replace HB:=K_ (hbel _ _ GE3.out HB.out);refine hK.out _ _ hHeld3 (fun _=>?_);clear hK K hbk hfar hbel;refine vF (by kernel_rfl) ?_;go_wp2_with (fail)
      (
       refine bodyPost_ret (xH rfl _ _ g2 g3 26 51 Z26 #[.int .i64 4,.int .i64 x.f0.f2] (0,0) (0,0) _ _ rfl BK2.out Tryz.underlying26 rfl jX rfl BK3.out Tryz.underlying51 rfl qD) rfl ?_;exact⟨_,_,_,_,[],[],[],[],jQ,false,0,0,0,4,x.f0.f2,rfl,Kd.R_nil _ _ _ _ _,Kd.R_nil _ _ _ _ _,Kd.R_nil _ _ _ _ _,Kd.R_nil _ _ _ _ _,BL HB,fun h=>absurd h HEV.out,fun l' h1 h2 h3 P0 h4 h5=>(HE.out l' h1 h2 h3 P0 h4 h5).elim⟩)
     have dsm:decide (0≤sm)=false:=decide_eq_false hs0;go_wp2_with (go_at_call 56;refine ((HC _).out).mono ?_;rintro e w' ⟨rfl,hb⟩;replace HZ:=K_ (Kd.R_below (RB HZ.out) hb);replace HB:=zF HB hb;replace BK2:=zC BK2 hb;replace BK3:=zC BK3 hb;replace BK5:=zC BK5 hb;clear hb)
     go_roundw
     case rel=>exact⟨j+1,(j:Int),by omega,by go_num,rfl,by omega,fun h1 h2=>(HNT.out h1 h2).elim,RB HZ.out,BK BK5,BK BK2,BK BK3,BL HB⟩
     case measure=>simp[intOf];omega
    obtain rfl:j=xs.length:=by omega
    have dlt:decide ((xs.length:Int)<(xs.length:Int))=false:=decide_eq_false (by omega);have hcl:=(Kd.R_reads' HZ.out).2.1;go_upto_if 88 with (fail)
    go_cut [11] from 87 to 91 (fun v wx=>(∃ n:Nat,n≤xs.length∧(sm=-1→n=xs.length)∧v=.slice A3 n c3)∧Kd.R k73 73 wx w.heap.size (fun _=>True) (.slice A3 xs.length c3) xs∧wx.heap[g5]?=some (.cells #[.int .i64 0,.int .i64 a1] 51 (0,0))∧wx.heap[g2]?=some (.cells Z26 26 (0,0))∧wx.heap[g3]?=some (.cells Z51 51 (0,0))∧Below w.heap.size w wx)
    case first =>
     by_cases hs0:0≤sm
     ·have dsm:decide (0≤sm)=true:=decide_eq_true hs0
      obtain⟨m,hm⟩:=Int.eq_ofNat_of_zero_le hs0;have hml:m<xs.length:=by have:=HSM.out;omega
      subst hm;have q1:(0:Int)≤(m:Int):=by omega
      have q2:(m:Int)≤(c3:Int):=by omega
      have q3:m≤c3:=by omega
      have q4:((m:Int)).toNat=m:=Int.toNat_natCast _;go_wp2
      go_meet
      case rel=>exact⟨⟨m,by omega,by omega,rfl⟩,RB HZ.out,BK BK5,BK BK2,BK BK3,BL HB⟩
     have dsm:decide (0≤sm)=false:=decide_eq_false hs0;go_wp2
     go_meet
     case rel=>exact⟨⟨xs.length,Nat.le_refl _,fun _=>rfl,rfl⟩,RB HZ.out,BK BK5,BK BK2,BK BK3,BL HB⟩
    case rest =>
     obtain⟨⟨n,hn,hnx,rfl⟩,hz,hb5,hb2,hb3,hbw⟩:=hcut;replace HZ:=K_ hz;replace BK5:=K_ hb5;replace BK2:=K_ hb2;replace BK3:=K_ hb3;replace HB:=K_ hbw;have hy:=Kd.R_take hz hn;clear hz hb5 hb2 hb3 hbw;obtain⟨ys,hys⟩:∃ ys,ys=xs.take n:=⟨_,rfl⟩
     rw[←hys] at hy;obtain rfl:n=ys.length:=by rw[hys,List.length_take];omega
     have HY:=K_ hy;have EQL:=K_ (show ∀ l',Ev (fun k=>zG.f k s) (l',0,0)→l'=l from fun l' h1=>congrArg (fun r=>r.1) (zej h1 HEV1.out));have HEQ:=K_ (show zai l→zaN l→ys=l.map mk73 from fun h1 h2=>by
      have h3:=hnx (HNS.out h1 h2);rw[hys,h3,List.take_length];exact HXS.out h1)
     clear hy hys hnx;go_upto_region 28 with (first
      | (go_at_call 57;refine (zcn A3 c3 ys 0 true _ (Kd.R_reads' (RB HY.out)).2.2 (Kd.R_reads' HY.out).2.1 (by omega)).mono ?_;rintro e9 w' ⟨v1,v2,px,sx,PN,at_,pad,long,E2,a2,rfl,ho1,ho2,hb,hpost,hex⟩;obtain⟨B1,d1,rfl⟩:=Kd.R_slice ho1;obtain⟨B2,d2,rfl⟩:=Kd.R_slice ho2;have HO1:=K_ (Kd.R_lower ho1 (zQ (BL HB)));have HO2:=K_ (Kd.R_lower ho2 (zQ (BL HB)));have HPO:=K_ hpost;have HEX:=K_ hex;replace HZ:=K_ (Kd.R_below (RB HZ.out) hb);replace HB:=zF HB hb;replace BK2:=zC BK2 hb;replace BK3:=zC BK3 hb;replace BK5:=zC BK5 hb;clear hb ho1 ho2 hpost hex)
      | ((with_reducible refine zE (N:=12) rfl ?_);refine be_ 12 Z76 76 ?_;intro g12 hg w2 hbox hb;have BK12:=K_ hbox;have GE12:=ge_ hg HB;have N2L:=nb_ hg BK2;have N3L:=nb_ hg BK3;have N5L:=nb_ hg BK5;replace HZ:=K_ (Kd.R_below (RB HZ.out) hb);replace HO1:=K_ (Kd.R_below (RB HO1.out) hb);replace HO2:=K_ (Kd.R_below (RB HO2.out) hb);replace HB:=zF HB hb;replace BK2:=zC BK2 hb;replace BK3:=zC BK3 hb;replace BK5:=zC BK5 hb;clear hb hbox hg)
      | ((with_reducible refine zW (p:=12) rfl ?_);refine so_ (g:=g12) (cs:=Z76) (qE (.slice B1 px.length d1) (.slice B2 sx.length d2) PN at_ pad long) ⟨BK BK12⟩ ?_ rfl rfl rfl rfl rfl zbZ rfl rfl;intro w9 hbk hfar hbel;replace HZ:=K_ (uL (RB HZ.out) (BK BK12) (by decide) hfar);replace HO1:=K_ (uL (RB HO1.out) (BK BK12) (by decide) hfar);replace HO2:=K_ (uL (RB HO2.out) (BK BK12) (by decide) hfar);replace BK2:=K_ (hfar _ _ N2L.out (BK BK2));replace BK3:=K_ (hfar _ _ N3L.out (BK BK3));replace BK5:=K_ (hfar _ _ N5L.out (BK BK5));replace BK12:=K_ hbk;replace HB:=K_ (hbel _ _ GE12.out (BL HB));clear hbk hfar hbel)
      | ((with_reducible refine zW (p:=5) rfl ?_);refine so_ (g:=g5) (cs:=#[.int .i64 0,.int .i64 a1]) (#[.int .i64 E2,.int .i64 a2]) ⟨BK BK5⟩ ?_ rfl rfl rfl rfl rfl qD rfl rfl;intro w9 hbk hfar hbel;replace HZ:=K_ (uL (RB HZ.out) (BK BK5) (by decide) hfar);replace HO1:=K_ (uL (RB HO1.out) (BK BK5) (by decide) hfar);replace HO2:=K_ (uL (RB HO2.out) (BK BK5) (by decide) hfar);replace BK2:=K_ (hfar _ _ N2F.out (BK BK2));replace BK3:=K_ (hfar _ _ N3F.out (BK BK3));replace BK12:=K_ (hfar _ _ (Ne.symm N5L.out) (BK BK12));replace BK5:=K_ hbk;replace HB:=K_ (hbel _ _ GE5.out (BL HB));clear hbk hfar hbel))
     obtain⟨⟨q0,q1⟩,q2,q3⟩:=ce2 BK5;by_cases hE:E2=0
     ·subst hE
      have HPOK:=K_ (HPO.out rfl);clear HPO HEX;have hp1:px.length≤400:=by
       rw[HPOK.out.2.1];refine Nat.le_trans (zdI _) (Nat.le_trans (zfI _ _ _) (by omega))
      have hp2:sx.length≤400:=by
       rw[HPOK.out.2.2];refine Nat.le_trans (zdI _) (Nat.le_trans (zfD _ _ _) (by omega))
      go_upto_region 31 with (first
       | ((with_reducible refine zE (N:=103) rfl ?_);refine lm_ (g:=g12) (cs:=qE (.slice B1 px.length d1) (.slice B2 sx.length d2) PN at_ pad long) 2 PN.cs _ ⟨BK BK12⟩ ?_ rfl rfl rfl Tryz.underlying26 rfl jX (znm _ _ _ _ _ _))
       | ((with_reducible refine zE (N:=13) rfl ?_);refine be_ 13 Z26 26 ?_;intro g13 hg w3 hbox hb;have BK13:=K_ hbox;have GE13:=ge_ hg HB;have N2P:=nb_ hg BK2;have N3P:=nb_ hg BK3;have N12P:=nb_ hg BK12;replace HZ:=K_ (Kd.R_below (RB HZ.out) hb);replace HO1:=K_ (Kd.R_below (RB HO1.out) hb);replace HO2:=K_ (Kd.R_below (RB HO2.out) hb);replace HB:=zF HB hb;replace BK2:=zC BK2 hb;replace BK3:=zC BK3 hb;replace BK12:=zC BK12 hb;clear hb hbox hg)
       | ((with_reducible refine zW (p:=13) rfl ?_);refine so_ (g:=g13) (cs:=Z26) (PN.cs) ⟨BK BK13⟩ ?_ rfl rfl rfl rfl rfl jX rfl rfl;intro w9 hbk hfar hbel;replace HZ:=K_ (uL (RB HZ.out) (BK BK13) (by decide) hfar);replace HO1:=K_ (uL (RB HO1.out) (BK BK13) (by decide) hfar);replace HO2:=K_ (uL (RB HO2.out) (BK BK13) (by decide) hfar);replace BK2:=K_ (hfar _ _ N2P.out (BK BK2));replace BK3:=K_ (hfar _ _ N3P.out (BK BK3));replace BK12:=K_ (hfar _ _ N12P.out (BK BK12));replace BK13:=K_ hbk;replace HB:=K_ (hbel _ _ GE13.out (BL HB));clear hbk hfar hbel))
      clear q0 q1 q2 q3;have HEX2:=K_ True.intro;refine yI (n:=16) (S:=fun W=>W.cell? ⟨g12,0,none⟩=some (.slice B1 px.length d1)∧W.cell? ⟨g12,1,none⟩=some (.slice B2 sx.length d2)∧W.cell? ⟨g12,22,none⟩=some (.int .i64 at_)∧W.cell? ⟨g12,23,none⟩=some (.int .i32 pad)) (ds:=[]) #[false,false,false,false,false,false,false,false,false,false,false,false,false,false,false,false] (by kernel_rfl) rfl rfl ⟨(zA (BK BK12) 0).trans rfl,(zA (BK BK12) 1).trans rfl,(zA (BK BK12) 22).trans rfl,(zA (BK BK12) 23).trans rfl⟩ (fun hHeld=>?_);refine jL (fun W=>W.heap[g12]?=some (.cells (qE (.slice B1 px.length d1) (.slice B2 sx.length d2) PN at_ pad long) 76 (0,0))∧W.heap[g13]?=some (.cells (PN.cs) 26 (0,0))∧Kd.R k73 73 W w.heap.size (fun _=>True) (.slice A3 xs.length c3) xs∧Kd.R k80 80 W w.heap.size (fun _=>True) (.slice B1 px.length d1) px∧Kd.R k80 80 W w.heap.size (fun _=>True) (.slice B2 sx.length d2) sx∧W.heap[g2]?=some (.cells Z26 26 (0,0))∧W.heap[g3]?=some (.cells Z51 51 (0,0))∧Below w.heap.size w W) ⟨BK BK12,BK BK13,RB HZ.out,RB HO1.out,RB HO2.out,BK BK2,BK BK3,BL HB⟩ ?_;clear hHeld;rintro W ⟨hb12,hb13,hz,ho1,ho2,hb2,hb3,hbw⟩;replace BK12:=K_ hb12;replace BK13:=K_ hb13;replace HZ:=K_ hz;replace HO1:=K_ ho1;replace HO2:=K_ ho2;replace BK2:=K_ hb2;replace BK3:=K_ hb3;replace HB:=K_ hbw;clear hb12 hb13 hz ho1 ho2 hb2 hb3 hbw;have hHeld:=(show W.cell? ⟨g12,0,none⟩=some (.slice B1 px.length d1)∧W.cell? ⟨g12,1,none⟩=some (.slice B2 sx.length d2)∧W.cell? ⟨g12,22,none⟩=some (.int .i64 at_)∧W.cell? ⟨g12,23,none⟩=some (.int .i32 pad) from ⟨(zA BK12.out 0).trans rfl,(zA BK12.out 1).trans rfl,(zA BK12.out 22).trans rfl,(zA BK12.out 23).trans rfl⟩)
      refine pw_ 0 104 (bb 16 1) ?_;refine pw_ 2 106 (bb 16 5) ?_;refine pw_ 4 108 (bb 16 21) ?_;refine pw_ 6 110 (bb 16 85) ?_;refine tw_ 1 105 (bb 16 87) hHeld ?_;refine tw_ 3 107 (bb 16 95) hHeld ?_;refine tw_ 5 109 (bb 16 127) hHeld ?_;refine tw_ 7 111 (bb 16 255) hHeld ?_;refine pw_ 8 112 (bb 16 511) ?_;refine on_ 9 none (bb 16 1023) (fun K hK=>?_);have hs:W.cell? ⟨g13,0,none⟩=some (.slice none 0 0):=(zA BK13.out 0).trans rfl;have hf:=zM BK13.out 0;refine zaU (w1:=W.setCell ⟨g13,0,none⟩ (.slice B1 px.length d1)) (by rfl) rfl (by go_simp;try rfl) ?_;refine hK.out _ _ (show (W.setCell ⟨g13,0,none⟩ (.slice B1 px.length d1)).cell? ⟨g12,0,none⟩=some (.slice B1 px.length d1)∧(W.setCell ⟨g13,0,none⟩ (.slice B1 px.length d1)).cell? ⟨g12,1,none⟩=some (.slice B2 sx.length d2)∧(W.setCell ⟨g13,0,none⟩ (.slice B1 px.length d1)).cell? ⟨g12,22,none⟩=some (.int .i64 at_)∧(W.setCell ⟨g13,0,none⟩ (.slice B1 px.length d1)).cell? ⟨g12,23,none⟩=some (.int .i32 pad) from ⟨(zA (zS BK12.out N12P.out _) 0).trans rfl,(zA (zS BK12.out N12P.out _) 1).trans rfl,(zA (zS BK12.out N12P.out _) 22).trans rfl,(zA (zS BK12.out N12P.out _) 23).trans rfl⟩) (fun _=>?_);clear hK K hs hf hHeld;refine jL (fun W=>W.heap[g12]?=some (.cells (qE (.slice B1 px.length d1) (.slice B2 sx.length d2) PN at_ pad long) 76 (0,0))∧W.heap[g13]?=some (.cells (zas (.slice B1 px.length d1) (.slice none 0 0) false (.slice none 0 0) (.slice none 0 0) PN 0 0 0) 26 (0,0))∧Kd.R k73 73 W w.heap.size (fun _=>True) (.slice A3 xs.length c3) xs∧Kd.R k80 80 W w.heap.size (fun _=>True) (.slice B1 px.length d1) px∧Kd.R k80 80 W w.heap.size (fun _=>True) (.slice B2 sx.length d2) sx∧W.heap[g2]?=some (.cells Z26 26 (0,0))∧W.heap[g3]?=some (.cells Z51 51 (0,0))∧Below w.heap.size w W) ⟨zS BK12.out N12P.out _,xM BK13.out rfl,Kd.R_set HZ.out BK13.out (by decide) _ _,Kd.R_set HO1.out BK13.out (by decide) _ _,Kd.R_set HO2.out BK13.out (by decide) _ _,zS BK2.out N2P.out _,zS BK3.out N3P.out _,BL HB⟩ ?_
      clear BK12 BK13 HZ HO1 HO2 BK2 BK3 HB;rintro W ⟨hb12,hb13,hz,ho1,ho2,hb2,hb3,hbw⟩;have BK12:=K_ hb12;have BK13:=K_ hb13;have HZ:=K_ hz;have HO1:=K_ ho1;have HO2:=K_ ho2;have BK2:=K_ hb2;have BK3:=K_ hb3;have HB:=K_ hbw;clear hb12 hb13 hz ho1 ho2 hb2 hb3 hbw;have hHeld:=(show W.cell? ⟨g12,0,none⟩=some (.slice B1 px.length d1)∧W.cell? ⟨g12,1,none⟩=some (.slice B2 sx.length d2)∧W.cell? ⟨g12,22,none⟩=some (.int .i64 at_)∧W.cell? ⟨g12,23,none⟩=some (.int .i32 pad) from ⟨(zA BK12.out 0).trans rfl,(zA BK12.out 1).trans rfl,(zA BK12.out 22).trans rfl,(zA BK12.out 23).trans rfl⟩)
      refine pw_ 10 113 (bb 16 2047) ?_;refine on_ 11 none (bb 16 4095) (fun K hK=>?_);have hs:W.cell? ⟨g13,1,none⟩=some (.slice none 0 0):=(zA BK13.out 1).trans rfl;have hf:=zM BK13.out 1;refine zaU (w1:=W.setCell ⟨g13,1,none⟩ (.slice B2 sx.length d2)) (by rfl) rfl (by go_simp;try rfl) ?_;refine hK.out _ _ (show (W.setCell ⟨g13,1,none⟩ (.slice B2 sx.length d2)).cell? ⟨g12,0,none⟩=some (.slice B1 px.length d1)∧(W.setCell ⟨g13,1,none⟩ (.slice B2 sx.length d2)).cell? ⟨g12,1,none⟩=some (.slice B2 sx.length d2)∧(W.setCell ⟨g13,1,none⟩ (.slice B2 sx.length d2)).cell? ⟨g12,22,none⟩=some (.int .i64 at_)∧(W.setCell ⟨g13,1,none⟩ (.slice B2 sx.length d2)).cell? ⟨g12,23,none⟩=some (.int .i32 pad) from ⟨(zA (zS BK12.out N12P.out _) 0).trans rfl,(zA (zS BK12.out N12P.out _) 1).trans rfl,(zA (zS BK12.out N12P.out _) 22).trans rfl,(zA (zS BK12.out N12P.out _) 23).trans rfl⟩) (fun _=>?_);clear hK K hs hf hHeld;refine jL (fun W=>W.heap[g12]?=some (.cells (qE (.slice B1 px.length d1) (.slice B2 sx.length d2) PN at_ pad long) 76 (0,0))∧W.heap[g13]?=some (.cells (zas (.slice B1 px.length d1) (.slice B2 sx.length d2) false (.slice none 0 0) (.slice none 0 0) PN 0 0 0) 26 (0,0))∧Kd.R k73 73 W w.heap.size (fun _=>True) (.slice A3 xs.length c3) xs∧Kd.R k80 80 W w.heap.size (fun _=>True) (.slice B1 px.length d1) px∧Kd.R k80 80 W w.heap.size (fun _=>True) (.slice B2 sx.length d2) sx∧W.heap[g2]?=some (.cells Z26 26 (0,0))∧W.heap[g3]?=some (.cells Z51 51 (0,0))∧Below w.heap.size w W) ⟨zS BK12.out N12P.out _,xM BK13.out rfl,Kd.R_set HZ.out BK13.out (by decide) _ _,Kd.R_set HO1.out BK13.out (by decide) _ _,Kd.R_set HO2.out BK13.out (by decide) _ _,zS BK2.out N2P.out _,zS BK3.out N3P.out _,BL HB⟩ ?_
      clear BK12 BK13 HZ HO1 HO2 BK2 BK3 HB;rintro W ⟨hb12,hb13,hz,ho1,ho2,hb2,hb3,hbw⟩;have BK12:=K_ hb12;have BK13:=K_ hb13;have HZ:=K_ hz;have HO1:=K_ ho1;have HO2:=K_ ho2;have BK2:=K_ hb2;have BK3:=K_ hb3;have HB:=K_ hbw;clear hb12 hb13 hz ho1 ho2 hb2 hb3 hbw;have hHeld:=(show W.cell? ⟨g12,0,none⟩=some (.slice B1 px.length d1)∧W.cell? ⟨g12,1,none⟩=some (.slice B2 sx.length d2)∧W.cell? ⟨g12,22,none⟩=some (.int .i64 at_)∧W.cell? ⟨g12,23,none⟩=some (.int .i32 pad) from ⟨(zA BK12.out 0).trans rfl,(zA BK12.out 1).trans rfl,(zA BK12.out 22).trans rfl,(zA BK12.out 23).trans rfl⟩)
      refine pw_ 12 114 (bb 16 8191) ?_;refine on_ 13 none (bb 16 16383) (fun K hK=>?_);have hs:W.cell? ⟨g13,17,none⟩=some (.int .i64 0):=(zA BK13.out 17).trans rfl;have hf:=zM BK13.out 17;refine zaU (w1:=W.setCell ⟨g13,17,none⟩ (.int .i64 at_)) (by rfl) rfl (by go_simp;try rfl) ?_;refine hK.out _ _ (show (W.setCell ⟨g13,17,none⟩ (.int .i64 at_)).cell? ⟨g12,0,none⟩=some (.slice B1 px.length d1)∧(W.setCell ⟨g13,17,none⟩ (.int .i64 at_)).cell? ⟨g12,1,none⟩=some (.slice B2 sx.length d2)∧(W.setCell ⟨g13,17,none⟩ (.int .i64 at_)).cell? ⟨g12,22,none⟩=some (.int .i64 at_)∧(W.setCell ⟨g13,17,none⟩ (.int .i64 at_)).cell? ⟨g12,23,none⟩=some (.int .i32 pad) from ⟨(zA (zS BK12.out N12P.out _) 0).trans rfl,(zA (zS BK12.out N12P.out _) 1).trans rfl,(zA (zS BK12.out N12P.out _) 22).trans rfl,(zA (zS BK12.out N12P.out _) 23).trans rfl⟩) (fun _=>?_);clear hK K hs hf hHeld;refine jL (fun W=>W.heap[g12]?=some (.cells (qE (.slice B1 px.length d1) (.slice B2 sx.length d2) PN at_ pad long) 76 (0,0))∧W.heap[g13]?=some (.cells (zas (.slice B1 px.length d1) (.slice B2 sx.length d2) false (.slice none 0 0) (.slice none 0 0) PN at_ 0 0) 26 (0,0))∧Kd.R k73 73 W w.heap.size (fun _=>True) (.slice A3 xs.length c3) xs∧Kd.R k80 80 W w.heap.size (fun _=>True) (.slice B1 px.length d1) px∧Kd.R k80 80 W w.heap.size (fun _=>True) (.slice B2 sx.length d2) sx∧W.heap[g2]?=some (.cells Z26 26 (0,0))∧W.heap[g3]?=some (.cells Z51 51 (0,0))∧Below w.heap.size w W) ⟨zS BK12.out N12P.out _,xM BK13.out rfl,Kd.R_set HZ.out BK13.out (by decide) _ _,Kd.R_set HO1.out BK13.out (by decide) _ _,Kd.R_set HO2.out BK13.out (by decide) _ _,zS BK2.out N2P.out _,zS BK3.out N3P.out _,BL HB⟩ ?_
      clear BK12 BK13 HZ HO1 HO2 BK2 BK3 HB;rintro W ⟨hb12,hb13,hz,ho1,ho2,hb2,hb3,hbw⟩;have BK12:=K_ hb12;have BK13:=K_ hb13;have HZ:=K_ hz;have HO1:=K_ ho1;have HO2:=K_ ho2;have BK2:=K_ hb2;have BK3:=K_ hb3;have HB:=K_ hbw;clear hb12 hb13 hz ho1 ho2 hb2 hb3 hbw;have hHeld:=(show W.cell? ⟨g12,0,none⟩=some (.slice B1 px.length d1)∧W.cell? ⟨g12,1,none⟩=some (.slice B2 sx.length d2)∧W.cell? ⟨g12,22,none⟩=some (.int .i64 at_)∧W.cell? ⟨g12,23,none⟩=some (.int .i32 pad) from ⟨(zA BK12.out 0).trans rfl,(zA BK12.out 1).trans rfl,(zA BK12.out 22).trans rfl,(zA BK12.out 23).trans rfl⟩)
      refine pw_ 14 115 (bb 16 32767) ?_;refine on_ 15 none (bb 16 65535) (fun K hK=>?_);have hs:W.cell? ⟨g13,18,none⟩=some (.int .i32 0):=(zA BK13.out 18).trans rfl;have hf:=zM BK13.out 18;refine zaU (w1:=W.setCell ⟨g13,18,none⟩ (.int .i32 pad)) (by rfl) rfl (by go_simp;try rfl) ?_;refine hK.out _ _ (show (W.setCell ⟨g13,18,none⟩ (.int .i32 pad)).cell? ⟨g12,0,none⟩=some (.slice B1 px.length d1)∧(W.setCell ⟨g13,18,none⟩ (.int .i32 pad)).cell? ⟨g12,1,none⟩=some (.slice B2 sx.length d2)∧(W.setCell ⟨g13,18,none⟩ (.int .i32 pad)).cell? ⟨g12,22,none⟩=some (.int .i64 at_)∧(W.setCell ⟨g13,18,none⟩ (.int .i32 pad)).cell? ⟨g12,23,none⟩=some (.int .i32 pad) from ⟨(zA (zS BK12.out N12P.out _) 0).trans rfl,(zA (zS BK12.out N12P.out _) 1).trans rfl,(zA (zS BK12.out N12P.out _) 22).trans rfl,(zA (zS BK12.out N12P.out _) 23).trans rfl⟩) (fun _=>?_);clear hK K hs hf hHeld;refine jL (fun W=>W.heap[g12]?=some (.cells (qE (.slice B1 px.length d1) (.slice B2 sx.length d2) PN at_ pad long) 76 (0,0))∧W.heap[g13]?=some (.cells (zas (.slice B1 px.length d1) (.slice B2 sx.length d2) false (.slice none 0 0) (.slice none 0 0) PN at_ pad 0) 26 (0,0))∧Kd.R k73 73 W w.heap.size (fun _=>True) (.slice A3 xs.length c3) xs∧Kd.R k80 80 W w.heap.size (fun _=>True) (.slice B1 px.length d1) px∧Kd.R k80 80 W w.heap.size (fun _=>True) (.slice B2 sx.length d2) sx∧W.heap[g2]?=some (.cells Z26 26 (0,0))∧W.heap[g3]?=some (.cells Z51 51 (0,0))∧Below w.heap.size w W) ⟨zS BK12.out N12P.out _,xM BK13.out rfl,Kd.R_set HZ.out BK13.out (by decide) _ _,Kd.R_set HO1.out BK13.out (by decide) _ _,Kd.R_set HO2.out BK13.out (by decide) _ _,zS BK2.out N2P.out _,zS BK3.out N3P.out _,BL HB⟩ ?_
      clear BK12 BK13 HZ HO1 HO2 BK2 BK3 HB;rintro W ⟨hb12,hb13,hz,ho1,ho2,hb2,hb3,hbw⟩;have BK12:=K_ hb12;have BK13:=K_ hb13;have HZ:=K_ hz;have HO1:=K_ ho1;have HO2:=K_ ho2;have BK2:=K_ hb2;have BK3:=K_ hb3;have HB:=K_ hbw;clear hb12 hb13 hz ho1 ho2 hb2 hb3 hbw;have hHeld:=(show W.cell? ⟨g12,0,none⟩=some (.slice B1 px.length d1)∧W.cell? ⟨g12,1,none⟩=some (.slice B2 sx.length d2)∧W.cell? ⟨g12,22,none⟩=some (.int .i64 at_)∧W.cell? ⟨g12,23,none⟩=some (.int .i32 pad) from ⟨(zA BK12.out 0).trans rfl,(zA BK12.out 1).trans rfl,(zA BK12.out 22).trans rfl,(zA BK12.out 23).trans rfl⟩)
      refine vF (by kernel_rfl) ?_;clear hHeld;have e0:W.cell? ⟨g12,0,none⟩=some (.slice B1 px.length d1):=(zA BK12.out 0).trans rfl;have e1:W.cell? ⟨g12,1,none⟩=some (.slice B2 sx.length d2):=(zA BK12.out 1).trans rfl;have e22:W.cell? ⟨g12,22,none⟩=some (.int .i64 at_):=(zA BK12.out 22).trans rfl;have e24:W.cell? ⟨g12,24,none⟩=some (.int .i64 long):=(zA BK12.out 24).trans rfl;have s19:W.cell? ⟨g13,19,none⟩=some (.int .i64 0):=(zA BK13.out 19).trans rfl;have f19:=zM BK13.out 19;go_upto_if 118 with (fail)
      go_cut [] from 116 to 129 (fun wx=>∃ wd:Int,wx.heap[g12]?=some (.cells (qE (.slice B1 px.length d1) (.slice B2 sx.length d2) PN at_ pad long) 76 (0,0))∧wx.heap[g13]?=some (.cells (zas (.slice B1 px.length d1) (.slice B2 sx.length d2) false (.slice none 0 0) (.slice none 0 0) PN at_ pad wd) 26 (0,0))∧Kd.R k73 73 wx w.heap.size (fun _=>True) (.slice A3 xs.length c3) xs∧Kd.R k80 80 wx w.heap.size (fun _=>True) (.slice B1 px.length d1) px∧Kd.R k80 80 wx w.heap.size (fun _=>True) (.slice B2 sx.length d2) sx∧wx.heap[g2]?=some (.cells Z26 26 (0,0))∧wx.heap[g3]?=some (.cells Z51 51 (0,0))∧Below w.heap.size w wx)
      case first =>
       by_cases ha:0<at_
       ·have da:decide (0<at_)=true:=decide_eq_true ha
        go_wp2
        go_meet
        case rel=>exact⟨_,zS BK12.out N12P.out _,xM BK13.out rfl,Kd.R_set HZ.out BK13.out (by decide) _ _,Kd.R_set HO1.out BK13.out (by decide) _ _,Kd.R_set HO2.out BK13.out (by decide) _ _,zS BK2.out N2P.out _,zS BK3.out N3P.out _,BL HB⟩
       have da:decide (0<at_)=false:=decide_eq_false ha;go_wp2
       go_meet
       case rel=>exact⟨0,BK BK12,BK BK13,RB HZ.out,RB HO1.out,RB HO2.out,BK BK2,BK BK3,BL HB⟩
      case rest =>
       obtain⟨wd,hb12,hb13,hz,ho1,ho2,hb2,hb3,hbw⟩:=hcut;clear e0 e1 e22 e24 s19 f19;replace BK12:=K_ hb12;replace BK13:=K_ hb13;replace HZ:=K_ hz;replace HO1:=K_ ho1;replace HO2:=K_ ho2;replace BK2:=K_ hb2;replace BK3:=K_ hb3;replace HB:=K_ hbw;clear hb12 hb13 hz ho1 ho2 hb2 hb3 hbw;have e0:=(show wc.cell? ⟨g12,0,none⟩=some (.slice B1 px.length d1) from (zA BK12.out 0).trans rfl)
       have HLEN:=K_ (show (([⟨2,0⟩]:List S80).length+px.length) * 16≤140737488355328 by simp;omega);go_upto_region 35 with (first
        | ((with_reducible refine zE (N:=131) rfl ?_);refine Kd.R_lit k80 (w0:=w) w.heap.size 80 ?hg (N:=131) ?hd (xs:=([⟨2,0⟩]:List S80)) (inner:=[.int .i64 2,.int .i32 0]) (ok:=fun _=>True) (okp:=fun _=>True) ?hr ?hp (fun _ hk=>hk) trivial (BL HB) (zQ (BL HB)) (by simp) ?_;(case hd=>rfl);(case hg=>rfl);(case hr=>first|(go_simp;done)|(go_simp;rfl));(case hp=>exact zqd _ _ _ (⟨2,0⟩:S80));intro v5 w6 ho5 hb5 hg5 hnew;obtain⟨b5,hv5,hb5s⟩:=hnew;have hbl:=Below.grown (Below.refl _ _) hg5 (Nat.le_refl _) (fun _ h=>by cases h);replace HO1:=K_ (Kd.R_elder' (RB HO1.out) (fun k hk=>by rw[hv5] at hk;cases hk;exact hb5s) hbl);replace HO2:=K_ (Kd.R_elder' (RB HO2.out) (fun k hk=>by rw[hv5] at hk;cases hk;exact hb5s) hbl);replace HZ:=K_ (Kd.R_below (RB HZ.out) hbl);replace BK12:=zC BK12 hbl;replace BK13:=zC BK13 hbl;replace BK2:=zC BK2 hbl;replace BK3:=zC BK3 hbl;replace HB:=K_ hb5;have HO5:=K_ ho5;clear ho5 hb5 hg5 hv5 hb5s hbl e0;have e0:=(show w6.cell? ⟨g12,0,none⟩=some (.slice B1 px.length d1) from (zA BK12.out 0).trans rfl))
        | ((with_reducible refine jH (b:=.append) (xs:=#[.tmp 131,.tmp 133]) rfl ?_);at_builtin;(refine Kd.R_append_rows k80 (w0:=w) w.heap.size rfl (.tmp 131) (.tmp 133) 24 80 (.agg #[(.int .i64 0),(.int .i32 0)]) 16 rfl Tryz.underlying24 zqC rfl (by decide) (by omega) v5 ([⟨2,0⟩]:List S80) px B1 px.length d1 (fun _=>True) (fun _=>False) rfl rfl ?aO ?aR (fun _ _ h=>h) (fun _ h=>h.elim) (fun _ _=>trivial) ?aB ?aS ?aL ?_;(case aO=>exact RB HO5.out);(case aR=>exact (Kd.R_reads' HO1.out).2.2);(case aB=>exact BL HB);(case aS=>exact zQ (BL HB));(case aL=>exact HLEN.out);intro v6 w7 ho6 hb6 hg6 hat6;obtain⟨A6,c6,rfl⟩:=Kd.R_slice ho6;have HO6:=K_ ho6;replace HO1:=K_ (Kd.R_mono (ok':=fun _=>True) (Kd.R_grown HO1.out hg6 (fun k hk=>hk.2)) (fun _ _=>trivial));replace HO2:=K_ (Kd.R_mono (ok':=fun _=>True) (Kd.R_grown HO2.out hg6 (fun k hk=>hk.2)) (fun _ _=>trivial));replace HZ:=K_ (Kd.R_over HZ.out HO5.out (by decide) hg6);replace BK12:=K_ (vC BK12.out hg6 (Kd.R_ne HO5.out BK12.out (by decide)));replace BK13:=K_ (vC BK13.out hg6 (Kd.R_ne HO5.out BK13.out (by decide)));replace BK2:=K_ (vC BK2.out hg6 (Kd.R_ne HO5.out BK2.out (by decide)));replace BK3:=K_ (vC BK3.out hg6 (Kd.R_ne HO5.out BK3.out (by decide)));replace HB:=K_ hb6;clear ho6 hb6 hg6 hat6 HO5;have s3:=(show w7.cell? ⟨g13,3,none⟩=some (.slice none 0 0) from (zA BK13.out 3).trans rfl);have f3:=zM BK13.out 3)))
       refine zbO (fun W=>Kd.R k80 80 W w.heap.size (fun _=>True) (.slice A6 ([(⟨2,0⟩:S80)]++px).length c6) ([⟨2,0⟩]++px)∧W.heap[g12]?=some (.cells (qE (.slice B1 px.length d1) (.slice B2 sx.length d2) PN at_ pad long) 76 (0,0))∧W.heap[g13]?=some (.cells (zas (.slice B1 px.length d1) (.slice B2 sx.length d2) false (.slice A6 ([(⟨2,0⟩:S80)]++px).length c6) (.slice none 0 0) PN at_ pad wd) 26 (0,0))∧Kd.R k73 73 W w.heap.size (fun _=>True) (.slice A3 xs.length c3) xs∧Kd.R k80 80 W w.heap.size (fun _=>True) (.slice B1 px.length d1) px∧Kd.R k80 80 W w.heap.size (fun _=>True) (.slice B2 sx.length d2) sx∧W.heap[g2]?=some (.cells Z26 26 (0,0))∧W.heap[g3]?=some (.cells Z51 51 (0,0))∧Below w.heap.size w W) ⟨Kd.R_set HO6.out BK13.out (by decide) _ _,zS BK12.out N12P.out _,xM BK13.out rfl,Kd.R_set HZ.out BK13.out (by decide) _ _,Kd.R_set HO1.out BK13.out (by decide) _ _,Kd.R_set HO2.out BK13.out (by decide) _ _,zS BK2.out N2P.out _,zS BK3.out N3P.out _,BL HB⟩ ?_;clear e0 s3 f3 HO6 BK12 BK13 HZ HO1 HO2 BK2 BK3 HB;rintro W5 ⟨ho6,hb12,hb13,hz,ho1,ho2,hb2,hb3,hbw⟩;have HO6:=K_ ho6;have BK12:=K_ hb12;have BK13:=K_ hb13;have HZ:=K_ hz;have HO1:=K_ ho1;have HO2:=K_ ho2;have BK2:=K_ hb2;have BK3:=K_ hb3;have HB:=K_ hbw;clear hb12 hb13 hz ho1 ho2 hb2 hb3 hbw;clear ho6;have e1:=(show W5.cell? ⟨g12,1,none⟩=some (.slice B2 sx.length d2) from (zA BK12.out 1).trans rfl)
       have s4:=(show W5.cell? ⟨g13,4,none⟩=some (.slice none 0 0) from (zA BK13.out 4).trans rfl)
       have f4:=zM BK13.out 4;go_upto_if 140 with (fail)
       refine zbO (fun W=>Kd.R k80 80 W w.heap.size (fun _=>True) (.slice A6 ([(⟨2,0⟩:S80)]++px).length c6) ([⟨2,0⟩]++px)∧W.heap[g12]?=some (.cells (qE (.slice B1 px.length d1) (.slice B2 sx.length d2) PN at_ pad long) 76 (0,0))∧W.heap[g13]?=some (.cells (zas (.slice B1 px.length d1) (.slice B2 sx.length d2) false (.slice A6 ([(⟨2,0⟩:S80)]++px).length c6) (.slice B2 sx.length d2) PN at_ pad wd) 26 (0,0))∧Kd.R k73 73 W w.heap.size (fun _=>True) (.slice A3 xs.length c3) xs∧Kd.R k80 80 W w.heap.size (fun _=>True) (.slice B1 px.length d1) px∧Kd.R k80 80 W w.heap.size (fun _=>True) (.slice B2 sx.length d2) sx∧W.heap[g2]?=some (.cells Z26 26 (0,0))∧W.heap[g3]?=some (.cells Z51 51 (0,0))∧Below w.heap.size w W) ⟨Kd.R_set HO6.out BK13.out (by decide) _ _,zS BK12.out N12P.out _,xM BK13.out rfl,Kd.R_set HZ.out BK13.out (by decide) _ _,Kd.R_set HO1.out BK13.out (by decide) _ _,Kd.R_set HO2.out BK13.out (by decide) _ _,zS BK2.out N2P.out _,zS BK3.out N3P.out _,BL HB⟩ ?_;clear e1 s4 f4 HO6 BK12 BK13 HZ HO1 HO2 BK2 BK3 HB;rintro W6 ⟨ho6,hb12,hb13,hz,ho1,ho2,hb2,hb3,hbw⟩;have HO6:=K_ ho6;have BK12:=K_ hb12;have BK13:=K_ hb13;have HZ:=K_ hz;have HO1:=K_ ho1;have HO2:=K_ ho2;have BK2:=K_ hb2;have BK3:=K_ hb3;have HB:=K_ hbw;clear hb12 hb13 hz ho1 ho2 hb2 hb3 hbw;clear ho6;have HG1:=K_ (show uH px by rw[HPOK.out.2.1];exact zcI _);have HG2:=K_ (show uH sx by rw[HPOK.out.2.2];exact zcI _);go_cut [14,15] from 139 to 167 (fun _ _ wx=>∃ (hn:Bool) (v3 v4:Value) (nx ny:List S80),Kd.R k80 80 wx w.heap.size (fun _=>True) v3 nx∧Kd.R k80 80 wx w.heap.size (fun _=>True) v4 ny∧(uH nx∧uH ny)∧nx.length≤1000∧ny.length≤1000∧(zai l→zaN l→nx=⟨2,0⟩ :: px∧ny=sx)∧wx.heap[g13]?=some (.cells (zas (.slice B1 px.length d1) (.slice B2 sx.length d2) hn v3 v4 PN at_ pad wd) 26 (0,0))∧Kd.R k80 80 wx w.heap.size (fun _=>True) (.slice B1 px.length d1) px∧Kd.R k80 80 wx w.heap.size (fun _=>True) (.slice B2 sx.length d2) sx∧wx.heap[g2]?=some (.cells Z26 26 (0,0))∧wx.heap[g3]?=some (.cells Z51 51 (0,0))∧Below w.heap.size w wx)
       case first =>
        by_cases hs0:0≤sm
        ·have dsm:decide (0≤sm)=true:=decide_eq_true hs0
         obtain⟨m,hm⟩:=Int.eq_ofNat_of_zero_le hs0;have hml:m<xs.length:=by have:=HSM.out;omega
         subst hm;have HNT:=K_ (show zai l→zaN l→False from fun q1 q2=>by have:=HNS.out q1 q2;omega);go_upto_region 37 with (fail)
         obtain⟨x,hx⟩:∃ x,x=xs[m]:=⟨_,rfl⟩
         have hcx:=(Kd.R_reads' HZ.out).2.1;obtain⟨ad,ea,h0,h1,h2,h3⟩:=zaQ (Kd.R_reads' HZ.out).2.2 (m:Int) (by omega) (by omega);obtain rfl:=ea;rw[zcU hml,←hx] at h0 h1 h2 h3;simp only[Int.toNat_natCast] at h0 h1 h2 h3
         clear hx h0 h1 h3;obtain⟨m1,hm1⟩:∃ m1,m1=m+1:=⟨_,rfl⟩
         have hm1l:m1≤xs.length:=by omega
         have hwm:IntKind.i64.wrap ((m:Int)+1)=((m1:Nat):Int):=by rw[IntKind.wrap_i64];omega
         have hww:wrap64 ((m:Int)+1)=((m1:Nat):Int):=by unfold wrap64;omega
         obtain⟨zs,hzs⟩:∃ zs,zs=xs.drop m1:=⟨_,rfl⟩
         obtain⟨A4,hA4⟩:∃ A4:Option Addr,(if c3=m1 then some ad else (some ad).map (·.add (m1 * 4)))=A4:=⟨_,rfl⟩
         have hzl:xs.length-m1=zs.length:=by rw[hzs,List.length_drop]
         have hzl4:zs.length≤400:=by omega
         have hc4:=Kd.C_drop (Kd.R_reads' HZ.out).2.2 hm1l hcx;rw[←hzs,show k73.sz=4 from rfl,hA4] at hc4;have HC4:=K_ hc4;obtain⟨cz,hcz⟩:∃ cz,c3-m1=cz:=⟨_,rfl⟩
         have hczl:zs.length≤cz:=by omega
         have hi0:(0:Int)≤(m:Int):=by omega
         have hi1:(m:Int)<(xs.length:Int):=by omega
         obtain⟨i73,hi73,hsz73⟩:=zpw;have HBX:=K_ (Below.refl W6.heap.size W6);clear hc4 hzs hm1;refine yI (n:=19) (S:=fun W=>W.cell? ⟨(ad.add (m * 4)).block,(ad.add (m * 4)).off+2,none⟩=some (.int .i64 x.f0.f2)) (ds:=[]) #[false,false,false,false,false,false,false,false,false,false,false,false,false,false,false,false,false,false,false] (by kernel_rfl) rfl rfl h2 (fun hHeld=>?_);refine jL (fun W=>W.cell? ⟨(ad.add (m * 4)).block,(ad.add (m * 4)).off+2,none⟩=some (.int .i64 x.f0.f2)∧Kd.C k73 W A4 zs.length zs∧W.heap[g13]?=some (.cells (zas (.slice B1 px.length d1) (.slice B2 sx.length d2) false (.slice A6 ([(⟨2,0⟩:S80)]++px).length c6) (.slice B2 sx.length d2) PN at_ pad wd) 26 (0,0))∧Kd.R k80 80 W w.heap.size (fun _=>True) (.slice B1 px.length d1) px∧Kd.R k80 80 W w.heap.size (fun _=>True) (.slice B2 sx.length d2) sx∧W.heap[g2]?=some (.cells Z26 26 (0,0))∧W.heap[g3]?=some (.cells Z51 51 (0,0))∧Below w.heap.size w W) ⟨h2,Kd.C_below HC4.out (BL HBX),BK BK13,RB HO1.out,RB HO2.out,BK BK2,BK BK3,BL HB⟩ ?_;clear hHeld h2 HC4 BK12 HZ HO6 HBX BK13 HO1 HO2 BK2 BK3 HB;rintro W ⟨hHeld,hc4,hb13,ho1,ho2,hb2,hb3,hbw⟩;have HC4:=K_ hc4;have BK13:=K_ hb13;have HO1:=K_ ho1;have HO2:=K_ ho2;have BK2:=K_ hb2;have BK3:=K_ hb3;have HB:=K_ hbw;clear hc4 hb13 ho1 ho2 hb2 hb3 hbw;refine pw_ 0 142 (bb 19 1) ?_;refine pw_ 1 143 (bb 19 3) ?_;refine pw_ 2 144 (bb 19 7) ?_;refine vR (i:=3) (N:=some 145) (bb 19 15) rfl rfl (by kernel_rfl) (fun _ _ _ h=>h) (v:=.slice A4 zs.length cz) (Or.inl ⟨by rfl,zqe rfl rfl rfl Tryz.underlying69 hi73 hsz73 hm1l hA4 hzl hcz⟩) (by simp only[Act.put,List.setIfInBounds_toArray,List.set_cons_zero,List.set_cons_succ];rfl) ?_
         refine pw_ 4 146 (bb 19 31) ?_;refine pw_ 5 147 (bb 19 63) ?_;refine pw_ 6 148 (bb 19 127) ?_;refine pw_ 7 149 (bb 19 255) ?_;refine pw_ 8 150 (bb 19 511) ?_;refine tw_ 9 151 (bb 19 1023) hHeld ?_;refine pw_ 10 152 (bb 19 2047) ?_;clear hwm hww hi0 hi1 hi73 hsz73;refine zbV (σ:=Value×Int×Int×Nat×Nat) 2 (bb 19 131071) (fun s:Value×Int×Int×Nat×Nat=>[(153,.tuple #[s.1,.agg #[.int .i64 s.2.1,.int .i64 s.2.2.1]]),(141,.tuple #[s.1,.agg #[.int .i64 s.2.1,.int .i64 s.2.2.1]]),(154,s.1),(155,.agg #[.int .i64 s.2.1,.int .i64 s.2.2.1]),(14,.pointer (some ⟨s.2.2.2.1,0,none⟩)),(15,.pointer (some ⟨s.2.2.2.2,0,none⟩))]) (fun s W=>(∃ (B5:Option Addr) (e5:Nat) (B6:Option Addr) (e6:Nat) (px2 sx2:List S80) (P2:jZ) (at2 pad2 long2:Int),s.1=.agg (qE (.slice B5 px2.length e5) (.slice B6 sx2.length e6) P2 at2 pad2 long2)∧Kd.R k80 80 W w.heap.size (fun _=>True) (.slice B5 px2.length e5) px2∧Kd.R k80 80 W w.heap.size (fun _=>True) (.slice B6 sx2.length e6) sx2∧(s.2.1=0→zaq zs P2∧px2=jM (uO zs (qK zs) zs.length)∧sx2=jM (uN zs (qF zs) zs.length)))∧W.heap[s.2.2.2.1]?=some (.cells Z76 76 (0,0))∧W.heap[s.2.2.2.2]?=some (.cells Z51 51 (0,0))∧s.2.2.2.1≠s.2.2.2.2∧g2≠s.2.2.2.1∧g2≠s.2.2.2.2∧g3≠s.2.2.2.1∧g3≠s.2.2.2.2∧g13≠s.2.2.2.1∧g13≠s.2.2.2.2∧w.heap.size≤s.2.2.2.1∧w.heap.size≤s.2.2.2.2∧(ad.add (m * 4)).block≠s.2.2.2.1∧(ad.add (m * 4)).block≠s.2.2.2.2∧W.cell? ⟨(ad.add (m * 4)).block,(ad.add (m * 4)).off+2,none⟩=some (.int .i64 x.f0.f2)∧W.heap[g13]?=some (.cells (zas (.slice B1 px.length d1) (.slice B2 sx.length d2) false (.slice A6 ([(⟨2,0⟩:S80)]++px).length c6) (.slice B2 sx.length d2) PN at_ pad wd) 26 (0,0))∧Kd.R k80 80 W w.heap.size (fun _=>True) (.slice B1 px.length d1) px∧Kd.R k80 80 W w.heap.size (fun _=>True) (.slice B2 sx.length d2) sx∧W.heap[g2]?=some (.cells Z26 26 (0,0))∧W.heap[g3]?=some (.cells Z51 51 (0,0))∧Below w.heap.size w W) ?hc37 ?hr37
         case hr37 =>
          intro hCont;refine zqc (i:=11) (j:=15) (k:=16) (Ni:=some 153) (Nj:=some 14) (Nk:=some 15) (bb 19 4095) (bb 19 34815) (bb 19 67583) rfl rfl rfl rfl rfl rfl (by kernel_rfl) (by decide) (by decide) (by decide) (fun K hK=>?_) (fun K hK=>?_) (fun K hK=>?_)
          ·skip
           refine gq_ Tryz.func57 #[.slice A4 zs.length cz,.int .i64 _,.bool false] ?_;refine (zcn A4 cz zs _ false _ HC4.out hczl (by omega)).mono ?_;rintro e9 w20 ⟨v1,v2,px2,sx2,P2,at2,pad2,long2,E3,a3,rfl,hq1,hq2,hb,hpost,-⟩;obtain⟨B5,e5,rfl⟩:=Kd.R_slice hq1;obtain⟨B6,e6,rfl⟩:=Kd.R_slice hq2;refine⟨_,rfl,?_⟩;have HPQ:=K_ hpost;have HQ1:=K_ (Kd.R_lower hq1 (zQ HB.out));have HQ2:=K_ (Kd.R_lower hq2 (zQ HB.out));have hh20:=(Below.cell hb (World.block_lt_of_cell? _ _ hHeld)).trans hHeld;replace HC4:=K_ (Kd.C_below HC4.out hb);replace HO1:=K_ (Kd.R_below HO1.out hb);replace HO2:=K_ (Kd.R_below HO2.out hb);replace BK13:=zC BK13 hb;replace BK2:=zC BK2 hb;replace BK3:=zC BK3 hb;replace HB:=zF HB hb;clear hb hpost hq1 hq2 hHeld;have hHeld:=hh20;clear hh20;refine hK.out _ _ hHeld (fun _=>?_);clear hK K;refine no_ (some 153) ?_;refine pw_ 12 141 (bb 19 8191) ?_;refine pw_ 13 154 (bb 19 16383) ?_;refine pw_ 14 155 (bb 19 32767) ?_;refine zeb (i:=15) (j:=16) (Ni:=some 14) (Nj:=some 15) (bb 19 65535) (bb 19 98303) rfl rfl rfl rfl (by kernel_rfl) (by decide) (by decide) (fun K hK=>?_) (fun K hK=>?_)
           ·skip
            refine bs_ 14 (Z76) 76 ?_;intro g14 hg w21 hbox hb;have BK14:=K_ hbox;have GE14:=ge_ hg HB;have N2x14:=nb_ hg BK2;have N3x14:=nb_ hg BK3;have N13x14:=nb_ hg BK13;have NCx14:=zdZ hHeld hg;have hh21:=(Below.cell hb (World.block_lt_of_cell? _ _ hHeld)).trans hHeld;replace HC4:=K_ (Kd.C_below HC4.out hb);replace HO1:=K_ (Kd.R_below HO1.out hb);replace HO2:=K_ (Kd.R_below HO2.out hb);replace HQ1:=K_ (Kd.R_below HQ1.out hb);replace HQ2:=K_ (Kd.R_below HQ2.out hb);replace BK13:=zC BK13 hb;replace BK2:=zC BK2 hb;replace BK3:=zC BK3 hb;replace HB:=zF HB hb;clear hb hbox hg hHeld;have hHeld:=hh21;clear hh21;refine hK.out _ _ hHeld (fun _=>?_);clear hK K;refine no_ (some 14) ?_;refine on_ 16 (some 15) (bb 19 131071) (fun K hK=>?_);refine bs_ 15 (Z51) 51 ?_;intro g15 hg w22 hbox hb;have BK15:=K_ hbox;have GE15:=ge_ hg HB;have N2x15:=nb_ hg BK2;have N3x15:=nb_ hg BK3;have N13x15:=nb_ hg BK13;have NCx15:=zdZ hHeld hg;have N1415:=nb_ hg BK14;have hh22:=(Below.cell hb (World.block_lt_of_cell? _ _ hHeld)).trans hHeld;replace HC4:=K_ (Kd.C_below HC4.out hb);replace HO1:=K_ (Kd.R_below HO1.out hb);replace HO2:=K_ (Kd.R_below HO2.out hb);replace HQ1:=K_ (Kd.R_below HQ1.out hb);replace HQ2:=K_ (Kd.R_below HQ2.out hb);replace BK13:=zC BK13 hb;replace BK2:=zC BK2 hb;replace BK3:=zC BK3 hb;replace BK14:=zC BK14 hb;replace HB:=zF HB hb;clear hb hbox hg hHeld;have hHeld:=hh22;clear hh22;refine hK.out _ _ hHeld (fun _=>?_);clear hK K;refine no_ (some 15) ?_;exact nj_ (hCont (.agg (qE (.slice B5 px2.length e5) (.slice B6 sx2.length e6) P2 at2 pad2 long2),E3,a3,g14,g15) _ ⟨⟨B5,e5,B6,e6,px2,sx2,P2,at2,pad2,long2,rfl,HQ1.out,HQ2.out,HPQ.out⟩,BK14.out,BK15.out,N1415.out,N2x14.out,N2x15.out,N3x14.out,N3x15.out,N13x14.out,N13x15.out,GE14.out,GE15.out,NCx14,NCx15,hHeld,BK13.out,HO1.out,HO2.out,BK2.out,BK3.out,HB.out⟩)
           skip
           refine bs_ 15 (Z51) 51 ?_;intro g15 hg w21 hbox hb;have BK15:=K_ hbox;have GE15:=ge_ hg HB;have N2x15:=nb_ hg BK2;have N3x15:=nb_ hg BK3;have N13x15:=nb_ hg BK13;have NCx15:=zdZ hHeld hg;have hh21:=(Below.cell hb (World.block_lt_of_cell? _ _ hHeld)).trans hHeld;replace HC4:=K_ (Kd.C_below HC4.out hb);replace HO1:=K_ (Kd.R_below HO1.out hb);replace HO2:=K_ (Kd.R_below HO2.out hb);replace HQ1:=K_ (Kd.R_below HQ1.out hb);replace HQ2:=K_ (Kd.R_below HQ2.out hb);replace BK13:=zC BK13 hb;replace BK2:=zC BK2 hb;replace BK3:=zC BK3 hb;replace HB:=zF HB hb;clear hb hbox hg hHeld;have hHeld:=hh21;clear hh21;refine hK.out _ _ hHeld (fun _=>?_);clear hK K;refine no_ (some 15) ?_;refine on_ 15 (some 14) (bb 19 131071) (fun K hK=>?_);refine bs_ 14 (Z76) 76 ?_;intro g14 hg w22 hbox hb;have BK14:=K_ hbox;have GE14:=ge_ hg HB;have N2x14:=nb_ hg BK2;have N3x14:=nb_ hg BK3;have N13x14:=nb_ hg BK13;have NCx14:=zdZ hHeld hg;have NX:=nb_ hg BK15;have N1415:=K_ (Ne.symm NX.out);clear NX;have hh22:=(Below.cell hb (World.block_lt_of_cell? _ _ hHeld)).trans hHeld;replace HC4:=K_ (Kd.C_below HC4.out hb);replace HO1:=K_ (Kd.R_below HO1.out hb);replace HO2:=K_ (Kd.R_below HO2.out hb);replace HQ1:=K_ (Kd.R_below HQ1.out hb);replace HQ2:=K_ (Kd.R_below HQ2.out hb);replace BK13:=zC BK13 hb;replace BK2:=zC BK2 hb;replace BK3:=zC BK3 hb;replace BK15:=zC BK15 hb;replace HB:=zF HB hb;clear hb hbox hg hHeld;have hHeld:=hh22;clear hh22;refine hK.out _ _ hHeld (fun _=>?_);clear hK K;refine no_ (some 14) ?_
           exact nj_ (hCont (.agg (qE (.slice B5 px2.length e5) (.slice B6 sx2.length e6) P2 at2 pad2 long2),E3,a3,g14,g15) _ ⟨⟨B5,e5,B6,e6,px2,sx2,P2,at2,pad2,long2,rfl,HQ1.out,HQ2.out,HPQ.out⟩,BK14.out,BK15.out,N1415.out,N2x14.out,N2x15.out,N3x14.out,N3x15.out,N13x14.out,N13x15.out,GE14.out,GE15.out,NCx14,NCx15,hHeld,BK13.out,HO1.out,HO2.out,BK2.out,BK3.out,HB.out⟩)
          ·skip
           refine bs_ 14 (Z76) 76 ?_;intro g14 hg w20 hbox hb;have BK14:=K_ hbox;have GE14:=ge_ hg HB;have N2x14:=nb_ hg BK2;have N3x14:=nb_ hg BK3;have N13x14:=nb_ hg BK13;have NCx14:=zdZ hHeld hg;have hh20:=(Below.cell hb (World.block_lt_of_cell? _ _ hHeld)).trans hHeld;replace HC4:=K_ (Kd.C_below HC4.out hb);replace HO1:=K_ (Kd.R_below HO1.out hb);replace HO2:=K_ (Kd.R_below HO2.out hb);replace BK13:=zC BK13 hb;replace BK2:=zC BK2 hb;replace BK3:=zC BK3 hb;replace HB:=zF HB hb;clear hb hbox hg hHeld;have hHeld:=hh20;clear hh20;refine hK.out _ _ hHeld (fun _=>?_);clear hK K;refine no_ (some 14) ?_;refine zeb (i:=11) (j:=16) (Ni:=some 153) (Nj:=some 15) (bb 19 36863) (bb 19 100351) rfl rfl rfl rfl (by kernel_rfl) (by decide) (by decide) (fun K hK=>?_) (fun K hK=>?_)
           ·skip
            refine gq_ Tryz.func57 #[.slice A4 zs.length cz,.int .i64 _,.bool false] ?_;refine (zcn A4 cz zs _ false _ HC4.out hczl (by omega)).mono ?_;rintro e9 w21 ⟨v1,v2,px2,sx2,P2,at2,pad2,long2,E3,a3,rfl,hq1,hq2,hb,hpost,-⟩;obtain⟨B5,e5,rfl⟩:=Kd.R_slice hq1;obtain⟨B6,e6,rfl⟩:=Kd.R_slice hq2;refine⟨_,rfl,?_⟩;have HPQ:=K_ hpost;have HQ1:=K_ (Kd.R_lower hq1 (zQ HB.out));have HQ2:=K_ (Kd.R_lower hq2 (zQ HB.out));have hh21:=(Below.cell hb (World.block_lt_of_cell? _ _ hHeld)).trans hHeld;replace HC4:=K_ (Kd.C_below HC4.out hb);replace HO1:=K_ (Kd.R_below HO1.out hb);replace HO2:=K_ (Kd.R_below HO2.out hb);replace BK13:=zC BK13 hb;replace BK2:=zC BK2 hb;replace BK3:=zC BK3 hb;replace BK14:=zC BK14 hb;replace HB:=zF HB hb;clear hb hpost hq1 hq2 hHeld;have hHeld:=hh21;clear hh21;refine hK.out _ _ hHeld (fun _=>?_);clear hK K;refine no_ (some 153) ?_;refine pw_ 12 141 (bb 19 40959) ?_;refine pw_ 13 154 (bb 19 49151) ?_;refine pw_ 14 155 (bb 19 65535) ?_;refine on_ 16 (some 15) (bb 19 131071) (fun K hK=>?_);refine bs_ 15 (Z51) 51 ?_;intro g15 hg w22 hbox hb;have BK15:=K_ hbox;have GE15:=ge_ hg HB;have N2x15:=nb_ hg BK2;have N3x15:=nb_ hg BK3;have N13x15:=nb_ hg BK13;have NCx15:=zdZ hHeld hg;have N1415:=nb_ hg BK14;have hh22:=(Below.cell hb (World.block_lt_of_cell? _ _ hHeld)).trans hHeld;replace HC4:=K_ (Kd.C_below HC4.out hb);replace HO1:=K_ (Kd.R_below HO1.out hb);replace HO2:=K_ (Kd.R_below HO2.out hb);replace HQ1:=K_ (Kd.R_below HQ1.out hb);replace HQ2:=K_ (Kd.R_below HQ2.out hb)
            replace BK13:=zC BK13 hb;replace BK2:=zC BK2 hb;replace BK3:=zC BK3 hb;replace BK14:=zC BK14 hb;replace HB:=zF HB hb;clear hb hbox hg hHeld;have hHeld:=hh22;clear hh22;refine hK.out _ _ hHeld (fun _=>?_);clear hK K;refine no_ (some 15) ?_;exact nj_ (hCont (.agg (qE (.slice B5 px2.length e5) (.slice B6 sx2.length e6) P2 at2 pad2 long2),E3,a3,g14,g15) _ ⟨⟨B5,e5,B6,e6,px2,sx2,P2,at2,pad2,long2,rfl,HQ1.out,HQ2.out,HPQ.out⟩,BK14.out,BK15.out,N1415.out,N2x14.out,N2x15.out,N3x14.out,N3x15.out,N13x14.out,N13x15.out,GE14.out,GE15.out,NCx14,NCx15,hHeld,BK13.out,HO1.out,HO2.out,BK2.out,BK3.out,HB.out⟩)
           skip
           refine bs_ 15 (Z51) 51 ?_;intro g15 hg w21 hbox hb;have BK15:=K_ hbox;have GE15:=ge_ hg HB;have N2x15:=nb_ hg BK2;have N3x15:=nb_ hg BK3;have N13x15:=nb_ hg BK13;have NCx15:=zdZ hHeld hg;have N1415:=nb_ hg BK14;have hh21:=(Below.cell hb (World.block_lt_of_cell? _ _ hHeld)).trans hHeld;replace HC4:=K_ (Kd.C_below HC4.out hb);replace HO1:=K_ (Kd.R_below HO1.out hb);replace HO2:=K_ (Kd.R_below HO2.out hb);replace BK13:=zC BK13 hb;replace BK2:=zC BK2 hb;replace BK3:=zC BK3 hb;replace BK14:=zC BK14 hb;replace HB:=zF HB hb;clear hb hbox hg hHeld;have hHeld:=hh21;clear hh21;refine hK.out _ _ hHeld (fun _=>?_);clear hK K;refine no_ (some 15) ?_;refine on_ 11 (some 153) (bb 19 102399) (fun K hK=>?_);refine gq_ Tryz.func57 #[.slice A4 zs.length cz,.int .i64 _,.bool false] ?_;refine (zcn A4 cz zs _ false _ HC4.out hczl (by omega)).mono ?_;rintro e9 w22 ⟨v1,v2,px2,sx2,P2,at2,pad2,long2,E3,a3,rfl,hq1,hq2,hb,hpost,-⟩;obtain⟨B5,e5,rfl⟩:=Kd.R_slice hq1;obtain⟨B6,e6,rfl⟩:=Kd.R_slice hq2;refine⟨_,rfl,?_⟩;have HPQ:=K_ hpost;have HQ1:=K_ (Kd.R_lower hq1 (zQ HB.out));have HQ2:=K_ (Kd.R_lower hq2 (zQ HB.out));have hh22:=(Below.cell hb (World.block_lt_of_cell? _ _ hHeld)).trans hHeld;replace HC4:=K_ (Kd.C_below HC4.out hb);replace HO1:=K_ (Kd.R_below HO1.out hb);replace HO2:=K_ (Kd.R_below HO2.out hb);replace BK13:=zC BK13 hb;replace BK2:=zC BK2 hb;replace BK3:=zC BK3 hb;replace BK14:=zC BK14 hb;replace BK15:=zC BK15 hb;replace HB:=zF HB hb;clear hb hpost hq1 hq2 hHeld;have hHeld:=hh22;clear hh22
           refine hK.out _ _ hHeld (fun _=>?_);clear hK K;refine no_ (some 153) ?_;refine pw_ 12 141 (bb 19 106495) ?_;refine pw_ 13 154 (bb 19 114687) ?_;refine pw_ 14 155 (bb 19 131071) ?_;exact nj_ (hCont (.agg (qE (.slice B5 px2.length e5) (.slice B6 sx2.length e6) P2 at2 pad2 long2),E3,a3,g14,g15) _ ⟨⟨B5,e5,B6,e6,px2,sx2,P2,at2,pad2,long2,rfl,HQ1.out,HQ2.out,HPQ.out⟩,BK14.out,BK15.out,N1415.out,N2x14.out,N2x15.out,N3x14.out,N3x15.out,N13x14.out,N13x15.out,GE14.out,GE15.out,NCx14,NCx15,hHeld,BK13.out,HO1.out,HO2.out,BK2.out,BK3.out,HB.out⟩)
          skip
          refine bs_ 15 (Z51) 51 ?_;intro g15 hg w20 hbox hb;have BK15:=K_ hbox;have GE15:=ge_ hg HB;have N2x15:=nb_ hg BK2;have N3x15:=nb_ hg BK3;have N13x15:=nb_ hg BK13;have NCx15:=zdZ hHeld hg;have hh20:=(Below.cell hb (World.block_lt_of_cell? _ _ hHeld)).trans hHeld;replace HC4:=K_ (Kd.C_below HC4.out hb);replace HO1:=K_ (Kd.R_below HO1.out hb);replace HO2:=K_ (Kd.R_below HO2.out hb);replace BK13:=zC BK13 hb;replace BK2:=zC BK2 hb;replace BK3:=zC BK3 hb;replace HB:=zF HB hb;clear hb hbox hg hHeld;have hHeld:=hh20;clear hh20;refine hK.out _ _ hHeld (fun _=>?_);clear hK K;refine no_ (some 15) ?_;refine zeb (i:=11) (j:=15) (Ni:=some 153) (Nj:=some 14) (bb 19 69631) (bb 19 100351) rfl rfl rfl rfl (by kernel_rfl) (by decide) (by decide) (fun K hK=>?_) (fun K hK=>?_)
          ·skip
           refine gq_ Tryz.func57 #[.slice A4 zs.length cz,.int .i64 _,.bool false] ?_;refine (zcn A4 cz zs _ false _ HC4.out hczl (by omega)).mono ?_;rintro e9 w21 ⟨v1,v2,px2,sx2,P2,at2,pad2,long2,E3,a3,rfl,hq1,hq2,hb,hpost,-⟩;obtain⟨B5,e5,rfl⟩:=Kd.R_slice hq1;obtain⟨B6,e6,rfl⟩:=Kd.R_slice hq2;refine⟨_,rfl,?_⟩;have HPQ:=K_ hpost;have HQ1:=K_ (Kd.R_lower hq1 (zQ HB.out));have HQ2:=K_ (Kd.R_lower hq2 (zQ HB.out));have hh21:=(Below.cell hb (World.block_lt_of_cell? _ _ hHeld)).trans hHeld;replace HC4:=K_ (Kd.C_below HC4.out hb);replace HO1:=K_ (Kd.R_below HO1.out hb);replace HO2:=K_ (Kd.R_below HO2.out hb);replace BK13:=zC BK13 hb;replace BK2:=zC BK2 hb;replace BK3:=zC BK3 hb;replace BK15:=zC BK15 hb;replace HB:=zF HB hb;clear hb hpost hq1 hq2 hHeld;have hHeld:=hh21;clear hh21;refine hK.out _ _ hHeld (fun _=>?_);clear hK K;refine no_ (some 153) ?_;refine pw_ 12 141 (bb 19 73727) ?_;refine pw_ 13 154 (bb 19 81919) ?_;refine pw_ 14 155 (bb 19 98303) ?_;refine on_ 15 (some 14) (bb 19 131071) (fun K hK=>?_);refine bs_ 14 (Z76) 76 ?_;intro g14 hg w22 hbox hb;have BK14:=K_ hbox;have GE14:=ge_ hg HB;have N2x14:=nb_ hg BK2;have N3x14:=nb_ hg BK3;have N13x14:=nb_ hg BK13;have NCx14:=zdZ hHeld hg;have NX:=nb_ hg BK15;have N1415:=K_ (Ne.symm NX.out);clear NX;have hh22:=(Below.cell hb (World.block_lt_of_cell? _ _ hHeld)).trans hHeld;replace HC4:=K_ (Kd.C_below HC4.out hb);replace HO1:=K_ (Kd.R_below HO1.out hb);replace HO2:=K_ (Kd.R_below HO2.out hb);replace HQ1:=K_ (Kd.R_below HQ1.out hb);replace HQ2:=K_ (Kd.R_below HQ2.out hb)
           replace BK13:=zC BK13 hb;replace BK2:=zC BK2 hb;replace BK3:=zC BK3 hb;replace BK15:=zC BK15 hb;replace HB:=zF HB hb;clear hb hbox hg hHeld;have hHeld:=hh22;clear hh22;refine hK.out _ _ hHeld (fun _=>?_);clear hK K;refine no_ (some 14) ?_;exact nj_ (hCont (.agg (qE (.slice B5 px2.length e5) (.slice B6 sx2.length e6) P2 at2 pad2 long2),E3,a3,g14,g15) _ ⟨⟨B5,e5,B6,e6,px2,sx2,P2,at2,pad2,long2,rfl,HQ1.out,HQ2.out,HPQ.out⟩,BK14.out,BK15.out,N1415.out,N2x14.out,N2x15.out,N3x14.out,N3x15.out,N13x14.out,N13x15.out,GE14.out,GE15.out,NCx14,NCx15,hHeld,BK13.out,HO1.out,HO2.out,BK2.out,BK3.out,HB.out⟩)
          skip
          refine bs_ 14 (Z76) 76 ?_;intro g14 hg w21 hbox hb;have BK14:=K_ hbox;have GE14:=ge_ hg HB;have N2x14:=nb_ hg BK2;have N3x14:=nb_ hg BK3;have N13x14:=nb_ hg BK13;have NCx14:=zdZ hHeld hg;have NX:=nb_ hg BK15;have N1415:=K_ (Ne.symm NX.out);clear NX;have hh21:=(Below.cell hb (World.block_lt_of_cell? _ _ hHeld)).trans hHeld;replace HC4:=K_ (Kd.C_below HC4.out hb);replace HO1:=K_ (Kd.R_below HO1.out hb);replace HO2:=K_ (Kd.R_below HO2.out hb);replace BK13:=zC BK13 hb;replace BK2:=zC BK2 hb;replace BK3:=zC BK3 hb;replace BK15:=zC BK15 hb;replace HB:=zF HB hb;clear hb hbox hg hHeld;have hHeld:=hh21;clear hh21;refine hK.out _ _ hHeld (fun _=>?_);clear hK K;refine no_ (some 14) ?_;refine on_ 11 (some 153) (bb 19 102399) (fun K hK=>?_);refine gq_ Tryz.func57 #[.slice A4 zs.length cz,.int .i64 _,.bool false] ?_;refine (zcn A4 cz zs _ false _ HC4.out hczl (by omega)).mono ?_;rintro e9 w22 ⟨v1,v2,px2,sx2,P2,at2,pad2,long2,E3,a3,rfl,hq1,hq2,hb,hpost,-⟩;obtain⟨B5,e5,rfl⟩:=Kd.R_slice hq1;obtain⟨B6,e6,rfl⟩:=Kd.R_slice hq2;refine⟨_,rfl,?_⟩;have HPQ:=K_ hpost;have HQ1:=K_ (Kd.R_lower hq1 (zQ HB.out));have HQ2:=K_ (Kd.R_lower hq2 (zQ HB.out));have hh22:=(Below.cell hb (World.block_lt_of_cell? _ _ hHeld)).trans hHeld;replace HC4:=K_ (Kd.C_below HC4.out hb);replace HO1:=K_ (Kd.R_below HO1.out hb);replace HO2:=K_ (Kd.R_below HO2.out hb);replace BK13:=zC BK13 hb;replace BK2:=zC BK2 hb;replace BK3:=zC BK3 hb;replace BK14:=zC BK14 hb;replace BK15:=zC BK15 hb;replace HB:=zF HB hb;clear hb hpost hq1 hq2 hHeld
          have hHeld:=hh22;clear hh22;refine hK.out _ _ hHeld (fun _=>?_);clear hK K;refine no_ (some 153) ?_;refine pw_ 12 141 (bb 19 106495) ?_;refine pw_ 13 154 (bb 19 114687) ?_;refine pw_ 14 155 (bb 19 131071) ?_;exact nj_ (hCont (.agg (qE (.slice B5 px2.length e5) (.slice B6 sx2.length e6) P2 at2 pad2 long2),E3,a3,g14,g15) _ ⟨⟨B5,e5,B6,e6,px2,sx2,P2,at2,pad2,long2,rfl,HQ1.out,HQ2.out,HPQ.out⟩,BK14.out,BK15.out,N1415.out,N2x14.out,N2x15.out,N3x14.out,N3x15.out,N13x14.out,N13x15.out,GE14.out,GE15.out,NCx14,NCx15,hHeld,BK13.out,HO1.out,HO2.out,BK2.out,BK3.out,HB.out⟩)
         case hc37 =>
          rintro⟨V,E3,a3,g14,g15⟩ W7 ⟨⟨B5,e5,B6,e6,px2,sx2,P2,at2,pad2,long2,hV,hq1,hq2,hpq⟩,hb14,hb15,n1415,n2x14,n2x15,n3x14,n3x15,n13x14,n13x15,ge14,ge15,ncx14,ncx15,hHeld,hb13,ho1,ho2,hb2,hb3,hbw⟩;dsimp only at hV hq1 hq2 hpq hb14 hb15 n1415 n2x14 n2x15 n3x14 n3x15 n13x14 n13x15 ge14 ge15 ncx14 ncx15;subst hV;have BK14:=K_ hb14;have BK15:=K_ hb15;have N1415:=K_ n1415;have N2x14:=K_ n2x14;have N2x15:=K_ n2x15;have N3x14:=K_ n3x14;have N3x15:=K_ n3x15;have N13x14:=K_ n13x14;have N13x15:=K_ n13x15;have HQ1:=K_ hq1;have HQ2:=K_ hq2;have HPQ:=K_ hpq;have BK13:=K_ hb13;have HO1:=K_ ho1;have HO2:=K_ ho2;have BK2:=K_ hb2;have BK3:=K_ hb3;have HB:=K_ hbw;clear hb14 hb15 n1415 n2x14 n2x15 n3x14 n3x15 n13x14 n13x15 hq1 hq2 hpq hb13 ho1 ho2 hb2 hb3 hbw;refine np_ ?_;refine on_ 17 none (bb 19 262143) (fun K hK=>?_);refine yX (g:=g14) (cs:=Z76) (qE (.slice B5 px2.length e5) (.slice B6 sx2.length e6) P2 at2 pad2 long2) BK14 ?_ rfl rfl rfl rfl rfl zbZ rfl rfl;intro w17 hbk hfar hbel;have hh:=zaI hfar (p:=⟨(ad.add (m * 4)).block,(ad.add (m * 4)).off+2,none⟩) ncx14 hHeld;replace HQ1:=K_ (uL HQ1.out BK14.out (by decide) hfar);replace HQ2:=K_ (uL HQ2.out BK14.out (by decide) hfar);replace HO1:=K_ (uL HO1.out BK14.out (by decide) hfar);replace HO2:=K_ (uL HO2.out BK14.out (by decide) hfar);replace BK13:=K_ (hfar _ _ N13x14.out BK13.out);replace BK2:=K_ (hfar _ _ N2x14.out BK2.out);replace BK3:=K_ (hfar _ _ N3x14.out BK3.out);replace BK15:=K_ (hfar _ _ (Ne.symm N1415.out) BK15.out);replace BK14:=K_ hbk
          replace HB:=K_ (hbel _ _ ge14 HB.out);clear hHeld;have hHeld:=hh;refine hK.out _ _ hHeld (fun _=>?_);clear hK K hbk hfar hbel hh;refine on_ 18 none (bb 19 524287) (fun K hK=>?_);refine yX (g:=g15) (cs:=Z51) (#[.int .i64 E3,.int .i64 a3]) BK15 ?_ rfl rfl rfl rfl rfl qD rfl rfl;intro w18 hbk hfar hbel;have hh:=zaI hfar (p:=⟨(ad.add (m * 4)).block,(ad.add (m * 4)).off+2,none⟩) ncx15 hHeld;replace HQ1:=K_ (uL HQ1.out BK15.out (by decide) hfar);replace HQ2:=K_ (uL HQ2.out BK15.out (by decide) hfar);replace HO1:=K_ (uL HO1.out BK15.out (by decide) hfar);replace HO2:=K_ (uL HO2.out BK15.out (by decide) hfar);replace BK13:=K_ (hfar _ _ N13x15.out BK13.out);replace BK2:=K_ (hfar _ _ N2x15.out BK2.out);replace BK3:=K_ (hfar _ _ N3x15.out BK3.out);replace BK14:=K_ (hfar _ _ N1415.out BK14.out);replace BK15:=K_ hbk;replace HB:=K_ (hbel _ _ ge15 HB.out);clear hHeld;have hHeld:=hh;refine hK.out _ _ hHeld (fun _=>?_);clear hK K hbk hfar hbel hh;refine vF (by kernel_rfl) ?_;clear hHeld ncx14 ncx15 ge14 ge15;obtain⟨⟨q0,q1⟩,q2,q3⟩:=ce2 BK15;by_cases hE:E3=0
          ·subst hE
           have HQK:=K_ (HPQ.out rfl);have hq1l:px2.length≤1000:=by
            rw[HQK.out.2.1];refine Nat.le_trans (zdI _) (Nat.le_trans (zfI _ _ _) (by omega))
           have hq2l:sx2.length≤1000:=by
            rw[HQK.out.2.2];refine Nat.le_trans (zdI _) (Nat.le_trans (zfD _ _ _) (by omega))
           have HGQ:=K_ (show uH px2∧uH sx2 by rw[HQK.out.2.1,HQK.out.2.2];exact⟨zcI _,zcI _⟩);go_upto_region 40 with (fail)
           clear q0 q1 q2 q3;refine yI (n:=10) (S:=fun W=>W.cell? ⟨g14,0,none⟩=some (.slice B5 px2.length e5)∧W.cell? ⟨g14,1,none⟩=some (.slice B6 sx2.length e6)) (ds:=[]) #[false,false,false,false,false,false,false,false,false,false] (by kernel_rfl) rfl rfl ⟨(zA (BK BK14) 0).trans rfl,(zA (BK BK14) 1).trans rfl⟩ (fun hHeld=>?_);refine jL (fun W=>W.heap[g14]?=some (.cells (qE (.slice B5 px2.length e5) (.slice B6 sx2.length e6) P2 at2 pad2 long2) 76 (0,0))∧Kd.R k80 80 W w.heap.size (fun _=>True) (.slice B5 px2.length e5) px2∧Kd.R k80 80 W w.heap.size (fun _=>True) (.slice B6 sx2.length e6) sx2∧W.heap[g13]?=some (.cells (zas (.slice B1 px.length d1) (.slice B2 sx.length d2) false (.slice A6 ([(⟨2,0⟩:S80)]++px).length c6) (.slice B2 sx.length d2) PN at_ pad wd) 26 (0,0))∧Kd.R k80 80 W w.heap.size (fun _=>True) (.slice B1 px.length d1) px∧Kd.R k80 80 W w.heap.size (fun _=>True) (.slice B2 sx.length d2) sx∧W.heap[g2]?=some (.cells Z26 26 (0,0))∧W.heap[g3]?=some (.cells Z51 51 (0,0))∧Below w.heap.size w W) ⟨BK BK14,RB HQ1.out,RB HQ2.out,BK BK13,RB HO1.out,RB HO2.out,BK BK2,BK BK3,BL HB⟩ ?_;clear hHeld;clear BK14 HQ1 HQ2 BK13 HO1 HO2 BK2 BK3 HB;rintro W ⟨hb14,hq1,hq2,hb13,ho1,ho2,hb2,hb3,hbw⟩;have BK14:=K_ hb14;have HQ1:=K_ hq1;have HQ2:=K_ hq2;have BK13:=K_ hb13;have HO1:=K_ ho1;have HO2:=K_ ho2;have BK2:=K_ hb2;have BK3:=K_ hb3;have HB:=K_ hbw;clear hb14 hq1 hq2 hb13 ho1 ho2 hb2 hb3 hbw;have hHeld:=(show W.cell? ⟨g14,0,none⟩=some (.slice B5 px2.length e5)∧W.cell? ⟨g14,1,none⟩=some (.slice B6 sx2.length e6) from ⟨(zA BK14.out 0).trans rfl,(zA BK14.out 1).trans rfl⟩)
           refine pw_ 0 161 (bb 10 1) ?_;refine pw_ 2 163 (bb 10 5) ?_;refine tw_ 1 162 (bb 10 7) hHeld ?_;refine tw_ 3 164 (bb 10 15) hHeld ?_;refine pw_ 4 165 (bb 10 31) ?_;refine on_ 5 none (bb 10 63) (fun K hK=>?_);have hs:W.cell? ⟨g13,2,none⟩=some (.bool false):=(zA BK13.out 2).trans rfl;have hf:=zM BK13.out 2;refine zaU (w1:=W.setCell ⟨g13,2,none⟩ (.bool true)) (by rfl) rfl (by go_simp;try rfl) ?_;refine hK.out _ _ (show (W.setCell ⟨g13,2,none⟩ (.bool true)).cell? ⟨g14,0,none⟩=some (.slice B5 px2.length e5)∧(W.setCell ⟨g13,2,none⟩ (.bool true)).cell? ⟨g14,1,none⟩=some (.slice B6 sx2.length e6) from ⟨(zA (zS BK14.out (Ne.symm N13x14.out) _) 0).trans rfl,(zA (zS BK14.out (Ne.symm N13x14.out) _) 1).trans rfl⟩) (fun _=>?_);clear hK K hs hf hHeld;refine jL (fun W=>W.heap[g14]?=some (.cells (qE (.slice B5 px2.length e5) (.slice B6 sx2.length e6) P2 at2 pad2 long2) 76 (0,0))∧Kd.R k80 80 W w.heap.size (fun _=>True) (.slice B5 px2.length e5) px2∧Kd.R k80 80 W w.heap.size (fun _=>True) (.slice B6 sx2.length e6) sx2∧W.heap[g13]?=some (.cells (zas (.slice B1 px.length d1) (.slice B2 sx.length d2) true (.slice A6 ([(⟨2,0⟩:S80)]++px).length c6) (.slice B2 sx.length d2) PN at_ pad wd) 26 (0,0))∧Kd.R k80 80 W w.heap.size (fun _=>True) (.slice B1 px.length d1) px∧Kd.R k80 80 W w.heap.size (fun _=>True) (.slice B2 sx.length d2) sx∧W.heap[g2]?=some (.cells Z26 26 (0,0))∧W.heap[g3]?=some (.cells Z51 51 (0,0))∧Below w.heap.size w W) ⟨zS BK14.out (Ne.symm N13x14.out) _,Kd.R_set HQ1.out BK13.out (by decide) _ _,Kd.R_set HQ2.out BK13.out (by decide) _ _,xM BK13.out rfl,Kd.R_set HO1.out BK13.out (by decide) _ _,Kd.R_set HO2.out BK13.out (by decide) _ _,zS BK2.out N2P.out _,zS BK3.out N3P.out _,BL HB⟩ ?_
           clear BK14 HQ1 HQ2 BK13 HO1 HO2 BK2 BK3 HB;rintro W ⟨hb14,hq1,hq2,hb13,ho1,ho2,hb2,hb3,hbw⟩;have BK14:=K_ hb14;have HQ1:=K_ hq1;have HQ2:=K_ hq2;have BK13:=K_ hb13;have HO1:=K_ ho1;have HO2:=K_ ho2;have BK2:=K_ hb2;have BK3:=K_ hb3;have HB:=K_ hbw;clear hb14 hq1 hq2 hb13 ho1 ho2 hb2 hb3 hbw;have hHeld:=(show W.cell? ⟨g14,0,none⟩=some (.slice B5 px2.length e5)∧W.cell? ⟨g14,1,none⟩=some (.slice B6 sx2.length e6) from ⟨(zA BK14.out 0).trans rfl,(zA BK14.out 1).trans rfl⟩)
           refine pw_ 6 166 (bb 10 127) ?_;refine on_ 7 none (bb 10 255) (fun K hK=>?_);have hs:W.cell? ⟨g13,3,none⟩=some (.slice A6 ([(⟨2,0⟩:S80)]++px).length c6):=(zA BK13.out 3).trans rfl;have hf:=zM BK13.out 3;refine zaU (w1:=W.setCell ⟨g13,3,none⟩ (.slice B5 px2.length e5)) (by rfl) rfl (by go_simp;try rfl) ?_;refine hK.out _ _ (show (W.setCell ⟨g13,3,none⟩ (.slice B5 px2.length e5)).cell? ⟨g14,0,none⟩=some (.slice B5 px2.length e5)∧(W.setCell ⟨g13,3,none⟩ (.slice B5 px2.length e5)).cell? ⟨g14,1,none⟩=some (.slice B6 sx2.length e6) from ⟨(zA (zS BK14.out (Ne.symm N13x14.out) _) 0).trans rfl,(zA (zS BK14.out (Ne.symm N13x14.out) _) 1).trans rfl⟩) (fun _=>?_);clear hK K hs hf hHeld;refine jL (fun W=>W.heap[g14]?=some (.cells (qE (.slice B5 px2.length e5) (.slice B6 sx2.length e6) P2 at2 pad2 long2) 76 (0,0))∧Kd.R k80 80 W w.heap.size (fun _=>True) (.slice B5 px2.length e5) px2∧Kd.R k80 80 W w.heap.size (fun _=>True) (.slice B6 sx2.length e6) sx2∧W.heap[g13]?=some (.cells (zas (.slice B1 px.length d1) (.slice B2 sx.length d2) true (.slice B5 px2.length e5) (.slice B2 sx.length d2) PN at_ pad wd) 26 (0,0))∧Kd.R k80 80 W w.heap.size (fun _=>True) (.slice B1 px.length d1) px∧Kd.R k80 80 W w.heap.size (fun _=>True) (.slice B2 sx.length d2) sx∧W.heap[g2]?=some (.cells Z26 26 (0,0))∧W.heap[g3]?=some (.cells Z51 51 (0,0))∧Below w.heap.size w W) ⟨zS BK14.out (Ne.symm N13x14.out) _,Kd.R_set HQ1.out BK13.out (by decide) _ _,Kd.R_set HQ2.out BK13.out (by decide) _ _,xM BK13.out rfl,Kd.R_set HO1.out BK13.out (by decide) _ _,Kd.R_set HO2.out BK13.out (by decide) _ _,zS BK2.out N2P.out _,zS BK3.out N3P.out _,BL HB⟩ ?_
           clear BK14 HQ1 HQ2 BK13 HO1 HO2 BK2 BK3 HB;rintro W ⟨hb14,hq1,hq2,hb13,ho1,ho2,hb2,hb3,hbw⟩;have BK14:=K_ hb14;have HQ1:=K_ hq1;have HQ2:=K_ hq2;have BK13:=K_ hb13;have HO1:=K_ ho1;have HO2:=K_ ho2;have BK2:=K_ hb2;have BK3:=K_ hb3;have HB:=K_ hbw;clear hb14 hq1 hq2 hb13 ho1 ho2 hb2 hb3 hbw;have hHeld:=(show W.cell? ⟨g14,0,none⟩=some (.slice B5 px2.length e5)∧W.cell? ⟨g14,1,none⟩=some (.slice B6 sx2.length e6) from ⟨(zA BK14.out 0).trans rfl,(zA BK14.out 1).trans rfl⟩)
           refine pw_ 8 167 (bb 10 511) ?_;refine on_ 9 none (bb 10 1023) (fun K hK=>?_);have hs:W.cell? ⟨g13,4,none⟩=some (.slice B2 sx.length d2):=(zA BK13.out 4).trans rfl;have hf:=zM BK13.out 4;refine zaU (w1:=W.setCell ⟨g13,4,none⟩ (.slice B6 sx2.length e6)) (by rfl) rfl (by go_simp;try rfl) ?_;refine hK.out _ _ (show (W.setCell ⟨g13,4,none⟩ (.slice B6 sx2.length e6)).cell? ⟨g14,0,none⟩=some (.slice B5 px2.length e5)∧(W.setCell ⟨g13,4,none⟩ (.slice B6 sx2.length e6)).cell? ⟨g14,1,none⟩=some (.slice B6 sx2.length e6) from ⟨(zA (zS BK14.out (Ne.symm N13x14.out) _) 0).trans rfl,(zA (zS BK14.out (Ne.symm N13x14.out) _) 1).trans rfl⟩) (fun _=>?_);clear hK K hs hf hHeld;refine jL (fun W=>W.heap[g14]?=some (.cells (qE (.slice B5 px2.length e5) (.slice B6 sx2.length e6) P2 at2 pad2 long2) 76 (0,0))∧Kd.R k80 80 W w.heap.size (fun _=>True) (.slice B5 px2.length e5) px2∧Kd.R k80 80 W w.heap.size (fun _=>True) (.slice B6 sx2.length e6) sx2∧W.heap[g13]?=some (.cells (zas (.slice B1 px.length d1) (.slice B2 sx.length d2) true (.slice B5 px2.length e5) (.slice B6 sx2.length e6) PN at_ pad wd) 26 (0,0))∧Kd.R k80 80 W w.heap.size (fun _=>True) (.slice B1 px.length d1) px∧Kd.R k80 80 W w.heap.size (fun _=>True) (.slice B2 sx.length d2) sx∧W.heap[g2]?=some (.cells Z26 26 (0,0))∧W.heap[g3]?=some (.cells Z51 51 (0,0))∧Below w.heap.size w W) ⟨zS BK14.out (Ne.symm N13x14.out) _,Kd.R_set HQ1.out BK13.out (by decide) _ _,Kd.R_set HQ2.out BK13.out (by decide) _ _,xM BK13.out rfl,Kd.R_set HO1.out BK13.out (by decide) _ _,Kd.R_set HO2.out BK13.out (by decide) _ _,zS BK2.out N2P.out _,zS BK3.out N3P.out _,BL HB⟩ ?_
           clear BK14 HQ1 HQ2 BK13 HO1 HO2 BK2 BK3 HB;rintro W ⟨hb14,hq1,hq2,hb13,ho1,ho2,hb2,hb3,hbw⟩;have BK14:=K_ hb14;have HQ1:=K_ hq1;have HQ2:=K_ hq2;have BK13:=K_ hb13;have HO1:=K_ ho1;have HO2:=K_ ho2;have BK2:=K_ hb2;have BK3:=K_ hb3;have HB:=K_ hbw;clear hb14 hq1 hq2 hb13 ho1 ho2 hb2 hb3 hbw;have hHeld:=(show W.cell? ⟨g14,0,none⟩=some (.slice B5 px2.length e5)∧W.cell? ⟨g14,1,none⟩=some (.slice B6 sx2.length e6) from ⟨(zA BK14.out 0).trans rfl,(zA BK14.out 1).trans rfl⟩)
           refine vF (by kernel_rfl) ?_;clear hHeld;go_wp2_with (fail)
           go_meet
           case rel=>exact⟨true,_,_,px2,sx2,RB HQ1.out,RB HQ2.out,HGQ.out,hq1l,hq2l,fun q1 q2=>(HNT.out q1 q2).elim,BK BK13,RB HO1.out,RB HO2.out,BK BK2,BK BK3,BL HB⟩
          have dE3:(E3 !=0)=true:=by simpa using hE
          have HEV:=K_ hE;have HE:=K_ (show ∀ l',Ev (fun k=>zG.f k s) (l',0,0)→zai l'→zaN l'→∀ P0,zaq (l'.map mk73) P0→¬ mixed (jM (uO (l'.map mk73) (qK (l'.map mk73)) l'.length)) (jM (uN (l'.map mk73) (qF (l'.map mk73)) l'.length)) (⟨2,0⟩ :: jM (uO (l'.map mk73) (qK (l'.map mk73)) l'.length)) (jM (uN (l'.map mk73) (qF (l'.map mk73)) l'.length))→False from fun l' h1 hns hsm _ _ _=>HNT.out (EQL.out l' h1 ▸ hns) (EQL.out l' h1 ▸ hsm));clear hE;go_upto_region 39 with (fail)
          clear q0 q1 q2 q3;refine yI (n:=4) (S:=fun w'=>w'.heap[g15]?=some (.cells #[.int .i64 E3,.int .i64 a3] 51 (0,0))) (ds:=[]) #[false,false,false,false] (by kernel_rfl) rfl rfl (BK BK15) (fun hHeld=>?_);refine jL (fun W=>W.heap[g15]?=some (.cells #[.int .i64 E3,.int .i64 a3] 51 (0,0))∧W.heap[g2]?=some (.cells Z26 26 (0,0))∧W.heap[g3]?=some (.cells Z51 51 (0,0))∧Below w.heap.size w W) ⟨BK BK15,BK BK2,BK BK3,BL HB⟩ ?_;clear hHeld;rintro W ⟨hHeld,hb2,hb3,hbw⟩;replace BK2:=K_ hb2;replace BK3:=K_ hb3;replace HB:=K_ hbw;clear hb2 hb3 hbw;refine pw_ 0 159 (bb 4 1) ?_;refine tr_ 1 160 (bb 4 3) (#[.int .i64 E3,.int .i64 a3]) (fun _ hs=>⟨hs⟩) Tryz.underlying51 qD hHeld ?_;refine on_ 2 none (bb 4 7) (fun K hK=>?_);refine yX (g:=g2) (cs:=Z26) Z26 BK2 ?_ rfl rfl rfl rfl rfl jX rfl rfl;intro w8 hbk hfar hbel;have hHeld2:=hfar g15 _ (Ne.symm N2x15.out) hHeld;replace BK3:=K_ (hfar g3 _ (Ne.symm NB.out) BK3.out);replace BK2:=K_ hbk;replace HB:=K_ (hbel _ _ GE2.out HB.out);refine hK.out _ _ hHeld2 (fun _=>?_);clear hK K hbk hfar hbel;refine on_ 3 none (bb 4 15) (fun K hK=>?_);refine yX (g:=g3) (cs:=Z51) #[.int .i64 E3,.int .i64 a3] BK3 ?_ rfl rfl rfl rfl rfl qD rfl rfl;intro w9 hbk hfar hbel;have hHeld3:=hfar g15 _ (Ne.symm N3x15.out) hHeld2;replace BK2:=K_ (hfar g2 _ NB.out BK2.out);replace BK3:=K_ hbk;replace HB:=K_ (hbel _ _ GE3.out HB.out);refine hK.out _ _ hHeld3 (fun _=>?_);clear hK K hbk hfar hbel;refine vF (by kernel_rfl) ?_;go_wp2_with (fail)
          (
           refine bodyPost_ret (xH rfl _ _ g2 g3 26 51 Z26 #[.int .i64 E3,.int .i64 a3] (0,0) (0,0) _ _ rfl BK2.out Tryz.underlying26 rfl jX rfl BK3.out Tryz.underlying51 rfl qD) rfl ?_;exact⟨_,_,_,_,[],[],[],[],jQ,false,0,0,0,E3,a3,rfl,Kd.R_nil _ _ _ _ _,Kd.R_nil _ _ _ _ _,Kd.R_nil _ _ _ _ _,Kd.R_nil _ _ _ _ _,BL HB,fun h=>absurd h HEV.out,fun l' h1 h2 h3 P0 h4 h5=>(HE.out l' h1 h2 h3 P0 h4 h5).elim⟩)
        have dsm:decide (0≤sm)=false:=decide_eq_false hs0;go_wp2
        go_meet
        case rel=>exact⟨false,_,_,[⟨2,0⟩]++px,sx,RB HO6.out,RB HO2.out,⟨fun x hx=>by rcases List.mem_cons.1 hx with rfl|hx;exact⟨by decide,by decide,fun _=>rfl⟩;exact HG1.out x hx,HG2.out⟩,by simp;omega,by omega,fun _ _=>⟨rfl,rfl⟩,BK BK13,RB HO1.out,RB HO2.out,BK BK2,BK BK3,BL HB⟩
       case rest =>
        obtain⟨hn,v3,v4,nx,ny,ho3,ho4,hgood,hnl,hyl,hex,hb13,ho1,ho2,hb2,hb3,hbw⟩:=hcut;have HO3:=K_ ho3;have HO4:=K_ ho4;have HG:=K_ hgood;have HEN:=K_ hex;replace BK13:=K_ hb13;replace HO1:=K_ ho1;replace HO2:=K_ ho2;replace BK2:=K_ hb2;replace BK3:=K_ hb3;replace HB:=K_ hbw;clear hb13 ho1 ho2 hb2 hb3 hbw;clear ho3 ho4 hgood hex;obtain⟨B3,d3,rfl⟩:=Kd.R_slice HO3.out;obtain⟨B4,d4,rfl⟩:=Kd.R_slice HO4.out;clear HZ BK12;go_upto_region 41 with (fail)
        go_cut [175] from 168 to 175 (fun c wx=>c=.bool (decide (0<sgn 4 px sx nx ny)&&decide (0<sgn 5 px sx nx ny))∧Kd.R k80 80 wx w.heap.size (fun _=>True) (.slice B1 px.length d1) px∧Kd.R k80 80 wx w.heap.size (fun _=>True) (.slice B2 sx.length d2) sx∧Kd.R k80 80 wx w.heap.size (fun _=>True) (.slice B3 nx.length d3) nx∧Kd.R k80 80 wx w.heap.size (fun _=>True) (.slice B4 ny.length d4) ny∧wx.heap[g13]?=some (.cells (zas (.slice B1 px.length d1) (.slice B2 sx.length d2) hn (.slice B3 nx.length d3) (.slice B4 ny.length d4) PN at_ pad wd) 26 (0,0))∧wx.heap[g2]?=some (.cells Z26 26 (0,0))∧wx.heap[g3]?=some (.cells Z51 51 (0,0))∧Below w.heap.size w wx)
        case first =>
         by_cases h4:0<sgn 4 px sx nx ny
         ·have p4:decide (0<sgn 4 px sx nx ny)=true:=decide_eq_true h4
          have r4:decide ((0:Int)<((sgn 4 px sx nx ny:Nat):Int))=true:=decide_eq_true (by omega);have z4:¬ sgn 4 px sx nx ny=0:=by omega
          by_cases h5:0<sgn 5 px sx nx ny
          ·have p5:decide (0<sgn 5 px sx nx ny)=true:=decide_eq_true h5
           have r5:decide ((0:Int)<((sgn 5 px sx nx ny:Nat):Int))=true:=decide_eq_true (by omega);have z5:¬ sgn 5 px sx nx ny=0:=by omega
           go_wp2_with (first|((with_reducible refine zE (N:=168) rfl ?_);refine lo_ (g:=g13) (cs:=zas (.slice B1 px.length d1) (.slice B2 sx.length d2) hn (.slice B3 nx.length d3) (.slice B4 ny.length d4) PN at_ pad wd) _ ⟨BK BK13⟩ ?_ rfl rfl rfl Tryz.underlying26 rfl jX)|((with_reducible refine zE (N:=172) rfl ?_);refine zcT (g:=g13) (cs:=zas (.slice B1 px.length d1) (.slice B2 sx.length d2) hn (.slice B3 nx.length d3) (.slice B4 ny.length d4) PN at_ pad wd) _ ⟨BK BK13⟩ ?_ (by rfl) rfl rfl Tryz.underlying26 rfl jX)|(go_at_call 53;refine (zez B1 B2 B3 B4 d1 d2 d3 d4 px sx nx ny hn PN at_ pad wd _ _ HO1.out HO2.out HO3.out HO4.out (by omega) (by omega) hnl hyl).mono ?_;rintro e9 w' ⟨rfl,hb⟩;replace HO1:=K_ (Kd.R_below (RB HO1.out) hb);replace HO2:=K_ (Kd.R_below (RB HO2.out) hb);replace HO3:=K_ (Kd.R_below (RB HO3.out) hb);replace HO4:=K_ (Kd.R_below (RB HO4.out) hb);replace HB:=zF HB hb;replace BK2:=zC BK2 hb;replace BK3:=zC BK3 hb;replace BK13:=zC BK13 hb;clear hb))
           go_meet
           case rel=>exact⟨by rw[p4,p5];rfl,RB HO1.out,RB HO2.out,RB HO3.out,RB HO4.out,BK BK13,BK BK2,BK BK3,BL HB⟩
          have p5:decide (0<sgn 5 px sx nx ny)=false:=decide_eq_false h5;have r5:decide ((0:Int)<((sgn 5 px sx nx ny:Nat):Int))=false:=decide_eq_false (by omega);have z5:sgn 5 px sx nx ny=0:=by omega
          go_wp2_with (first|((with_reducible refine zE (N:=168) rfl ?_);refine lo_ (g:=g13) (cs:=zas (.slice B1 px.length d1) (.slice B2 sx.length d2) hn (.slice B3 nx.length d3) (.slice B4 ny.length d4) PN at_ pad wd) _ ⟨BK BK13⟩ ?_ rfl rfl rfl Tryz.underlying26 rfl jX)|((with_reducible refine zE (N:=172) rfl ?_);refine zcT (g:=g13) (cs:=zas (.slice B1 px.length d1) (.slice B2 sx.length d2) hn (.slice B3 nx.length d3) (.slice B4 ny.length d4) PN at_ pad wd) _ ⟨BK BK13⟩ ?_ (by rfl) rfl rfl Tryz.underlying26 rfl jX)|(go_at_call 53;refine (zez B1 B2 B3 B4 d1 d2 d3 d4 px sx nx ny hn PN at_ pad wd _ _ HO1.out HO2.out HO3.out HO4.out (by omega) (by omega) hnl hyl).mono ?_;rintro e9 w' ⟨rfl,hb⟩;replace HO1:=K_ (Kd.R_below (RB HO1.out) hb);replace HO2:=K_ (Kd.R_below (RB HO2.out) hb);replace HO3:=K_ (Kd.R_below (RB HO3.out) hb);replace HO4:=K_ (Kd.R_below (RB HO4.out) hb);replace HB:=zF HB hb;replace BK2:=zC BK2 hb;replace BK3:=zC BK3 hb;replace BK13:=zC BK13 hb;clear hb))
          go_meet
          case rel=>exact⟨by rw[p4,p5];rfl,RB HO1.out,RB HO2.out,RB HO3.out,RB HO4.out,BK BK13,BK BK2,BK BK3,BL HB⟩
         have p4:decide (0<sgn 4 px sx nx ny)=false:=decide_eq_false h4;have r4:decide ((0:Int)<((sgn 4 px sx nx ny:Nat):Int))=false:=decide_eq_false (by omega);have z4:sgn 4 px sx nx ny=0:=by omega
         go_wp2_with (first|((with_reducible refine zE (N:=168) rfl ?_);refine lo_ (g:=g13) (cs:=zas (.slice B1 px.length d1) (.slice B2 sx.length d2) hn (.slice B3 nx.length d3) (.slice B4 ny.length d4) PN at_ pad wd) _ ⟨BK BK13⟩ ?_ rfl rfl rfl Tryz.underlying26 rfl jX)|((with_reducible refine zE (N:=172) rfl ?_);refine zcT (g:=g13) (cs:=zas (.slice B1 px.length d1) (.slice B2 sx.length d2) hn (.slice B3 nx.length d3) (.slice B4 ny.length d4) PN at_ pad wd) _ ⟨BK BK13⟩ ?_ (by rfl) rfl rfl Tryz.underlying26 rfl jX)|(go_at_call 53;refine (zez B1 B2 B3 B4 d1 d2 d3 d4 px sx nx ny hn PN at_ pad wd _ _ HO1.out HO2.out HO3.out HO4.out (by omega) (by omega) hnl hyl).mono ?_;rintro e9 w' ⟨rfl,hb⟩;replace HO1:=K_ (Kd.R_below (RB HO1.out) hb);replace HO2:=K_ (Kd.R_below (RB HO2.out) hb);replace HO3:=K_ (Kd.R_below (RB HO3.out) hb);replace HO4:=K_ (Kd.R_below (RB HO4.out) hb);replace HB:=zF HB hb;replace BK2:=zC BK2 hb;replace BK3:=zC BK3 hb;replace BK13:=zC BK13 hb;clear hb))
         go_meet
         case rel=>exact⟨by rw[p4];rfl,RB HO1.out,RB HO2.out,RB HO3.out,RB HO4.out,BK BK13,BK BK2,BK BK3,BL HB⟩
        case rest =>
         obtain⟨rfl,ho1,ho2,ho3,ho4,hb13,hb2,hb3,hbw⟩:=hcut;replace HO1:=K_ ho1;replace HO2:=K_ ho2;replace HO3:=K_ ho3;replace HO4:=K_ ho4;replace BK13:=K_ hb13;replace BK2:=K_ hb2;replace BK3:=K_ hb3;replace HB:=K_ hbw;clear ho1 ho2 ho3 ho4 hb13 hb2 hb3 hbw;by_cases hm:mixed px sx nx ny
         ·have et:(decide (0<sgn 4 px sx nx ny)&&decide (0<sgn 5 px sx nx ny))=true:=by rw[decide_eq_true hm.1,decide_eq_true hm.2];rfl
          rw[et];have HEV:=K_ (show (6:Int)≠0 by decide);have HE:=K_ (show ∀ l',Ev (fun k=>zG.f k s) (l',0,0)→zai l'→zaN l'→∀ P0,zaq (l'.map mk73) P0→¬ mixed (jM (uO (l'.map mk73) (qK (l'.map mk73)) l'.length)) (jM (uN (l'.map mk73) (qF (l'.map mk73)) l'.length)) (⟨2,0⟩ :: jM (uO (l'.map mk73) (qK (l'.map mk73)) l'.length)) (jM (uN (l'.map mk73) (qF (l'.map mk73)) l'.length))→False from fun l' h1 hns hsm P0 hok hnm=>by
           have e:=EQL.out l' h1;subst e;have e2:=HEQ.out hns hsm;obtain⟨e3,e4⟩:=HEN.out hns hsm;have e5:=HPOK.out.2;rw[e2] at e5;simp only[List.length_map] at e5
           rw[←e5.1,←e5.2] at hnm;rw[e3,e4] at hm;exact hnm hm)
          clear et hm;go_wp2_with (first
           | ((with_reducible refine zW (p:=2) rfl ?_);refine so_ (g:=g2) (cs:=Z26) (Z26) ⟨BK BK2⟩ ?_ rfl rfl rfl rfl rfl jX rfl rfl;intro w9 hbk hfar hbel;replace BK3:=K_ (hfar _ _ (Ne.symm NB.out) (BK BK3));replace BK2:=K_ hbk;replace HB:=K_ (hbel _ _ GE2.out (BL HB));clear hbk hfar hbel)
           | ((with_reducible refine zW (p:=3) rfl ?_);refine so_ (g:=g3) (cs:=Z51) (#[.int .i64 6,.int .i64 0]) ⟨BK BK3⟩ ?_ rfl rfl rfl rfl rfl qD rfl rfl;intro w9 hbk hfar hbel;replace BK2:=K_ (hfar _ _ NB.out (BK BK2));replace BK3:=K_ hbk;replace HB:=K_ (hbel _ _ GE3.out (BL HB));clear hbk hfar hbel))
          (
           refine bodyPost_ret (xH rfl _ _ g2 g3 26 51 Z26 #[.int .i64 6,.int .i64 0] (0,0) (0,0) _ _ rfl BK2.out Tryz.underlying26 rfl jX rfl BK3.out Tryz.underlying51 rfl qD) rfl ?_;exact⟨_,_,_,_,[],[],[],[],jQ,false,0,0,0,6,0,rfl,Kd.R_nil _ _ _ _ _,Kd.R_nil _ _ _ _ _,Kd.R_nil _ _ _ _ _,Kd.R_nil _ _ _ _ _,BL HB,fun h=>absurd h HEV.out,fun l' h1 h2 h3 P0 h4 h5=>(HE.out l' h1 h2 h3 P0 h4 h5).elim⟩)
         have et:(decide (0<sgn 4 px sx nx ny)&&decide (0<sgn 5 px sx nx ny))=false:=by
          cases h:(decide (0<sgn 4 px sx nx ny)&&decide (0<sgn 5 px sx nx ny))
          ·rfl
          rw[Bool.and_eq_true,decide_eq_true_eq,decide_eq_true_eq] at h;exact (hm h).elim
         rw[et];have HM:=K_ hm;clear et hm;go_wp2_with (first
          | ((with_reducible refine zE (N:=178) rfl ?_);refine lo_ (g:=g13) (cs:=zas (.slice B1 px.length d1) (.slice B2 sx.length d2) hn (.slice B3 nx.length d3) (.slice B4 ny.length d4) PN at_ pad wd) _ ⟨BK BK13⟩ ?_ rfl rfl rfl Tryz.underlying26 rfl jX)
          | ((with_reducible refine zW (p:=2) rfl ?_);refine so_ (g:=g2) (cs:=Z26) (zas (.slice B1 px.length d1) (.slice B2 sx.length d2) hn (.slice B3 nx.length d3) (.slice B4 ny.length d4) PN at_ pad wd) ⟨BK BK2⟩ ?_ rfl rfl rfl rfl rfl jX rfl rfl;intro w9 hbk hfar hbel;replace HO1:=K_ (uL (RB HO1.out) (BK BK2) (by decide) hfar);replace HO2:=K_ (uL (RB HO2.out) (BK BK2) (by decide) hfar);replace HO3:=K_ (uL (RB HO3.out) (BK BK2) (by decide) hfar);replace HO4:=K_ (uL (RB HO4.out) (BK BK2) (by decide) hfar);replace BK3:=K_ (hfar _ _ (Ne.symm NB.out) (BK BK3));replace BK2:=K_ hbk;replace HB:=K_ (hbel _ _ GE2.out (BL HB));clear hbk hfar hbel)
          | ((with_reducible refine zW (p:=3) rfl ?_);refine so_ (g:=g3) (cs:=Z51) (Z51) ⟨BK BK3⟩ ?_ rfl rfl rfl rfl rfl qD rfl rfl;intro w9 hbk hfar hbel;replace HO1:=K_ (uL (RB HO1.out) (BK BK3) (by decide) hfar);replace HO2:=K_ (uL (RB HO2.out) (BK BK3) (by decide) hfar);replace HO3:=K_ (uL (RB HO3.out) (BK BK3) (by decide) hfar);replace HO4:=K_ (uL (RB HO4.out) (BK BK3) (by decide) hfar);replace BK2:=K_ (hfar _ _ NB.out (BK BK2));replace BK3:=K_ hbk;replace HB:=K_ (hbel _ _ GE3.out (BL HB));clear hbk hfar hbel))
         refine bodyPost_ret (xH rfl _ _ g2 g3 26 51 (zas (.slice B1 px.length d1) (.slice B2 sx.length d2) hn (.slice B3 nx.length d3) (.slice B4 ny.length d4) PN at_ pad wd) Z51 (0,0) (0,0) _ _ rfl BK2.out Tryz.underlying26 rfl jX rfl BK3.out Tryz.underlying51 rfl qD) rfl ?_;refine⟨_,_,_,_,px,sx,nx,ny,PN,hn,at_,pad,wd,0,0,rfl,HO1.out,HO2.out,HO3.out,HO4.out,BL HB,fun _=>⟨⟨_,HPOK.out.1.2.2.1⟩,HG1.out,HG2.out,HG.out.1,HG.out.2,HM.out,by omega,by omega,hnl,hyl⟩,fun l' h1 hns hsm P0 hok hnm=>?_⟩;have e:=EQL.out l' h1;subst e;have e2:=HEQ.out hns hsm;obtain⟨e3,e4⟩:=HEN.out hns hsm;have e5:=HPOK.out;rw[e2] at e5;simp only[List.length_map] at e5
         refine⟨rfl,Option.some.inj (e5.1.2.2.1.symm.trans hok.2.2.1),e5.2.1,e5.2.2,?_,?_⟩
         ·rw[e3]
         rw[e4]
     have dE2:(E2 !=0)=true:=by simpa using hE
     have HEV:=K_ hE;have HE:=K_ (show ∀ l',Ev (fun k=>zG.f k s) (l',0,0)→zai l'→zaN l'→∀ P0,zaq (l'.map mk73) P0→¬ mixed (jM (uO (l'.map mk73) (qK (l'.map mk73)) l'.length)) (jM (uN (l'.map mk73) (qF (l'.map mk73)) l'.length)) (⟨2,0⟩ :: jM (uO (l'.map mk73) (qK (l'.map mk73)) l'.length)) (jM (uN (l'.map mk73) (qF (l'.map mk73)) l'.length))→False from fun l' h1 hns hsm P0 hok _=>HEV.out (HEX.out (by rw[HEQ.out (EQL.out l' h1 ▸ hns) (EQL.out l' h1 ▸ hsm)];intro x hx;obtain⟨t,_,rfl⟩:=List.mem_map.1 hx;rfl) ⟨P0,by rw[HEQ.out (EQL.out l' h1 ▸ hns) (EQL.out l' h1 ▸ hsm),←EQL.out l' h1];exact hok⟩));clear hE;go_upto_region 29 with (fail)
     clear q0 q1 q2 q3;refine yI (n:=4) (S:=fun w'=>w'.heap[g5]?=some (.cells #[.int .i64 E2,.int .i64 a2] 51 (0,0))) (ds:=[]) #[false,false,false,false] (by kernel_rfl) rfl rfl (BK BK5) (fun hHeld=>?_);refine jL (fun W=>W.heap[g5]?=some (.cells #[.int .i64 E2,.int .i64 a2] 51 (0,0))∧W.heap[g2]?=some (.cells Z26 26 (0,0))∧W.heap[g3]?=some (.cells Z51 51 (0,0))∧Below w.heap.size w W) ⟨BK BK5,BK BK2,BK BK3,BL HB⟩ ?_;clear hHeld;rintro W ⟨hHeld,hb2,hb3,hbw⟩;replace BK2:=K_ hb2;replace BK3:=K_ hb3;replace HB:=K_ hbw;clear hb2 hb3 hbw;refine pw_ 0 100 (bb 4 1) ?_;refine tr_ 1 101 (bb 4 3) (#[.int .i64 E2,.int .i64 a2]) (fun _ hs=>⟨hs⟩) Tryz.underlying51 qD hHeld ?_;refine on_ 2 none (bb 4 7) (fun K hK=>?_);refine yX (g:=g2) (cs:=Z26) Z26 BK2 ?_ rfl rfl rfl rfl rfl jX rfl rfl;intro w8 hbk hfar hbel;have hHeld2:=hfar g5 _ (Ne.symm N2F.out) hHeld;replace BK3:=K_ (hfar g3 _ (Ne.symm NB.out) BK3.out);replace BK2:=K_ hbk;replace HB:=K_ (hbel _ _ GE2.out HB.out);refine hK.out _ _ hHeld2 (fun _=>?_);clear hK K hbk hfar hbel;refine on_ 3 none (bb 4 15) (fun K hK=>?_);refine yX (g:=g3) (cs:=Z51) #[.int .i64 E2,.int .i64 a2] BK3 ?_ rfl rfl rfl rfl rfl qD rfl rfl;intro w9 hbk hfar hbel;have hHeld3:=hfar g5 _ (Ne.symm N3F.out) hHeld2;replace BK2:=K_ (hfar g2 _ NB.out BK2.out);replace BK3:=K_ hbk;replace HB:=K_ (hbel _ _ GE3.out HB.out);refine hK.out _ _ hHeld3 (fun _=>?_);clear hK K hbk hfar hbel;refine vF (by kernel_rfl) ?_;go_wp2_with (fail)
     (
      refine bodyPost_ret (xH rfl _ _ g2 g3 26 51 Z26 #[.int .i64 E2,.int .i64 a2] (0,0) (0,0) _ _ rfl BK2.out Tryz.underlying26 rfl jX rfl BK3.out Tryz.underlying51 rfl qD) rfl ?_;exact⟨_,_,_,_,[],[],[],[],jQ,false,0,0,0,E2,a2,rfl,Kd.R_nil _ _ _ _ _,Kd.R_nil _ _ _ _ _,Kd.R_nil _ _ _ _ _,Kd.R_nil _ _ _ _ _,BL HB,fun h=>absurd h HEV.out,fun l' h1 h2 h3 P0 h4 h5=>(HE.out l' h1 h2 h3 P0 h4 h5).elim⟩)
 have dE:(E1 !=0)=true:=by simpa using hE
 have HEV:=K_ hE;have HE:=K_ (show ∀ l',Ev (fun k=>zG.f k s) (l',0,0)→zai l'→zaN l'→∀ P0,zaq (l'.map mk73) P0→¬ mixed (jM (uO (l'.map mk73) (qK (l'.map mk73)) l'.length)) (jM (uN (l'.map mk73) (qF (l'.map mk73)) l'.length)) (⟨2,0⟩ :: jM (uO (l'.map mk73) (qK (l'.map mk73)) l'.length)) (jM (uN (l'.map mk73) (qF (l'.map mk73)) l'.length))→False from fun l' h1 _ _ _ _ _=>hE (by have e:=zej h1 HEV1.out;have e2:=congrArg (fun r=>r.2.1) e;exact e2.symm));clear hE;go_upto_region 3 with (fail)
 clear q0 q1 q2 q3;refine yI (n:=4) (S:=fun w'=>w'.heap[g5]?=some (.cells #[.int .i64 E1,.int .i64 a1] 51 (0,0))) (ds:=[]) #[false,false,false,false] (by kernel_rfl) rfl rfl (BK BK5) (fun hHeld=>?_);refine jL (fun W=>W.heap[g5]?=some (.cells #[.int .i64 E1,.int .i64 a1] 51 (0,0))∧W.heap[g2]?=some (.cells Z26 26 (0,0))∧W.heap[g3]?=some (.cells Z51 51 (0,0))∧Below w.heap.size w W) ⟨BK BK5,BK BK2,BK BK3,BL HB⟩ ?_;clear hHeld;rintro W ⟨hHeld,hb2,hb3,hbw⟩;replace BK2:=K_ hb2;replace BK3:=K_ hb3;replace HB:=K_ hbw;clear hb2 hb3 hbw;refine pw_ 0 24 (bb 4 1) ?_;refine tr_ 1 25 (bb 4 3) (#[.int .i64 E1,.int .i64 a1]) (fun _ hs=>⟨hs⟩) Tryz.underlying51 qD hHeld ?_;refine on_ 2 none (bb 4 7) (fun K hK=>?_);refine yX (g:=g2) (cs:=Z26) Z26 BK2 ?_ rfl rfl rfl rfl rfl jX rfl rfl;intro w8 hbk hfar hbel;have hHeld2:=hfar g5 _ (Ne.symm N2F.out) hHeld;replace BK3:=K_ (hfar g3 _ (Ne.symm NB.out) BK3.out);replace BK2:=K_ hbk;replace HB:=K_ (hbel _ _ GE2.out HB.out);refine hK.out _ _ hHeld2 (fun _=>?_);clear hK K hbk hfar hbel;refine on_ 3 none (bb 4 15) (fun K hK=>?_);refine yX (g:=g3) (cs:=Z51) #[.int .i64 E1,.int .i64 a1] BK3 ?_ rfl rfl rfl rfl rfl qD rfl rfl;intro w9 hbk hfar hbel;have hHeld3:=hfar g5 _ (Ne.symm N3F.out) hHeld2;replace BK2:=K_ (hfar g2 _ NB.out BK2.out);replace BK3:=K_ hbk;replace HB:=K_ (hbel _ _ GE3.out HB.out);refine hK.out _ _ hHeld3 (fun _=>?_);clear hK K hbk hfar hbel;refine vF (by kernel_rfl) ?_;go_wp2_with (fail)
 (
  refine bodyPost_ret (xH rfl _ _ g2 g3 26 51 Z26 #[.int .i64 E1,.int .i64 a1] (0,0) (0,0) _ _ rfl BK2.out Tryz.underlying26 rfl jX rfl BK3.out Tryz.underlying51 rfl qD) rfl ?_;exact⟨_,_,_,_,[],[],[],[],jQ,false,0,0,0,E1,a1,rfl,Kd.R_nil _ _ _ _ _,Kd.R_nil _ _ _ _ _,Kd.R_nil _ _ _ _ _,Kd.R_nil _ _ _ _ _,BL HB,fun h=>absurd h HEV.out,fun l' h1 h2 h3 P0 h4 h5=>(HE.out l' h1 h2 h3 P0 h4 h5).elim⟩)
end Go.Proofs.YtcmgdjnjmobkoaaGreatDoor.Px
namespace Go.Proofs.YtcmgdjnjmobkoaaGreatDoor.Px
open Fig Go.RowKit Go.Proofs.YtcmgdjnjmobkoaaGreatDoorW.PrintWords Go.Proofs.YtcmgdjnjmobkoaaGreatDoorW.PrintLast Go.Proofs.YtcmgdjnjmobkoaaGreatDoorW.PrintMore
attribute [local go_sem] vK vL uE uD yS yP vM vJ
attribute [local go_sem] qQ qX qL qW qY qN qZ xA qT qS qU qV xB qO
def jE.l0:Nat→ByteArray→Int→Option (Bool)
 | 0,_,_=>none
 | k+1,x0,x3=>if x3<(x0.size:Int) then (if 0≤x3 then (if (bt x0 x3)<48 then (some false) else (if (bt x0 x3)>57 then (some false) else (jE.l0 k x0 (wrap64 (x3+1))))) else (none)) else (some (x0.toList !=([]:List UInt8)))
def jE.f (k:Nat) (a0:ByteArray):Option (Bool):=jE.l0 k a0 0
set_option maxHeartbeats 8000000 in
set_option maxRecDepth 100000 in
theorem jE.calls (k:Nat) (a0:ByteArray) (r:Bool) (w:World) (h:jE.f k a0=some r) :
  Calls Tryz.prog 68 #[.string a0] w fun e w'=>e=.returned (.bool r)∧zL w w':=by
 have H:(jE.l0 k a0 0)=some r:=h;clear h;have H':=K_ H;clear H;go_enter Tryz.func68,Tryz.ntmps68
 go_wp2
 go_loopg [3] k (fun kq v3 w'=>∃ (x3_1:Int),v3=.int .i64 x3_1∧Aside0 (jE.l0 kq a0 x3_1=some r)∧Aside0 (kq≤k)∧zL w w')
 case atStart=>exact⟨(0),SR,H',⟨Nat.le_refl _⟩,by repeat (first|exact zL.refl _|apply zL.step)⟩
 case round =>
  clear H';obtain⟨x3_1,rfl,HA,HK1,⟨m1,rfl⟩⟩:=hrel;obtain _|k1:=gk
  ·exact absurd HA.out (by simp[jE.l0])
  have H:=HA.out;clear HA;simp only[jE.l0] at H
  by_cases c2:x3_1<(a0.size:Int)
  ·rw[if_pos c2] at H
   have c2b0:decide (x3_1<(a0.size:Int))=true:=decide_eq_true c2;clear c2;by_cases c3:0≤x3_1
   ·rw[if_pos c3] at H
    have c3b0:decide (0≤x3_1)=true:=decide_eq_true c3;clear c3;by_cases c5:(bt a0 x3_1)<48
    ·rw[if_pos c5] at H
     have c5b0:decide ((bt a0 x3_1)<48)=true:=decide_eq_true c5;clear c5;obtain rfl:=Option.some.inj H;have p4:0≤(x3_1:Int):=of_decide_eq_true (by first|(with_reducible assumption)|assumption);have q4:x3_1<(a0.size:Int):=of_decide_eq_true (by first|(with_reducible assumption)|assumption);have hx4:=zap a0 x3_1;replace p4:=eq_true p4;replace q4:=eq_true q4;go_wp2
     go_ret
     exact⟨by first|rfl|(simp;done)|(simp[*];done)|(simp[*,Fig.bne_nil];done),by repeat (first|exact zL.refl _|apply zL.step)⟩
    rw[if_neg c5] at H;have c5b0:decide ((bt a0 x3_1)<48)=false:=decide_eq_false c5;clear c5;by_cases c7:(bt a0 x3_1)>57
    ·rw[if_pos c7] at H
     have c7b0:decide (57<(bt a0 x3_1))=true:=decide_eq_true c7;clear c7;obtain rfl:=Option.some.inj H;have p4:0≤(x3_1:Int):=of_decide_eq_true (by first|(with_reducible assumption)|assumption);have q4:x3_1<(a0.size:Int):=of_decide_eq_true (by first|(with_reducible assumption)|assumption);have hx4:=zap a0 x3_1;replace p4:=eq_true p4;replace q4:=eq_true q4;have p6:0≤(x3_1:Int):=of_decide_eq_true (by first|(with_reducible assumption)|assumption);have q6:x3_1<(a0.size:Int):=of_decide_eq_true (by first|(with_reducible assumption)|assumption);have hx6:=zap a0 x3_1;replace p6:=eq_true p6;replace q6:=eq_true q6;go_wp2
     go_ret
     exact⟨by first|rfl|(simp;done)|(simp[*];done)|(simp[*,Fig.bne_nil];done),by repeat (first|exact zL.refl _|apply zL.step)⟩
    rw[if_neg c7] at H;have c7b0:decide (57<(bt a0 x3_1))=false:=decide_eq_false c7;clear c7;have H':=K_ H;clear H;have p4:0≤(x3_1:Int):=of_decide_eq_true (by first|(with_reducible assumption)|assumption);have q4:x3_1<(a0.size:Int):=of_decide_eq_true (by first|(with_reducible assumption)|assumption);have hx4:=zap a0 x3_1;replace p4:=eq_true p4;replace q4:=eq_true q4;have p6:0≤(x3_1:Int):=of_decide_eq_true (by first|(with_reducible assumption)|assumption);have q6:x3_1<(a0.size:Int):=of_decide_eq_true (by first|(with_reducible assumption)|assumption);have hx6:=zap a0 x3_1;replace p6:=eq_true p6;replace q6:=eq_true q6;go_wp2
    go_roundg k1
    case measure=>have:=HK1.out;omega
    case rel=>exact⟨(wrap64 (x3_1+1)),SR,H',⟨by have:=HK1.out;omega⟩,by repeat (first|exact zL.refl _|apply zL.step)⟩
   rw[if_neg c3] at H;exact absurd H (by simp)
  rw[if_neg c2] at H;have c2b0:decide (x3_1<(a0.size:Int))=false:=decide_eq_false c2;clear c2;obtain rfl:=Option.some.inj H;go_wp2
  go_ret
  exact⟨by first|rfl|(simp;done)|(simp[*];done)|(simp[*,Fig.bne_nil];done),by repeat (first|exact zL.refl _|apply zL.step)⟩
theorem zgb (s:ByteArray) (hs:s.size≤4611686018427387904):∀ (d n:Nat),s.size-n=d→n≤s.size→Ev (fun k=>jE.l0 k s (n:Int)) (yH (s.data.toList.drop n)&&decide (s.size≠0))
 | 0,n,hd,hn=>by
  refine zaE (r':=(s.toList !=([]:List UInt8))) (fun k=>?_) ?_
  ·simp only[jE.l0];rw[if_neg (by omega)]
  rw[List.drop_of_length_le (by rw[←zR];omega),bne_nil,ByteArray.toList_eq,zR]
  cases s.data.toList <;> simp[yH]
 | d+1,n,hd,hn=>by
  have hlt:n<s.size:=by omega
  have hbt:=zcM hlt;have hc:=List.drop_eq_getElem_cons (l:=s.data.toList) (i:=n) (by rw[←zR];exact hlt);rw[hc];generalize hx:s.data.toList[n]'(by rw[←zR];exact hlt)=c at hbt
  by_cases h1:c.toNat<48
  ·refine zaE (r':=false) (fun k=>?_) ?_
   ·simp only[jE.l0];rw[if_pos (by omega),if_pos (by omega),hbt,if_pos (by omega)]
   have:isD c=false:=by unfold isD;simp;omega
   simp[yH,this]
  by_cases h2:c.toNat>57
  ·refine zaE (r':=false) (fun k=>?_) ?_
   ·simp only[jE.l0];rw[if_pos (by omega),if_pos (by omega),hbt,if_neg (by omega),if_pos (by omega)]
   have:isD c=false:=by unfold isD;simp;omega
   simp[yH,this]
  have hd1:isD c=true:=uU.2 ⟨by omega,by omega⟩;refine zaw (Ev.step (f:=fun k=>jE.l0 k s ((n+1:Nat):Int)) (fun k=>?_) (zgb s hs d (n+1) (by omega) (by omega))) ?_
  ·simp only[jE.l0];rw[if_pos (by omega),if_pos (by omega),hbt,if_neg (by omega),if_neg (by omega),xU _ (by omega)]
  simp[yH,hd1]
theorem zkd {s:ByteArray} (hs:s.size≤4611686018427387904):Ev (fun k=>jE.f k s) (dB s&&decide (s.size≠0)):=by
 have:=zgb s hs s.size 0 (by omega) (by omega)
 rw[List.drop_zero] at this;exact this
def qA.f (k:Nat) (a0_0:Bool) (a0_1:ByteArray) (a0_2:Int):Option (Bool):=(jE.f k a0_1).bind fun t590=>(if t590=true then (if (a0_1.size:Int)≤1000 then (if a0_2 ≥ (-1000) then (some (decide (a0_2≤1000))) else (some false)) else (some false)) else (some false))
set_option maxHeartbeats 8000000 in
set_option maxRecDepth 100000 in
theorem qA.calls (k:Nat) (a0_0:Bool) (a0_1:ByteArray) (a0_2:Int) (r:Bool) (w:World) (h:qA.f k a0_0 a0_1 a0_2=some r) :
  Calls Tryz.prog 40 #[.agg #[.bool a0_0,.string a0_1,.int .i64 a0_2]] w fun e w'=>e=.returned (.bool r)∧Below w.heap.size w w':=by
 have hu23:=Tryz.underlying23;have HB:=K_ (Below.refl w.heap.size w);have H:((jE.f k a0_1).bind fun t590=>(if t590=true then (if (a0_1.size:Int)≤1000 then (if a0_2 ≥ (-1000) then (some (decide (a0_2≤1000))) else (some false)) else (some false)) else (some false)))=some r:=h;clear h;obtain⟨t590,A20,H⟩:=Option.bind_eq_some_iff.mp H
 (try dsimp -simprocs only at H)
 have A2:=K_ A20;clear A20;by_cases c3:t590=true
 ·subst c3
  rw[if_pos rfl] at H;by_cases c4:(a0_1.size:Int)≤1000
  ·rw[if_pos c4] at H
   have c4b0:decide ((a0_1.size:Int)≤1000)=true:=decide_eq_true c4;have c4b1:decide (a0_1.size≤1000)=true:=decide_eq_true (by omega);clear c4;by_cases c5:a0_2 ≥ (-1000)
   ·rw[if_pos c5] at H
    have c5b0:decide ((-1000)≤a0_2)=true:=decide_eq_true c5;clear c5;obtain rfl:=Option.some.inj H;go_enter Tryz.func40,Tryz.ntmps40
    go_wp2_with (first|((with_reducible refine zE (N:=1) rfl ?_);(try (refine vQ (by rfl) ?_;dsimp only));refine be_ 1 #[.bool a0_0,.string a0_1,.int .i64 a0_2] 23 ?_;intro gb589 hg w6 hbox hb;have BK589:=K_ (hbox);have GW589:=ge_ hg HB;have GE589:=ge_ hg HB;replace HB:=zF HB hb;clear hb hbox hg;obtain⟨⟨hcz7_0,hcz7_1,hcz7_2⟩,hfz7_0,hfz7_1,hfz7_2⟩:=ce3 BK589)|((with_reducible refine zH (f:=68) rfl ?_);refine zT (some 5) rfl rfl Tryz.func68 (by kernel_rfl) rfl #[.string a0_1] rfl MP ?_;(with_reducible refine (jE.calls k a0_1 true _ A2.out).mono ?_);rintro e w' ⟨rfl,⟨nd,rfl⟩⟩;refine⟨_,rfl,?_⟩))
    go_ret
    exact⟨ER,BL HB⟩
   rw[if_neg c5] at H;have c5b0:decide ((-1000)≤a0_2)=false:=decide_eq_false c5;clear c5;obtain rfl:=Option.some.inj H;go_enter Tryz.func40,Tryz.ntmps40
   go_wp2_with (first|((with_reducible refine zE (N:=1) rfl ?_);(try (refine vQ (by rfl) ?_;dsimp only));refine be_ 1 #[.bool a0_0,.string a0_1,.int .i64 a0_2] 23 ?_;intro gb589 hg w8 hbox hb;have BK589:=K_ (hbox);have GW589:=ge_ hg HB;have GE589:=ge_ hg HB;replace HB:=zF HB hb;clear hb hbox hg;obtain⟨⟨hcz9_0,hcz9_1,hcz9_2⟩,hfz9_0,hfz9_1,hfz9_2⟩:=ce3 BK589)|((with_reducible refine zH (f:=68) rfl ?_);refine zT (some 5) rfl rfl Tryz.func68 (by kernel_rfl) rfl #[.string a0_1] rfl MP ?_;(with_reducible refine (jE.calls k a0_1 true _ A2.out).mono ?_);rintro e w' ⟨rfl,⟨nd,rfl⟩⟩;refine⟨_,rfl,?_⟩))
   go_ret
   exact⟨ER,BL HB⟩
  rw[if_neg c4] at H;have c4b0:decide ((a0_1.size:Int)≤1000)=false:=decide_eq_false c4;have c4b1:decide (a0_1.size≤1000)=false:=decide_eq_false (by omega);clear c4;obtain rfl:=Option.some.inj H;go_enter Tryz.func40,Tryz.ntmps40
  go_wp2_with (first|((with_reducible refine zE (N:=1) rfl ?_);(try (refine vQ (by rfl) ?_;dsimp only));refine be_ 1 #[.bool a0_0,.string a0_1,.int .i64 a0_2] 23 ?_;intro gb589 hg w10 hbox hb;have BK589:=K_ (hbox);have GW589:=ge_ hg HB;have GE589:=ge_ hg HB;replace HB:=zF HB hb;clear hb hbox hg;obtain⟨⟨hcz11_0,hcz11_1,hcz11_2⟩,hfz11_0,hfz11_1,hfz11_2⟩:=ce3 BK589)|((with_reducible refine zH (f:=68) rfl ?_);refine zT (some 5) rfl rfl Tryz.func68 (by kernel_rfl) rfl #[.string a0_1] rfl MP ?_;(with_reducible refine (jE.calls k a0_1 true _ A2.out).mono ?_);rintro e w' ⟨rfl,⟨nd,rfl⟩⟩;refine⟨_,rfl,?_⟩))
  go_ret
  exact⟨ER,BL HB⟩
 replace c3:=Bool.eq_false_iff.mpr c3;subst c3;rw[if_neg (show ¬ (false=true) by decide)] at H;obtain rfl:=Option.some.inj H;go_enter Tryz.func40,Tryz.ntmps40
 go_wp2_with (first|((with_reducible refine zE (N:=1) rfl ?_);(try (refine vQ (by rfl) ?_;dsimp only));refine be_ 1 #[.bool a0_0,.string a0_1,.int .i64 a0_2] 23 ?_;intro gb589 hg w12 hbox hb;have BK589:=K_ (hbox);have GW589:=ge_ hg HB;have GE589:=ge_ hg HB;replace HB:=zF HB hb;clear hb hbox hg;obtain⟨⟨hcz13_0,hcz13_1,hcz13_2⟩,hfz13_0,hfz13_1,hfz13_2⟩:=ce3 BK589)|((with_reducible refine zH (f:=68) rfl ?_);refine zT (some 5) rfl rfl Tryz.func68 (by kernel_rfl) rfl #[.string a0_1] rfl MP ?_;(with_reducible refine (jE.calls k a0_1 false _ A2.out).mono ?_);rintro e w' ⟨rfl,⟨nd,rfl⟩⟩;refine⟨_,rfl,?_⟩))
 go_ret
 exact⟨ER,BL HB⟩
theorem zmo {b:Bool} {s:ByteArray} {e:Int} (hs:s.size≤4611686018427387904):Ev (fun k=>qA.f k b s e) (zbH s e):=by
 unfold qA.f;refine Ev.bind (zkd hs) ?_;unfold zbH;cases hd:(dB s&&decide (s.size≠0))
 ·simp only[Bool.false_eq_true,if_false,Bool.false_and]
  exact Ev.now _
 simp only[if_true,Bool.true_and]
 by_cases h1:s.size≤1000
 ·have h1':(s.size:Int)≤1000:=by omega
  simp only[h1',h1,if_true,decide_true,Bool.true_and]
  by_cases h2:e ≥ -1000
  ·have h2':-1000≤e:=h2
   simp only[h2,h2',if_true,decide_true,Bool.true_and]
   exact Ev.now _
  have h2':¬ -1000≤e:=h2;simp only[h2,h2',if_false,decide_false,Bool.false_and]
  exact Ev.now _
 have h1':¬ (s.size:Int)≤1000:=by omega
 simp only[h1',h1,if_false,decide_false,Bool.false_and]
 exact Ev.now _
def zY.l0:Nat→ByteArray→Int→Bool→ByteArray→Int→Option (Bool×ByteArray×Int)
 | 0,_,_,_,_,_=>none
 | k+1,x3,x4,x592000,x592001,x592002=>if 0≤(wrap64 ((x3.size:Int)-1)) then (if (wrap64 ((x3.size:Int)-1))<(x3.size:Int) then (if (bt x3 (wrap64 ((x3.size:Int)-1)))=48 then (if (wrap64 ((x3.size:Int)-1))≤(x3.size:Int) then (zY.l0 k (x3.extract 0 ((wrap64 ((x3.size:Int)-1)):Int).toNat) (wrap64 (x4+1)) x592000 x592001 x592002) else (none)) else (some (x592000,x3,x4))) else (none)) else (none)
def zY.f (k:Nat) (a0_0:Bool) (a0_1:ByteArray) (a0_2:Int):Option (Bool×ByteArray×Int):=(zO.f k a0_1).bind fun t593=>(if t593.toList=([]:List UInt8) then (some (a0_0,(⟨#[48]⟩:ByteArray),0)) else (zY.l0 k t593 a0_2 a0_0 a0_1 a0_2))
set_option maxHeartbeats 8000000 in
set_option maxRecDepth 100000 in
theorem zY.calls (k:Nat) (a0_0:Bool) (a0_1:ByteArray) (a0_2:Int) (r1:Bool) (r2:ByteArray) (r3:Int) (w:World) (h:zY.f k a0_0 a0_1 a0_2=some (r1,r2,r3)) :
  Calls Tryz.prog 50 #[.agg #[.bool a0_0,.string a0_1,.int .i64 a0_2]] w fun e w'=>e=.returned (.agg #[.bool r1,.string r2,.int .i64 r3])∧Below w.heap.size w w':=by
 have hu23:=Tryz.underlying23;have HB:=K_ (Below.refl w.heap.size w);have H:((zO.f k a0_1).bind fun t593=>(if t593.toList=([]:List UInt8) then (some (a0_0,(⟨#[48]⟩:ByteArray),0)) else (zY.l0 k t593 a0_2 a0_0 a0_1 a0_2)))=some (r1,r2,r3):=h;clear h;obtain⟨t593,A20,H⟩:=Option.bind_eq_some_iff.mp H
 (try dsimp -simprocs only at H)
 have A2:=K_ A20;clear A20;by_cases c3:t593.toList=([]:List UInt8)
 ·rw[if_pos c3] at H
  have c3b0:(t593.toList==([]:List UInt8))=true:=beq_iff_eq.mpr c3;have c3b1:(t593.toList !=([]:List UInt8))=false:=bne_eq_false_iff_eq.mpr c3;clear c3;simp only[Option.some.injEq,Prod.mk.injEq] at H
  obtain⟨rfl,rfl,rfl⟩:=H;go_enter Tryz.func50,Tryz.ntmps50
  go_wp2_with (first|(refine be_ 1 #[.bool a0_0,.string a0_1,.int .i64 a0_2] 23 ?_;intro gb591 hg w4 hbox hb;have BK591:=K_ (hbox);have GW591:=ge_ hg HB;have GE591:=ge_ hg HB;replace HB:=zF HB hb;clear hb hbox hg)|(refine be_ 2 #[.bool false,.string (⟨#[]⟩:ByteArray),.int .i64 0] 23 ?_;intro gb592 hg w5 hbox hb;have BK592:=K_ (hbox);have GW592:=ge_ hg HB;have GE592:=ge_ hg HB;replace HB:=zF HB hb;have NB591_592:=nb_ hg BK591;have NB592_591:=nc_ hg BK591;replace BK591:=zC BK591 hb;clear hb hbox hg;have hnb6:=NB591_592.out;have hnc6:=NB592_591.out;obtain⟨⟨hcz7_0,hcz7_1,hcz7_2⟩,hfz7_0,hfz7_1,hfz7_2⟩:=ce3 BK591)|((with_reducible refine zH (f:=69) rfl ?_);refine zT (some 7) rfl rfl Tryz.func69 (by kernel_rfl) rfl #[.string a0_1] rfl MP ?_;(with_reducible refine (zO.calls k a0_1 t593 _ A2.out).mono ?_);rintro e w' ⟨rfl,⟨nd,rfl⟩⟩;refine⟨_,rfl,?_⟩;(try (rw[zah w5];generalize hq_:World.drewN w5 _=w5;replace BK591:=zbR BK591 hq_;replace BK592:=zbR BK592 hq_;replace HB:=zdt HB hq_;clear hq_));(try (obtain⟨⟨hcz9066_0,hcz9066_1,hcz9066_2⟩,hfz9066_0,hfz9066_1,hfz9066_2⟩:=ce3 BK591));(try (obtain⟨⟨hcz9067_0,hcz9067_1,hcz9067_2⟩,hfz9067_0,hfz9067_1,hfz9067_2⟩:=ce3 BK592));obtain⟨⟨hcz8_0,hcz8_1,hcz8_2⟩,hfz8_0,hfz8_1,hfz8_2⟩:=ce3 BK592))
  refine bodyPost_ret (results_cell_row rfl _ _ gb592 23 #[.bool a0_0,.string (⟨#[48]⟩:ByteArray),.int .i64 0] (0,0) _ rfl (BP BK592) Tryz.underlying23 rfl (by kernel_rfl)) rfl ?_;exact⟨ER,BL HB⟩
 rw[if_neg c3] at H;have c3b0:(t593.toList==([]:List UInt8))=false:=beq_eq_false_iff_ne.mpr c3;have c3b1:(t593.toList !=([]:List UInt8))=true:=bne_iff_ne.mpr c3;have H':=K_ H;clear H;go_enter Tryz.func50,Tryz.ntmps50
 go_wp2_with (first|(refine be_ 1 #[.bool a0_0,.string a0_1,.int .i64 a0_2] 23 ?_;intro gb591 hg w9 hbox hb;have BK591:=K_ (hbox);have GW591:=ge_ hg HB;have GE591:=ge_ hg HB;replace HB:=zF HB hb;clear hb hbox hg)|(refine be_ 2 #[.bool false,.string (⟨#[]⟩:ByteArray),.int .i64 0] 23 ?_;intro gb592 hg w10 hbox hb;have BK592:=K_ (hbox);have GW592:=ge_ hg HB;have GE592:=ge_ hg HB;replace HB:=zF HB hb;have NB591_592:=nb_ hg BK591;have NB592_591:=nc_ hg BK591;replace BK591:=zC BK591 hb;clear hb hbox hg;have hnb11:=NB591_592.out;have hnc11:=NB592_591.out;obtain⟨⟨hcz12_0,hcz12_1,hcz12_2⟩,hfz12_0,hfz12_1,hfz12_2⟩:=ce3 BK591)|((with_reducible refine zH (f:=69) rfl ?_);refine zT (some 7) rfl rfl Tryz.func69 (by kernel_rfl) rfl #[.string a0_1] rfl MP ?_;(with_reducible refine (zO.calls k a0_1 t593 _ A2.out).mono ?_);rintro e w' ⟨rfl,⟨nd,rfl⟩⟩;refine⟨_,rfl,?_⟩))
 go_loopg [3,4] k (fun kq v3 v4 w'=>∃ (x3_1:ByteArray) (x4_1:Int),v3=.string x3_1∧v4=.int .i64 x4_1∧Aside0 (zY.l0 kq x3_1 x4_1 a0_0 a0_1 a0_2=some (r1,r2,r3))∧Aside0 (kq≤k)∧Aside0 (w'.heap[gb591]?=some (.cells #[.bool a0_0,.string a0_1,.int .i64 a0_2] 23 (0,0)))∧Aside0 (w'.heap[gb592]?=some (.cells #[.bool false,.string (⟨#[]⟩:ByteArray),.int .i64 0] 23 (0,0)))∧Aside0 (Below w.heap.size w w'))
 case atStart=>exact⟨(t593),(a0_2),SR,SR,H',⟨Nat.le_refl _⟩,⟨BK BK591⟩,⟨BK BK592⟩,⟨BL HB⟩⟩
 case round =>
  clear H';try clear c3
  try clear c3b0
  try clear c3b1
  try clear hcz12_0
  try clear hcz12_1
  try clear hcz12_2
  try clear hfz12_0
  try clear hfz12_1
  try clear hfz12_2
  obtain⟨x3_1,x4_1,rfl,rfl,HA,HK1,BK591,BK592,HB⟩:=hrel;obtain _|k1:=gk
  ·exact absurd HA.out (by simp[zY.l0])
  have H:=HA.out;clear HA;simp only[zY.l0] at H
  obtain⟨ji13,hji13⟩:∃ j_:Int,(wrap64 ((x3_1.size:Int)-1))=j_:=⟨_,rfl⟩
  replace H:(if 0≤(ji13) then (if (ji13)<(x3_1.size:Int) then (if (bt x3_1 (ji13))=48 then (if (ji13)≤(x3_1.size:Int) then (zY.l0 k1 (x3_1.extract 0 ((ji13):Int).toNat) (wrap64 (x4_1+1)) a0_0 a0_1 a0_2) else (none)) else (some (a0_0,x3_1,x4_1))) else (none)) else (none))=some (r1,r2,r3):=by first|(rw[hji13] at H;exact H)|(simp only[hji13] at H ⊢;exact H)
  have hji13w:(IntKind.i64.wrap ((x3_1.size:Int)-1))=ji13:=(vY _).trans hji13;by_cases c14:0≤(ji13)
  ·rw[if_pos c14] at H
   have c14b0:decide (0≤(ji13))=true:=decide_eq_true c14;clear c14;by_cases c15:(ji13)<(x3_1.size:Int)
   ·rw[if_pos c15] at H
    have c15b0:decide ((ji13)<(x3_1.size:Int))=true:=decide_eq_true c15;clear c15;by_cases c17:(bt x3_1 (ji13))=48
    ·rw[if_pos c17] at H
     have c17b0:((bt x3_1 (ji13))==48)=true:=beq_iff_eq.mpr c17;have c17b1:((bt x3_1 (ji13)) !=48)=false:=bne_eq_false_iff_eq.mpr c17;clear c17;have c18b0:=eq_true (of_decide_eq_true (by first|(with_reducible assumption)|assumption):0≤(ji13));by_cases c19:(ji13)≤(x3_1.size:Int)
     ·rw[if_pos c19] at H
      have c19b0:=eq_true c19;have c19b1:decide ((ji13)≤(x3_1.size:Int))=true:=decide_eq_true c19;clear c19;have H':=K_ H;clear H;have p16:0≤((ji13):Int):=of_decide_eq_true (by first|(with_reducible assumption)|assumption);have q16:(ji13)<(x3_1.size:Int):=of_decide_eq_true (by first|(with_reducible assumption)|assumption);have hx16:=zap x3_1 (ji13);replace p16:=eq_true p16;replace q16:=eq_true q16;go_wp2
      go_roundg k1
      case measure=>have:=HK1.out;omega
      case rel=>exact⟨(x3_1.extract 0 ((ji13):Int).toNat),(wrap64 (x4_1+1)),(by first|rfl|(simp;done)|(simp only[←hji13] <;> (first|rfl|simp))|(simp[*];done)|(simp[*,Fig.bne_nil];done)),SR,H',⟨by have:=HK1.out;omega⟩,⟨BK BK591⟩,⟨BK BK592⟩,⟨BL HB⟩⟩
     rw[if_neg c19] at H;exact absurd H (by simp)
    rw[if_neg c17] at H;have c17b0:((bt x3_1 (ji13))==48)=false:=beq_eq_false_iff_ne.mpr c17;have c17b1:((bt x3_1 (ji13)) !=48)=true:=bne_iff_ne.mpr c17;simp only[Option.some.injEq,Prod.mk.injEq] at H
    obtain⟨rfl,rfl,rfl⟩:=H;have p16:0≤((ji13):Int):=of_decide_eq_true (by first|(with_reducible assumption)|assumption);have q16:(ji13)<(x3_1.size:Int):=of_decide_eq_true (by first|(with_reducible assumption)|assumption);have hx16:=zap x3_1 (ji13);replace p16:=eq_true p16;replace q16:=eq_true q16;have hnb20:=NB591_592.out;have hnc20:=NB592_591.out;obtain⟨⟨hcz21_0,hcz21_1,hcz21_2⟩,hfz21_0,hfz21_1,hfz21_2⟩:=ce3 BK591;obtain⟨⟨hcz22_0,hcz22_1,hcz22_2⟩,hfz22_0,hfz22_1,hfz22_2⟩:=ce3 BK592;go_wp2
    refine bodyPost_ret (results_cell_row rfl _ _ gb592 23 #[.bool a0_0,.string x3_1,.int .i64 x4_1] (0,0) _ rfl (BP BK592) Tryz.underlying23 rfl (by kernel_rfl)) rfl ?_;exact⟨by first|rfl|(simp[yR,yO] <;> rfl)|(simp only[←hji13];first|rfl|(simp[yR,yO] <;> rfl))|(simp[*,yR,yO] <;> rfl),BL HB⟩
   rw[if_neg c15] at H;exact absurd H (by simp)
  rw[if_neg c14] at H;exact absurd H (by simp)
theorem zkH {n:Nat} (h:n≠0):bt (zU n) (((zU n).size:Int)-1)=((48+n % 10:Nat):Int):=by
 have hs:=zcY h;have hl:=ziv h;have hlt:(zU (n / 10)).size<(zU n).size:=by omega
 rw[show ((zU n).size:Int)-1=((zU (n / 10)).size:Int) by omega,zcM hlt];have hg:=List.getElem?_eq_getElem (l:=(zU n).data.toList) (i:=(zU (n / 10)).size) (by rw[←zR];exact hlt);rw[hl] at hg;rw[←Option.some.inj hg,zbo]
theorem zgi (b b2:Bool) (s2:ByteArray) (e2:Int):∀ (d n:Nat) (e:Int),n≠0→n<d→(zU n).size≤1000000→-1000000≤e→e+((zU n).size:Int)≤2000000→Ev (fun k=>zY.l0 k (zU n) e b s2 e2) (b,nD n,nE n e)
 | 0,n,e,h0,hd,hz,h1,h2=>absurd hd (by omega)
 | d+1,n,e,h0,hd,hz,h1,h2=>by
  have hs:=zcY h0;have hb:=zkH h0;have hw:wrap64 (((zU n).size:Int)-1)=((zU n).size:Int)-1:=w64 (by omega) (by omega);by_cases hm:n % 10=0
  ·have h3:n / 10≠0:=by omega
   have h4:n / 10<d:=by have:=zgA h0;omega
   have e1:nD n=nD (n / 10):=by
    conv=>lhs;rw[show n=n / 10 * 10 ^ 1 by omega]
    exact zjJ _ _
   have e2':nE n e=nE (n / 10) (e+1):=by
    conv=>lhs;rw[show n=n / 10 * 10 ^ 1 by omega]
    exact ziD _ _ _
   rw[e1,e2'];refine Ev.step (f:=fun k=>zY.l0 k (zU (n / 10)) (e+1) b s2 e2) (fun k=>?_) (zgi b b2 s2 e2 d (n / 10) (e+1) h3 h4 (by omega) (by omega) (by omega));simp only[zY.l0]
   rw[hw,if_pos (by omega),if_pos (by omega),hb,if_pos (by omega),if_pos (by omega),w64 (x:=e+1) (by omega) (by omega)];rw[show (((zU n).size:Int)-1).toNat=(zU (n / 10)).size by omega,zix h0]
  rw[zqx hm,zqs hm];refine zaE (r':=(b,zU n,e)) (fun k=>?_) rfl;simp only[zY.l0]
  rw[hw,if_pos (by omega),if_pos (by omega),hb,if_neg (by omega)]
theorem zha {b:Bool} {s:ByteArray} {e:Int} (hd:dB s=true) (hz:s.size≤1000000) (h1:-1000000≤e) (h2:e≤1000000):Ev (fun k=>zY.f k b s e) (b,nD (vB s),nE (vB s) e):=by
 have hv:(zU (vB s)).size≤s.size:=zaj (zdH hd);unfold zY.f;refine Ev.bind (zbP (by omega) hd) ?_;by_cases h0:vB s=0
 ·simp only[uV.2 h0,if_true]
  rw[h0];exact Ev.now _
 have h3:¬ (zU (vB s)).toList=([]:List UInt8):=fun hh=>h0 (uV.1 hh)
 simp only[h3,if_false]
 exact zgi b b s e (vB s+1) (vB s) e h0 (by omega) (by omega) (by omega) (by omega)
theorem zfa {b:Bool} {s:ByteArray} {e:Int} (h:OkD s e):Ev (fun k=>zY.f k b s e) (b,nD (vB s),nE (vB s) e):=by
 have h1:=h.sz;have h2:=h.lo;have h3:=h.hi;exact zha h.d (by omega) (by omega) (by omega)
def vP.f (k:Nat) (a0_0:Bool) (a0_1:ByteArray) (a0_2:Int):Option (Bool):=(zY.f k a0_0 a0_1 a0_2).bind fun bt595=>(if bt595.2.1.toList=([48]:List UInt8) then (some true) else (if bt595.2.2 ≥ (-300) then (some (decide ((wrap64 (bt595.2.2+(bt595.2.1.size:Int)))≤300))) else (some false)))
set_option maxHeartbeats 8000000 in
set_option maxRecDepth 100000 in
theorem vP.calls (k:Nat) (a0_0:Bool) (a0_1:ByteArray) (a0_2:Int) (r:Bool) (w:World) (h:vP.f k a0_0 a0_1 a0_2=some r) :
  Calls Tryz.prog 41 #[.agg #[.bool a0_0,.string a0_1,.int .i64 a0_2]] w fun e w'=>e=.returned (.bool r)∧Below w.heap.size w w':=by
 have hu23:=Tryz.underlying23;have HB:=K_ (Below.refl w.heap.size w);have H:((zY.f k a0_0 a0_1 a0_2).bind fun bt595=>(if bt595.2.1.toList=([48]:List UInt8) then (some true) else (if bt595.2.2 ≥ (-300) then (some (decide ((wrap64 (bt595.2.2+(bt595.2.1.size:Int)))≤300))) else (some false))))=some r:=h;clear h;obtain⟨⟨t595,t596,t597⟩,A20,H⟩:=Option.bind_eq_some_iff.mp H
 (try dsimp -simprocs only at H)
 have A2:=K_ A20;clear A20;by_cases c3:t596.toList=([48]:List UInt8)
 ·rw[if_pos c3] at H
  have c3b0:(t596.toList==([48]:List UInt8))=true:=beq_iff_eq.mpr c3;have c3b1:(t596.toList !=([48]:List UInt8))=false:=bne_eq_false_iff_eq.mpr c3;clear c3;obtain rfl:=Option.some.inj H;go_enter Tryz.func41,Tryz.ntmps41
  go_wp2_with (first|((with_reducible refine zE (N:=1) rfl ?_);(try (refine vQ (by rfl) ?_;dsimp only));refine be_ 1 #[.bool a0_0,.string a0_1,.int .i64 a0_2] 23 ?_;intro gb594 hg w4 hbox hb;have BK594:=K_ (hbox);have GW594:=ge_ hg HB;have GE594:=ge_ hg HB;replace HB:=zF HB hb;clear hb hbox hg;obtain⟨⟨hcz5_0,hcz5_1,hcz5_2⟩,hfz5_0,hfz5_1,hfz5_2⟩:=ce3 BK594)|((with_reducible refine zH (f:=50) rfl ?_);refine zT (some 5) rfl rfl Tryz.func50 (by kernel_rfl) rfl #[.agg #[.bool a0_0,.string a0_1,.int .i64 a0_2]] rfl MP ?_;(with_reducible refine (zY.calls k a0_0 a0_1 a0_2 t595 t596 t597 _ A2.out).mono ?_);rintro e w6 ⟨rfl,hb⟩;refine⟨_,rfl,?_⟩;replace BK594:=zC BK594 hb;replace HB:=zF HB hb;(try clear hb);(try clear hb2);(try clear hk);(try clear hi))|((with_reducible refine zE (N:=3) rfl ?_);(try (refine vQ (by rfl) ?_;dsimp only));refine be_ 3 #[.bool false,.string (⟨#[]⟩:ByteArray),.int .i64 0] 23 ?_;intro gb598 hg w7 hbox hb;have BK598:=K_ (hbox);have GW598:=ge_ hg HB;have GE598:=ge_ hg HB;replace HB:=zF HB hb;have NB594_598:=nb_ hg BK594;have NB598_594:=nc_ hg BK594;replace BK594:=zC BK594 hb;clear hb hbox hg;have hnb8:=NB598_594.out;have hnc8:=NB594_598.out;obtain⟨⟨hcz9_0,hcz9_1,hcz9_2⟩,hfz9_0,hfz9_1,hfz9_2⟩:=ce3 BK598))
  go_ret
  exact⟨ER,BL HB⟩
 rw[if_neg c3] at H;have c3b0:(t596.toList==([48]:List UInt8))=false:=beq_eq_false_iff_ne.mpr c3;have c3b1:(t596.toList !=([48]:List UInt8))=true:=bne_iff_ne.mpr c3;by_cases c10:t597 ≥ (-300)
 ·rw[if_pos c10] at H
  have c10b0:decide ((-300)≤t597)=true:=decide_eq_true c10;clear c10;obtain rfl:=Option.some.inj H;go_enter Tryz.func41,Tryz.ntmps41
  go_wp2_with (first|((with_reducible refine zE (N:=1) rfl ?_);(try (refine vQ (by rfl) ?_;dsimp only));refine be_ 1 #[.bool a0_0,.string a0_1,.int .i64 a0_2] 23 ?_;intro gb594 hg w11 hbox hb;have BK594:=K_ (hbox);have GW594:=ge_ hg HB;have GE594:=ge_ hg HB;replace HB:=zF HB hb;clear hb hbox hg;obtain⟨⟨hcz12_0,hcz12_1,hcz12_2⟩,hfz12_0,hfz12_1,hfz12_2⟩:=ce3 BK594)|((with_reducible refine zH (f:=50) rfl ?_);refine zT (some 5) rfl rfl Tryz.func50 (by kernel_rfl) rfl #[.agg #[.bool a0_0,.string a0_1,.int .i64 a0_2]] rfl MP ?_;(with_reducible refine (zY.calls k a0_0 a0_1 a0_2 t595 t596 t597 _ A2.out).mono ?_);rintro e w13 ⟨rfl,hb⟩;refine⟨_,rfl,?_⟩;replace BK594:=zC BK594 hb;replace HB:=zF HB hb;(try clear hb);(try clear hb2);(try clear hk);(try clear hi))|((with_reducible refine zE (N:=3) rfl ?_);(try (refine vQ (by rfl) ?_;dsimp only));refine be_ 3 #[.bool false,.string (⟨#[]⟩:ByteArray),.int .i64 0] 23 ?_;intro gb598 hg w14 hbox hb;have BK598:=K_ (hbox);have GW598:=ge_ hg HB;have GE598:=ge_ hg HB;replace HB:=zF HB hb;have NB594_598:=nb_ hg BK594;have NB598_594:=nc_ hg BK594;replace BK594:=zC BK594 hb;clear hb hbox hg;have hnb15:=NB598_594.out;have hnc15:=NB594_598.out;obtain⟨⟨hcz16_0,hcz16_1,hcz16_2⟩,hfz16_0,hfz16_1,hfz16_2⟩:=ce3 BK598))
  go_ret
  exact⟨ER,BL HB⟩
 rw[if_neg c10] at H;have c10b0:decide ((-300)≤t597)=false:=decide_eq_false c10;clear c10;obtain rfl:=Option.some.inj H;go_enter Tryz.func41,Tryz.ntmps41
 go_wp2_with (first|((with_reducible refine zE (N:=1) rfl ?_);(try (refine vQ (by rfl) ?_;dsimp only));refine be_ 1 #[.bool a0_0,.string a0_1,.int .i64 a0_2] 23 ?_;intro gb594 hg w17 hbox hb;have BK594:=K_ (hbox);have GW594:=ge_ hg HB;have GE594:=ge_ hg HB;replace HB:=zF HB hb;clear hb hbox hg;obtain⟨⟨hcz18_0,hcz18_1,hcz18_2⟩,hfz18_0,hfz18_1,hfz18_2⟩:=ce3 BK594)|((with_reducible refine zH (f:=50) rfl ?_);refine zT (some 5) rfl rfl Tryz.func50 (by kernel_rfl) rfl #[.agg #[.bool a0_0,.string a0_1,.int .i64 a0_2]] rfl MP ?_;(with_reducible refine (zY.calls k a0_0 a0_1 a0_2 t595 t596 t597 _ A2.out).mono ?_);rintro e w19 ⟨rfl,hb⟩;refine⟨_,rfl,?_⟩;replace BK594:=zC BK594 hb;replace HB:=zF HB hb;(try clear hb);(try clear hb2);(try clear hk);(try clear hi))|((with_reducible refine zE (N:=3) rfl ?_);(try (refine vQ (by rfl) ?_;dsimp only));refine be_ 3 #[.bool false,.string (⟨#[]⟩:ByteArray),.int .i64 0] 23 ?_;intro gb598 hg w20 hbox hb;have BK598:=K_ (hbox);have GW598:=ge_ hg HB;have GE598:=ge_ hg HB;replace HB:=zF HB hb;have NB594_598:=nb_ hg BK594;have NB598_594:=nc_ hg BK594;replace BK594:=zC BK594 hb;clear hb hbox hg;have hnb21:=NB598_594.out;have hnc21:=NB594_598.out;obtain⟨⟨hcz22_0,hcz22_1,hcz22_2⟩,hfz22_0,hfz22_1,hfz22_2⟩:=ce3 BK598))
 go_ret
 exact⟨ER,BL HB⟩
theorem zfY {b:Bool} {s:ByteArray} {e:Int} (h:OkD s e):Ev (fun k=>vP.f k b s e) (zaM (vB s) e):=by
 have h1:=h.sz;have h2:=h.lo;have h3:=h.hi;have hz:=h.val;unfold vP.f;refine Ev.bind (zfa h) ?_;unfold zaM;have hn:(nD (vB s)).toList=([48]:List UInt8) ↔ vB s=0:=by
  rw[←zcW];constructor
  ·intro h;apply xN;rw[←ByteArray.toList_eq,h];rfl
  intro h;rw[h,ByteArray.toList_eq];rfl
 by_cases h0:vB s=0
 ·simp only[hn.2 h0,if_true]
  refine zaw (Ev.now _) ?_;simp[h0]
 have hn2:¬ (nD (vB s)).toList=([48]:List UInt8):=fun hh=>h0 (hn.1 hh)
 simp only[hn2,if_false]
 by_cases hr:nE (vB s) e ≥ -300
 ·have hl:=zbz h0
  have hnd:nD (vB s)=zU (yJ (vB s)):=by unfold nD;rw[if_neg h0]
  have hne:nE (vB s) e=e+(tz (vB s):Int):=by unfold nE;rw[if_neg h0]
  have hw:wrap64 (nE (vB s) e+((nD (vB s)).size:Int))=nE (vB s) e+((nD (vB s)).size:Int):=by
   rw[hnd,hne,w64 (by omega) (by omega)]
  simp only[hr,if_true,hw]
  refine zaw (Ev.now _) ?_;rw[decide_eq_decide];have hr':-300≤nE (vB s) e:=hr;unfold yD;rw[if_neg h0,hnd];simp only[h0,hr',false_or,true_and]
  rw[hne];omega
 have hr':¬ -300≤nE (vB s) e:=hr;simp only[hr,if_false]
 refine zaw (Ev.now _) ?_;simp[h0,hr']
end Go.Proofs.YtcmgdjnjmobkoaaGreatDoor.Px
namespace Go.Proofs.YtcmgdjnjmobkoaaGreatDoor.Px
set_option linter.all false
open Fig Go.RowKit Go.Proofs.YtcmgdjnjmobkoaaGreatDoorW.PrintWords Go.Proofs.YtcmgdjnjmobkoaaGreatDoorW.PrintLast Go.Proofs.YtcmgdjnjmobkoaaGreatDoorW.PrintMore
attribute [local go_sem] vK vL uE uD yS yP vM vJ
structure xP (q:Pat) (W:World) (b:Nat):Prop where
 r0:Kd.R k80 80 W b (fun _=>True) (.slice q.A0 q.l0.length q.c0) q.l0
 r1:Kd.R k80 80 W b (fun _=>True) (.slice q.A1 q.l1.length q.c1) q.l1
 r3:Kd.R k80 80 W b (fun _=>True) (.slice q.A3 q.l3.length q.c3) q.l3
 r4:Kd.R k80 80 W b (fun _=>True) (.slice q.A4 q.l4.length q.c4) q.l4
theorem xP.below {q:Pat} {W W':World} {b:Nat} (h:xP q W b) (hb:Below W.heap.size W W'):xP q W' b:=⟨Kd.R_below h.r0 hb,Kd.R_below h.r1 hb,Kd.R_below h.r3 hb,Kd.R_below h.r4 hb⟩
theorem xP.lower {q:Pat} {W:World} {b b':Nat} (h:xP q W b) (hb:b'≤b):xP q W b':=⟨Kd.R_lower h.r0 hb,Kd.R_lower h.r1 hb,Kd.R_lower h.r3 hb,Kd.R_lower h.r4 hb⟩
theorem zgN {t:TypeId} (ht:(80:Nat)≠t):∀ q,q∈80 :: k80.E→q≠t:=by
 intro q hq;have h8:(80 :: k80.E)=[80]:=rfl;rw[h8] at hq;have:q=80:=by simpa using hq
 rw[this];exact ht
theorem xP.so {q:Pat} {W w1:World} {b g t:Nat} {cs:Array Value} (h:xP q W b) (hb:W.heap[g]?=some (.cells cs t (0,0))) (ht:(80:Nat)≠t) (hfar:∀ k o,k≠g→W.heap[k]?=some o→w1.heap[k]?=some o):xP q w1 b:=
 ⟨uL h.r0 hb (zgN ht) hfar,uL h.r1 hb (zgN ht) hfar,uL h.r3 hb (zgN ht) hfar,uL h.r4 hb (zgN ht) hfar⟩
structure zbh (q:Pat):Prop where
 num:∃ t,vI t=some q.P
 g0:uH q.l0
 g1:uH q.l1
 g3:uH q.l3
 g4:uH q.l4
 nmix:¬ mixed q.l0 q.l1 q.l3 q.l4
 s0:q.l0.length≤1000
 s1:q.l1.length≤1000
 s3:q.l3.length≤1000
 s4:q.l4.length≤1000
theorem zbh.good {q:Pat} (h:zbh q):uS q.P:=by obtain⟨t,ht⟩:=h.num;exact zlS ht
theorem zbh.more {q:Pat} (h:zbh q):zdm q.P:=by obtain⟨t,ht⟩:=h.num;exact zlN ht
theorem xP.ok {q:Pat} {W:World} {b:Nat} (h:xP q W b) (g:zbh q):zaR q W:=
 ⟨(Kd.R_reads' h.r0).2.2,(Kd.R_reads' h.r1).2.2,(Kd.R_reads' h.r3).2.2,(Kd.R_reads' h.r4).2.2,(Kd.R_reads' h.r0).2.1,(Kd.R_reads' h.r1).2.1,(Kd.R_reads' h.r3).2.1,(Kd.R_reads' h.r4).2.1,g.s0,g.s1,g.s3,g.s4,g.g0,g.g1,g.g3,g.g4⟩
def zmN (s:ByteArray) (q:Pat) (E:Int):Prop:=∀ l,Ev (fun k=>zG.f k s) (l,0,0)→zai l→zaN l→∀ P0,zaq (l.map mk73) P0 →
   ¬ mixed (jM (uO (l.map mk73) (qK (l.map mk73)) l.length)) (jM (uN (l.map mk73) (qF (l.map mk73)) l.length)) (⟨2,0⟩ :: jM (uO (l.map mk73) (qK (l.map mk73)) l.length)) (jM (uN (l.map mk73) (qF (l.map mk73)) l.length)) →
   E=0∧q.P=P0∧q.l0=jM (uO (l.map mk73) (qK (l.map mk73)) l.length)∧q.l1=jM (uN (l.map mk73) (qF (l.map mk73)) l.length)∧q.l3=⟨2,0⟩ :: q.l0∧q.l4=q.l1
theorem zjN (s:ByteArray) (hs:s.size≤1048576) (w:World):Calls Tryz.prog 31 #[.string s] w fun e w'=>∃ (q:Pat) (E a:Int),e=.returned (.tuple #[.agg q.cs,.agg #[.int .i64 E,.int .i64 a]])∧xP q w' w.heap.size∧Below w.heap.size w w'∧(E=0→zbh q)∧zmN s q E:=by
 refine (zlJ s hs w).mono ?_;rintro e w' ⟨v1,v2,v3,v4,px,sx,nx,ny,P,hn,at_,pad,wd,E,a,rfl,h1,h2,h3,h4,hb,hg,hex⟩;obtain⟨A0,c0,rfl⟩:=Kd.R_slice h1;obtain⟨A1,c1,rfl⟩:=Kd.R_slice h2;obtain⟨A3,c3,rfl⟩:=Kd.R_slice h3;obtain⟨A4,c4,rfl⟩:=Kd.R_slice h4;refine⟨⟨A0,A1,A3,A4,c0,c1,c3,c4,px,sx,nx,ny,hn,P,at_,pad,wd⟩,E,a,rfl,⟨h1,h2,h3,h4⟩,hb,fun hE=>?_,hex⟩;obtain⟨i1,i2,i3,i4,i5,i6,i7,i8,i9,i10⟩:=hg hE;exact⟨i1,i2,i3,i4,i5,i6,i7,i8,i9,i10⟩
abbrev zpP:=Bool×ByteArray×Int
def ziZ (W:World) (ad:Addr) (L:List zpP):Prop:=∀ i (h:i<L.length),W.cell? (ad.add (i * 3))=some (.bool L[i].1)∧W.cell? ⟨(ad.add (i * 3)).block,(ad.add (i * 3)).off+1,none⟩=some (.string L[i].2.1)∧W.cell? ⟨(ad.add (i * 3)).block,(ad.add (i * 3)).off+2,none⟩=some (.int .i64 L[i].2.2)
theorem ziZ.below {W W':World} {ad:Addr} {L:List zpP} (h:ziZ W ad L) (hb:Below W.heap.size W W'):ziZ W' ad L:=fun i hi=>by
 obtain⟨h1,h2,h3⟩:=h i hi;exact⟨(hb.cell (World.block_lt_of_cell? _ _ h1)).trans h1,(hb.cell (World.block_lt_of_cell? _ _ h2)).trans h2,(hb.cell (World.block_lt_of_cell? _ _ h3)).trans h3⟩
theorem a24:vS.f false ⟨#[49]⟩ (-2) (-2)=some (false,⟨#[49]⟩,-4):=by kernel_rfl
theorem c24:vS.f false ⟨#[49,50,51,52]⟩ (-4) 2=some (false,⟨#[49,50,51,52]⟩,-2):=by kernel_rfl
theorem e24:zaG.f false ⟨#[49,50,51,52]⟩ (-2) (-2)=some true:=by kernel_rfl
end Go.Proofs.YtcmgdjnjmobkoaaGreatDoor.Px
namespace Go.Proofs.YtcmgdjnjmobkoaaGreatDoor.Px
open Fig Go.RowKit Go.Proofs.YtcmgdjnjmobkoaaGreatDoorW.PrintWords Go.Proofs.YtcmgdjnjmobkoaaGreatDoorW.PrintLast Go.Proofs.YtcmgdjnjmobkoaaGreatDoorW.PrintMore
attribute [local go_sem] vK vL uE uD yS yP vM vJ
attribute [local go_sem] qQ qX qL qW qY qN qZ xA qT qS qU qV xB qO
theorem zls (m:Int):yF.f m=some (decide (0≤m∧m<8)):=by
 unfold yF.f;by_cases h:m ≥ 0
 ·rw[if_pos h];congr 1;rw[decide_eq_decide];omega
 rw[if_neg h];congr 1;symm;rw[decide_eq_false_iff_not];omega
theorem zqt (e:Int) (p:Nat) (h1:-1000000≤e) (h2:e≤1000000) (hp:p≤1000000):wrap64 (e+(p:Int))=e+(p:Int):=w64 (by omega) (by omega)
theorem zpY (e:Int) (p q:Nat) (h1:-1000000≤e) (h2:e≤1000000) (hp:p≤1000000) (hq:q≤1000000):wrap64 (wrap64 (e+(p:Int))-(q:Int))=e+(p:Int)-(q:Int):=by rw[zqt e p h1 h2 hp,w64 (by omega) (by omega)]
theorem zdg {b:Bool} {s:ByteArray} {e:Int} (h:OkD s e):yB.f b s e=some (b,nD (vB s),nE (vB s) e):=by
 have hz:=h.val;have h1:=h.sz;have h2:=h.lo;have h3:=h.hi;unfold yB.f;rw[show qB.f s (⟨#[48]⟩:ByteArray)=some (zU (vB s)) by unfold qB.f;rw[if_pos rfl,zih h.d]];simp only[Option.bind_some]
 by_cases h0:vB s=0
 ·rw[if_pos (uV.2 h0),h0];rfl
 rw[if_neg (fun hh=>h0 (uV.1 hh))];have hl:=zbz h0;have ht:qJ.f (zU (vB s)) (⟨#[48]⟩:ByteArray)=some (zU (yJ (vB s))):=by
  unfold qJ.f;rw[if_pos ⟨rfl,by omega⟩];show some (⟨(Lib.trimRightB (vU (vB s)) 48).toArray⟩:ByteArray)=_
  unfold Lib.trimRightB;rw[zlm h0];rfl
 rw[ht];simp only[Option.bind_some]
 rw[zpY e _ _ (by omega) (by omega) (by omega) (by omega)];unfold nD nE;rw[if_neg h0,if_neg h0,show e+((zU (vB s)).size:Int)-((zU (yJ (vB s))).size:Int)=e+(tz (vB s):Int) by omega]
theorem zqJ {s:ByteArray} (h:dB s=true) (hne:s.size≠0) (hs:s.size≤140737488351232):uR.f s=some (zZ (vB s),true):=by
 unfold uR.f;rw[if_pos hs,if_pos ⟨h,hne⟩]
theorem zor {b:Bool} {s:ByteArray} {e:Int} (h:OkD s e):zbu.f b s e=some (zZ (vB s)):=by
 have:=h.sz
 unfold zbu.f;rw[zqJ h.d h.ne (by omega)];rfl
theorem ziT {s:ByteArray} {e:Int} (h:OkD s e):(zZ (vB s)).length≤100000:=by
 have:=yQ (vB s)
 have:=h.val
 have:=h.sz
 omega
theorem ziQ {l:List Int} {n:Int} (g:jC l=true) (hl:l.length≤500000) (hn:n≤1000000):xQ.f l n=some (zZ (zI l * 10 ^ n.toNat)):=by unfold xQ.f;rw[if_pos ⟨g,hl,hn⟩]
theorem zfK (m:Int) (neg odd:Bool) (half:Int):zab.f m neg odd half=some (upB m neg odd half):=rfl
theorem zpO {b:Bool} {s:ByteArray} {e p:Int} (h:OkS s e) (h1:-10000≤p) (h2:p≤10000):uP.f b s e p=some (zZ (vB s / 10 ^ (p-e).toNat),zZ (vB s % 10 ^ (p-e).toNat)):=by
 have hl:=h.lo;have hh:=h.hi;have hc:=ziT h.ok;unfold uP.f;rw[zor h.ok];simp only[Option.bind_some]
 rw[w64 (x:=p-e) (by omega) (by omega)];have:zco.f (zZ (vB s)) (p-e)=some (zZ (vB s / 10 ^ (p-e).toNat),zZ (vB s % 10 ^ (p-e).toNat)):=by
  unfold zco.f;rw[if_pos ⟨jV _,by omega,by omega⟩,jR]
 rw[this];rfl
theorem zqv {b:Bool} {s:ByteArray} {e p:Int} (h:OkS s e) (h1:-10000≤p) (h2:p≤10000):zaG.f b s e p=some (decide (atE (vB s) e (min e p) % atE 1 p (min e p)=0)):=by
 unfold zaG.f;by_cases hp:p≤e
 ·rw[if_pos hp,show min e p=p by omega,zdA,Nat.mod_one];rfl
 rw[if_neg hp,zpO h h1 h2];simp only[Option.bind_some,Option.some.injEq]
 rw[show min e p=e by omega,zdA,show atE 1 p e=10 ^ (p-e).toNat by unfold atE;rw[Nat.one_mul]];rw[Bool.eq_iff_iff,beq_iff_eq,decide_eq_true_eq];constructor
 ·intro hh;exact zaX.1 (List.eq_nil_of_length_eq_zero (by omega))
 intro hh;rw[hh,zba];rfl
theorem zlk {q:Nat} (h:q≠0):(zZ q).length>0∧rd (zZ q) 0=((q % 1000000000:Nat):Int):=by
 have hv:=jR q;have hg:=jV q;rcases hl:zZ q with _|⟨x,l⟩
 ·exact absurd (zaX.1 hl) h
 rw[hl] at hv hg;obtain⟨hx,_⟩:=yK.1 hg;simp only[zI] at hv
 refine⟨by simp,?_⟩;show x=_
 omega
theorem zlQ (v:Nat):dB (zaT v)=true∧(zaT v).size≠0∧vB (zaT v)=v:=by
 unfold zaT;by_cases h:v=0
 ·rw[if_pos h,h];exact⟨rfl,by decide,rfl⟩
 rw[if_neg h];exact⟨zal v,fun e=>h (zac.1 e),xT v⟩
theorem zjU {v k:Nat} (h:(zU v).size≤k) (hk:1≤k):(zaT v).size≤k:=by
 unfold zaT;by_cases h0:v=0
 ·rw[if_pos h0];exact hk
 rw[if_neg h0];exact h
theorem znG {v k:Nat} (h:(zU v).size≤k) (hk:k≤1000000):uK.f (zZ v)=some (zaT v):=by
 have:=yQ v
 unfold uK.f;rw[if_pos ⟨jV v,by omega⟩,jR]
theorem zhS {b:Bool} {v:Nat} {p:Int} (hz:(zU v).size≤50000) (h1:-100000≤p) (h2:p≤100000):((uK.f (zZ v)).bind fun t=>(yB.f b t p).bind fun u=>some (u.1,u.2.1,u.2.2,(0:Int)))=some (b,nD v,nE v p,0):=by
 obtain⟨d1,d2,d3⟩:=zlQ v;have d4:=zjU (k:=50000) hz (by decide);rw[znG hz (by decide)];simp only[Option.bind_some]
 rw[zdg ⟨d1,d2,by omega,h1,h2⟩,d3];rfl
theorem zpa {q:Nat} (h:(zU q).size≤1000000):qH.f (zZ q) ([1]:List Int)=some (zZ (q+1)):=by
 have hl:=yQ q;have h1:([1]:List Int).length≤1000000000000:=by show 1≤1000000000000;omega
 have:=zfS (jV q) (b:=[1]) (by decide) (by omega) h1
 rwa [jR,show zI [1]=1 from rfl] at this
theorem zoN {α β:Type} {x:Option α} {f:α→Option β} {a:α} {r:Option β} (h:x=some a) (h2:f a=r):x.bind f=r:=by subst h;exact h2
theorem zeP {b:Bool} {s:ByteArray} {e p:Int} {q:Nat} {u:Bool} (hz:(zU q).size≤40000) (h1:-10000≤p) (h2:p≤10000):Ev (fun k=>uC.j0 k p (zZ q) u b s e) (b,nD (q+if u=true then 1 else 0),nE (q+if u=true then 1 else 0) p,0):=by
 cases u
 ·refine zaE (r':=(b,nD q,nE q p,0)) (fun k=>?_) (by simp)
  simp only[uC.j0,Bool.false_eq_true,if_false]
  exact zhS (by omega) (by omega) (by omega)
 have ha:=zpa (q:=q) (by omega);have hz2:=zbE (m:=q) (n:=1) (p:=40000) hz (by rw[zaW];omega);refine zaE (r':=(b,nD (q+1),nE (q+1) p,0)) (fun k=>?_) (by simp);simp only[uC.j0,if_true]
 exact zoN ha (zhS (by omega) (by omega) (by omega))
theorem zeS {m:Int} {b:Bool} {s:ByteArray} {e p:Int} (hm:0≤m) (hm7:m≤7) (h:OkS s e) (h1:-10000≤p) (h2:p≤10000):Ev (fun k=>uC.f k m b s e p) (zaa m b (vB s) e 1 p):=by
 have hv:=h.ok.val;have hsz:=h.sz;have hlo:=h.lo;have hhi:=h.hi;unfold uC.f;refine evE (zls m) (evT (by simp;omega) (evE (zqv h h1 h2) ?_));by_cases hf:atE (vB s) e (min e p) % atE 1 p (min e p)=0
 ·rw[zdi hf]
  exact evT (decide_eq_true hf) (evE (zdg h.ok) (Ev.now _))
 refine evF (by simpa using hf) ?_;have hpe:e<p:=by
  apply Classical.byContradiction;intro hn
  rw[show min e p=p by omega,zdA,Nat.mod_one] at hf;exact hf rfl
 by_cases h7:m=7
 ·subst h7
  rw[zbI hf];exact evT rfl (Ev.now _)
 refine evF h7 ?_;have hme:min e p=e:=by omega
 obtain⟨B,hB⟩:∃ B,B=10 ^ (p-e).toNat:=⟨_,rfl⟩
 have hB1:atE 1 p e=B:=by unfold atE;rw[Nat.one_mul,hB]
 rw[hme,zdA,hB1] at hf;have hB0:0<B:=by rw[hB];exact zff _
 have hzB:(zU B).size≤20001:=by rw[hB,ziu];omega
 have zq:=xO (Nat.div_le_self (vB s) B) hv;have zr:=xO (Nat.mod_le (vB s) B) hv;have lq:=yQ (vB s / B);have lr:=yQ (vB s % B);have z2:=zbE zr zr;have l2:=yQ (vB s % B+vB s % B);have lB:=yQ B;have hcut:=zpO (b:=b) h h1 h2;rw[←hB] at hcut;refine evE hcut ?_;have ha:qH.f (zZ (vB s % B)) (zZ (vB s % B))=some (zZ (vB s % B+vB s % B)):=by
  have:=zfS (jV (vB s % B)) (jV (vB s % B)) (by omega) (by omega)
  rwa [jR] at this
 have hs:xQ.f ([1]:List Int) (wrap64 (p-e))=some (zZ B):=by
  rw[w64 (x:=p-e) (by omega) (by omega),ziQ (by decide) (by decide) (by omega),show zI [1]=1 by decide,Nat.one_mul,hB]
 have hc:xJ.f (zZ (vB s % B+vB s % B)) (zZ B)=some (vN (vB s % B+vB s % B) B):=by
  have:=zfE (jV (vB s % B+vB s % B)) (jV B) (by omega) (by omega)
  rwa [jR,jR] at this
 refine evE ha (evE hs (evE hc ?_));have hres:zaa m b (vB s) e 1 p=(b,nD (vB s / B+if upB m b (vB s / B % 2==1) (vN (vB s % B+vB s % B) B)=true then 1 else 0),nE (vB s / B+if upB m b (vB s / B % 2==1) (vN (vB s % B+vB s % B) B)=true then 1 else 0) p,0):=by
  rw[zmq h7 b (vB s) e 1 p e (Int.le_refl e) (by omega)];unfold rv0;rw[zdA,hB1];have hq:rq m b (vB s) B=vB s / B+if upB m b (vB s / B % 2==1) (vN (vB s % B+vB s % B) B)=true then 1 else 0:=by
   unfold rq;simp only[ne_eq,hf,not_false_eq_true,true_and]
  rw[hq,hB,zjJ,ziD,show e+((p-e).toNat:Int)=p by omega]
 rw[hres];dsimp only;by_cases hq0:vB s / B=0
 ·refine evF (by rw[hq0,zba];decide) (evE (zfK _ _ _ _) ?_)
  have:(vB s / B % 2==1)=false:=by rw[hq0];rfl
  rw[this];exact zeP (by omega) h1 h2
 obtain⟨g1,g2⟩:=zlk hq0;refine evT (by omega) (evT (by omega) ?_);have:(Int.tmod (rd (zZ (vB s / B)) 0) 2==1)=(vB s / B % 2==1):=by
  rw[g2,Int.tmod_eq_emod_of_nonneg (by omega),Bool.eq_iff_iff,beq_iff_eq,beq_iff_eq];omega
 rw[this];refine evE (zfK _ _ _ _) ?_;exact zeP (by omega) h1 h2
theorem zhg (n:Nat):(nD n).toList=([48]:List UInt8) ↔ n=0:=by
 rw[←zcW];constructor
 ·intro h;apply xN;rw[←ByteArray.toList_eq,h];rfl
 intro h;rw[h,ByteArray.toList_eq];rfl
theorem zqn (e:Int) (p:Nat) (h1:-1000000≤e) (h2:e≤1000000) (hp:p≤1000000):wrap64 (wrap64 (e+(p:Int))-1)=e+(p:Int)-1:=by
 rw[w64 (x:=e+(p:Int)) (by omega) (by omega),w64 (by omega) (by omega)]
theorem zlE {b:Bool} {s:ByteArray} {e:Int} (h:OkD s e):zaY.f b s e=some (yD (vB s) e):=by
 have hz:=h.val;have h1:=h.sz;have h2:=h.lo;have h3:=h.hi;unfold zaY.f;rw[zdg h];simp only[Option.bind_some]
 by_cases h0:vB s=0
 ·rw[if_pos ((zhg _).2 h0),h0];rfl
 rw[if_neg (fun hh=>h0 ((zhg _).1 hh))];have hl:=zbz h0;have hnd:nD (vB s)=zU (yJ (vB s)):=by unfold nD;rw[if_neg h0]
 have hne:nE (vB s) e=e+(tz (vB s):Int):=by unfold nE;rw[if_neg h0]
 rw[hnd,hne,zqn _ _ (by omega) (by omega) (by omega)];unfold yD;rw[if_neg h0];congr 1;omega
theorem zpv {s:ByteArray} {e:Int} (h:OkS s e):-10000≤yD (vB s) e∧yD (vB s) e≤20000:=by
 have hv:=h.ok.val;have hsz:=h.sz;have hlo:=h.lo;have hhi:=h.hi;unfold yD;split
 ·omega
 rename_i h0
 have:(zU (vB s)).size≠0:=fun hh=>h0 (zac.1 hh)
 omega
theorem zmf {b:Bool} {s:ByteArray} {e n:Int} (h:OkS s e) (h1:n≤100000):zcu.f b s e n=some (yD (vB s) e-max n 1+1):=by
 have hb:=zpv h;have hm:mx n 1=max n 1:=by unfold mx;omega
 unfold zcu.f;rw[zlE h.ok];simp only[Option.bind_some]
 rw[hm,w64 (x:=yD (vB s) e-max n 1) (by omega) (by omega),w64 (by omega) (by omega)]
theorem zjX {m:Int} {b:Bool} {s:ByteArray} {e:Int} {c:Nat} (hm:0≤m) (hm7:m≤7) (hc:1≤c) (hc2:c≤5000) (h:OkS s e) (ht:yD (vB s) e≤10000) (ht2:-5000≤yD (vB s) e):Ev (fun k=>vA.f k m b s e (c:Int)) (zaa m b (vB s) e 1 (yD (vB s) e-(c:Int)+1)):=by
 unfold vA.f;refine evE (zls m) (evT (by simp;omega) ?_);have:decide ((c:Int)<1)=false:=decide_eq_false (by omega)
 rw[this];refine Ev.step (fun k=>by simp only[vA.j0,Bool.false_eq_true,if_false];rfl) ?_;refine evE (zmf h (by omega)) ?_;rw[show max (c:Int) 1=(c:Int) by omega];exact Ev.bind (zeS hm hm7 h (by omega) (by omega)) (Ev.now _)
theorem zmz (p q:Nat) (hp:p≤1000000000) (hq:q≤1000000000):(((p:Int)+(q:Int)) % 4294967296) / 2=(((p+q) / 2:Nat):Int):=by omega
theorem zlF (r b:List Int) (gr:jC r=true) (gb:jC b=true) (lr:r.length≤1000001) (lb:b.length≤1000000):∀ (d p q:Nat),q-p=d→p<q→q≤1000000000→zI b * p≤zI r→zI r<zI b * q →
  Ev (fun k=>uA.l0 k r b (p:Int) (q:Int)) (((zI r / zI b:Nat):Int),zZ (zI r % zI b)):=by
 intro d
 induction d using Nat.strongRecOn with
 | _ d ih =>
 intro p q hd hpq hq h1 h2;by_cases hs:1<q-p
 ·have hm1:p<(p+q) / 2:=by omega
  have hm2:(p+q) / 2<q:=by omega
  have lm:(zZ (zI b * ((p+q) / 2)+0)).length≤1000001:=by
   have:=zak gb
   have h3:zI b * ((p+q) / 2)<1000000000 ^ b.length * 1000000000:=Nat.mul_lt_mul'' this (by omega);rw[←Nat.pow_succ] at h3;exact zeu h3 (by omega)
  refine Ev.step (f:=fun k=>(xY.f k b (((p+q) / 2:Nat):Int) ((0:Nat):Int)).bind fun t=>(xJ.f t r).bind fun t2=>if t2≤0 then uA.l0 k r b (((p+q) / 2:Nat):Int) (q:Int) else uA.l0 k r b (p:Int) (((p+q) / 2:Nat):Int)) (fun k=>?_) (Ev.bind (zeL gb lb (by omega) (by omega)) (Ev.bind (zcw fun _=>zfE (jV _) gr (by omega) (by omega)) ?_))
  ·simp only[uA.l0]
   rw[if_pos (by omega),zmz p q (by omega) hq];rfl
  rw[jR,Nat.add_zero];by_cases hc:zI b * ((p+q) / 2)≤zI r
  ·have c0:vN (zI b * ((p+q) / 2)) (zI r)≤0:=by
    unfold vN;split
    ·omega
    rw[if_neg (by omega)];omega
   simp only[c0,if_true]
   exact ih _ (by omega) _ _ rfl hm2 hq hc h2
  have c0:¬ vN (zI b * ((p+q) / 2)) (zI r)≤0:=by unfold vN;rw[if_neg (by omega),if_pos (by omega)];omega
  simp only[c0,if_false]
  exact ih _ (by omega) _ _ rfl hm1 (by omega) h1 (by omega)
 have hq1:q=p+1:=by omega
 subst hq1;have hb0:0<zI b:=by
  rcases Nat.eq_zero_or_pos (zI b) with h0|h0
  ·rw[h0] at h2;omega
  exact h0
 have e1:zI r / zI b=p:=by
  rw[Nat.mul_add] at h2;exact Nat.div_eq_of_lt_le (by rw[Nat.mul_comm];exact h1) (by rw[Nat.add_mul,Nat.mul_comm p];omega)
 have e2:zI r % zI b=zI r-zI b * p:=by
  have:=Nat.div_add_mod (zI r) (zI b)
  rw[e1] at this;omega
 have lm:(zZ (zI b * p+0)).length≤1000001:=by
  exact zeu (Nat.lt_of_le_of_lt h1 (zak gr)) lr
 refine Ev.step (f:=fun k=>(xY.f k b ((p:Nat):Int) ((0:Nat):Int)).bind fun t=>(zdl.f r t).bind fun t2=>some (((p:Nat):Int),t2.1)) (fun k=>?_) (Ev.bind (zeL gb lb (by omega) (by omega)) (Ev.bind (zcw fun _=>zps gr (jV _) (by omega) (by omega) (by rw[jR];omega)) ?_))
 ·simp only[uA.l0]
  rw[if_neg (by omega)];rfl
 rw[jR,Nat.add_zero,e1,e2];exact Ev.now _
theorem znb {r b:List Int} (gr:jC r=true) (gb:jC b=true) (lr:r.length≤1000001) (lb:b.length≤1000000) (h:zI r<1000000000 * zI b):Ev (fun k=>uA.f k r b) (((zI r / zI b:Nat):Int),zZ (zI r % zI b)):=by
 have:=zlF r b gr gb lr lb _ 0 1000000000 rfl (by omega) (by omega) (by omega) (by rw[Nat.mul_comm];exact h)
 exact this
theorem znR (A V y p r X Q R:Nat) (h:X * y+r=V) (hq:Q=(p+1000000000 * r) / y) (hr:R=(p+1000000000 * r) % y):(Q+1000000000 * X) * y+R=p+1000000000 * V:=by
 have:=Nat.div_add_mod (p+1000000000 * r) y
 rw[←hq,←hr] at this;rw[Nat.add_mul,Nat.mul_assoc,Nat.mul_comm _ y,←h,Nat.mul_add];omega
theorem zfZ (a b:List Int) (ga:jC a=true) (gb:jC b=true) (la:a.length≤1000000) (lb:b.length≤1000000) (hb:0<zI b):∀ (n:Nat) (q r:List Int),n≤a.length→q.length=a.length→jC q=true→jC r=true→r.length≤1000000→zI r<zI b→zI (q.drop n) * zI b+zI r=zI (a.drop n) →
  Ev (fun k=>vO.l0 k a b q r ((n:Int)-1)) (zZ (zI a / zI b),zZ (zI a % zI b),true)
 | 0,q,r,hn,hq,gq,gr,lr,hr,hv=>by
  rw[List.drop_zero,List.drop_zero] at hv;have e1:zI q=zI a / zI b:=by rw[←hv,Nat.mul_comm,Nat.mul_add_div hb,Nat.div_eq_of_lt hr];rfl
  have e2:zI r=zI a % zI b:=by rw[←hv,Nat.mul_comm,Nat.mul_add_mod,Nat.mod_eq_of_lt hr]
  refine zaw (Ev.step (f:=fun _=>(jW.f q).bind fun t=>(jW.f r).bind fun t2=>some (t,t2,true)) (fun k=>?_) (Ev.bind (zcw fun _=>xK gq (by omega)) (Ev.bind (zcw fun _=>xK gr (by omega)) (Ev.now _)))) ?_
  ·simp only[vO.l0];rw[if_neg (by omega)]
  rw[e1,e2]
 | n+1,q,r,hn,hq,gq,gr,lr,hr,hv=>by
  have hna:n<a.length:=by omega
  have hnq:n<q.length:=by omega
  have pa:=yG.1 ga _ (List.getElem_mem hna);obtain⟨p,hp⟩:∃ v:Nat,a[n]=(v:Int):=⟨a[n].toNat,by omega⟩
  have hp9:p<1000000000:=by omega
  have gpr:jC ([(p:Int)]++r)=true:=yN.2 ⟨yK.2 ⟨by omega,rfl⟩,gr⟩;have vpr:zI ([(p:Int)]++r)=p+1000000000 * zI r:=by simp[zI]
  have hlt:p+1000000000 * zI r<1000000000 * zI b:=by omega
  have hqb:(p+1000000000 * zI r) / zI b<1000000000:=by rw[Nat.div_lt_iff_lt_mul hb];exact hlt
  have hmod:=Nat.mod_lt (p+1000000000 * zI r) hb;have lt2:(zZ (p+1000000000 * zI r)).length≤1000001:=by
   rw[←vpr];exact Nat.le_trans (zbj (zak gpr)) (by simp;omega)
  have lm:(zZ ((p+1000000000 * zI r) % zI b)).length≤1000000:=by
   have:=zak gb
   exact zeu (Nat.lt_trans hmod this) lb
  have ex:(((n+1:Nat):Int)-1)=(n:Int):=by omega
  refine Ev.step (f:=fun k=>(jW.f ([(p:Int)]++r)).bind fun t=>(uA.f k t b).bind fun t2=>vO.l0 k a b (q.set n t2.1) t2.2 ((n:Int)-1)) (fun k=>?_) (Ev.bind (zcw fun _=>xK gpr (by simp;omega)) ?_)
  ·simp only[ex,vO.l0,Option.bind_some]
   rw[if_pos (by omega),if_pos (by omega),if_pos (by omega),vV hna,hp,if_pos (by simp;omega)];have c1:(n:Int)<(q.length:Int):=by omega
   simp only[c1,if_true,Int.toNat_natCast,w64 (x:=(n:Int)-1) (by omega) (by omega)]
  rw[vpr];refine Ev.bind (znb (jV _) gb (by omega) lb (by rw[jR];exact hlt)) ?_;rw[jR];refine zfZ a b ga gb la lb hb n _ _ (by omega) (by simpa using hq) (zdK gq n (zku hqb)) (jV _) lm (by rw[jR];exact hmod) ?_;rw[jR,zcV q n _ hnq,List.drop_eq_getElem_cons hna,hp];exact znR 0 _ _ p _ _ _ _ hv rfl rfl
theorem zlZ {a b:List Int} (ga:jC a=true) (gb:jC b=true) (la:a.length≤1000000) (lb:b.length≤1000000) (hb:0<zI b):Ev (fun k=>vO.f k a b) (zZ (zI a / zI b),zZ (zI a % zI b),true):=by
 unfold vO.f;refine Ev.bind (zcw fun _=>xK gb (by omega)) ?_;have lb2:(zZ (zI b)).length≤1000000:=Nat.le_trans (zbj (zak gb)) lb;have h0:¬ ((zZ (zI b)).length:Int)=0:=by
  intro h;have:zZ (zI b)=[]:=List.eq_nil_of_length_eq_zero (by omega)
  have:=zaX.1 this;omega
 have h1:(0:Int)≤(a.length:Int):=by omega
 have h2:a.length≤70368744177664:=by omega
 simp only[h0,h1,if_true,if_false,Int.toNat_natCast,h2]
 rw[w64 (by omega) (by omega)];have:=zfZ a (zZ (zI b)) ga (jV _) la lb2 (by rw[jR];exact hb) a.length (List.replicate a.length 0) [] (Nat.le_refl _) (by simp) (zaB _) rfl (by simp) (by rw[jR];exact hb) (by
  rw[List.drop_of_length_le (by simp),List.drop_of_length_le (Nat.le_refl _)];simp[zI])
 rwa [jR] at this
theorem zjF (a b:List Int) (ga:jC a=true) (gb:jC b=true) (la:a.length≤1000000) (lb:b.length≤1000000):∀ (d n:Nat) (x:List Int),b.length-n=d→n≤b.length→jC x=true→x.length=a.length+b.length+1→zI x=zI a * zI (b.take n) →
  Ev (fun k=>qG.l0 k a x b (b.length:Int) (n:Int)) (zZ (zI a * zI b))
 | 0,n,x,h1,h2,gx,hx,hv=>by
  refine zaE (r':=zZ (zI x)) (fun k=>?_) ?_
  ·simp only[qG.l0,jW.f];rw[if_neg (by omega),xK gx (by omega)];rfl
  rw[hv,List.take_of_length_le (by omega)]
 | d+1,n,x,h1,h2,gx,hx,hv=>by
  have hnb:n<b.length:=by omega
  have pb:=yG.1 gb _ (List.getElem_mem hnb);obtain⟨y,hy⟩:∃ v:Nat,b[n]=(v:Int):=⟨b[n].toNat,by omega⟩
  have e:zI (b.take (n+1))=zI (b.take n)+1000000000 ^ n * y:=by
   rw[List.take_succ_eq_append_getElem hnb,qI,hy,Int.toNat_natCast,List.length_take,Nat.min_eq_left (by omega)]
  have key:zI x+1000000000 ^ n * (zI a * y)=zI a * zI (b.take (n+1)):=by
   rw[hv,e,Nat.mul_add,Nat.mul_left_comm (1000000000 ^ n)]
  have hlt:zI x+1000000000 ^ n * (zI a * y)<1000000000 ^ x.length:=by
   rw[key,hx];have va:=zak ga;have vb:=zak (zde gb (n+1));have h3:=Nat.mul_lt_mul'' va vb;rw[←Nat.pow_add] at h3;exact Nat.lt_of_lt_of_le h3 (Nat.pow_le_pow_right (by omega) (by rw[List.length_take];omega))
  obtain⟨r,hr,g1,g2,g3⟩:=zmx (p:=n) gx ga (show y<1000000000 by omega) (by omega) (by omega) hlt;refine Ev.step (f:=fun k=>(yW.f k x a (y:Int) (n:Int)).bind fun t=>qG.l0 k a t b (b.length:Int) ((n+1:Nat):Int)) (fun k=>?_) (Ev.bind hr (zjF a b ga gb la lb d (n+1) r (by omega) (by omega) g1 (by omega) (by rw[g3,key])));simp only[qG.l0];rw[if_pos (by omega),if_pos (by omega),if_pos (by omega),vV hnb,hy,xU _ (by omega)]
theorem zmy {a b:List Int} (ga:jC a=true) (gb:jC b=true) (la:a.length≤1000000) (lb:b.length≤1000000):Ev (fun k=>qG.f k a b) (zZ (zI a * zI b)):=by
 unfold qG.f;rw[zis _ _ la lb];have c1:(0:Int)≤((a.length+b.length+1:Nat):Int):=by omega
 have c2:a.length+b.length+1≤70368744177664:=by omega
 simp only[Int.toNat_natCast,c1,c2,if_true]
 exact zjF a b ga gb la lb b.length 0 _ rfl (by omega) (zaB _) (by simp) (by rw[zbn];simp[zI])
theorem mnP (a b:Int):mn a b=min b a:=by unfold mn;split <;> omega
theorem znk {q:Nat} (h:q≠0):(zZ q).length>0∧rd (zZ q) 0=((q % 1000000000:Nat):Int):=by
 have hv:=jR q;have hg:=jV q;rcases hl:zZ q with _|⟨x,l⟩
 ·exact absurd (zaX.1 hl) h
 rw[hl] at hv hg;obtain⟨hx,_⟩:=yK.1 hg;simp only[zI] at hv
 refine⟨by simp,?_⟩;show x=_
 omega
theorem zlG (v:Nat):dB (zaT v)=true∧(zaT v).size≠0∧vB (zaT v)=v:=by
 unfold zaT;by_cases h:v=0
 ·rw[if_pos h,h];exact⟨rfl,by decide,rfl⟩
 rw[if_neg h];exact⟨zal v,fun e=>h (zac.1 e),xT v⟩
theorem zhq {v k:Nat} (h:(zU v).size≤k) (hk:1≤k):(zaT v).size≤k:=by
 unfold zaT;by_cases h0:v=0
 ·rw[if_pos h0];exact hk
 rw[if_neg h0];exact h
theorem zlb {v k:Nat} (h:(zU v).size≤k) (hk:k≤1000000):uK.f (zZ v)=some (zaT v):=by
 have:=yQ v
 unfold uK.f;rw[if_pos ⟨jV v,by omega⟩,jR]
theorem zko {b:Bool} {v:Nat} {p:Int} (hz:(zU v).size≤100000) (h1:-100000≤p) (h2:p≤100000):((uK.f (zZ v)).bind fun t=>(yB.f b t p).bind fun u=>some (u.1,u.2.1,u.2.2,(0:Int)))=some (b,nD v,nE v p,0):=by
 obtain⟨d1,d2,d3⟩:=zlG v;have d4:=zhq (k:=100000) hz (by decide);rw[zlb hz (by decide)];simp only[Option.bind_some]
 rw[zdg ⟨d1,d2,by omega,h1,h2⟩,d3];rfl
theorem zox {q:Nat} (h:(zU q).size≤1000000):qH.f (zZ q) ([1]:List Int)=some (zZ (q+1)):=by
 have hl:=yQ q;have h1:([1]:List Int).length≤1000000000000:=by show 1≤1000000000000;omega
 have:=zfS (jV q) (b:=[1]) (by decide) (by omega) h1
 rwa [jR,show zI [1]=1 from rfl] at this
theorem zlT {b:Bool} {s:ByteArray} {e E:Int} {q B:Nat} {u:Bool} (hz:(zU q).size≤40000) (hB:(zU B).size≤40000) (h1:-100000≤E) (h2:E≤100000):Ev (fun k=>vH.j1 k (zZ B) E (zZ q) u b s e) (b,nD ((q+if u=true then 1 else 0) * B),nE ((q+if u=true then 1 else 0) * B) E,0):=by
 have lB:=yQ B;cases u
 ·have lq:=yQ q
  have hm:=zcK hz hB;have:=zmy (jV q) (jV B) (by omega) (by omega)
  rw[jR,jR] at this;refine Ev.step (fun k=>by simp only[vH.j1,Bool.false_eq_true,if_false];rfl) (Ev.bind this (zcw fun _=>?_));simp only[Bool.false_eq_true,if_false,Nat.add_zero]
  exact zko (by omega) h1 h2
 have ha:=zox (q:=q) (by omega);have h3:=zbE (m:=q) (n:=1) (p:=40000) hz (by rw[zaW];omega);have lq:=yQ (q+1);have hm:=zcK h3 hB;have:=zmy (jV (q+1)) (jV B) (by omega) (by omega)
 rw[jR,jR] at this;refine Ev.step (fun k=>by simp only[vH.j1,if_true];rfl) (evE ha (Ev.bind this (zcw fun _=>?_)));simp only[if_true]
 exact zko (by omega) h1 h2
theorem zpJ {m:Int} {b:Bool} {s:ByteArray} {e p:Int} {S:Nat} (h:OkS s e) (hS0:S≠0) (hS:(zU S).size≤1000) (h1:-10000≤p) (h2:p≤10000):Ev (fun k=>vH.j0 k m p (zZ S) false b s e) (zaa m b (vB s) e S p):=by
 have hv:=h.ok.val;have hz:=h.sz;have hlo:=h.lo;have hhi:=h.hi;have hc:=ziT h.ok;have lS:=yQ S;obtain⟨E,hE⟩:∃ E,E=mn e p:=⟨_,rfl⟩
 have hE2:E=min e p:=by rw[hE,mnP];omega
 have sB:xQ.f (zZ S) (wrap64 (p-E))=some (zZ (atE S p E)):=by
  rw[w64 (x:=p-E) (by omega) (by omega),ziQ (jV _) (by omega) (by omega),jR];rfl
 have sN:xQ.f (zZ (vB s)) (wrap64 (e-E))=some (zZ (atE (vB s) e E)):=by
  rw[w64 (x:=e-E) (by omega) (by omega),ziQ (jV _) (by omega) (by omega),jR];rfl
 have zB:(zU (atE S p E)).size≤30000:=by
  unfold atE;rw[zbS hS0];omega
 have zN:=zfN b (n:=vB s) (p:=10000) e E (by omega);rw[zdG] at zN;have hB0:=zhE hS0 p E;refine Ev.step (fun k=>by simp only[vH.j0,Bool.false_eq_true,if_false,←hE];rfl) ?_;refine evE sB (evE (zor h.ok) (evE sN ?_));obtain⟨N,hN⟩:∃ N,N=atE (vB s) e E:=⟨_,rfl⟩
 obtain⟨B,hBB⟩:∃ B,B=atE S p E:=⟨_,rfl⟩
 rw[←hN,←hBB];rw[←hN] at zN;rw[←hBB] at zB hB0;have zN2:(zU N).size≤30000:=by omega
 have zr:=xO (Nat.mod_le N B) zN2;have zq:=xO (Nat.div_le_self N B) zN2;have lN:=yQ N;have lB:=yQ B;have lr:=yQ (N % B);have z2:=zbE zr zr;have l2:=yQ (N % B+N % B);have hd:=zlZ (jV N) (jV B) (by omega) (by omega) (by rw[jR];exact hB0);rw[jR,jR] at hd;refine Ev.bind hd ?_;dsimp only;by_cases hf:N % B=0
 ·have hf2:atE (vB s) e (min e p) % atE S p (min e p)=0:=by rw[←hE2,←hN,←hBB];exact hf
  rw[zdi hf2];exact evT (by rw[hf,zba];rfl) (evE (zdg h.ok) (Ev.now _))
 have hf2:¬ atE (vB s) e (min e p) % atE S p (min e p)=0:=by rw[←hE2,←hN,←hBB];exact hf
 refine evF (fun hh=>hf (zaX.1 (List.eq_nil_of_length_eq_zero (by omega)))) ?_;by_cases h7:m=7
 ·subst h7
  rw[zbI hf2];exact evT rfl (Ev.now _)
 refine evF h7 ?_;have ha:qH.f (zZ (N % B)) (zZ (N % B))=some (zZ (N % B+N % B)):=by
  have:=zfS (jV (N % B)) (jV (N % B)) (by omega) (by omega)
  rwa [jR] at this
 have hcm:xJ.f (zZ (N % B+N % B)) (zZ B)=some (vN (N % B+N % B) B):=by
  have:=zfE (jV (N % B+N % B)) (jV B) (by omega) (by omega)
  rwa [jR,jR] at this
 have hres:zaa m b (vB s) e S p=(b,nD ((N / B+if upB m b (N / B % 2==1) (vN (N % B+N % B) B)=true then 1 else 0) * B),nE ((N / B+if upB m b (N / B % 2==1) (vN (N % B+N % B) B)=true then 1 else 0) * B) E,0):=by
  rw[zdL h7,←hE2];unfold rv0;rw[←hN,←hBB];have hq:rq m b N B=N / B+if upB m b (N / B % 2==1) (vN (N % B+N % B) B)=true then 1 else 0:=by
   unfold rq;simp only[ne_eq,hf,not_false_eq_true,true_and]
  rw[hq]
 rw[hres];by_cases hq0:N / B=0
 ·refine evF (by rw[hq0,zba];decide) (evE ha (evE hcm (evE (zfK _ _ _ _) ?_)))
  have:(N / B % 2==1)=false:=by rw[hq0];rfl
  rw[this];exact zlT (by omega) (by omega) (by omega) (by omega)
 obtain⟨g1,g2⟩:=znk hq0;refine evT (by omega) (evT (by omega) (evE ha (evE hcm ?_)));have:(Int.tmod (rd (zZ (N / B)) 0) 2==1)=(N / B % 2==1):=by
  rw[g2,Int.tmod_eq_emod_of_nonneg (by omega),Bool.eq_iff_iff,beq_iff_eq,beq_iff_eq];omega
 rw[this];refine evE (zfK _ _ _ _) ?_;exact zlT (by omega) (by omega) (by omega) (by omega)
theorem zoZ {st:ByteArray} (hst:st.size≤140737488351232):uR.f st=some (if dB st=true∧st.size≠0 then (zZ (vB st),true) else ([],false)):=by unfold uR.f;rw[if_pos hst]
theorem zke {m:Int} {b:Bool} {s st:ByteArray} {e p:Int} (hm:0≤m) (hm7:m≤7) (h:OkS s e) (hd:dB st=true) (hs0:vB st≠0) (hsz:st.size≤40) (h1:-10000≤p) (h2:p≤10000):Ev (fun k=>vH.f k m b s e st p) (zaa m b (vB s) e (vB st) p):=by
 have hn0:st.size≠0:=by
  intro h0;rw[ByteArray.size_eq_zero_iff.1 h0] at hs0;exact hs0 rfl
 have hst:=zaj (zdH hd);unfold vH.f;refine evE (zoZ (by omega)) (evE (zls m) (evT (by simp;omega) ?_));rw[if_pos ⟨hd,hn0⟩];refine evT rfl (evF (by omega) ?_);have:(((zZ (vB st)).length:Int)==0)=false:=by
  rw[beq_eq_false_iff_ne];intro hh;exact hs0 (zaX.1 (List.eq_nil_of_length_eq_zero (by omega)))
 dsimp only;rw[this];exact zpJ h hs0 (by omega) h1 h2
theorem zmP {b:Bool} {s:ByteArray} {e n:Int} (h:OkD s (e+n)) (h1:-1000000≤e) (h2:e≤1000000) (h3:-1000000≤n) (h4:n≤1000000):vS.f b s e n=some (b,nD (vB s),nE (vB s) (e+n)):=by
 unfold vS.f;rw[w64 (x:=e+n) (by omega) (by omega),zdg h];rfl
def zat.f (a0_0:Bool) (a0_1:ByteArray) (a0_2:Int):Option (Bool):=(yB.f a0_0 a0_1 a0_2).bind fun bt552=>(some (bt552.2.1.toList==([48]:List UInt8)))
set_option maxHeartbeats 8000000 in
set_option maxRecDepth 100000 in
theorem zat.calls (a0_0:Bool) (a0_1:ByteArray) (a0_2:Int) (r:Bool) (w:World) (h:zat.f a0_0 a0_1 a0_2=some r) :
  Calls Tryz.prog 65 #[.agg #[.bool a0_0,.string a0_1,.int .i64 a0_2]] w fun e w'=>e=.returned (.bool r)∧Below w.heap.size w w':=by
 have hu23:=Tryz.underlying23;have HB:=K_ (Below.refl w.heap.size w);have H:((yB.f a0_0 a0_1 a0_2).bind fun bt552=>(some (bt552.2.1.toList==([48]:List UInt8))))=some r:=h;clear h;replace H:=Option.bind_eq_some_iff.mp H;obtain⟨⟨t552,t553,t554⟩,A20,H⟩:=H;replace H:(some (t553.toList==([48]:List UInt8)))=some r:=H;have A2:=K_ A20;clear A20;obtain rfl:=Option.some.inj H;go_enter Tryz.func65,Tryz.ntmps65
 go_wp2_with (first|(refine be_ 1 #[.bool a0_0,.string a0_1,.int .i64 a0_2] 23 ?_;intro gb551 hg w3 hbox hb;have n0_:=zF HB hb;have n1_:=K_ (hbox);have n2_:=ge_ hg HB;have n3_:=ge_ hg HB;clear HB;have HB:=n0_;have BK551:=n1_;have GW551:=n2_;have GE551:=n3_;clear n0_ n1_ n2_ n3_;clear hb hbox hg;have hcz4_0:w3.cell? ⟨gb551,0,none⟩=some (.bool a0_0):=(zA BK551.out 0).trans rfl;have hcz4_1:w3.cell? ⟨gb551,1,none⟩=some (.string a0_1):=(zA BK551.out 1).trans rfl;have hcz4_2:w3.cell? ⟨gb551,2,none⟩=some (.int .i64 a0_2):=(zA BK551.out 2).trans rfl;have hfz4_0:=zM BK551.out 0;have hfz4_1:=zM BK551.out 1;have hfz4_2:=zM BK551.out 2)|((with_reducible refine zH (f:=59) rfl ?_);refine zT (some 4) rfl rfl Tryz.func59 (by kernel_rfl) rfl #[.agg #[.bool a0_0,.string a0_1,.int .i64 a0_2]] rfl MP ?_;(with_reducible refine (yB.calls a0_0 a0_1 a0_2 t552 t553 t554 _ A2.out).mono ?_);rintro e w5 ⟨rfl,hb⟩;refine⟨_,rfl,?_⟩;have n0_:=zC BK551 hb;have n1_:=zF HB hb;clear BK551;clear HB;have BK551:=n0_;have HB:=n1_;clear n0_ n1_;(try clear hb);(try clear hb2);(try clear hk);(try clear hi)))
 go_ret
 exact⟨ER,BL HB⟩
theorem zfw (n:Nat):(nD n).toList=([48]:List UInt8) ↔ n=0:=by
 rw[←zcW];constructor
 ·intro h;apply xN;rw[←ByteArray.toList_eq,h];rfl
 intro h;rw[h,ByteArray.toList_eq];rfl
theorem zkZ {b:Bool} {s:ByteArray} {e:Int} (h:OkD s e):zat.f b s e=some (decide (vB s=0)):=by
 unfold zat.f;rw[zdg h];simp only[Option.bind_some,Option.some.injEq]
 rw[Bool.eq_iff_iff,beq_iff_eq,decide_eq_true_eq];exact zfw _
theorem zhP {b:Bool} {s:ByteArray} {e:Int} (h:OkD s e) (h2:OkD (nD (vB s)) (nE (vB s) e)):xV.f b s e=some (zaM (vB s) e):=by
 unfold xV.f;rw[zdg h];simp only[Option.bind_some]
 unfold zaM;by_cases h0:vB s=0
 ·rw[if_pos ((zfw _).2 h0)];simp[h0]
 rw[if_neg (fun hh=>h0 ((zfw _).1 hh))];by_cases h1:nE (vB s) e ≥ -300
 ·rw[if_pos h1,zlE h2,zdQ,zaL]
  have h1':-300≤nE (vB s) e:=h1;simp only[Option.bind_some,h0,h1',false_or,true_and]
 rw[if_neg h1];have h1':¬ -300≤nE (vB s) e:=h1;simp[h0,h1']
theorem zlw {b:Bool} {s:ByteArray} {e:Int} (hs:s.size≤140737488351232):zbc.f b s e=some (zbH s e):=by
 unfold zbc.f zbH;by_cases h1:(s.size:Int)>1000
 ·rw[if_pos h1];have:¬ s.size≤1000:=by omega
  simp[this]
 rw[if_neg h1];by_cases h2:e < -1000
 ·rw[if_pos h2];have:¬ -1000≤e:=by omega
  simp[this]
 rw[if_neg h2];by_cases h3:e>1000
 ·rw[if_pos h3];have:¬ e≤1000:=by omega
  simp[this]
 rw[if_neg h3];have c1:s.size≤1000:=by omega
 have c2:-1000≤e:=by omega
 have c3:e≤1000:=by omega
 unfold uR.f;rw[if_pos hs];by_cases h4:dB s=true∧s.size≠0
 ·rw[if_pos h4];simp[h4.1,h4.2,c1,c2,c3]
 rw[if_neg h4];have:(dB s&&decide (s.size≠0))=false:=by
  cases hd:dB s
  ·rfl
  simp only[Bool.true_and,decide_eq_false_iff_not];intro hh;exact h4 ⟨hd,hh⟩
 rw[this];simp
theorem countP {b:Bool} {s:ByteArray} {e:Int} (h:OkD s e):zhQ.f b s e=some ((nD (vB s)).size:Int):=by
 unfold zhQ.f;rw[zdg h];rfl
end Go.Proofs.YtcmgdjnjmobkoaaGreatDoor.Px
namespace Go.Proofs.YtcmgdjnjmobkoaaGreatDoor.Px
set_option linter.all false
open Fig Go.RowKit Go.Proofs.YtcmgdjnjmobkoaaGreatDoorW.PrintWords Go.Proofs.YtcmgdjnjmobkoaaGreatDoorW.PrintLast Go.Proofs.YtcmgdjnjmobkoaaGreatDoorW.PrintMore
attribute [local go_sem] vK vL uE uD yS yP vM vJ
theorem zlU {m:Int} {neg:Bool} {n st x y:Nat} {e p k:Int} (hn:(zU n).size≤x) (hs:(zU st).size≤y) (hs0:st≠0) (h1:k≤e) (h2:k≤p):(zU (rv0 m neg n e st p k)).size≤max (x+(e-k).toNat) (y+(p-k).toNat)+1:=by
 have a:=zfN neg (n:=n) (p:=x) e k hn;have b:=zfN neg (n:=st) (p:=y) p k hs;rw[zdG] at a b;have hB:=zhE hs0 p k;have h3:=(zoJ (m:=m) (neg:=neg) (N:=atE n e k) hB).1;refine xO (n:=atE n e k+atE st p k) (by unfold rv0;omega) ?_;exact zbE (xO (Nat.le_refl _) (by omega)) (xO (Nat.le_refl _) (by omega))
def cS (P:jZ):Nat:=(zaV P).2.toNat
theorem zlv {P:jZ} (hg:uS P):1≤cS P∧cS P≤80∧(zaV P).2=(cS P:Int):=by
 have:=hg.mi0;have:=hg.mi4;have:=hg.mf0;have:=hg.mfx;have:=hg.xf4;have:=hg.ms0;have:=hg.msx;have:=hg.xs4
 unfold cS zaV;split
 ·refine⟨by omega,by omega,by omega⟩
 have h:=zcm hg;have h1:1≤yA P+P.xf:=by
  unfold yA;split
  ·omega
  rename_i hn
  by_cases h0:P.mi+P.xf=0
  ·exact absurd (.inr (.inr h0)) hn
  omega
 refine⟨by show 1≤(yA P+P.xf).toNat;omega,by show (yA P+P.xf).toNat≤80;omega,by show yA P+P.xf=((yA P+P.xf).toNat:Int);omega⟩
def stP (P:jZ) (t:Int):Nat×Int:=if P.sci=true∨0<P.ms then (1,t-(cS P:Int)+1) else if P.inc.size≠0 then (vB P.inc,-P.xf) else (1,-P.xf)
theorem zpV {P:jZ} (hg:uS P) (hm:zdm P) (t:Int):(stP P t).1≠0∧(zU (stP P t).1).size≤40∧t-80≤max (stP P t).2 (t-80)∧((stP P t).2=t-(cS P:Int)+1∨(-40≤(stP P t).2∧(stP P t).2≤0)):=by
 have:=hg.mf0;have:=hg.mfx;have:=hg.xf4
 unfold stP;split
 ·exact⟨by show (1:Nat)≠0;decide,by show (zU 1).size≤40;rw[zaW];decide,by omega,.inl rfl⟩
 split
 ·rename_i hi
  obtain⟨h1,h2⟩:=hm.dig hi;exact⟨h2,Nat.le_trans (zaj (zdH h1)) hg.inc4,by omega,.inr ⟨by show -40≤-P.xf;omega,by show -P.xf≤0;omega⟩⟩
 exact⟨by show (1:Nat)≠0;decide,by show (zU 1).size≤40;rw[zaW];decide,by omega,.inr ⟨by show -40≤-P.xf;omega,by show -P.xf≤0;omega⟩⟩
theorem ziP {P:jZ} (hg:uS P) (hm:zdm P) {m:Int} (h0:0≤m) (h7:m≤7) {b:Bool} {s:ByteArray} {e:Int} (ok:OkS s e) (h1:yD (vB s) e≤10000) (h2:-5000≤yD (vB s) e) :
  zgs P m b s e (zaa m b (vB s) e (stP P (yD (vB s) e)).1 (stP P (yD (vB s) e)).2):=by
 obtain⟨c1,c2,c3⟩:=zlv hg;have:=hg.mf0;have:=hg.mfx;have:=hg.xf4
 refine⟨fun h=>?_,fun h hi=>?_,fun h hi=>?_⟩
 ·rw[c3]
  have e1:stP P (yD (vB s) e)=(1,yD (vB s) e-(cS P:Int)+1):=by unfold stP;rw[if_pos h]
  rw[e1];exact zjX h0 h7 c1 (by omega) ok h1 h2
 ·have e1:stP P (yD (vB s) e)=(vB P.inc,-P.xf):=by unfold stP;rw[if_neg h,if_pos hi]
  rw[e1];exact zke h0 h7 ok (hm.dig hi).1 (hm.dig hi).2 hg.inc4 (by omega) (by omega)
 have e1:stP P (yD (vB s) e)=(1,-P.xf):=by unfold stP;rw[if_neg h,if_neg (by omega)]
 rw[e1];exact zeS h0 h7 ok (by omega) (by omega)
theorem zhJ (q:Pat):0≤q.mult∧q.mult≤3:=by unfold Pat.mult;split;omega;split <;> omega
theorem zop {m:Int} (h0:0≤m) (h7:m≤7):yF.f m=some true:=by unfold yF.f;rw[if_pos h0,decide_eq_true (by omega)]
def zkU (b:Bool) (N:Nat) (X:Int):Bool×ByteArray×Int×Int:=if zaM (yJ N) X=true then (b,nD N,X,0) else (false,⟨#[]⟩,0,10)
theorem zjm {n:Nat} {e:Int} (h:(zU n).size≤1000) (h1:-1010≤e) (h2:e≤1010):-1010≤yD n e∧yD n e≤2010:=by
 unfold yD;split
 ·omega
 rename_i h0
 have:(zU n).size≠0:=fun hh=>h0 (zac.1 hh)
 omega
def rN (q:Pat) (m:Int) (b:Bool) (n:Nat) (e:Int):Nat:=rv0 m b (yJ n) (nE n (e+q.mult)) (stP q.P (yD n (e+q.mult))).1 (stP q.P (yD n (e+q.mult))).2 (min (nE n (e+q.mult)) (stP q.P (yD n (e+q.mult))).2)
def rK (q:Pat) (n:Nat) (e:Int):Int:=min (nE n (e+q.mult)) (stP q.P (yD n (e+q.mult))).2
def rX (q:Pat) (m:Int) (b:Bool) (n:Nat) (e:Int):Int:=nE (yJ (rN q m b n e)) (nE (rN q m b n e) (rK q n e) + -q.mult)
end Go.Proofs.YtcmgdjnjmobkoaaGreatDoor.Px
namespace Go.Proofs.YtcmgdjnjmobkoaaGreatDoor.Px
open Fig Go.RowKit Go.Proofs.YtcmgdjnjmobkoaaGreatDoorW.PrintWords Go.Proofs.YtcmgdjnjmobkoaaGreatDoorW.PrintLast Go.Proofs.YtcmgdjnjmobkoaaGreatDoorW.PrintMore
attribute [local go_sem] vK vL uE uD yS yP vM vJ
attribute [local go_sem] qQ qX qL qW qY qN qZ xA qT qS qU qV xB qO
def zbx.f (a0_0:Bool) (a0_1:ByteArray) (a0_2:Int) (a1:Int):Option (Int):=(zat.f a0_0 a0_1 a0_2).bind fun t556=>(if t556=true then (some 0) else (some (mx 0 (wrap64 (a1-a0_2)))))
set_option maxHeartbeats 8000000 in
set_option maxRecDepth 100000 in
theorem zbx.calls (a0_0:Bool) (a0_1:ByteArray) (a0_2:Int) (a1:Int) (r:Int) (w:World) (h:zbx.f a0_0 a0_1 a0_2 a1=some r) :
  Calls Tryz.prog 64 #[.agg #[.bool a0_0,.string a0_1,.int .i64 a0_2],.int .i64 a1] w fun e w'=>e=.returned (.int .i64 r)∧Below w.heap.size w w':=by
 have hu23:=Tryz.underlying23;have HB:=K_ (Below.refl w.heap.size w);have H:((zat.f a0_0 a0_1 a0_2).bind fun t556=>(if t556=true then (some 0) else (some (mx 0 (wrap64 (a1-a0_2))))))=some r:=h;clear h;obtain⟨t556,A30,H⟩:=Option.bind_eq_some_iff.mp H
 (try dsimp -simprocs only at H)
 have A3:=K_ A30;clear A30;by_cases c4:t556=true
 ·subst c4
  rw[if_pos rfl] at H;obtain rfl:=Option.some.inj H;go_enter Tryz.func64,Tryz.ntmps64
  go_wp2_with (first|(refine be_ 2 #[.bool a0_0,.string a0_1,.int .i64 a0_2] 23 ?_;intro gb555 hg w5 hbox hb;have BK555:=K_ (hbox);have GW555:=ge_ hg HB;have GE555:=ge_ hg HB;replace HB:=zF HB hb;clear hb hbox hg;obtain⟨⟨hcz6_0,hcz6_1,hcz6_2⟩,hfz6_0,hfz6_1,hfz6_2⟩:=ce3 BK555)|((with_reducible refine zH (f:=65) rfl ?_);refine zT (some 6) rfl rfl Tryz.func65 (by kernel_rfl) rfl #[.agg #[.bool a0_0,.string a0_1,.int .i64 a0_2]] rfl MP ?_;(with_reducible refine (zat.calls a0_0 a0_1 a0_2 true _ A3.out).mono ?_);rintro e w7 ⟨rfl,hb⟩;refine⟨_,rfl,?_⟩;replace BK555:=zC BK555 hb;replace HB:=zF HB hb;(try clear hb);(try clear hb2);(try clear hk);(try clear hi)))
  go_ret
  exact⟨ER,BL HB⟩
 replace c4:=Bool.eq_false_iff.mpr c4;subst c4;rw[if_neg (show ¬ (false=true) by decide)] at H;obtain⟨ji8,hji8⟩:∃ j_:Int,(mx 0 (wrap64 (a1-a0_2)))=j_:=⟨_,rfl⟩
 replace H:(some ji8)=some r:=by first|(rw[hji8] at H;exact H)|(simp only[hji8] at H ⊢;exact H)
 (try rw[hji8] at A3)
 (try (have hji8l:0≤ji8:=by (rw[←hji8];unfold mx;(repeat' split) <;> omega)))
 (try (have hji8m:0≤ji8:=by omega))
 have hji8_:(if 0<(wrap64 (a1-a0_2)) then (wrap64 (a1-a0_2)) else 0)=ji8:=hji8;obtain rfl:=Option.some.inj H;go_enter Tryz.func64,Tryz.ntmps64
 go_wp2_with (first|(refine be_ 2 #[.bool a0_0,.string a0_1,.int .i64 a0_2] 23 ?_;intro gb555 hg w9 hbox hb;have BK555:=K_ (hbox);have GW555:=ge_ hg HB;have GE555:=ge_ hg HB;replace HB:=zF HB hb;clear hb hbox hg;obtain⟨⟨hcz10_0,hcz10_1,hcz10_2⟩,hfz10_0,hfz10_1,hfz10_2⟩:=ce3 BK555)|((with_reducible refine zH (f:=65) rfl ?_);refine zT (some 6) rfl rfl Tryz.func65 (by kernel_rfl) rfl #[.agg #[.bool a0_0,.string a0_1,.int .i64 a0_2]] rfl MP ?_;(with_reducible refine (zat.calls a0_0 a0_1 a0_2 false _ A3.out).mono ?_);rintro e w11 ⟨rfl,hb⟩;refine⟨_,rfl,?_⟩;replace BK555:=zC BK555 hb;replace HB:=zF HB hb;(try clear hb);(try clear hb2);(try clear hk);(try clear hi);obtain⟨⟨hcz12_0,hcz12_1,hcz12_2⟩,hfz12_0,hfz12_1,hfz12_2⟩:=ce3 BK555))
 go_ret
 exact⟨by first|rfl|(simp[yR,yO] <;> rfl)|(simp only[←hji8];first|rfl|(simp[yR,yO] <;> rfl))|(simp[*,yR,yO] <;> rfl),BL HB⟩
end Go.Proofs.YtcmgdjnjmobkoaaGreatDoor.Px
