/- The functions that the law ShapeRoundsUpto reaches, told as plain functions, with what is proved of them, and the words they need (part 3). -/
import Derived.Test.YtcmgdjnjmobkoaaGreatDoorCShapeRoundsUpto0
import Derived.Test.YtcmgdjnjmobkoaaGreatDoorCShapeRoundsUpto1
import Derived.Test.YtcmgdjnjmobkoaaGreatDoorCShapeRoundsUpto2
import Derived.Lib.FrozenHead2
set_option linter.unusedVariables false
set_option linter.unusedSimpArgs false
namespace Go.Proofs.YtcmgdjnjmobkoaaGreatDoor.Px
open Fig Go.RowKit Go.Proofs.YtcmgdjnjmobkoaaGreatDoorW.PrintWords Go.Proofs.YtcmgdjnjmobkoaaGreatDoorW.PrintLast Go.Proofs.YtcmgdjnjmobkoaaGreatDoorW.PrintMore
attribute [local go_sem] vK vL uE uD yS yP vM vJ
attribute [local go_sem] qQ qX qL qW qY qN qZ xA qT qS qU qV xB qO
section
set_option maxRecDepth 100000
theorem zhf (v a b P p bw q:Nat) (hp:p<bw+q) (hb:bw≤1) (hq:q<1000000000) (h:a+P * bw=v+b):a+P * p+P * 1000000000 * 1=v+P * (p+1000000000-(bw+q))+(b+P * q):=by
 have e:P * p+P * 1000000000+P * bw=P * (p+1000000000-(bw+q))+P * bw+(P * q+P * bw):=by
  rw[←Nat.mul_add,←Nat.mul_add,←Nat.mul_add,←Nat.mul_add,←Nat.mul_add];congr 1;omega
 rw[Nat.mul_one];omega
theorem zhl (v a b P p bw q:Nat) (hp:¬ p<bw+q) (h:a+P * bw=v+b):a+P * p+P * 1000000000 * 0=v+P * (p-(bw+q))+(b+P * q):=by
 have e:P * p=P * (p-(bw+q))+P * bw+P * q:=by
  rw[←Nat.mul_add,←Nat.mul_add];congr 1;omega
 rw[Nat.mul_zero];omega
def zdl.f (l0:List Int) (l1:List Int):Option (List Int×Bool):=zja l0 l1
set_option maxHeartbeats 1000000 in
theorem zdl.calls (A0:Option Addr) (c0:Nat) (l0:List Int) (A1:Option Addr) (c1:Nat) (l1:List Int) (r1:List Int) (r2:Bool) (w:World) (hr0:Kd.C (Kd.int .u32) w A0 l0.length l0) (hc0:l0.length≤c0) (hr1:Kd.C (Kd.int .u32) w A1 l1.length l1) (hc1:l1.length≤c1) (h:zdl.f l0 l1=some (r1,r2)) :
  Calls Tryz.prog 131 #[.slice A0 l0.length c0,.slice A1 l1.length c1] w fun e w'=>∃ v0_:Value,e=.returned (.tuple #[v0_,.bool r2])∧Kd.R (Kd.int .u32) 95 w' w.heap.size (fun _=>True) v0_ r1∧Below w.heap.size w w':=by
 unfold zdl.f zja at h;by_cases hg:jC l0=true∧jC l1=true∧l0.length≤1000000000000∧l1.length≤1000000000000
 ·rw[if_pos hg] at h
  obtain⟨g0,g1,z0,z1⟩:=hg;obtain⟨cc,hcc⟩:∃ c,c=vN (zI l0) (zI l1):=⟨_,rfl⟩
  have HCM:=K_ (show xJ.f l0 l1=some cc by rw[hcc];exact zfE g0 g1 z0 z1);have G0:=K_ g0;have G1:=K_ g1;have HR0:=K_ hr0;have HR1:=K_ hr1;have HC0:=K_ hc0;have HC1:=K_ hc1;clear g0 g1 hr0 hr1 hc0 hc1;by_cases hlt:zI l0<zI l1
  ·rw[if_pos hlt] at h
   simp only[Option.some.injEq,Prod.mk.injEq] at h
   obtain⟨rfl,rfl⟩:=h;have hneg:cc<0:=by rw[hcc];unfold vN;rw[if_pos hlt];omega
   have dc:decide (cc<0)=true:=decide_eq_true hneg;clear hcc hneg hlt;go_enter Tryz.func131,Tryz.ntmps131
   go_wp2_with (go_at_call 78;(with_reducible refine (xJ.calls _ _ l0 _ _ l1 cc _ ?side1 ?side2 ?side3 ?side4 HCM.out).mono ?_);(case side1=>exact HR0.out);(case side2=>exact HC0.out);(case side3=>exact HR1.out);(case side4=>exact HC1.out);rintro e w' ⟨rfl,⟨nd,rfl⟩⟩)
   go_ret2
   exact⟨_,rfl,Kd.R_nil _ _ _ _ _,jK (Below.refl _ _) _⟩
  rw[if_neg hlt] at h;simp only[Option.some.injEq,Prod.mk.injEq] at h
  obtain⟨rfl,rfl⟩:=h;have hneg:¬ cc<0:=by rw[hcc];unfold vN;rw[if_neg hlt];split <;> omega
  have dc:decide (cc<0)=false:=decide_eq_false hneg;have hle:zI l1≤zI l0:=by omega
  obtain⟨k1,hk1⟩:=zgP (l:=l1) (by omega);have ht1:=zdD l1;have hm1:(uZ l1).length≤l0.length:=by
   rcases Nat.lt_or_ge l0.length (uZ l1).length with h1|h1
   ·have:=ziY G0.out (zdh G1.out) (zcJ l1) h1
    rw[zcN] at this;omega
   exact h1
  have hq1:=Fig.take_trim l1;have hv1:=zcN l1;obtain⟨m,hm⟩:∃ m,m=(uZ l1).length:=⟨_,rfl⟩
  rw[←hm] at hk1 ht1 hm1 hq1;obtain⟨i0,hi0,_,hsz,_⟩:=info_parts vW;obtain⟨hcutB,_,hcB⟩:=zbB (P:=Tryz.prog) (Value.int .u32) 0 81 95 .i64 Tryz.underlying81 hi0 hsz A1 c1 l1 (m:Int) (by omega) (by omega) HC1.out;rw[Int.toNat_natCast] at hcutB;have Hk1:=K_ hk1;have HT:=K_ (And.intro hq1 hv1);have HLE:=K_ hle;clear hcc hneg hlt hk1 hm hq1 hv1 hle hi0 hsz hcB;go_enter Tryz.func131,Tryz.ntmps131
  go_wp2_with (first
   | (go_at_call 78;(with_reducible refine (xJ.calls _ _ l0 _ _ l1 cc _ ?side1 ?side2 ?side3 ?side4 HCM.out).mono ?_);(case side1=>exact HR0.out);(case side2=>exact HC0.out);(case side3=>exact HR1.out);(case side4=>exact HC1.out);rintro e w' ⟨rfl,⟨nd,rfl⟩⟩)
   | (go_at_call 101;(with_reducible refine (uT.calls k1 _ _ l1 (m:Int) _ ?side1 ?side2 Hk1.out).mono ?_);(case side1=>repeat (first|exact HR1.out|(with_reducible refine Kd.C_drewN ?_ _)|(with_reducible refine Kd.C_drew ?_)));(case side2=>exact HC1.out);rintro e w' ⟨rfl,⟨nd2,rfl⟩⟩)
   | ((with_reducible refine zE (N:=21) rfl ?_);refine zeG (k:=.u32) w.heap.size 95 rfl 81 _ _ rfl l0.length rfl (by first|rfl|simp) Tryz.underlying81 (.int .u32 0) 4 vW (fun _=>True) trivial (by omega) (by omega) (w0:=w) (by repeat (first|exact Below.refl _ _|apply jK|apply yM)) (by first|exact Nat.le_refl _|simp) ?_;intro v20 w20 ho20 hb20;have HO:=K_ ho20;have HB:=K_ hb20;clear ho20 hb20))
  go_loopg [6,7,24] l0.length (fun j v6 v7 v24 w'=>∃ (n bw:Nat) (o:List Int),v24=.int .i64 (n:Int)∧v7=.int .u32 (bw:Int)∧Aside0 (n+j=l0.length)∧Aside0 (bw≤1∧jC o=true∧o.length=n∧zI (l0.take n)+1000000000 ^ n * bw=zI o+zI ((l1.take m).take n))∧Aside0 (Kd.R (Kd.int .u32) 95 w' w.heap.size (fun _=>True) v6 o)∧Aside0 (Below w.heap.size w w'))
  case atStart=>exact⟨0,0,[],rfl,rfl,⟨by omega⟩,⟨by omega,rfl,rfl,by simp[zI]⟩,HO,HB⟩
  case round =>
   clear HO HB;obtain⟨n,bw,o,rfl,rfl,HN,HI,HO,HB⟩:=hrel
   cases gk with
   | zero =>
    have hn:=HN.out;have hd:decide (n<l0.length)=false:=decide_eq_false (by omega);have HV:=K_ (show jC o=true∧o.length≤1000000000000∧zI o=zI l0-zI l1 by
     obtain⟨i1,i2,i3,i4⟩:=HI.out;refine⟨i2,by omega,?_⟩;have ho:=zak i2;have hle:=HLE.out;rw[List.take_of_length_le (by omega),List.take_of_length_le (by simp;omega),HT.out.1,HT.out.2] at i4;rw[i3] at ho;rcases Nat.eq_zero_or_pos bw with h0|h0
     ·subst h0;omega
     have:=Nat.mul_le_mul_left (1000000000 ^ n) h0
     omega)
    clear hn;obtain⟨A9,c9,rfl⟩:=Kd.R_slice HO.out;go_wp2_with (first
     | (go_at_call 91;(with_reducible refine (jW.calls A9 c9 o (zZ (zI l0-zI l1)) _ ?side1 ?side2 ?side3).mono ?_);(case side1=>exact (Kd.R_reads' HO.out).2.2);(case side2=>exact (Kd.R_reads' HO.out).2.1);(case side3=>rw[←HV.out.2.2];exact xK HV.out.1 (by have:=HV.out.2.1;omega));rintro e w12 ⟨v0,rfl,ho,hb⟩;have n0_:=K_ (Kd.R_lower ho (zQ (BL HB)));have n1_:=zF HB hb;clear ho hb HB HO;have HB:=n1_;have HO:=n0_;clear n0_ n1_))
    go_ret2
    exact⟨_,rfl,HO.out,HB.out⟩
   | succ j =>
    have hn:=HN.out;have hnl:n<l0.length:=by omega
    have hd:decide (n<l0.length)=true:=decide_eq_true hnl;obtain⟨ad,ea,hc⟩:=Kd.at_int HR0.out (n:Int) (by omega) (by omega);cases ea;rw[Int.toNat_natCast] at hc;replace hc:=(HB.out.cell (World.block_lt_of_cell? w _ hc)).trans hc;obtain⟨p,hp⟩:∃ p:Nat,rd l0 (n:Int)=(p:Int):=⟨(rd l0 (n:Int)).toNat,by have:=yG.1 G0.out _ (List.getElem_mem hnl);rw[vV hnl];omega⟩
    have hp9:p<1000000000:=by have:=yG.1 G0.out _ (List.getElem_mem hnl);rw[vV hnl] at hp;omega
    rw[hp] at hc;have HNL:=K_ hnl;have HP:=K_ (show (l0[n]'HNL.out).toNat=p by rw[vV hnl] at hp;rw[hp];rfl);have HS:=K_ (Fig.valL_take_succ HNL.out);have hbw:bw≤1:=HI.out.1;have HL:=K_ (show (o.length+1) * 4≤140737488355328 by
     have:=HI.out
     omega)
    have qn:=eq_true hnl;clear hp hn hnl;by_cases hm:n<m
    ·have hdm:decide (n<m)=true:=decide_eq_true hm
     have hm':n<l1.length:=by omega
     obtain⟨ad2,ea2,hc2⟩:=Kd.at_int HR1.out (n:Int) (by omega) (by omega);cases ea2;rw[Int.toNat_natCast] at hc2;replace hc2:=(HB.out.cell (World.block_lt_of_cell? w _ hc2)).trans hc2;obtain⟨q,hq⟩:∃ q:Nat,rd l1 (n:Int)=(q:Int):=⟨(rd l1 (n:Int)).toNat,by have:=yG.1 G1.out _ (List.getElem_mem hm');rw[vV hm'];omega⟩
     have hq9:q<1000000000:=by have:=yG.1 G1.out _ (List.getElem_mem hm');rw[vV hm'] at hq;omega
     rw[hq] at hc2;have HM:=K_ hm';have HQ:=K_ (show (l1[n]'HM.out).toNat=q by rw[vV hm'] at hq;rw[hq];rfl);have HS2:=K_ (Fig.valL_take_succ HM.out);have HM2:=K_ hm;have qm:=eq_true hm;clear hq hm hm';by_cases hv:p<bw+q
     ·have dv:decide (p<bw+q)=true:=decide_eq_true hv
      have dv2:decide ((p:Int)<(bw:Int)+(q:Int))=true:=decide_eq_true (by omega);go_wp2_with (first|((with_reducible refine jH (b:=.append) (xs:=#[.tmp 45,.tmp 49]) rfl ?_);at_builtin;refine Kd.R_append (Kd.int .u32) (w0:=w) w.heap.size rfl (.tmp 45) (.tmp 49) 81 95 (.int .u32 0) 4 rfl Tryz.underlying81 vW rfl (by decide) (by omega) _ o ((p:Int)+1000000000-((bw:Int)+(q:Int))) [.int .u32 ((p:Int)+1000000000-((bw:Int)+(q:Int)))] (fun _=>True) (fun _=>False) rfl rfl ?aP (fun _ hk=>hk.elim) ?aF ?aO ?aB ?aS ?aL ?_;(case aP=>exact rfl);(case aB=>exact (BL HB));(case aF=>exact (fun _ _=>trivial));(case aO=>exact (RB HO.out));(case aS=>exact (zQ (BL HB)));(case aL=>exact HL.out);intro v49 w11 ho hb hg hat;replace HB:=K_ hb;replace HO:=K_ ho;clear ho hb hg hat))
      go_roundg j
      case measure=>omega
      case rel =>
       exact⟨n+1,1,_,by rw[xU n (by have:=HN.out;omega)],by first|rfl|go_num,⟨by have:=HN.out;omega⟩,⟨by
        obtain⟨i1,i2,i3,i4⟩:=HI.out;rw[show ((p:Int)+1000000000-((bw:Int)+(q:Int)))=((p+1000000000-(bw+q):Nat):Int) by omega];refine⟨by omega,yN.2 ⟨i2,yK.2 ⟨by omega,rfl⟩⟩,by simp[i3],?_⟩;have hm:=HM2.out;have e1:(l1.take m).take (n+1)=l1.take (n+1):=by rw[List.take_take,Nat.min_eq_left (by omega)]
        have e2:(l1.take m).take n=l1.take n:=by rw[List.take_take,Nat.min_eq_left (by omega)]
        rw[e2] at i4;rw[qI,Int.toNat_natCast,i3,Nat.pow_succ,HS.out,HP.out,e1,HS2.out,HQ.out];exact zhf _ _ _ _ _ _ q (by omega) (by omega) (by omega) i4⟩,HO,HB⟩
     have dv:decide (p<bw+q)=false:=decide_eq_false hv;have dv2:decide ((p:Int)<(bw:Int)+(q:Int))=false:=decide_eq_false (by omega);go_wp2_with (first|((with_reducible refine jH (b:=.append) (xs:=#[.tmp 45,.tmp 49]) rfl ?_);at_builtin;refine Kd.R_append (Kd.int .u32) (w0:=w) w.heap.size rfl (.tmp 45) (.tmp 49) 81 95 (.int .u32 0) 4 rfl Tryz.underlying81 vW rfl (by decide) (by omega) _ o ((p:Int)-((bw:Int)+(q:Int))) [.int .u32 ((p:Int)-((bw:Int)+(q:Int)))] (fun _=>True) (fun _=>False) rfl rfl ?aP (fun _ hk=>hk.elim) ?aF ?aO ?aB ?aS ?aL ?_;(case aP=>exact rfl);(case aB=>exact (BL HB));(case aF=>exact (fun _ _=>trivial));(case aO=>exact (RB HO.out));(case aS=>exact (zQ (BL HB)));(case aL=>exact HL.out);intro v49 w11 ho hb hg hat;replace HB:=K_ hb;replace HO:=K_ ho;clear ho hb hg hat))
     go_roundg j
     case measure=>omega
     case rel =>
      exact⟨n+1,0,_,by rw[xU n (by have:=HN.out;omega)],by first|rfl|go_num,⟨by have:=HN.out;omega⟩,⟨by
       obtain⟨i1,i2,i3,i4⟩:=HI.out;rw[show ((p:Int)-((bw:Int)+(q:Int)))=((p-(bw+q):Nat):Int) by omega];refine⟨by omega,yN.2 ⟨i2,yK.2 ⟨by omega,rfl⟩⟩,by simp[i3],?_⟩;have hm:=HM2.out;have e1:(l1.take m).take (n+1)=l1.take (n+1):=by rw[List.take_take,Nat.min_eq_left (by omega)]
       have e2:(l1.take m).take n=l1.take n:=by rw[List.take_take,Nat.min_eq_left (by omega)]
       rw[e2] at i4;rw[qI,Int.toNat_natCast,i3,Nat.pow_succ,HS.out,HP.out,e1,HS2.out,HQ.out];exact zhl _ _ _ _ _ _ q (by omega) i4⟩,HO,HB⟩
    have hdm:decide (n<m)=false:=decide_eq_false hm;have HM:=K_ hm;clear hm;by_cases hv:p<bw
    ·have dv:decide (p<bw)=true:=decide_eq_true hv
     have dv2:decide ((p:Int)<(bw:Int))=true:=decide_eq_true (by omega);go_wp2_with (first|((with_reducible refine jH (b:=.append) (xs:=#[.tmp 45,.tmp 49]) rfl ?_);at_builtin;refine Kd.R_append (Kd.int .u32) (w0:=w) w.heap.size rfl (.tmp 45) (.tmp 49) 81 95 (.int .u32 0) 4 rfl Tryz.underlying81 vW rfl (by decide) (by omega) _ o ((p:Int)+1000000000-(bw:Int)) [.int .u32 ((p:Int)+1000000000-(bw:Int))] (fun _=>True) (fun _=>False) rfl rfl ?aP (fun _ hk=>hk.elim) ?aF ?aO ?aB ?aS ?aL ?_;(case aP=>exact rfl);(case aB=>exact (BL HB));(case aF=>exact (fun _ _=>trivial));(case aO=>exact (RB HO.out));(case aS=>exact (zQ (BL HB)));(case aL=>exact HL.out);intro v49 w11 ho hb hg hat;replace HB:=K_ hb;replace HO:=K_ ho;clear ho hb hg hat))
     go_roundg j
     case measure=>omega
     case rel =>
      exact⟨n+1,1,_,by rw[xU n (by have:=HN.out;omega)],by first|rfl|go_num,⟨by have:=HN.out;omega⟩,⟨by
       obtain⟨i1,i2,i3,i4⟩:=HI.out;rw[show ((p:Int)+1000000000-(bw:Int))=((p+1000000000-(bw):Nat):Int) by omega];refine⟨by omega,yN.2 ⟨i2,yK.2 ⟨by omega,rfl⟩⟩,by simp[i3],?_⟩;have hm:=HM.out;have e1:(l1.take m).take (n+1)=(l1.take m).take n:=by rw[List.take_take,List.take_take,Nat.min_eq_right (by omega),Nat.min_eq_right (by omega)]
       rw[qI,Int.toNat_natCast,i3,Nat.pow_succ,HS.out,HP.out,e1];exact zhf _ _ _ _ _ _ 0 (by omega) (by omega) (by omega) i4⟩,HO,HB⟩
    have dv:decide (p<bw)=false:=decide_eq_false hv;have dv2:decide ((p:Int)<(bw:Int))=false:=decide_eq_false (by omega);go_wp2_with (first|((with_reducible refine jH (b:=.append) (xs:=#[.tmp 45,.tmp 49]) rfl ?_);at_builtin;refine Kd.R_append (Kd.int .u32) (w0:=w) w.heap.size rfl (.tmp 45) (.tmp 49) 81 95 (.int .u32 0) 4 rfl Tryz.underlying81 vW rfl (by decide) (by omega) _ o ((p:Int)-(bw:Int)) [.int .u32 ((p:Int)-(bw:Int))] (fun _=>True) (fun _=>False) rfl rfl ?aP (fun _ hk=>hk.elim) ?aF ?aO ?aB ?aS ?aL ?_;(case aP=>exact rfl);(case aB=>exact (BL HB));(case aF=>exact (fun _ _=>trivial));(case aO=>exact (RB HO.out));(case aS=>exact (zQ (BL HB)));(case aL=>exact HL.out);intro v49 w11 ho hb hg hat;replace HB:=K_ hb;replace HO:=K_ ho;clear ho hb hg hat))
    go_roundg j
    case measure=>omega
    case rel =>
     exact⟨n+1,0,_,by rw[xU n (by have:=HN.out;omega)],by first|rfl|go_num,⟨by have:=HN.out;omega⟩,⟨by
      obtain⟨i1,i2,i3,i4⟩:=HI.out;rw[show ((p:Int)-(bw:Int))=((p-(bw):Nat):Int) by omega];refine⟨by omega,yN.2 ⟨i2,yK.2 ⟨by omega,rfl⟩⟩,by simp[i3],?_⟩;have hm:=HM.out;have e1:(l1.take m).take (n+1)=(l1.take m).take n:=by rw[List.take_take,List.take_take,Nat.min_eq_right (by omega),Nat.min_eq_right (by omega)]
      rw[qI,Int.toNat_natCast,i3,Nat.pow_succ,HS.out,HP.out,e1];exact zhl _ _ _ _ _ _ 0 (by omega) i4⟩,HO,HB⟩
 rw[if_neg hg] at h;cases h
end
def uA.l0:Nat→List Int→List Int→Int→Int→Option (Int×List Int)
 | 0,_,_,_,_=>none
 | k+1,x0,x1,x6,x7=>if ((x7-x6) % 4294967296)>1 then ((xY.f k x1 (((x6+x7) % 4294967296) / 2) 0).bind fun t334=>((xJ.f t334 x0).bind fun t337=>(if t337≤0 then (uA.l0 k x0 x1 (((x6+x7) % 4294967296) / 2) x7) else (uA.l0 k x0 x1 x6 (((x6+x7) % 4294967296) / 2))))) else ((xY.f k x1 x6 0).bind fun t327=>((zdl.f x0 t327).bind fun bt330=>(some (x6,bt330.1))))
def uA.f (k:Nat) (l0:List Int) (l1:List Int):Option (Int×List Int):=uA.l0 k l0 l1 0 1000000000
set_option maxHeartbeats 8000000 in
set_option maxRecDepth 100000 in
theorem uA.calls (k:Nat) (A0:Option Addr) (c0:Nat) (l0:List Int) (A1:Option Addr) (c1:Nat) (l1:List Int) (r1:Int) (r2:List Int) (w:World) (hr0:Kd.C (Kd.int .u32) w A0 l0.length l0) (hc0:l0.length≤c0) (hr1:Kd.C (Kd.int .u32) w A1 l1.length l1) (hc1:l1.length≤c1) (h:uA.f k l0 l1=some (r1,r2)) :
  Calls Tryz.prog 100 #[.slice A0 l0.length c0,.slice A1 l1.length c1] w fun e w'=>∃ v1_:Value,e=.returned (.tuple #[.int .u32 r1,v1_])∧Kd.R (Kd.int .u32) 95 w' w.heap.size (fun _=>True) v1_ r2∧Below w.heap.size w w':=by
 have HR0:=K_ hr0;have HC0:=K_ hc0;clear hr0 hc0;have HR1:=K_ hr1;have HC1:=K_ hc1;clear hr1 hc1;have HB:=K_ (Below.refl w.heap.size w);have H:(uA.l0 k l0 l1 0 1000000000)=some (r1,r2):=h;clear h;have H':=K_ H;clear H;go_enter Tryz.func100,Tryz.ntmps100
 go_wp2
 go_loopg [6,7] k (fun kq v6 v7 w'=>∃ (x6_1:Int) (x7_1:Int),v6=.int .u32 x6_1∧v7=.int .u32 x7_1∧Aside0 (uA.l0 kq l0 l1 x6_1 x7_1=some (r1,r2))∧Aside0 (kq≤k)∧Aside0 (Below w.heap.size w w'))
 case atStart=>exact⟨(0),(1000000000),SR,SR,H',⟨Nat.le_refl _⟩,⟨BL HB⟩⟩
 case round =>
  clear H';try clear c1
  obtain⟨x6_1,x7_1,rfl,rfl,HA,HK1,HB⟩:=hrel;obtain _|k1:=gk
  ·exact absurd HA.out (by simp[uA.l0])
  have H:=HA.out;clear HA;simp only[uA.l0] at H
  by_cases c3:((x7_1-x6_1) % 4294967296)>1
  ·rw[if_pos c3] at H
   have c3b0:decide (1<((x7_1-x6_1) % 4294967296))=true:=decide_eq_true c3;clear c3;obtain⟨t334,A40,H⟩:=Option.bind_eq_some_iff.mp H
   (try dsimp -simprocs only at H)
   have A4:=K_ A40;clear A40;obtain⟨t337,A50,H⟩:=Option.bind_eq_some_iff.mp H
   (try dsimp -simprocs only at H)
   have A5:=K_ A50;clear A50;by_cases c6:t337≤0
   ·rw[if_pos c6] at H
    have c6b0:decide (t337≤0)=true:=decide_eq_true c6;clear c6;have H':=K_ H;clear H;go_wp2_with (first|((with_reducible refine zH (f:=99) rfl ?_);refine zT (some 21) rfl rfl Tryz.func99 (by kernel_rfl) rfl #[.slice A1 l1.length c1,.int .u32 (((x6_1+x7_1) % 4294967296) / 2),.int .u32 0] rfl MP ?_;(with_reducible refine (xY.calls k1 _ _ l1 (((x6_1+x7_1) % 4294967296) / 2) 0 t334 _ ?side1 ?side2 A4.out).mono ?_);(case side1=>exact CB (Kd.C_below HR1.out HB.out));(case side2=>exact HC1.out);rintro e w7 ⟨v335,rfl,ho0,hb⟩;refine⟨_,rfl,?_⟩;have HO336:=K_ (Kd.R_lower ho0 (zQ (BL HB)));replace HB:=zF HB hb;(try clear hb);(try clear hb2);(try clear hk);(try clear hi);(try clear ho0);obtain⟨Ao8,co8,eo8⟩:=Kd.R_slice HO336.out;subst eo8)|((with_reducible refine zH (f:=78) rfl ?_);refine zT (some 23) rfl rfl Tryz.func78 (by kernel_rfl) rfl #[.slice Ao8 t334.length co8,.slice A0 l0.length c0] rfl MP ?_;(with_reducible refine (xJ.calls _ _ t334 _ _ l0 t337 _ ?side1 ?side2 ?side3 ?side4 A5.out).mono ?_);(case side1=>exact CB ((Kd.R_reads' HO336.out).2.2));(case side2=>exact (Kd.R_reads' HO336.out).2.1);(case side3=>exact CB (Kd.C_below HR0.out HB.out));(case side4=>exact HC0.out);rintro e w' ⟨rfl,⟨nd,rfl⟩⟩;refine⟨_,rfl,?_⟩))
    go_roundg k1
    case measure=>have:=HK1.out;omega
    case rel=>exact⟨(((x6_1+x7_1) % 4294967296) / 2),(x7_1),SR,SR,H',⟨by have:=HK1.out;omega⟩,⟨BL HB⟩⟩
   rw[if_neg c6] at H;have c6b0:decide (t337≤0)=false:=decide_eq_false c6;clear c6;have H':=K_ H;clear H;go_wp2_with (first|((with_reducible refine zH (f:=99) rfl ?_);refine zT (some 21) rfl rfl Tryz.func99 (by kernel_rfl) rfl #[.slice A1 l1.length c1,.int .u32 (((x6_1+x7_1) % 4294967296) / 2),.int .u32 0] rfl MP ?_;(with_reducible refine (xY.calls k1 _ _ l1 (((x6_1+x7_1) % 4294967296) / 2) 0 t334 _ ?side1 ?side2 A4.out).mono ?_);(case side1=>exact CB (Kd.C_below HR1.out HB.out));(case side2=>exact HC1.out);rintro e w9 ⟨v335,rfl,ho0,hb⟩;refine⟨_,rfl,?_⟩;have HO336:=K_ (Kd.R_lower ho0 (zQ (BL HB)));replace HB:=zF HB hb;(try clear hb);(try clear hb2);(try clear hk);(try clear hi);(try clear ho0);obtain⟨Ao10,co10,eo10⟩:=Kd.R_slice HO336.out;subst eo10)|((with_reducible refine zH (f:=78) rfl ?_);refine zT (some 23) rfl rfl Tryz.func78 (by kernel_rfl) rfl #[.slice Ao10 t334.length co10,.slice A0 l0.length c0] rfl MP ?_;(with_reducible refine (xJ.calls _ _ t334 _ _ l0 t337 _ ?side1 ?side2 ?side3 ?side4 A5.out).mono ?_);(case side1=>exact CB ((Kd.R_reads' HO336.out).2.2));(case side2=>exact (Kd.R_reads' HO336.out).2.1);(case side3=>exact CB (Kd.C_below HR0.out HB.out));(case side4=>exact HC0.out);rintro e w' ⟨rfl,⟨nd,rfl⟩⟩;refine⟨_,rfl,?_⟩))
   go_roundg k1
   case measure=>have:=HK1.out;omega
   case rel=>exact⟨(x6_1),(((x6_1+x7_1) % 4294967296) / 2),SR,SR,H',⟨by have:=HK1.out;omega⟩,⟨BL HB⟩⟩
  rw[if_neg c3] at H;have c3b0:decide (1<((x7_1-x6_1) % 4294967296))=false:=decide_eq_false c3;clear c3;obtain⟨t327,A110,H⟩:=Option.bind_eq_some_iff.mp H
  (try dsimp -simprocs only at H)
  have A11:=K_ A110;clear A110;obtain⟨⟨t330,t331⟩,A120,H⟩:=Option.bind_eq_some_iff.mp H
  (try dsimp -simprocs only at H)
  have A12:=K_ A120;clear A120;simp only[Option.some.injEq,Prod.mk.injEq] at H
  obtain⟨rfl,rfl⟩:=H;go_wp2_with (first|((with_reducible refine zH (f:=99) rfl ?_);refine zT (some 31) rfl rfl Tryz.func99 (by kernel_rfl) rfl #[.slice A1 l1.length c1,.int .u32 x6_1,.int .u32 0] rfl MP ?_;(with_reducible refine (xY.calls k1 _ _ l1 x6_1 0 t327 _ ?side1 ?side2 A11.out).mono ?_);(case side1=>exact CB (Kd.C_below HR1.out HB.out));(case side2=>exact HC1.out);rintro e w13 ⟨v328,rfl,ho0,hb⟩;refine⟨_,rfl,?_⟩;have HO329:=K_ (Kd.R_lower ho0 (zQ (BL HB)));replace HB:=zF HB hb;(try clear hb);(try clear hb2);(try clear hk);(try clear hi);(try clear ho0);obtain⟨Ao14,co14,eo14⟩:=Kd.R_slice HO329.out;subst eo14)|((with_reducible refine zH (f:=131) rfl ?_);refine zT (some 32) rfl rfl Tryz.func131 (by kernel_rfl) rfl #[.slice A0 l0.length c0,.slice Ao14 t327.length co14] rfl MP ?_;(with_reducible refine (zdl.calls _ _ l0 _ _ t327 t330 t331 _ ?side1 ?side2 ?side3 ?side4 A12.out).mono ?_);(case side1=>exact CB (Kd.C_below HR0.out HB.out));(case side2=>exact HC0.out);(case side3=>exact CB ((Kd.R_reads' HO329.out).2.2));(case side4=>exact (Kd.R_reads' HO329.out).2.1);rintro e w15 ⟨v332,rfl,ho0,hb⟩;refine⟨_,rfl,?_⟩;have HO333:=K_ (Kd.R_lower (Kd.R_new' ho0 (Kd.R_lt (RB HO329.out))) (zQ (BL HB)));replace HO329:=K_ (Kd.R_elder' (RB HO329.out) (Kd.R_base ho0) hb);replace HB:=zF HB hb;(try clear hb);(try clear hb2);(try clear hk);(try clear hi);(try clear ho0)))
  go_ret2
  exact⟨_,ER,by (with_reducible repeat (first|apply Kd.R_alloc|apply Kd.R_drewN|apply Kd.R_drew));exact Kd.R_mono HO333.out (fun _ hk=>trivial),BL HB⟩
def vO.l0:Nat→List Int→List Int→List Int→List Int→Int→Option (List Int×List Int×Bool)
 | 0,_,_,_,_,_=>none
 | k+1,x0,x1,x4,x5,x7=>if x7 ≥ 0 then (if 0≤x7 then (if x7<(x0.length:Int) then ((some (([rd x0 x7]:List Int):List Int)).bind fun y345=>(if y345.length+x5.length<35184372088832 then ((jW.f (y345++x5)).bind fun t351=>((uA.f k t351 x1).bind fun bt354=>(if x7<(x4.length:Int) then (vO.l0 k x0 x1 (x4.set (x7:Int).toNat bt354.1) bt354.2 (wrap64 (x7-1))) else (none)))) else (none))) else (none)) else (none)) else ((jW.f x4).bind fun t359=>((jW.f x5).bind fun t362=>(some (t359,t362,true))))
def vO.f (k:Nat) (l0:List Int) (l1:List Int):Option (List Int×List Int×Bool):=(jW.f l1).bind fun t338=>(if (t338.length:Int)=0 then (some (([]:List Int),([]:List Int),false)) else (if 0≤(l0.length:Int) then (if ((l0.length:Int):Int).toNat≤70368744177664 then (vO.l0 k l0 t338 (List.replicate ((l0.length:Int):Int).toNat 0) ([]:List Int) (wrap64 ((l0.length:Int)-1))) else (none)) else (none)))
set_option maxHeartbeats 8000000 in
set_option maxRecDepth 100000 in
theorem vO.calls (k:Nat) (A0:Option Addr) (c0:Nat) (l0:List Int) (A1:Option Addr) (c1:Nat) (l1:List Int) (r1:List Int) (r2:List Int) (r3:Bool) (w:World) (hr0:Kd.C (Kd.int .u32) w A0 l0.length l0) (hc0:l0.length≤c0) (hr1:Kd.C (Kd.int .u32) w A1 l1.length l1) (hc1:l1.length≤c1) (h:vO.f k l0 l1=some (r1,r2,r3)) :
  Calls Tryz.prog 75 #[.slice A0 l0.length c0,.slice A1 l1.length c1] w fun e w'=>∃ v0_ v1_:Value,e=.returned (.tuple #[v0_,v1_,.bool r3])∧Kd.R (Kd.int .u32) 95 w' w.heap.size (fun k_=>some k_≠(v1_:Value).ownBlock) v0_ r1∧Kd.R (Kd.int .u32) 95 w' w.heap.size (fun k_=>some k_≠(v0_:Value).ownBlock) v1_ r2∧Below w.heap.size w w':=by
 have HR0:=K_ hr0;have HC0:=K_ hc0;clear hr0 hc0;have HR1:=K_ hr1;have HC1:=K_ hc1;clear hr1 hc1;have HB:=K_ (Below.refl w.heap.size w);have H:((jW.f l1).bind fun t338=>(if (t338.length:Int)=0 then (some (([]:List Int),([]:List Int),false)) else (if 0≤(l0.length:Int) then (if ((l0.length:Int):Int).toNat≤70368744177664 then (vO.l0 k l0 t338 (List.replicate ((l0.length:Int):Int).toNat 0) ([]:List Int) (wrap64 ((l0.length:Int)-1))) else (none)) else (none))))=some (r1,r2,r3):=h;clear h;obtain⟨t338,A30,H⟩:=Option.bind_eq_some_iff.mp H
 (try dsimp -simprocs only at H)
 have A3:=K_ A30;clear A30;by_cases c4:(t338.length:Int)=0
 ·rw[if_pos c4] at H
  have c4b0:((t338.length:Int)==0)=true:=beq_iff_eq.mpr c4;have c4b1:((t338.length:Int) !=0)=false:=bne_eq_false_iff_eq.mpr c4;clear c4;simp only[Option.some.injEq,Prod.mk.injEq] at H
  obtain⟨rfl,rfl,rfl⟩:=H;go_enter Tryz.func75,Tryz.ntmps75
  go_wp2_with (first|((with_reducible refine zH (f:=91) rfl ?_);refine zT (some 9) rfl rfl Tryz.func91 (by kernel_rfl) rfl #[.slice A1 l1.length c1] rfl MP ?_;(with_reducible refine (jW.calls _ _ l1 t338 _ ?side1 ?side2 A3.out).mono ?_);(case side1=>exact CB HR1.out);(case side2=>exact HC1.out);rintro e w5 ⟨v339,rfl,ho0,hb⟩;refine⟨_,rfl,?_⟩;have HO340:=K_ (Kd.R_lower ho0 (zQ (BL HB)));replace HB:=zF HB hb;(try clear hb);(try clear hb2);(try clear hk);(try clear hi);(try clear ho0);obtain⟨Ao6,co6,eo6⟩:=Kd.R_slice HO340.out;subst eo6))
  go_ret3
  exact⟨_,_,ER,by first|exact Kd.R_nil _ _ _ _ _|exact Kd.N_nil _ _ _ _ _|exact Kd.V_nil _ _ _ _ _|exact Kd.Q_nil _ _ _ _ _|exact Kd.S_nil _ _ _ _ _,by first|exact Kd.R_nil _ _ _ _ _|exact Kd.N_nil _ _ _ _ _|exact Kd.V_nil _ _ _ _ _|exact Kd.Q_nil _ _ _ _ _|exact Kd.S_nil _ _ _ _ _,BL HB⟩
 rw[if_neg c4] at H;have c4b0:((t338.length:Int)==0)=false:=beq_eq_false_iff_ne.mpr c4;have c4b1:((t338.length:Int) !=0)=true:=bne_iff_ne.mpr c4;have c4b2:¬ (t338=[]):=fun h_=>c4 (by rw[h_];rfl)
 by_cases c7:0≤(l0.length:Int)
 ·rw[if_pos c7] at H
  have c7b0:=eq_true c7;have c7b1:decide (0≤(l0.length:Int))=true:=decide_eq_true c7;clear c7;by_cases c8:((l0.length:Int):Int).toNat≤70368744177664
  ·rw[if_pos c8] at H
   have c8b0:=eq_true c8;have c8b1:decide (((l0.length:Int):Int).toNat≤70368744177664)=true:=decide_eq_true c8;clear c8;obtain⟨y341,hy341⟩:∃ y_:List Int,y_=(List.replicate ((l0.length:Int):Int).toNat 0):=⟨_,rfl⟩
   replace H:(vO.l0 k l0 t338 y341 ([]:List Int) (wrap64 ((l0.length:Int)-1)))=some (r1,r2,r3):=by first|(rw[hy341];with_reducible exact H)|(have H2_:=(Option.bind_some _ _).symm.trans H;rw[hy341];with_reducible exact H2_)|(have H2_:=(Option.bind_some _ _).symm.trans H;with_reducible exact H2_)|with_reducible exact H|(rw[hy341];exact H)|exact H
   have Ny341:=K_ hy341;clear hy341;have H':=K_ H;clear H;go_enter Tryz.func75,Tryz.ntmps75
   go_wp2_with (first|((with_reducible refine zH (f:=91) rfl ?_);refine zT (some 9) rfl rfl Tryz.func91 (by kernel_rfl) rfl #[.slice A1 l1.length c1] rfl MP ?_;(with_reducible refine (jW.calls _ _ l1 t338 _ ?side1 ?side2 A3.out).mono ?_);(case side1=>exact CB HR1.out);(case side2=>exact HC1.out);rintro e w9 ⟨v339,rfl,ho0,hb⟩;refine⟨_,rfl,?_⟩;have HO340:=K_ (Kd.R_lower ho0 (zQ (BL HB)));replace HB:=zF HB hb;(try clear hb);(try clear hb2);(try clear hk);(try clear hi);(try clear ho0);obtain⟨Ao10,co10,eo10⟩:=Kd.R_slice HO340.out;subst eo10)|((with_reducible refine zE (N:=15) rfl ?_);refine Kd.R_make (Kd.int .u32) _ 95 rfl (N:=15) rfl 81 _ _ rfl (l0.length:Int) rfl rfl Tryz.underlying81 (.int .u32 0) 4 vW rfl (by decide) (by omega) 0 (ok:=fun _=>True) (okp:=fun _=>True) rfl (fun _ hk=>hk) trivial (of_decide_eq_true (by first|(with_reducible assumption)|assumption)) (Nat.le_trans (Nat.mul_le_mul_right _ (of_decide_eq_true (by first|(with_reducible assumption)|assumption):(l0.length:Int).toNat≤70368744177664)) (by omega)) (Below.refl _ _) (Nat.le_refl _) ?_;intro v342 w11 ho12 hb hg_ hnew_;clear hg_ hnew_;(first|rw[←Ny341.out] at ho12|(simp only[Int.reduceToNat] at ho12;rw[←Ny341.out] at ho12));have HO343:=K_ (Kd.R_lower (Kd.R_new' ho12 (Kd.R_lt (RB HO340.out))) (zQ (BL HB)));replace HO340:=K_ (Kd.R_elder' (RB HO340.out) (Kd.R_base ho12) hb);replace HB:=zF HB hb;clear hb ho12))
   go_loopg [5,7] k (fun kq v5 v7 w'=>∃ (x4_1:List Int) (x5_1:List Int) (x7_1:Int),v7=.int .i64 x7_1∧Aside0 (vO.l0 kq l0 t338 x4_1 x5_1 x7_1=some (r1,r2,r3))∧Aside0 (kq≤k)∧Aside0 (Kd.R (Kd.int .u32) 95 w' w.heap.size (fun k_=>some k_≠(v342:Value).ownBlock∧some k_≠(v5:Value).ownBlock) (.slice Ao10 t338.length co10) t338)∧Aside0 (Kd.R (Kd.int .u32) 95 w' w.heap.size (fun k_=>some k_≠((.slice Ao10 t338.length co10):Value).ownBlock∧some k_≠(v5:Value).ownBlock) v342 x4_1)∧Aside0 (Kd.R (Kd.int .u32) 95 w' w.heap.size (fun k_=>some k_≠((.slice Ao10 t338.length co10):Value).ownBlock∧some k_≠(v342:Value).ownBlock) v5 x5_1)∧Aside0 (Below w.heap.size w w'))
   case atStart=>exact⟨(y341),(([]:List Int)),(wrap64 ((l0.length:Int)-1)),SR,H',⟨Nat.le_refl _⟩,⟨by (with_reducible repeat (first|apply Kd.R_alloc|apply Kd.R_drewN|apply Kd.R_drew));exact Kd.R_mono HO340.out (fun _ hk=>⟨hk.2,(by simp[Value.ownBlock])⟩)⟩,⟨by (with_reducible repeat (first|apply Kd.R_alloc|apply Kd.R_drewN|apply Kd.R_drew));exact Kd.R_mono HO343.out (fun _ hk=>⟨hk.2,(by simp[Value.ownBlock])⟩)⟩,⟨by first|exact Kd.R_nil _ _ _ _ _|exact Kd.N_nil _ _ _ _ _|exact Kd.V_nil _ _ _ _ _|exact Kd.Q_nil _ _ _ _ _|exact Kd.S_nil _ _ _ _ _⟩,⟨BL HB⟩⟩
   case round =>
    clear H';try clear c1
    try clear c4
    try clear c4b0
    try clear c4b1
    try clear c4b2
    try clear c7
    try clear c7b0
    try clear c7b1
    try clear c8
    try clear c8b0
    try clear c8b1
    obtain⟨x4_1,x5_1,x7_1,rfl,HA,HK1,HO_1,HO_4,HO_5,HB⟩:=hrel;obtain _|k1:=gk
    ·exact absurd HA.out (by simp[vO.l0])
    have H:=HA.out;clear HA;simp only[vO.l0] at H
    by_cases c13:x7_1 ≥ 0
    ·rw[if_pos c13] at H
     have c13b0:decide (0≤x7_1)=true:=decide_eq_true c13;clear c13;by_cases c14:0≤x7_1
     ·rw[if_pos c14] at H
      have c14b0:decide (0≤x7_1)=true:=decide_eq_true c14;clear c14;by_cases c15:x7_1<(l0.length:Int)
      ·rw[if_pos c15] at H
       have c15b0:decide (x7_1<(l0.length:Int))=true:=decide_eq_true c15;clear c15;obtain⟨y345,hy345⟩:∃ y_:List Int,y_=(([rd l0 x7_1]:List Int)):=⟨_,rfl⟩
       replace H:(if y345.length+x5_1.length<35184372088832 then ((jW.f (y345++x5_1)).bind fun t351=>((uA.f k1 t351 t338).bind fun bt354=>(if x7_1<(x4_1.length:Int) then (vO.l0 k1 l0 t338 (x4_1.set (x7_1:Int).toNat bt354.1) bt354.2 (wrap64 (x7_1-1))) else (none)))) else (none))=some (r1,r2,r3):=by first|(rw[hy345];with_reducible exact H)|(have H2_:=(Option.bind_some _ _).symm.trans H;rw[hy345];with_reducible exact H2_)|(have H2_:=(Option.bind_some _ _).symm.trans H;with_reducible exact H2_)|with_reducible exact H|(rw[hy345];exact H)|exact H
       have Ny345:=K_ hy345;clear hy345;by_cases c16:y345.length+x5_1.length<35184372088832
       ·rw[if_pos c16] at H
        have LMc16:=K_ c16;clear c16;obtain⟨y348,hy348⟩:∃ y_:List Int,y_=(y345++x5_1):=⟨_,rfl⟩
        replace H:((jW.f y348).bind fun t351=>((uA.f k1 t351 t338).bind fun bt354=>(if x7_1<(x4_1.length:Int) then (vO.l0 k1 l0 t338 (x4_1.set (x7_1:Int).toNat bt354.1) bt354.2 (wrap64 (x7_1-1))) else (none))))=some (r1,r2,r3):=by first|(rw[hy348];with_reducible exact H)|(have H2_:=(Option.bind_some _ _).symm.trans H;rw[hy348];with_reducible exact H2_)|(have H2_:=(Option.bind_some _ _).symm.trans H;with_reducible exact H2_)|with_reducible exact H|(rw[hy348];exact H)|exact H
        have Ny348:=K_ hy348;clear hy348;obtain⟨t351,A170,H⟩:=Option.bind_eq_some_iff.mp H
        (try dsimp -simprocs only at H)
        have A17:=K_ A170;clear A170;obtain⟨⟨t354,t355⟩,A180,H⟩:=Option.bind_eq_some_iff.mp H
        (try dsimp -simprocs only at H)
        have A18:=K_ A180;clear A180;by_cases c19:x7_1<(x4_1.length:Int)
        ·rw[if_pos c19] at H
         have c19b0:decide (x7_1<(x4_1.length:Int))=true:=decide_eq_true c19;clear c19;obtain⟨y358,hy358⟩:∃ y_:List Int,y_=(x4_1.set (x7_1:Int).toNat t354):=⟨_,rfl⟩
         replace H:(vO.l0 k1 l0 t338 y358 t355 (wrap64 (x7_1-1)))=some (r1,r2,r3):=by first|(rw[hy358];with_reducible exact H)|(have H2_:=(Option.bind_some _ _).symm.trans H;rw[hy358];with_reducible exact H2_)|(have H2_:=(Option.bind_some _ _).symm.trans H;with_reducible exact H2_)|with_reducible exact H|(rw[hy358];exact H)|exact H
         have Ny358:=K_ hy358;clear hy358;have H':=K_ H;clear H;have p344:0≤(x7_1:Int):=of_decide_eq_true (by first|(with_reducible assumption)|assumption);have q344:x7_1<(l0.length:Int):=of_decide_eq_true (by first|(with_reducible assumption)|assumption);obtain⟨ad344,e344,hx344_0⟩:=Kd.at_int HR0.out x7_1 p344 q344;cases e344;replace hx344_0:=(HB.out.cell (World.block_lt_of_cell? w _ hx344_0)).trans hx344_0;replace p344:=eq_true p344;replace q344:=eq_true q344;go_wp2_with (first|((with_reducible refine zE (N:=27) rfl ?_);refine Kd.R_lit (Kd.int .u32) _ 95 ?hg (N:=27) ?hd (xs:=([rd l0 x7_1]:List Int)) (inner:=[.int .u32 (rd l0 x7_1)]) (ok:=fun _=>True) (okp:=fun _=>True) ?hr ?hp (fun _ hk=>hk) trivial (Below.refl _ _) (Nat.le_refl _) (by simp) ?_;(case hd=>rfl);(case hg=>rfl);(case hr=>first|(go_simp;done)|(go_simp;rfl));(case hp=>exact (jN.one (show Kd.M (Kd.int .u32) _ _ _ (rd l0 x7_1) [.int .u32 (rd l0 x7_1)] from rfl) (jN.none _ _)));intro v346 w21 ho22 hb hg_ hnew_;clear hg_ hnew_;(first|rw[←Ny345.out] at ho22|(simp only[Int.reduceToNat] at ho22;rw[←Ny345.out] at ho22));have HO347:=K_ (Kd.R_lower (Kd.R_new' (Kd.R_new' (Kd.R_new' ho22 (Kd.R_lt (RB HO_1.out))) (Kd.R_lt (RB HO_4.out))) (Kd.R_lt (RB HO_5.out))) (zQ (BL HB)));replace HO_1:=K_ (Kd.R_elder' (RB HO_1.out) (Kd.R_base ho22) hb);replace HO_4:=K_ (Kd.R_elder' (RB HO_4.out) (Kd.R_base ho22) hb);replace HO_5:=K_ (Kd.R_elder' (RB HO_5.out) (Kd.R_base ho22) hb);replace HB:=zF HB hb;clear hb ho22;obtain⟨Ao24,co24,eo24⟩:=Kd.R_slice HO_5.out;subst eo24)|((with_reducible refine jH (b:=.append) (xs:=#[.tmp 27,.tmp 28]) rfl ?_);at_builtin;refine Kd.R_append_rows (Kd.int .u32) (w0:=w) w.heap.size rfl (.tmp 27) (.tmp 28) 81 95 (.int .u32 0) 4 rfl Tryz.underlying81 vW rfl (by decide) (by omega) v346 y345 x5_1 _ _ _ (fun k_=>some k_≠(.slice Ao10 t338.length co10:Value).ownBlock∧some k_≠(v342:Value).ownBlock∧some k_≠(.slice Ao24 x5_1.length co24:Value).ownBlock) (fun _=>False) rfl rfl ?aO ?aR (fun _ _ h=>h) (fun _ h=>h.elim) ?aF ?aB ?aS ?aL ?_;(case aR=>repeat (first|exact (Kd.R_reads' HO_5.out).2.2|(with_reducible refine Kd.C_alloc ?_ _)|(with_reducible refine Kd.C_drewN ?_ _)|(with_reducible refine Kd.C_drew ?_)));(case aB=>exact (BL HB));(case aF=>exact (fun k_ hk=>⟨Kd.fresh' (Kd.R_lt (RB HO_1.out)) k_ hk,Kd.fresh' (Kd.R_lt (RB HO_4.out)) k_ hk,Kd.fresh' (Kd.R_lt (RB HO_5.out)) k_ hk⟩));(case aO=>exact (by (with_reducible repeat (first|apply Kd.R_alloc|apply Kd.R_drewN|apply Kd.R_drew));exact Kd.R_mono HO347.out (fun _ hk=>⟨hk.1.1.2,⟨hk.1.2,hk.2⟩⟩)));(case aS=>exact (zQ (BL HB)));(case aL=>have:=LMc16.out;omega);intro v349 w23 ho hb hg hat;rw[←Ny348.out] at ho;replace HO_1:=K_ (Kd.R_after (ok:=(fun k_=>some k_≠(v342:Value).ownBlock∧some k_≠(.slice Ao24 x5_1.length co24:Value).ownBlock)) (RB HO_1.out) hg hat);replace HO_4:=K_ (Kd.R_after (ok:=(fun k_=>some k_≠(.slice Ao10 t338.length co10:Value).ownBlock∧some k_≠(.slice Ao24 x5_1.length co24:Value).ownBlock)) (RB HO_4.out) hg hat);replace HO_5:=K_ (Kd.R_after (ok:=(fun k_=>some k_≠(.slice Ao10 t338.length co10:Value).ownBlock∧some k_≠(v342:Value).ownBlock)) (RB HO_5.out) hg hat);replace HB:=K_ (hb);have HO350:=K_ (ho);clear HO347;clear ho hb hg hat;obtain⟨Ao25,co25,eo25⟩:=Kd.R_slice HO350.out;subst eo25)|((with_reducible refine zH (f:=91) rfl ?_);refine zT (some 30) rfl rfl Tryz.func91 (by kernel_rfl) rfl #[.slice Ao25 y348.length co25] rfl MP ?_;(with_reducible refine (jW.calls _ _ y348 t351 _ ?side1 ?side2 A17.out).mono ?_);(case side1=>exact CB ((Kd.R_reads' HO350.out).2.2));(case side2=>exact (Kd.R_reads' HO350.out).2.1);rintro e w26 ⟨v352,rfl,ho0,hb⟩;refine⟨_,rfl,?_⟩;have HO353:=K_ (Kd.R_lower (Kd.R_new' (Kd.R_new' (Kd.R_new' (Kd.R_new' ho0 (Kd.R_lt (RB HO_1.out))) (Kd.R_lt (RB HO_4.out))) (Kd.R_lt (RB HO_5.out))) (Kd.R_lt (RB HO350.out))) (zQ (BL HB)));replace HO_1:=K_ (Kd.R_elder' (RB HO_1.out) (Kd.R_base ho0) hb);replace HO_4:=K_ (Kd.R_elder' (RB HO_4.out) (Kd.R_base ho0) hb);replace HO_5:=K_ (Kd.R_elder' (RB HO_5.out) (Kd.R_base ho0) hb);replace HO350:=K_ (Kd.R_elder' (RB HO350.out) (Kd.R_base ho0) hb);replace HB:=zF HB hb;(try clear hb);(try clear hb2);(try clear hk);(try clear hi);(try clear ho0);obtain⟨Ao27,co27,eo27⟩:=Kd.R_slice HO353.out;subst eo27)|((with_reducible refine zH (f:=100) rfl ?_);refine zT (some 36) rfl rfl Tryz.func100 (by kernel_rfl) rfl #[.slice Ao27 t351.length co27,.slice Ao10 t338.length co10] rfl MP ?_;(with_reducible refine (uA.calls k1 _ _ t351 _ _ t338 t354 t355 _ ?side1 ?side2 ?side3 ?side4 A18.out).mono ?_);(case side1=>exact CB ((Kd.R_reads' HO353.out).2.2));(case side2=>exact (Kd.R_reads' HO353.out).2.1);(case side3=>exact CB ((Kd.R_reads' HO_1.out).2.2));(case side4=>exact (Kd.R_reads' HO_1.out).2.1);rintro e w28 ⟨v356,rfl,ho0,hb⟩;refine⟨_,rfl,?_⟩;have HO357:=K_ (Kd.R_lower (Kd.R_new' (Kd.R_new' (Kd.R_new' (Kd.R_new' (Kd.R_new' ho0 (Kd.R_lt (RB HO_1.out))) (Kd.R_lt (RB HO_4.out))) (Kd.R_lt (RB HO_5.out))) (Kd.R_lt (RB HO350.out))) (Kd.R_lt (RB HO353.out))) (zQ (BL HB)));replace HO_1:=K_ (Kd.R_elder' (RB HO_1.out) (Kd.R_base ho0) hb);replace HO_4:=K_ (Kd.R_elder' (RB HO_4.out) (Kd.R_base ho0) hb);replace HO_5:=K_ (Kd.R_elder' (RB HO_5.out) (Kd.R_base ho0) hb);replace HO350:=K_ (Kd.R_elder' (RB HO350.out) (Kd.R_base ho0) hb);replace HO353:=K_ (Kd.R_elder' (RB HO353.out) (Kd.R_base ho0) hb);replace HB:=zF HB hb;(try clear hb);(try clear hb2);(try clear hk);(try clear hi);(try clear ho0);have p20:0≤(x7_1:Int):=of_decide_eq_true (by first|(with_reducible assumption)|assumption);have q20:(x7_1:Int)<((x4_1.length:Int):Int):=of_decide_eq_true (by first|(with_reducible assumption)|assumption);obtain⟨go20,co20,eo20,gb20,gl20,cl20,HG20⟩:=Kd.R_form HO_4.out (by omega);(first|cases eo20|(injection eo20 with ea_ en_ ec_;(first|subst ea_|(injection ea_ with ea_;subst ea_));subst ec_;clear en_));have GB20:=K_ gb20;have GG20:=K_ HG20;clear gb20 gl20 HG20;obtain⟨hx20_0,hf20_0⟩:=Kd.R_celln 0 HO_4.out (x7_1:Int) p20 q20;replace p20:=eq_true p20;replace q20:=eq_true q20;have n_:=K_ (Kd.R_mono (ok':=(fun k_=>some k_≠(.slice Ao10 t338.length co10:Value).ownBlock∧some k_≠(.slice Ao24 x5_1.length co24:Value).ownBlock∧some k_≠(.slice Ao25 y348.length co25:Value).ownBlock∧some k_≠(.slice Ao27 t351.length co27:Value).ownBlock∧some k_≠(v356:Value).ownBlock)) HO_4.out (fun k_ hk=>⟨hk.1.1.1.1,⟨hk.1.1.1.2,⟨hk.1.1.2,⟨hk.1.2,hk.2⟩⟩⟩⟩));clear HO_4;have HO_4:=n_;clear n_;obtain⟨hy29_,hz29_⟩:=Kd.R_celln 0 HO_4.out (x7_1:Int) (of_decide_eq_true (by first|(with_reducible assumption)|assumption)) (of_decide_eq_true (by first|(with_reducible assumption)|assumption));have HP29:=Kd.R_putg HO_4.out (x7_1:Int) t354)|((with_reducible refine zW (t:=95) (p:=39) rfl ?_);refine zcf (t:=95) (p:=39) (v:=?vo_w30) (w1:=(w28.setCell ⟨go20,(x7_1:Int).toNat,none⟩ (.int .u32 t354))) ?hg ?ho ?hn ?hr ?_;(case ho=>rfl);(case hg=>rfl);(case hn=>rfl);(case hr=>first|(go_simp;done)|(go_simp;rfl));intro w30 hw;have hg:w28.grownBy w30 (some go20):=(by rw[hw];exact HP29.2);have hp_:Kd.R (Kd.int .u32) 95 w30 w.heap.size (fun k_=>some k_≠(.slice Ao10 t338.length co10:Value).ownBlock∧some k_≠(.slice Ao24 x5_1.length co24:Value).ownBlock∧some k_≠(.slice Ao25 y348.length co25:Value).ownBlock∧some k_≠(.slice Ao27 t351.length co27:Value).ownBlock∧some k_≠(v356:Value).ownBlock) (.slice (some ⟨go20,0,none⟩) x4_1.length co20) y358:=(by rw[hw,Ny358.out];exact HP29.1);clear HP29;replace HO_1:=K_ (Kd.R_after (v:=(.slice (some ⟨go20,0,none⟩) x4_1.length co20)) (v1:=(.slice (some ⟨go20,0,none⟩) x4_1.length co20)) (ok:=(fun k_=>some k_≠(.slice Ao24 x5_1.length co24:Value).ownBlock∧some k_≠(.slice Ao25 y348.length co25:Value).ownBlock∧some k_≠(.slice Ao27 t351.length co27:Value).ownBlock∧some k_≠(v356:Value).ownBlock)) (by (with_reducible repeat (first|apply Kd.R_alloc|apply Kd.R_drewN|apply Kd.R_drew));exact Kd.R_mono HO_1.out (fun _ hk=>⟨⟨hk.1.1.1.2,⟨hk.1.1.2,⟨hk.1.2,hk.2⟩⟩⟩,hk.1.1.1.1⟩)) hg (.inl rfl));replace HO_4:=K_ (hp_);replace HO_5:=K_ (Kd.R_after (v:=(.slice (some ⟨go20,0,none⟩) x4_1.length co20)) (v1:=(.slice (some ⟨go20,0,none⟩) x4_1.length co20)) (ok:=(fun k_=>some k_≠(.slice Ao10 t338.length co10:Value).ownBlock∧some k_≠(.slice Ao25 y348.length co25:Value).ownBlock∧some k_≠(.slice Ao27 t351.length co27:Value).ownBlock∧some k_≠(v356:Value).ownBlock)) (by (with_reducible repeat (first|apply Kd.R_alloc|apply Kd.R_drewN|apply Kd.R_drew));exact Kd.R_mono HO_5.out (fun _ hk=>⟨⟨hk.1.1.1.1,⟨hk.1.1.2,⟨hk.1.2,hk.2⟩⟩⟩,hk.1.1.1.2⟩)) hg (.inl rfl));replace HO350:=K_ (Kd.R_after (v:=(.slice (some ⟨go20,0,none⟩) x4_1.length co20)) (v1:=(.slice (some ⟨go20,0,none⟩) x4_1.length co20)) (ok:=(fun k_=>some k_≠(.slice Ao10 t338.length co10:Value).ownBlock∧some k_≠(.slice Ao24 x5_1.length co24:Value).ownBlock∧some k_≠(.slice Ao27 t351.length co27:Value).ownBlock∧some k_≠(v356:Value).ownBlock)) (by (with_reducible repeat (first|apply Kd.R_alloc|apply Kd.R_drewN|apply Kd.R_drew));exact Kd.R_mono HO350.out (fun _ hk=>⟨⟨hk.1.1.1,⟨hk.1.1.2.2,⟨hk.1.2,hk.2⟩⟩⟩,hk.1.1.2.1⟩)) hg (.inl rfl));replace HO353:=K_ (Kd.R_after (v:=(.slice (some ⟨go20,0,none⟩) x4_1.length co20)) (v1:=(.slice (some ⟨go20,0,none⟩) x4_1.length co20)) (ok:=(fun k_=>some k_≠(.slice Ao10 t338.length co10:Value).ownBlock∧some k_≠(.slice Ao24 x5_1.length co24:Value).ownBlock∧some k_≠(.slice Ao25 y348.length co25:Value).ownBlock∧some k_≠(v356:Value).ownBlock)) (by (with_reducible repeat (first|apply Kd.R_alloc|apply Kd.R_drewN|apply Kd.R_drew));exact Kd.R_mono HO353.out (fun _ hk=>⟨⟨hk.1.1.1.1.2,⟨hk.1.1.2,⟨hk.1.2,hk.2⟩⟩⟩,hk.1.1.1.2⟩)) hg (.inl rfl));replace HO357:=K_ (Kd.R_after (v:=(.slice (some ⟨go20,0,none⟩) x4_1.length co20)) (v1:=(.slice (some ⟨go20,0,none⟩) x4_1.length co20)) (ok:=(fun k_=>some k_≠(.slice Ao10 t338.length co10:Value).ownBlock∧some k_≠(.slice Ao24 x5_1.length co24:Value).ownBlock∧some k_≠(.slice Ao25 y348.length co25:Value).ownBlock∧some k_≠(.slice Ao27 t351.length co27:Value).ownBlock)) (by (with_reducible repeat (first|apply Kd.R_alloc|apply Kd.R_drewN|apply Kd.R_drew));exact Kd.R_mono HO357.out (fun _ hk=>⟨⟨hk.1.1.1.1.2,⟨hk.1.1.2,⟨hk.1.2,hk.2⟩⟩⟩,hk.1.1.1.2⟩)) hg (.inl rfl));replace HB:=K_ ((by rw[hw];exact xR (HB.out) GB20.out:Below w.heap.size w w30));clear hg hw hp_))
         go_roundg k1
         case measure=>have:=HK1.out;omega
         case rel=>exact⟨(y358),(t355),(wrap64 (x7_1-1)),SR,H',⟨by have:=HK1.out;omega⟩,⟨by (with_reducible repeat (first|apply Kd.R_alloc|apply Kd.R_drewN|apply Kd.R_drew));exact Kd.R_mono HO_1.out (fun _ hk=>⟨hk.2,hk.1.2.2.2⟩)⟩,⟨by (with_reducible repeat (first|apply Kd.R_alloc|apply Kd.R_drewN|apply Kd.R_drew));exact Kd.R_mono HO_4.out (fun _ hk=>⟨hk.1,hk.2.2.2.2⟩)⟩,⟨by (with_reducible repeat (first|apply Kd.R_alloc|apply Kd.R_drewN|apply Kd.R_drew));exact Kd.R_mono HO357.out (fun _ hk=>⟨hk.1.1,hk.2⟩)⟩,⟨BL HB⟩⟩
        rw[if_neg c19] at H;exact absurd H (by simp)
       rw[if_neg c16] at H;exact absurd H (by simp)
      rw[if_neg c15] at H;exact absurd H (by simp)
     rw[if_neg c14] at H;exact absurd H (by simp)
    rw[if_neg c13] at H;have c13b0:decide (0≤x7_1)=false:=decide_eq_false c13;clear c13;obtain⟨t359,A310,H⟩:=Option.bind_eq_some_iff.mp H
    (try dsimp -simprocs only at H)
    have A31:=K_ A310;clear A310;obtain⟨t362,A320,H⟩:=Option.bind_eq_some_iff.mp H
    (try dsimp -simprocs only at H)
    have A32:=K_ A320;clear A320;simp only[Option.some.injEq,Prod.mk.injEq] at H
    obtain⟨rfl,rfl,rfl⟩:=H;obtain⟨Ao33,co33,eo33⟩:=Kd.R_slice HO_4.out;subst eo33;go_wp2_with (first|((with_reducible refine zH (f:=91) rfl ?_);refine zT (some 41) rfl rfl Tryz.func91 (by kernel_rfl) rfl #[.slice Ao33 x4_1.length co33] rfl MP ?_;(with_reducible refine (jW.calls _ _ x4_1 t359 _ ?side1 ?side2 A31.out).mono ?_);(case side1=>exact CB ((Kd.R_reads' HO_4.out).2.2));(case side2=>exact (Kd.R_reads' HO_4.out).2.1);rintro e w34 ⟨v360,rfl,ho0,hb⟩;refine⟨_,rfl,?_⟩;have HO361:=K_ (Kd.R_lower (Kd.R_new' (Kd.R_new' (Kd.R_new' ho0 (Kd.R_lt (RB HO_1.out))) (Kd.R_lt (RB HO_4.out))) (Kd.R_lt (RB HO_5.out))) (zQ (BL HB)));replace HO_1:=K_ (Kd.R_elder' (RB HO_1.out) (Kd.R_base ho0) hb);replace HO_4:=K_ (Kd.R_elder' (RB HO_4.out) (Kd.R_base ho0) hb);replace HO_5:=K_ (Kd.R_elder' (RB HO_5.out) (Kd.R_base ho0) hb);replace HB:=zF HB hb;(try clear hb);(try clear hb2);(try clear hk);(try clear hi);(try clear ho0);obtain⟨Ao35,co35,eo35⟩:=Kd.R_slice HO_5.out;subst eo35)|((with_reducible refine zH (f:=91) rfl ?_);refine zT (some 43) rfl rfl Tryz.func91 (by kernel_rfl) rfl #[.slice Ao35 x5_1.length co35] rfl MP ?_;(with_reducible refine (jW.calls _ _ x5_1 t362 _ ?side1 ?side2 A32.out).mono ?_);(case side1=>exact CB ((Kd.R_reads' HO_5.out).2.2));(case side2=>exact (Kd.R_reads' HO_5.out).2.1);rintro e w36 ⟨v363,rfl,ho0,hb⟩;refine⟨_,rfl,?_⟩;have HO364:=K_ (Kd.R_lower (Kd.R_new' (Kd.R_new' (Kd.R_new' (Kd.R_new' ho0 (Kd.R_lt (RB HO_1.out))) (Kd.R_lt (RB HO_4.out))) (Kd.R_lt (RB HO_5.out))) (Kd.R_lt (RB HO361.out))) (zQ (BL HB)));replace HO_1:=K_ (Kd.R_elder' (RB HO_1.out) (Kd.R_base ho0) hb);replace HO_4:=K_ (Kd.R_elder' (RB HO_4.out) (Kd.R_base ho0) hb);replace HO_5:=K_ (Kd.R_elder' (RB HO_5.out) (Kd.R_base ho0) hb);replace HO361:=K_ (Kd.R_elder' (RB HO361.out) (Kd.R_base ho0) hb);replace HB:=zF HB hb;(try clear hb);(try clear hb2);(try clear hk);(try clear hi);(try clear ho0)))
    go_ret3
    exact⟨_,_,ER,by (with_reducible repeat (first|apply Kd.R_alloc|apply Kd.R_drewN|apply Kd.R_drew));exact Kd.R_mono HO361.out (fun _ hk=>hk.2),by (with_reducible repeat (first|apply Kd.R_alloc|apply Kd.R_drewN|apply Kd.R_drew));exact Kd.R_mono HO364.out (fun _ hk=>hk.2),BL HB⟩
  rw[if_neg c8] at H;exact absurd H (by simp)
 rw[if_neg c7] at H;exact absurd H (by simp)
def qG.l0:Nat→List Int→List Int→List Int→Int→Int→Option (List Int)
 | 0,_,_,_,_,_=>none
 | k+1,x0,x5,x15,x16,x17=>if x17<x16 then (if 0≤x17 then (if x17<(x15.length:Int) then ((yW.f k x5 x0 (rd x15 x17) x17).bind fun t374=>(qG.l0 k x0 t374 x15 x16 (wrap64 (x17+1)))) else (none)) else (none)) else ((jW.f x5).bind fun t375=>(some t375))
def qG.f (k:Nat) (l0:List Int) (l1:List Int):Option (List Int):=if 0≤(wrap64 ((wrap64 ((l0.length:Int)+(l1.length:Int)))+1)) then (if (wrap64 ((wrap64 ((l0.length:Int)+(l1.length:Int)))+1):Int).toNat≤70368744177664 then (qG.l0 k l0 (List.replicate (wrap64 ((wrap64 ((l0.length:Int)+(l1.length:Int)))+1):Int).toNat 0) l1 (l1.length:Int) 0) else (none)) else (none)
set_option maxHeartbeats 8000000 in
set_option maxRecDepth 100000 in
theorem qG.calls (k:Nat) (A0:Option Addr) (c0:Nat) (l0:List Int) (A1:Option Addr) (c1:Nat) (l1:List Int) (r:List Int) (w:World) (hr0:Kd.C (Kd.int .u32) w A0 l0.length l0) (hc0:l0.length≤c0) (hr1:Kd.C (Kd.int .u32) w A1 l1.length l1) (hc1:l1.length≤c1) (h:qG.f k l0 l1=some r) :
  Calls Tryz.prog 81 #[.slice A0 l0.length c0,.slice A1 l1.length c1] w fun e w'=>∃ v0_:Value,e=.returned (v0_)∧Kd.R (Kd.int .u32) 95 w' w.heap.size (fun _=>True) v0_ r∧Below w.heap.size w w':=by
 have HR0:=K_ hr0;have HC0:=K_ hc0;clear hr0 hc0;have HR1:=K_ hr1;have HC1:=K_ hc1;clear hr1 hc1;have HB:=K_ (Below.refl w.heap.size w);have H:(if 0≤(wrap64 ((wrap64 ((l0.length:Int)+(l1.length:Int)))+1)) then (if (wrap64 ((wrap64 ((l0.length:Int)+(l1.length:Int)))+1):Int).toNat≤70368744177664 then (qG.l0 k l0 (List.replicate (wrap64 ((wrap64 ((l0.length:Int)+(l1.length:Int)))+1):Int).toNat 0) l1 (l1.length:Int) 0) else (none)) else (none))=some r:=h;clear h;obtain⟨ji3,hji3⟩:∃ j_:Int,(wrap64 ((wrap64 ((l0.length:Int)+(l1.length:Int)))+1))=j_:=⟨_,rfl⟩
 replace H:(if 0≤(ji3) then (if (ji3:Int).toNat≤70368744177664 then (qG.l0 k l0 (List.replicate (ji3:Int).toNat 0) l1 (l1.length:Int) 0) else (none)) else (none))=some r:=by first|(rw[hji3] at H;exact H)|(simp only[hji3] at H ⊢;exact H)
 have hji3w:(IntKind.i64.wrap ((wrap64 ((l0.length:Int)+(l1.length:Int)))+1))=ji3:=(vY _).trans hji3;by_cases c4:0≤(ji3)
 ·rw[if_pos c4] at H
  have c4b0:=eq_true c4;have c4b1:decide (0≤(ji3))=true:=decide_eq_true c4;clear c4;by_cases c5:(ji3:Int).toNat≤70368744177664
  ·rw[if_pos c5] at H
   have c5b0:=eq_true c5;have c5b1:decide ((ji3:Int).toNat≤70368744177664)=true:=decide_eq_true c5;clear c5;obtain⟨y370,hy370⟩:∃ y_:List Int,y_=(List.replicate (ji3:Int).toNat 0):=⟨_,rfl⟩
   replace H:(qG.l0 k l0 y370 l1 (l1.length:Int) 0)=some r:=by first|(rw[hy370];with_reducible exact H)|(have H2_:=(Option.bind_some _ _).symm.trans H;rw[hy370];with_reducible exact H2_)|(have H2_:=(Option.bind_some _ _).symm.trans H;with_reducible exact H2_)|with_reducible exact H|(rw[hy370];exact H)|exact H
   have Ny370:=K_ hy370;clear hy370;have H':=K_ H;clear H;go_enter Tryz.func81,Tryz.ntmps81
   go_wp2_with (first|((with_reducible refine zE (N:=14) rfl ?_);refine Kd.R_make (Kd.int .u32) _ 95 rfl (N:=14) rfl 81 _ _ rfl ji3 rfl rfl Tryz.underlying81 (.int .u32 0) 4 vW rfl (by decide) (by omega) 0 (ok:=fun _=>True) (okp:=fun _=>True) rfl (fun _ hk=>hk) trivial (of_decide_eq_true (by first|(with_reducible assumption)|assumption)) (Nat.le_trans (Nat.mul_le_mul_right _ (of_decide_eq_true (by first|(with_reducible assumption)|assumption):ji3.toNat≤70368744177664)) (by omega)) (Below.refl _ _) (Nat.le_refl _) ?_;intro v371 w6 ho7 hb hg_ hnew_;clear hg_ hnew_;(first|rw[←Ny370.out] at ho7|(simp only[Int.reduceToNat] at ho7;rw[←Ny370.out] at ho7));have HO372:=K_ (Kd.R_lower ho7 (zQ (BL HB)));replace HB:=zF HB hb;clear hb ho7))
   go_loopg [17] k (fun kq v17 w'=>∃ (x5_1:List Int) (x17_1:Int),v17=.int .i64 x17_1∧Aside0 (qG.l0 kq l0 x5_1 l1 (l1.length:Int) x17_1=some r)∧Aside0 (kq≤k)∧Aside0 (Kd.R (Kd.int .u32) 95 w' w.heap.size (fun _=>True) v371 x5_1)∧Aside0 (Below w.heap.size w w'))
   case atStart=>exact⟨(y370),(0),SR,H',⟨Nat.le_refl _⟩,⟨RB HO372.out⟩,⟨BL HB⟩⟩
   case round =>
    clear H';try clear c1
    try clear c4
    try clear c4b0
    try clear c4b1
    try clear c5
    try clear c5b0
    try clear c5b1
    obtain⟨x5_1,x17_1,rfl,HA,HK1,HO_5,HB⟩:=hrel;obtain _|k1:=gk
    ·exact absurd HA.out (by simp[qG.l0])
    have H:=HA.out;clear HA;simp only[qG.l0] at H
    by_cases c8:x17_1<(l1.length:Int)
    ·rw[if_pos c8] at H
     have c8b0:decide (x17_1<(l1.length:Int))=true:=decide_eq_true c8;clear c8;by_cases c9:0≤x17_1
     ·rw[if_pos c9] at H
      have c9b0:decide (0≤x17_1)=true:=decide_eq_true c9;clear c9;by_cases c10:x17_1<(l1.length:Int)
      ·rw[if_pos c10] at H
       have c10b0:decide (x17_1<(l1.length:Int))=true:=decide_eq_true c10;clear c10;obtain⟨t374,A110,H⟩:=Option.bind_eq_some_iff.mp H
       (try dsimp -simprocs only at H)
       have A11:=K_ A110;clear A110;have H':=K_ H;clear H;have p373:0≤(x17_1:Int):=of_decide_eq_true (by first|(with_reducible assumption)|assumption);have q373:x17_1<(l1.length:Int):=of_decide_eq_true (by first|(with_reducible assumption)|assumption);obtain⟨ad373,e373,hx373_0⟩:=Kd.at_int HR1.out x17_1 p373 q373;cases e373;replace hx373_0:=(HB.out.cell (World.block_lt_of_cell? w _ hx373_0)).trans hx373_0;replace p373:=eq_true p373;replace q373:=eq_true q373;obtain⟨Ao12,co12,eo12⟩:=Kd.R_slice HO_5.out;subst eo12;go_wp2_with (first|((with_reducible refine zH (f:=107) rfl ?_);refine zT (some 26) rfl rfl Tryz.func107 (by kernel_rfl) rfl #[.slice Ao12 x5_1.length co12,.slice A0 l0.length c0,.int .u32 (rd l1 x17_1),.int .i64 x17_1] rfl MP ?_;(with_reducible refine (yW.calls k1 (fun k_=>some k_=(.slice Ao12 x5_1.length co12:Value).ownBlock) (.slice Ao12 x5_1.length co12) x5_1 _ _ l0 (rd l1 x17_1) x17_1 t374 w _ ?side1 ?side2 ?side3 ?side4 A11.out).mono ?_);(case side1=>repeat (first|(with_reducible first|exact HB.out|apply yC|apply jK|apply yM)|exact HB.out));(case side2=>exact Kd.R_tight rfl HO_5.out);(case side3=>exact Kd.C_kept_came (Kd.heap_int .u32) HR0.out (BL HB) (fun k_ hs_=>(fun e_=>Kd.R_base HO_5.out k_ e_.symm) hs_));(case side4=>exact HC0.out);rintro e w13 ⟨rfl,hy0,hb,hkp⟩;refine⟨_,rfl,?_⟩;replace HO_5:=K_ (Kd.R_reok rfl hy0 (fun k_ e_=>HO_5.out.1 k_ e_));replace HB:=K_ (hb);(try clear hb);(try clear hkp);(try clear hy0)))
       go_roundg k1
       case measure=>have:=HK1.out;omega
       case rel=>exact⟨(t374),(wrap64 (x17_1+1)),SR,H',⟨by have:=HK1.out;omega⟩,⟨RB HO_5.out⟩,⟨BL HB⟩⟩
      rw[if_neg c10] at H;exact absurd H (by simp)
     rw[if_neg c9] at H;exact absurd H (by simp)
    rw[if_neg c8] at H;have c8b0:decide (x17_1<(l1.length:Int))=false:=decide_eq_false c8;clear c8;obtain⟨t375,A140,H⟩:=Option.bind_eq_some_iff.mp H
    (try dsimp -simprocs only at H)
    have A14:=K_ A140;clear A140;obtain rfl:=Option.some.inj H;obtain⟨Ao15,co15,eo15⟩:=Kd.R_slice HO_5.out;subst eo15;go_wp2_with (first|((with_reducible refine zH (f:=91) rfl ?_);refine zT (some 29) rfl rfl Tryz.func91 (by kernel_rfl) rfl #[.slice Ao15 x5_1.length co15] rfl MP ?_;(with_reducible refine (jW.calls _ _ x5_1 t375 _ ?side1 ?side2 A14.out).mono ?_);(case side1=>exact CB ((Kd.R_reads' HO_5.out).2.2));(case side2=>exact (Kd.R_reads' HO_5.out).2.1);rintro e w16 ⟨v376,rfl,ho0,hb⟩;refine⟨_,rfl,?_⟩;have HO377:=K_ (Kd.R_lower (Kd.R_new' ho0 (Kd.R_lt (RB HO_5.out))) (zQ (BL HB)));replace HO_5:=K_ (Kd.R_elder' (RB HO_5.out) (Kd.R_base ho0) hb);replace HB:=zF HB hb;(try clear hb);(try clear hb2);(try clear hk);(try clear hi);(try clear ho0)))
    go_ret
    exact⟨_,by first|rfl|(simp[yR,yO] <;> rfl)|(simp only[←hji3];first|rfl|(simp[yR,yO] <;> rfl))|(simp[*,yR,yO] <;> rfl),by (with_reducible repeat (first|apply Kd.R_alloc|apply Kd.R_drewN|apply Kd.R_drew));exact Kd.R_mono HO377.out (fun _ hk=>trivial),BL HB⟩
  rw[if_neg c5] at H;exact absurd H (by simp)
 rw[if_neg c4] at H;exact absurd H (by simp)
mutual
def vH.j0:Nat→Int→Int→List Int→Bool→Bool→ByteArray→Int→Option (Bool×ByteArray×Int×Int)
 | 0,_,_,_,_,_,_,_=>none
 | k+1,x0,x3,x10,x37,x379000,x379001,x379002=>if x37=true then (some (false,(⟨#[]⟩:ByteArray),0,1)) else ((xQ.f x10 (wrap64 (x3-(mn x379002 x3)))).bind fun t385=>((zbu.f x379000 x379001 x379002).bind fun t388=>((xQ.f t388 (wrap64 (x379002-(mn x379002 x3)))).bind fun t391=>((vO.f k t391 t385).bind fun bt394=>(if (bt394.2.1.length:Int)=0 then ((yB.f x379000 x379001 x379002).bind fun bt401=>(some (bt401.1,bt401.2.1,bt401.2.2,0))) else (if x0=7 then (some (false,(⟨#[]⟩:ByteArray),0,11)) else (if (bt394.1.length:Int)>0 then (if 0<(bt394.1.length:Int) then ((qH.f bt394.2.1 bt394.2.1).bind fun t405=>((xJ.f t405 t385).bind fun t408=>((zab.f x0 x379000 ((Int.tmod (rd bt394.1 0) 2)==1) t408).bind fun t409=>(vH.j1 k t385 (mn x379002 x3) bt394.1 t409 x379000 x379001 x379002)))) else (none)) else ((qH.f bt394.2.1 bt394.2.1).bind fun t410=>((xJ.f t410 t385).bind fun t413=>((zab.f x0 x379000 false t413).bind fun t414=>(vH.j1 k t385 (mn x379002 x3) bt394.1 t414 x379000 x379001 x379002)))))))))))
def vH.j1:Nat→List Int→Int→List Int→Bool→Bool→ByteArray→Int→Option (Bool×ByteArray×Int×Int)
 | 0,_,_,_,_,_,_,_=>none
 | k+1,x10,x12,x13,x89,x379000,x379001,x379002=>if x89=true then ((qH.f x13 (([1]:List Int))).bind fun t418=>((qG.f k t418 x10).bind fun t421=>((uK.f t421).bind fun t424=>((yB.f x379000 t424 x12).bind fun bt425=>(some (bt425.1,bt425.2.1,bt425.2.2,0)))))) else ((qG.f k x13 x10).bind fun t428=>((uK.f t428).bind fun t431=>((yB.f x379000 t431 x12).bind fun bt432=>(some (bt432.1,bt432.2.1,bt432.2.2,0)))))
end
def vH.f (k:Nat) (a0:Int) (a1_0:Bool) (a1_1:ByteArray) (a1_2:Int) (a2:ByteArray) (a3:Int):Option (Bool×ByteArray×Int×Int):=(uR.f a2).bind fun bt380=>((yF.f a0).bind fun t384=>(if t384=true then (if bt380.2=true then (if (a2.size:Int)>40 then (vH.j0 k a0 a3 bt380.1 true a1_0 a1_1 a1_2) else (vH.j0 k a0 a3 bt380.1 ((bt380.1.length:Int)==0) a1_0 a1_1 a1_2)) else (vH.j0 k a0 a3 bt380.1 true a1_0 a1_1 a1_2)) else (vH.j0 k a0 a3 bt380.1 true a1_0 a1_1 a1_2)))
set_option maxHeartbeats 8000000 in
set_option maxRecDepth 100000 in
theorem vH.calls (k:Nat) (m:Int) (b:Bool) (s:ByteArray) (e:Int) (st:ByteArray) (p:Int) (r1:Bool) (r2:ByteArray) (r3:Int) (r4:Int) (w:World) (hG:Fig.Glob w) (h:vH.f k m b s e st p=some (r1,r2,r3,r4)) :
  Calls Tryz.prog 47 #[.int .i64 m,.agg #[.bool b,.string s,.int .i64 e],.string st,.int .i64 p] w fun e w'=>e=.returned (.tuple #[.agg #[.bool r1,.string r2,.int .i64 r3],.int .i64 r4])∧Below w.heap.size w w':=by
 have HB:=K_ (Below.refl w.heap.size w);have HG:=K_ hG;clear hG;unfold vH.f at h;obtain⟨⟨l0,ok⟩,A0,h⟩:=Option.bind_eq_some_iff.mp h;try dsimp -simprocs only at h
 replace A0:=K_ A0;obtain⟨mg,A1,h⟩:=Option.bind_eq_some_iff.mp h;try dsimp -simprocs only at h
 replace A1:=K_ A1;obtain⟨bad,hbad,HJ⟩:∃ bad:Bool,bad=(!mg||(!ok||(decide ((st.size:Int)>40)||((l0.length:Int)==0))))∧Aside0 (vH.j0 k m p l0 bad b s e=some (r1,r2,r3,r4)):=by
  refine⟨_,rfl,?_⟩;cases mg
  ·rw[if_neg (by decide)] at h;exact⟨h⟩
  rw[if_pos rfl] at h;dsimp only at h;cases ok
  ·rw[if_neg (by decide)] at h;exact⟨h⟩
  rw[if_pos rfl] at h;by_cases hs:(st.size:Int)>40
  ·rw[if_pos hs] at h;rw[decide_eq_true hs];exact⟨h⟩
  rw[if_neg hs] at h;rw[decide_eq_false hs];exact⟨h⟩
 clear h;have HBAD:=K_ hbad;clear hbad;go_enter Tryz.func47,Tryz.ntmps47
 go_upto_region 2 with (first|((with_reducible refine zE (N:=5) rfl ?_);refine bx_ 5 (#[.bool b,.string s,.int .i64 e]) 23 ?_ rfl rfl rfl rfl rfl;intro g5 hg w2 hbox hb;have BK5:=K_ hbox;have GE5:=ge_ hg HB;replace HB:=zF HB hb;clear hb hbox hg)|((with_reducible refine zE (N:=8) rfl ?_);refine be_ 8 (#[.bool false,.string (⟨#[]⟩:ByteArray),.int .i64 0]) 23 ?_;intro g8 hg w2 hbox hb;have BK8:=K_ hbox;have GE8:=ge_ hg HB;have NB5_8:=nb_ hg BK5;replace BK5:=zC BK5 hb;replace HB:=zF HB hb;clear hb hbox hg)|(go_at_call 58;refine (uR.calls st l0 ok _ A0.out).mono ?_;rintro e9 w' ⟨v9,rfl,ho,hb⟩;obtain⟨A10,c10,rfl⟩:=Kd.R_slice ho;have HC10:=K_ (slc ho);replace HB:=zF HB hb;replace BK5:=zC BK5 hb;replace BK8:=zC BK8 hb;clear hb ho))
 go_cut [37] from 21 to 37 (fun v wx=>v=.bool bad∧wx.heap[g5]?=some (.cells #[.bool b,.string s,.int .i64 e] 23 (0,0))∧wx.heap[g8]?=some (.cells #[.bool false,.string (⟨#[]⟩:ByteArray),.int .i64 0] 23 (0,0))∧SLc wx A10 c10 l0∧Below w.heap.size w wx)
 case first =>
  have hbad:=HBAD.out;clear HBAD;cases mg
  ·subst hbad
   go_wp2_with (go_at_call 32;refine (yF.calls m _ _ A1.out).mono ?_;rintro e9 w' ⟨rfl,⟨nd,rfl⟩⟩)
   go_meet
   case rel=>exact⟨rfl,BK BK5,BK BK8,HC10.out.below (jK (Below.refl _ _) _),BL HB⟩
  cases ok
  ·subst hbad
   go_wp2_with (go_at_call 32;refine (yF.calls m _ _ A1.out).mono ?_;rintro e9 w' ⟨rfl,⟨nd,rfl⟩⟩)
   go_meet
   case rel=>exact⟨rfl,BK BK5,BK BK8,HC10.out.below (jK (Below.refl _ _) _),BL HB⟩
  cases hs:decide ((st.size:Int)>40)
  ·rw[hs] at hbad
   obtain⟨z,hz⟩:∃ z,z=((l0.length:Int)==0):=⟨_,rfl⟩
   rw[←hz] at hbad;have hz2:=hz.symm;have hz3:(l0.length==0)=z:=by rw[hz];simp[Int.natCast_eq_zero,BEq.beq]
   subst hbad;clear hz;go_wp2_with (go_at_call 32;refine (yF.calls m _ _ A1.out).mono ?_;rintro e9 w' ⟨rfl,⟨nd,rfl⟩⟩)
   go_meet
   case rel=>exact⟨by simp,BK BK5,BK BK8,HC10.out.below (jK (Below.refl _ _) _),BL HB⟩
  rw[hs] at hbad;subst hbad;go_wp2_with (go_at_call 32;refine (yF.calls m _ _ A1.out).mono ?_;rintro e9 w' ⟨rfl,⟨nd,rfl⟩⟩)
  go_meet
  case rel=>exact⟨rfl,BK BK5,BK BK8,HC10.out.below (jK (Below.refl _ _) _),BL HB⟩
 case rest =>
  obtain⟨rfl,hBK5,hBK8,hHC10,hHB⟩:=hcut;replace BK5:=K_ hBK5;replace BK8:=K_ hBK8;replace HC10:=K_ hHC10;replace HB:=K_ hHB;clear hBK5 hBK8 hHC10 hHB;have h:=HJ.out;clear HJ A0 A1 HBAD
  cases k with
  | zero=>cases h
  | succ k =>
  rw[vH.j0] at h;cases bad
  case true =>
   rw[if_pos rfl] at h;simp only[Option.some.injEq,Prod.mk.injEq] at h
   obtain⟨rfl,rfl,rfl,rfl⟩:=h;go_wp2_with ((with_reducible refine zW (p:=8) rfl ?_);refine so_ (g:=g8) (cs:=#[.bool false,.string (⟨#[]⟩:ByteArray),.int .i64 0]) (#[.bool false,.string (⟨#[]⟩:ByteArray),.int .i64 0]) ⟨BK BK8⟩ ?_ rfl rfl rfl rfl rfl zag rfl rfl;intro w9 hbk hfar hbel;replace BK5:=K_ (hfar _ _ (by first|exact NB5_8.out|exact Ne.symm NB8_5.out) (BK BK5));replace BK8:=K_ hbk;replace HB:=K_ (hbel _ _ GE8.out (BL HB));clear hbk hfar hbel)
   refine bodyPost_ret (jA rfl _ _ g8 23 #[.bool false,.string (⟨#[]⟩:ByteArray),.int .i64 0] (0,0) _ rfl BK8.out Tryz.underlying23 rfl zag) rfl ?_;exact⟨rfl,BL HB⟩
  rw[if_neg (by decide)] at h;obtain⟨E,hE⟩:∃ E,E=mn e p:=⟨_,rfl⟩
  rw[←hE] at h;have hmn:(if p<e then p else e)=E:=by rw[hE];rfl
  clear hE;obtain⟨t4,A3,h⟩:=Option.bind_eq_some_iff.mp h;try dsimp -simprocs only at h
  replace A3:=K_ A3;obtain⟨t5,A4,h⟩:=Option.bind_eq_some_iff.mp h;try dsimp -simprocs only at h
  replace A4:=K_ A4;obtain⟨t6,A5,h⟩:=Option.bind_eq_some_iff.mp h;try dsimp -simprocs only at h
  replace A5:=K_ A5;obtain⟨⟨q1,q2,q3⟩,A6,h⟩:=Option.bind_eq_some_iff.mp h;try dsimp -simprocs only at h
  replace A6:=K_ A6;have e2:=(show wc.cell? ⟨g5,2,none⟩=some (.int .i64 e) from (zA BK5.out 2).trans rfl)
  go_upto_region 6 with (go_at_call 74;refine (xQ.calls A10 c10 l0 (wrap64 (p-E)) t4 _ (Fig.Glob.below HG.out (BL HB)) (CB HC10.out.1) HC10.out.2 A3.out).mono ?_;rintro e9 w' ⟨v9,rfl,ho,hb⟩;obtain⟨A10,c10,rfl⟩:=Kd.R_slice ho;have HC10:=K_ (slc ho);replace HB:=zF HB hb;replace BK5:=zC BK5 hb;replace BK8:=zC BK8 hb;clear hb ho)
  clear e2;refine yI (n:=16) (S:=fun W=>W.heap[g5]?=some (.cells #[.bool b,.string s,.int .i64 e] 23 (0,0))∧W.cell? ⟨g5,2,none⟩=some (.int .i64 e)) (ds:=[]) #[false,false,false,false,false,false,false,false,false,false,false,false,false,false,false,false] (by kernel_rfl) rfl rfl ⟨BK BK5,(zA (BK BK5) 2).trans rfl⟩ (fun hHeld=>?_);refine jL (fun W=>W.heap[g5]?=some (.cells #[.bool b,.string s,.int .i64 e] 23 (0,0))∧W.heap[g8]?=some (.cells #[.bool false,.string (⟨#[]⟩:ByteArray),.int .i64 0] 23 (0,0))∧SLc W A10 c10 t4∧Below w.heap.size w W) ⟨BK BK5,BK BK8,HC10.out.below (uQ (Below.refl _ _)),BL HB⟩ ?_;clear hHeld BK5 BK8 HC10 HB;rintro W ⟨hBK5,hBK8,hHC10,hHB⟩;have BK5:=K_ hBK5;have BK8:=K_ hBK8;have HC10:=K_ hHC10;have HB:=K_ hHB;clear hBK5 hBK8 hHC10 hHB;have hHeld:=(show W.heap[g5]?=some (.cells #[.bool b,.string s,.int .i64 e] 23 (0,0))∧W.cell? ⟨g5,2,none⟩=some (.int .i64 e) from ⟨BK5.out,(zA BK5.out 2).trans rfl⟩)
  refine tr_ 0 49 #[true,false,false,false,false,false,false,false,false,false,false,false,false,false,false,false] (#[.bool b,.string s,.int .i64 e]) (fun _ hs=>⟨hs.1⟩) Tryz.underlying23 zag hHeld ?_;refine pw_ 2 51 #[true,false,true,false,false,false,false,false,false,false,false,false,false,false,false,false] ?_;refine tw_ 3 52 #[true,false,true,true,false,false,false,false,false,false,false,false,false,false,false,false] hHeld ?_;refine pw_ 4 53 #[true,false,true,true,true,false,false,false,false,false,false,false,false,false,false,false] ?_;refine pw_ 5 54 #[true,false,true,true,true,true,false,false,false,false,false,false,false,false,false,false] ?_;refine pw_ 7 56 #[true,false,true,true,true,true,false,true,false,false,false,false,false,false,false,false] ?_;refine on_ 1 (some 50) #[true,true,true,true,true,true,false,true,false,false,false,false,false,false,false,false] (fun K hK=>?_);refine gq_ Tryz.func76 #[.agg #[.bool b,.string s,.int .i64 e]] ?_;refine (zbu.calls b s e t5 _ A4.out).mono ?_;rintro e9 w' ⟨v9,rfl,ho,hb⟩;obtain⟨A50,c50,rfl⟩:=Kd.R_slice ho;have HC50:=K_ (slc ho);refine⟨_,rfl,?_⟩;replace HB:=zF HB hb;replace BK5:=zC BK5 hb;replace BK8:=zC BK8 hb;replace HC10:=K_ (HC10.out.below hb);clear hb ho;clear hHeld;refine hK.out _ _ ⟨BK5.out,(zA BK5.out 2).trans rfl⟩ (fun hHeld=>?_);clear hK K;refine no_ (some 50) ?_;refine on_ 6 (some 55) #[true,true,true,true,true,true,true,true,false,false,false,false,false,false,false,false] (fun K hK=>?_);refine gq_ Tryz.func74 #[.slice A50 t5.length c50,.int .i64 (wrap64 (e-E))] ?_
  refine (xQ.calls A50 c50 t5 (wrap64 (e-E)) t6 _ (Fig.Glob.below HG.out HB.out) HC50.out.1 HC50.out.2 A5.out).mono ?_;rintro e9 w' ⟨v9,rfl,ho,hb⟩;obtain⟨A55,c55,rfl⟩:=Kd.R_slice ho;have HC55:=K_ (slc ho);refine⟨_,rfl,?_⟩;replace HB:=zF HB hb;replace BK5:=zC BK5 hb;replace BK8:=zC BK8 hb;replace HC10:=K_ (HC10.out.below hb);replace HC50:=K_ (HC50.out.below hb);clear hb ho;clear hHeld;refine hK.out _ _ ⟨BK5.out,(zA BK5.out 2).trans rfl⟩ (fun hHeld=>?_);clear hK K;refine no_ (some 55) ?_;refine on_ 8 (some 57) #[true,true,true,true,true,true,true,true,true,false,false,false,false,false,false,false] (fun K hK=>?_);refine gq_ Tryz.func75 #[.slice A55 t6.length c55,.slice A10 t4.length c10] ?_;refine (vO.calls k A55 c55 t6 A10 c10 t4 q1 q2 q3 _ HC55.out.1 HC55.out.2 HC10.out.1 HC10.out.2 A6.out).mono ?_;rintro e9 w' ⟨v9,v10,rfl,ho,ho2,hb⟩;obtain⟨A13,c13,rfl⟩:=Kd.R_slice ho;obtain⟨A14,c14,rfl⟩:=Kd.R_slice ho2;have HC13:=K_ (slc ho);have HC14:=K_ (slc ho2);refine⟨_,rfl,?_⟩;replace HB:=zF HB hb;replace BK5:=zC BK5 hb;replace BK8:=zC BK8 hb;replace HC10:=K_ (HC10.out.below hb);clear hb ho ho2 HC50 HC55;clear hHeld;refine hK.out _ _ ⟨BK5.out,(zA BK5.out 2).trans rfl⟩ (fun hHeld=>?_);clear hK K;refine no_ (some 57) ?_;refine pw_ 9 48 #[true,true,true,true,true,true,true,true,true,true,false,false,false,false,false,false] ?_;refine pw_ 10 58 #[true,true,true,true,true,true,true,true,true,true,true,false,false,false,false,false] ?_;refine pw_ 11 59 #[true,true,true,true,true,true,true,true,true,true,true,true,false,false,false,false] ?_
  refine pw_ 12 60 #[true,true,true,true,true,true,true,true,true,true,true,true,true,false,false,false] ?_;refine pw_ 13 13 #[true,true,true,true,true,true,true,true,true,true,true,true,true,true,false,false] ?_;refine pw_ 14 14 #[true,true,true,true,true,true,true,true,true,true,true,true,true,true,true,false] ?_;refine pw_ 15 15 #[true,true,true,true,true,true,true,true,true,true,true,true,true,true,true,true] ?_;refine vF (by kernel_rfl) ?_;by_cases hq:(q2.length:Int)=0
  ·rw[if_pos hq] at h
   have dq:(q2.length==0)=true:=beq_iff_eq.2 (by omega);clear hq;obtain⟨⟨n1,n2,n3⟩,A7,h⟩:=Option.bind_eq_some_iff.mp h;try dsimp -simprocs only at h
   replace A7:=K_ A7;simp only[Option.some.injEq,Prod.mk.injEq] at h
   obtain⟨rfl,rfl,rfl,rfl⟩:=h;go_wp2_with (first|((with_reducible refine zE (N:=65) rfl ?_);refine lo_ (g:=g5) (cs:=#[.bool b,.string s,.int .i64 e]) _ ⟨BK BK5⟩ ?_ rfl rfl rfl Tryz.underlying23 rfl zag)|(go_at_call 59;refine (yB.calls b s e n1 n2 n3 _ A7.out).mono ?_;rintro e9 w' ⟨rfl,hb⟩;replace HB:=zF HB hb;replace BK5:=zC BK5 hb;replace BK8:=zC BK8 hb;clear hb)|((with_reducible refine zW (p:=8) rfl ?_);refine so_ (g:=g8) (cs:=#[.bool false,.string (⟨#[]⟩:ByteArray),.int .i64 0]) (#[.bool n1,.string n2,.int .i64 n3]) ⟨BK BK8⟩ ?_ rfl rfl rfl rfl rfl zag rfl rfl;intro w9 hbk hfar hbel;replace BK5:=K_ (hfar _ _ (by first|exact NB5_8.out|exact Ne.symm NB8_5.out) (BK BK5));replace BK8:=K_ hbk;replace HB:=K_ (hbel _ _ GE8.out (BL HB));clear hbk hfar hbel))
   refine bodyPost_ret (jA rfl _ _ g8 23 #[.bool n1,.string n2,.int .i64 n3] (0,0) _ rfl BK8.out Tryz.underlying23 rfl zag) rfl ?_;exact⟨rfl,BL HB⟩
  rw[if_neg hq] at h;have dq:(q2.length==0)=false:=beq_eq_false_iff_ne.2 (by omega);clear hq;by_cases h7:m=7
  ·rw[if_pos h7] at h
   have d7:(m==7)=true:=beq_iff_eq.2 h7;clear h7;simp only[Option.some.injEq,Prod.mk.injEq] at h
   obtain⟨rfl,rfl,rfl,rfl⟩:=h;go_wp2_with ((with_reducible refine zW (p:=8) rfl ?_);refine so_ (g:=g8) (cs:=#[.bool false,.string (⟨#[]⟩:ByteArray),.int .i64 0]) (#[.bool false,.string (⟨#[]⟩:ByteArray),.int .i64 0]) ⟨BK BK8⟩ ?_ rfl rfl rfl rfl rfl zag rfl rfl;intro w9 hbk hfar hbel;replace BK5:=K_ (hfar _ _ (by first|exact NB5_8.out|exact Ne.symm NB8_5.out) (BK BK5));replace BK8:=K_ hbk;replace HB:=K_ (hbel _ _ GE8.out (BL HB));clear hbk hfar hbel)
   refine bodyPost_ret (jA rfl _ _ g8 23 #[.bool false,.string (⟨#[]⟩:ByteArray),.int .i64 0] (0,0) _ rfl BK8.out Tryz.underlying23 rfl zag) rfl ?_;exact⟨rfl,BL HB⟩
  rw[if_neg h7] at h;have d7:(m==7)=false:=beq_eq_false_iff_ne.2 h7;clear h7;obtain⟨t7,t8,u,A7,A8,A9,HJ⟩:∃ (t7:List Int) (t8:Int) (u:Bool),Aside0 (qH.f q2 q2=some t7)∧Aside0 (xJ.f t7 t4=some t8)∧Aside0 (zab.f m b (if (q1.length:Int)>0 then ((Int.tmod (rd q1 0) 2)==1) else false) t8=some u)∧Aside0 (vH.j1 k t4 E q1 u b s e=some (r1,r2,r3,r4)):=by
   by_cases hl:(q1.length:Int)>0
   ·rw[if_pos hl,if_pos hl] at h
    obtain⟨t7,a7,h⟩:=Option.bind_eq_some_iff.mp h;obtain⟨t8,a8,h⟩:=Option.bind_eq_some_iff.mp h;obtain⟨u,a9,h⟩:=Option.bind_eq_some_iff.mp h;exact⟨t7,t8,u,⟨a7⟩,⟨a8⟩,⟨by rw[if_pos hl];exact a9⟩,⟨h⟩⟩
   rw[if_neg hl] at h;obtain⟨t7,a7,h⟩:=Option.bind_eq_some_iff.mp h;obtain⟨t8,a8,h⟩:=Option.bind_eq_some_iff.mp h;obtain⟨u,a9,h⟩:=Option.bind_eq_some_iff.mp h;exact⟨t7,t8,u,⟨a7⟩,⟨a8⟩,⟨by rw[if_neg hl];exact a9⟩,⟨h⟩⟩
  clear h;go_upto_region 11 with (fail)
  go_cut [89] from 61 to 89 (fun v wx=>v=.bool u∧wx.heap[g5]?=some (.cells #[.bool b,.string s,.int .i64 e] 23 (0,0))∧wx.heap[g8]?=some (.cells #[.bool false,.string (⟨#[]⟩:ByteArray),.int .i64 0] 23 (0,0))∧SLc wx A10 c10 t4∧SLc wx A13 c13 q1∧Below w.heap.size w wx)
  case first =>
   by_cases hl:(q1.length:Int)>0
   ·have dl:decide (0<q1.length)=true:=decide_eq_true (by omega)
    rw[if_pos hl] at A9;have qi:(0<q1.length)=True:=eq_true (by omega);clear hl;obtain⟨ad,rfl,hcell⟩:=Kd.at_int (HC13.out.below (uQ (Below.refl _ _))).1 0 (by omega) (by have:=of_eq_true qi;omega);rw[show ((0:Int)).toNat=0 from rfl,Addr.add_zero'] at hcell;refine yI (n:=19) (S:=fun W=>W.cell? ⟨g5,0,none⟩=some (.bool b)∧W.cell? ad=some (.int .u32 (rd q1 0))) (ds:=[]) #[false,false,false,false,false,false,false,false,false,false,false,false,false,false,false,false,false,false,false] (by kernel_rfl) rfl rfl ⟨(zA (BK BK5) 0).trans rfl,hcell⟩ (fun hHeld=>?_);refine jL (fun W=>SLc W (some ad) c13 q1∧W.cell? ad=some (.int .u32 (rd q1 0))∧W.heap[g5]?=some (.cells #[.bool b,.string s,.int .i64 e] 23 (0,0))∧W.heap[g8]?=some (.cells #[.bool false,.string (⟨#[]⟩:ByteArray),.int .i64 0] 23 (0,0))∧SLc W A10 c10 t4∧SLc W A14 c14 q2∧Below w.heap.size w W) ⟨HC13.out.below (uQ (Below.refl _ _)),hcell,BK BK5,BK BK8,HC10.out.below (uQ (Below.refl _ _)),HC14.out.below (uQ (Below.refl _ _)),BL HB⟩ ?_;clear hHeld HC13 hcell BK5 BK8 HC10 HC14 HB;rintro W ⟨hHC13,hhcell,hBK5,hBK8,hHC10,hHC14,hHB⟩;have HC13:=K_ hHC13;have hcell:=hhcell;have BK5:=K_ hBK5;have BK8:=K_ hBK8;have HC10:=K_ hHC10;have HC14:=K_ hHC14;have HB:=K_ hHB;clear hHC13 hhcell hBK5 hBK8 hHC10 hHC14 hHB;have hHeld:=(show W.cell? ⟨g5,0,none⟩=some (.bool b)∧W.cell? ad=some (.int .u32 (rd q1 0)) from ⟨(zA BK5.out 0).trans rfl,hcell⟩)
    refine pw_ 0 71 #[true,false,false,false,false,false,false,false,false,false,false,false,false,false,false,false,false,false,false] ?_;refine pw_ 1 72 #[true,true,false,false,false,false,false,false,false,false,false,false,false,false,false,false,false,false,false] ?_;refine tw_ 2 73 #[true,true,true,false,false,false,false,false,false,false,false,false,false,false,false,false,false,false,false] hHeld ?_;refine pw_ 3 74 #[true,true,true,true,false,false,false,false,false,false,false,false,false,false,false,false,false,false,false] ?_;refine pw_ 4 75 #[true,true,true,true,true,false,false,false,false,false,false,false,false,false,false,false,false,false,false] ?_;refine vR (i:=5) (N:=some 76) (v:=.bool true) #[true,true,true,true,true,true,false,false,false,false,false,false,false,false,false,false,false,false,false] rfl rfl (by kernel_rfl) (fun _ _ _ h=>h) (Or.inl ⟨by rfl,fun w'=>by first|(go_simp;done)|(go_simp;rw[dl];done)|(go_simp;rw[dl];rfl)|(go_simp;simp[dl];done)⟩) (by simp only[Act.put,List.setIfInBounds_toArray,List.set_cons_zero,List.set_cons_succ];rfl) ?_;refine pw_ 6 77 #[true,true,true,true,true,true,true,false,false,false,false,false,false,false,false,false,false,false,false] ?_;refine pw_ 7 78 #[true,true,true,true,true,true,true,true,false,false,false,false,false,false,false,false,false,false,false] ?_;refine pw_ 8 79 #[true,true,true,true,true,true,true,true,true,false,false,false,false,false,false,false,false,false,false] ?_;refine tw_ 9 80 #[true,true,true,true,true,true,true,true,true,true,false,false,false,false,false,false,false,false,false] hHeld ?_
    refine pw_ 10 81 #[true,true,true,true,true,true,true,true,true,true,true,false,false,false,false,false,false,false,false] ?_;refine pw_ 11 82 #[true,true,true,true,true,true,true,true,true,true,true,true,false,false,false,false,false,false,false] ?_;refine pw_ 12 83 #[true,true,true,true,true,true,true,true,true,true,true,true,true,false,false,false,false,false,false] ?_;refine pw_ 13 84 #[true,true,true,true,true,true,true,true,true,true,true,true,true,true,false,false,false,false,false] ?_;refine pw_ 14 85 #[true,true,true,true,true,true,true,true,true,true,true,true,true,true,true,false,false,false,false] ?_;refine pw_ 16 87 #[true,true,true,true,true,true,true,true,true,true,true,true,true,true,true,false,true,false,false] ?_;refine on_ 15 (some 86) #[true,true,true,true,true,true,true,true,true,true,true,true,true,true,true,true,true,false,false] (fun K hK=>?_);refine gq_ Tryz.func79 #[.slice A14 q2.length c14,.slice A14 q2.length c14] ?_;refine (qH.calls A14 c14 q2 A14 c14 q2 t7 _ HC14.out.1 HC14.out.2 HC14.out.1 HC14.out.2 A7.out).mono ?_;rintro e9 w' ⟨v9,rfl,ho,hb⟩;obtain⟨A86,c86,rfl⟩:=Kd.R_slice ho;have HC86:=K_ (slc ho);refine⟨_,rfl,?_⟩;replace HB:=zF HB hb;replace BK5:=zC BK5 hb;replace BK8:=zC BK8 hb;replace HC10:=K_ (HC10.out.below hb);replace HC13:=K_ (HC13.out.below hb);replace HC14:=K_ (HC14.out.below hb);replace hcell:=(hb.cell (World.block_lt_of_cell? _ _ hcell)).trans hcell;clear hb ho;clear hHeld;refine hK.out _ _ ⟨(zA BK5.out 0).trans rfl,hcell⟩ (fun hHeld=>?_)
    clear hK K;refine no_ (some 86) ?_;refine on_ 17 (some 88) #[true,true,true,true,true,true,true,true,true,true,true,true,true,true,true,true,true,true,false] (fun K hK=>?_);refine gq_ Tryz.func78 #[.slice A86 t7.length c86,.slice A10 t4.length c10] ?_;refine (xJ.calls A86 c86 t7 A10 c10 t4 t8 _ HC86.out.1 HC86.out.2 HC10.out.1 HC10.out.2 A8.out).mono ?_;rintro e9 w' ⟨rfl,hd9⟩;have hb:=zca hd9;refine⟨_,rfl,?_⟩;replace HB:=zF HB hb;replace BK5:=zC BK5 hb;replace BK8:=zC BK8 hb;replace HC10:=K_ (HC10.out.below hb);replace HC13:=K_ (HC13.out.below hb);replace hcell:=(hb.cell (World.block_lt_of_cell? _ _ hcell)).trans hcell;clear hb hd9;clear hHeld;refine hK.out _ _ ⟨(zA BK5.out 0).trans rfl,hcell⟩ (fun hHeld=>?_);clear hK K;refine no_ (some 88) ?_;refine on_ 18 (some 89) #[true,true,true,true,true,true,true,true,true,true,true,true,true,true,true,true,true,true,true] (fun K hK=>?_);refine gq_ Tryz.func77 #[.int .i64 m,.bool b,.bool ((Int.tmod (rd q1 0) 2)==1),.int .i64 t8] ?_;refine (zab.calls m b ((Int.tmod (rd q1 0) 2)==1) t8 u _ (Fig.Glob.below HG.out HB.out) A9.out).mono ?_;rintro e9 w' ⟨rfl,hd9⟩;have hb:=zca hd9;refine⟨_,rfl,?_⟩;replace HB:=zF HB hb;replace BK5:=zC BK5 hb;replace BK8:=zC BK8 hb;replace HC10:=K_ (HC10.out.below hb);replace HC13:=K_ (HC13.out.below hb);replace hcell:=(hb.cell (World.block_lt_of_cell? _ _ hcell)).trans hcell;clear hb hd9;clear hHeld;refine hK.out _ _ ⟨(zA BK5.out 0).trans rfl,hcell⟩ (fun hHeld=>?_);clear hK K;refine no_ (some 89) ?_;refine vF (by kernel_rfl) ?_
    go_wp2_with (fail)
    go_meet
    case rel=>exact⟨rfl,BK BK5,BK BK8,HC10.out,HC13.out,BL HB⟩
   have dl:decide (0<q1.length)=false:=decide_eq_false (by omega);rw[if_neg hl] at A9;clear hl;refine yI (n:=19) (S:=fun W=>W.cell? ⟨g5,0,none⟩=some (.bool b)) (ds:=[]) #[false,false,false,false,false,false,false,false,false,false,false,false,false,false,false,false,false,false,false] (by kernel_rfl) rfl rfl ((zA (BK BK5) 0).trans rfl) (fun hHeld=>?_);refine jL (fun W=>W.heap[g5]?=some (.cells #[.bool b,.string s,.int .i64 e] 23 (0,0))∧W.heap[g8]?=some (.cells #[.bool false,.string (⟨#[]⟩:ByteArray),.int .i64 0] 23 (0,0))∧SLc W A10 c10 t4∧SLc W A13 c13 q1∧SLc W A14 c14 q2∧Below w.heap.size w W) ⟨BK BK5,BK BK8,HC10.out.below (uQ (Below.refl _ _)),HC13.out.below (uQ (Below.refl _ _)),HC14.out.below (uQ (Below.refl _ _)),BL HB⟩ ?_;clear hHeld BK5 BK8 HC10 HC13 HC14 HB;rintro W ⟨hBK5,hBK8,hHC10,hHC13,hHC14,hHB⟩;have BK5:=K_ hBK5;have BK8:=K_ hBK8;have HC10:=K_ hHC10;have HC13:=K_ hHC13;have HC14:=K_ hHC14;have HB:=K_ hHB;clear hBK5 hBK8 hHC10 hHC13 hHC14 hHB;have hHeld:=(show W.cell? ⟨g5,0,none⟩=some (.bool b) from ((zA BK5.out 0).trans rfl))
   refine pw_ 0 71 #[true,false,false,false,false,false,false,false,false,false,false,false,false,false,false,false,false,false,false] ?_;refine pw_ 1 72 #[true,true,false,false,false,false,false,false,false,false,false,false,false,false,false,false,false,false,false] ?_;refine tw_ 2 73 #[true,true,true,false,false,false,false,false,false,false,false,false,false,false,false,false,false,false,false] hHeld ?_;refine pw_ 3 74 #[true,true,true,true,false,false,false,false,false,false,false,false,false,false,false,false,false,false,false] ?_;refine pw_ 4 75 #[true,true,true,true,true,false,false,false,false,false,false,false,false,false,false,false,false,false,false] ?_;refine vR (i:=5) (N:=some 76) (v:=.bool false) #[true,true,true,true,true,true,false,false,false,false,false,false,false,false,false,false,false,false,false] rfl rfl (by kernel_rfl) (fun _ _ _ h=>h) (Or.inl ⟨by rfl,fun w'=>by first|(go_simp;done)|(go_simp;rw[dl];done)|(go_simp;rw[dl];rfl)|(go_simp;simp[dl];done)⟩) (by simp only[Act.put,List.setIfInBounds_toArray,List.set_cons_zero,List.set_cons_succ];rfl) ?_;refine pw_ 6 77 #[true,true,true,true,true,true,true,false,false,false,false,false,false,false,false,false,false,false,false] ?_;refine vR (i:=7) (N:=some 78) (v:=undef) #[true,true,true,true,true,true,true,true,false,false,false,false,false,false,false,false,false,false,false] rfl rfl (by kernel_rfl) (fun _ _ _ h=>h) (Or.inr ⟨by rfl,rfl⟩) (by simp only[Act.put,List.setIfInBounds_toArray,List.set_cons_zero,List.set_cons_succ];rfl) ?_
   refine vR (i:=8) (N:=some 79) (v:=undef) #[true,true,true,true,true,true,true,true,true,false,false,false,false,false,false,false,false,false,false] rfl rfl (by kernel_rfl) (fun _ _ _ h=>h) (Or.inr ⟨by rfl,rfl⟩) (by simp only[Act.put,List.setIfInBounds_toArray,List.set_cons_zero,List.set_cons_succ];rfl) ?_;refine vR (i:=9) (N:=some 80) (v:=undef) #[true,true,true,true,true,true,true,true,true,true,false,false,false,false,false,false,false,false,false] rfl rfl (by kernel_rfl) (fun _ _ _ h=>h) (Or.inr ⟨by rfl,rfl⟩) (by simp only[Act.put,List.setIfInBounds_toArray,List.set_cons_zero,List.set_cons_succ];rfl) ?_;refine vR (i:=10) (N:=some 81) (v:=undef) #[true,true,true,true,true,true,true,true,true,true,true,false,false,false,false,false,false,false,false] rfl rfl (by kernel_rfl) (fun _ _ _ h=>h) (Or.inr ⟨by rfl,rfl⟩) (by simp only[Act.put,List.setIfInBounds_toArray,List.set_cons_zero,List.set_cons_succ];rfl) ?_;refine vR (i:=11) (N:=some 82) (v:=undef) #[true,true,true,true,true,true,true,true,true,true,true,true,false,false,false,false,false,false,false] rfl rfl (by kernel_rfl) (fun _ _ _ h=>h) (Or.inr ⟨by rfl,rfl⟩) (by simp only[Act.put,List.setIfInBounds_toArray,List.set_cons_zero,List.set_cons_succ];rfl) ?_;refine pw_ 12 83 #[true,true,true,true,true,true,true,true,true,true,true,true,true,false,false,false,false,false,false] ?_;refine pw_ 13 84 #[true,true,true,true,true,true,true,true,true,true,true,true,true,true,false,false,false,false,false] ?_;refine pw_ 14 85 #[true,true,true,true,true,true,true,true,true,true,true,true,true,true,true,false,false,false,false] ?_
   refine pw_ 16 87 #[true,true,true,true,true,true,true,true,true,true,true,true,true,true,true,false,true,false,false] ?_;refine on_ 15 (some 86) #[true,true,true,true,true,true,true,true,true,true,true,true,true,true,true,true,true,false,false] (fun K hK=>?_);refine gq_ Tryz.func79 #[.slice A14 q2.length c14,.slice A14 q2.length c14] ?_;refine (qH.calls A14 c14 q2 A14 c14 q2 t7 _ HC14.out.1 HC14.out.2 HC14.out.1 HC14.out.2 A7.out).mono ?_;rintro e9 w' ⟨v9,rfl,ho,hb⟩;obtain⟨A86,c86,rfl⟩:=Kd.R_slice ho;have HC86:=K_ (slc ho);refine⟨_,rfl,?_⟩;replace HB:=zF HB hb;replace BK5:=zC BK5 hb;replace BK8:=zC BK8 hb;replace HC10:=K_ (HC10.out.below hb);replace HC13:=K_ (HC13.out.below hb);replace HC14:=K_ (HC14.out.below hb);clear hb ho;clear hHeld;refine hK.out _ _ ((zA BK5.out 0).trans rfl) (fun hHeld=>?_);clear hK K;refine no_ (some 86) ?_;refine on_ 17 (some 88) #[true,true,true,true,true,true,true,true,true,true,true,true,true,true,true,true,true,true,false] (fun K hK=>?_);refine gq_ Tryz.func78 #[.slice A86 t7.length c86,.slice A10 t4.length c10] ?_;refine (xJ.calls A86 c86 t7 A10 c10 t4 t8 _ HC86.out.1 HC86.out.2 HC10.out.1 HC10.out.2 A8.out).mono ?_;rintro e9 w' ⟨rfl,hd9⟩;have hb:=zca hd9;refine⟨_,rfl,?_⟩;replace HB:=zF HB hb;replace BK5:=zC BK5 hb;replace BK8:=zC BK8 hb;replace HC10:=K_ (HC10.out.below hb);replace HC13:=K_ (HC13.out.below hb);clear hb hd9;clear hHeld;refine hK.out _ _ ((zA BK5.out 0).trans rfl) (fun hHeld=>?_);clear hK K;refine no_ (some 88) ?_;refine on_ 18 (some 89) #[true,true,true,true,true,true,true,true,true,true,true,true,true,true,true,true,true,true,true] (fun K hK=>?_)
   refine gq_ Tryz.func77 #[.int .i64 m,.bool b,.bool false,.int .i64 t8] ?_;refine (zab.calls m b false t8 u _ (Fig.Glob.below HG.out HB.out) A9.out).mono ?_;rintro e9 w' ⟨rfl,hd9⟩;have hb:=zca hd9;refine⟨_,rfl,?_⟩;replace HB:=zF HB hb;replace BK5:=zC BK5 hb;replace BK8:=zC BK8 hb;replace HC10:=K_ (HC10.out.below hb);replace HC13:=K_ (HC13.out.below hb);clear hb hd9;clear hHeld;refine hK.out _ _ ((zA BK5.out 0).trans rfl) (fun hHeld=>?_);clear hK K;refine no_ (some 89) ?_;refine vF (by kernel_rfl) ?_;go_wp2_with (fail)
   go_meet
   case rel=>exact⟨rfl,BK BK5,BK BK8,HC10.out,HC13.out,BL HB⟩
  case rest =>
   obtain⟨rfl,hBK5,hBK8,hHC10,hHC13,hHB⟩:=hcut;replace BK5:=K_ hBK5;replace BK8:=K_ hBK8;replace HC10:=K_ hHC10;replace HC13:=K_ hHC13;replace HB:=K_ hHB;clear hBK5 hBK8 hHC10 hHC13 hHB;obtain⟨k2,lq,t9,tx,HU,B1,B2,B3,q4⟩:∃ (k2:Nat) (lq t9:List Int) (tx:ByteArray),Aside0 ((u=true→qH.f q1 [1]=some lq)∧(u=false→lq=q1))∧Aside0 (qG.f k2 lq t4=some t9)∧Aside0 (uK.f t9=some tx)∧Aside0 (yB.f b tx E=some (r1,r2,r3))∧r4=0:=by
    have h:=HJ.out
    cases k with
    | zero=>cases h
    | succ k =>
     rw[vH.j1] at h;cases u
     ·rw[if_neg (by decide)] at h
      obtain⟨t9,a0,h⟩:=Option.bind_eq_some_iff.mp h;obtain⟨tx,a,h⟩:=Option.bind_eq_some_iff.mp h;obtain⟨⟨n1,n2,n3⟩,a2,h⟩:=Option.bind_eq_some_iff.mp h;simp only[Option.some.injEq,Prod.mk.injEq] at h
      obtain⟨rfl,rfl,rfl,rfl⟩:=h;exact⟨k,q1,t9,tx,⟨⟨(fun h=>by cases h),fun _=>rfl⟩⟩,⟨a0⟩,⟨a⟩,⟨a2⟩,rfl⟩
     rw[if_pos rfl] at h;obtain⟨lq,a1,h⟩:=Option.bind_eq_some_iff.mp h;obtain⟨t9,a0,h⟩:=Option.bind_eq_some_iff.mp h;obtain⟨tx,a,h⟩:=Option.bind_eq_some_iff.mp h;obtain⟨⟨n1,n2,n3⟩,a2,h⟩:=Option.bind_eq_some_iff.mp h;simp only[Option.some.injEq,Prod.mk.injEq] at h
     obtain⟨rfl,rfl,rfl,rfl⟩:=h;exact⟨k,lq,t9,tx,⟨⟨fun _=>a1,(fun h=>by cases h)⟩⟩,⟨a0⟩,⟨a⟩,⟨a2⟩,rfl⟩
   subst q4;clear HJ A3 A4 A5 A6 A7 A8 A9;go_upto_if 89 with (fail)
   go_cut [13] from 89 to 92 (fun v wx=>(∃ A c,v=.slice A lq.length c∧SLc wx A c lq)∧wx.heap[g5]?=some (.cells #[.bool b,.string s,.int .i64 e] 23 (0,0))∧wx.heap[g8]?=some (.cells #[.bool false,.string (⟨#[]⟩:ByteArray),.int .i64 0] 23 (0,0))∧SLc wx A10 c10 t4∧Below w.heap.size w wx)
   case first =>
    cases u
    ·obtain rfl:=HU.out.2 rfl
     go_wp2
     go_meet
     case rel=>exact⟨⟨A13,c13,rfl,HC13.out⟩,BK BK5,BK BK8,HC10.out,BL HB⟩
    have AU:=K_ (HU.out.1 rfl);go_wp2_with (first|((with_reducible refine zE (N:=91) rfl ?_);refine zoq 91 ?_;intro g91 hg w2 hbox hb;have BK91:=K_ hbox;replace HC10:=K_ (HC10.out.below hb);replace HC13:=K_ (HC13.out.below hb);replace BK5:=zC BK5 hb;replace BK8:=zC BK8 hb;replace HB:=zF HB hb;clear hb hbox hg)|(go_at_call 79;refine (qH.calls A13 c13 q1 (some ⟨g91,0,none⟩) 1 [1] lq _ HC13.out.1 HC13.out.2 (zhC BK91.out).1 (Nat.le_refl _) AU.out).mono ?_;rintro e9 w' ⟨v9,rfl,ho,hb⟩;obtain⟨AQ,cQ,rfl⟩:=Kd.R_slice ho;have HCQ:=K_ (slc ho);replace HC10:=K_ (HC10.out.below hb);replace BK5:=zC BK5 hb;replace BK8:=zC BK8 hb;replace HB:=zF HB hb;clear hb ho))
    go_meet
    case rel=>exact⟨⟨AQ,cQ,rfl,HCQ.out⟩,BK BK5,BK BK8,HC10.out,BL HB⟩
   case rest =>
    obtain⟨⟨A13,c13,rfl,hc13⟩,hBK5,hBK8,hHC10,hHB⟩:=hcut;replace HC13:=K_ hc13;clear hc13 HU;replace BK5:=K_ hBK5;replace BK8:=K_ hBK8;replace HC10:=K_ hHC10;replace HB:=K_ hHB;clear hBK5 hBK8 hHC10 hHB;go_upto_region 13 with (fail)
    refine yI (n:=11) (S:=fun W=>W.cell? ⟨g5,0,none⟩=some (.bool b)) (ds:=[]) #[false,false,false,false,false,false,false,false,false,false,false] (by kernel_rfl) rfl rfl ((zA (BK BK5) 0).trans rfl) (fun hHeld=>?_);refine jL (fun W=>W.heap[g5]?=some (.cells #[.bool b,.string s,.int .i64 e] 23 (0,0))∧W.heap[g8]?=some (.cells #[.bool false,.string (⟨#[]⟩:ByteArray),.int .i64 0] 23 (0,0))∧SLc W A10 c10 t4∧SLc W A13 c13 lq∧Below w.heap.size w W) ⟨BK BK5,BK BK8,HC10.out.below (uQ (Below.refl _ _)),HC13.out.below (uQ (Below.refl _ _)),BL HB⟩ ?_;clear hHeld BK5 BK8 HC10 HC13 HB;rintro W ⟨hBK5,hBK8,hHC10,hHC13,hHB⟩;have BK5:=K_ hBK5;have BK8:=K_ hBK8;have HC10:=K_ hHC10;have HC13:=K_ hHC13;have HB:=K_ hHB;clear hBK5 hBK8 hHC10 hHC13 hHB;have hHeld:=(show W.cell? ⟨g5,0,none⟩=some (.bool b) from ((zA BK5.out 0).trans rfl))
    refine pw_ 0 93 #[true,false,false,false,false,false,false,false,false,false,false] ?_;refine tw_ 1 94 #[true,true,false,false,false,false,false,false,false,false,false] hHeld ?_;refine pw_ 2 95 #[true,true,true,false,false,false,false,false,false,false,false] ?_;refine pw_ 3 96 #[true,true,true,true,false,false,false,false,false,false,false] ?_;refine pw_ 6 99 #[true,true,true,true,false,false,true,false,false,false,false] ?_;refine on_ 4 (some 97) #[true,true,true,true,true,false,true,false,false,false,false] (fun K hK=>?_);refine gq_ Tryz.func81 #[.slice A13 lq.length c13,.slice A10 t4.length c10] ?_;refine (qG.calls k2 A13 c13 lq A10 c10 t4 t9 _ HC13.out.1 HC13.out.2 HC10.out.1 HC10.out.2 B1.out).mono ?_;rintro e9 w' ⟨v9,rfl,ho,hb⟩;obtain⟨A97,c97,rfl⟩:=Kd.R_slice ho;have HC97:=K_ (slc ho);refine⟨_,rfl,?_⟩;replace HB:=zF HB hb;replace BK5:=zC BK5 hb;replace BK8:=zC BK8 hb;clear hb ho;clear hHeld;refine hK.out _ _ ((zA BK5.out 0).trans rfl) (fun hHeld=>?_);clear hK K;refine no_ (some 97) ?_;refine on_ 5 (some 98) #[true,true,true,true,true,true,true,false,false,false,false] (fun K hK=>?_);refine gq_ Tryz.func80 #[.slice A97 t9.length c97] ?_;refine (uK.calls A97 c97 t9 tx _ HC97.out.1 HC97.out.2 B2.out).mono ?_;rintro e9 w' ⟨rfl,hb⟩;refine⟨_,rfl,?_⟩;replace HB:=zF HB hb;replace BK5:=zC BK5 hb;replace BK8:=zC BK8 hb;clear hb;clear hHeld;refine hK.out _ _ ((zA BK5.out 0).trans rfl) (fun hHeld=>?_);clear hK K;refine no_ (some 98) ?_;refine pw_ 7 100 #[true,true,true,true,true,true,true,true,false,false,false] ?_
    refine on_ 8 (some 101) #[true,true,true,true,true,true,true,true,true,false,false] (fun K hK=>?_);refine gq_ Tryz.func59 #[.agg #[.bool b,.string tx,.int .i64 E]] ?_;refine (yB.calls b tx E r1 r2 r3 _ B3.out).mono ?_;rintro e9 w' ⟨rfl,hb⟩;refine⟨_,rfl,?_⟩;replace HB:=zF HB hb;replace BK5:=zC BK5 hb;replace BK8:=zC BK8 hb;clear hb;clear hHeld;refine hK.out _ _ ((zA BK5.out 0).trans rfl) (fun hHeld=>?_);clear hK K;refine no_ (some 101) ?_;refine on_ 9 none #[true,true,true,true,true,true,true,true,true,true,false] (fun K hK=>?_);refine yX (g:=g8) (cs:=#[.bool false,.string (⟨#[]⟩:ByteArray),.int .i64 0]) (#[.bool r1,.string r2,.int .i64 r3]) BK8 ?_ rfl rfl rfl rfl rfl zag rfl rfl;intro w9 hbk hfar hbel;replace BK5:=K_ (hfar _ _ NB5_8.out BK5.out);replace BK8:=K_ hbk;replace HB:=K_ (hbel _ _ GE8.out HB.out);refine hK.out _ _ ((zA BK5.out 0).trans rfl) (fun _=>?_);clear hK K hbk hfar hbel;refine pw_ 10 9 #[true,true,true,true,true,true,true,true,true,true,true] ?_;refine vF (by kernel_rfl) ?_;go_wp2_with (fail)
    refine bodyPost_ret (jA rfl _ _ g8 23 #[.bool r1,.string r2,.int .i64 r3] (0,0) _ rfl BK8.out Tryz.underlying23 rfl zag) rfl ?_;exact⟨rfl,BL HB⟩
def xV.f (a0_0:Bool) (a0_1:ByteArray) (a0_2:Int):Option (Bool):=(yB.f a0_0 a0_1 a0_2).bind fun bt293=>(if bt293.2.1.toList=([48]:List UInt8) then (some true) else (if bt293.2.2 ≥ (-300) then ((zaY.f bt293.1 bt293.2.1 bt293.2.2).bind fun t296=>(some (decide (t296<300)))) else (some false)))
set_option maxHeartbeats 8000000 in
set_option maxRecDepth 100000 in
theorem xV.calls (a0_0:Bool) (a0_1:ByteArray) (a0_2:Int) (r:Bool) (w:World) (h:xV.f a0_0 a0_1 a0_2=some r) :
  Calls Tryz.prog 34 #[.agg #[.bool a0_0,.string a0_1,.int .i64 a0_2]] w fun e w'=>e=.returned (.bool r)∧Below w.heap.size w w':=by
 have hu23:=Tryz.underlying23;have HB:=K_ (Below.refl w.heap.size w);have H:((yB.f a0_0 a0_1 a0_2).bind fun bt293=>(if bt293.2.1.toList=([48]:List UInt8) then (some true) else (if bt293.2.2 ≥ (-300) then ((zaY.f bt293.1 bt293.2.1 bt293.2.2).bind fun t296=>(some (decide (t296<300)))) else (some false))))=some r:=h;clear h;obtain⟨⟨t293,t294,t295⟩,A20,H⟩:=Option.bind_eq_some_iff.mp H
 (try dsimp -simprocs only at H)
 have A2:=K_ A20;clear A20;by_cases c3:t294.toList=([48]:List UInt8)
 ·rw[if_pos c3] at H
  have c3b0:(t294.toList==([48]:List UInt8))=true:=beq_iff_eq.mpr c3;have c3b1:(t294.toList !=([48]:List UInt8))=false:=bne_eq_false_iff_eq.mpr c3;clear c3;obtain rfl:=Option.some.inj H;go_enter Tryz.func34,Tryz.ntmps34
  go_wp2_with (first|(refine be_ 1 #[.bool a0_0,.string a0_1,.int .i64 a0_2] 23 ?_;intro gb292 hg w4 hbox hb;have BK292:=K_ (hbox);have GW292:=ge_ hg HB;have GE292:=ge_ hg HB;replace HB:=zF HB hb;clear hb hbox hg;obtain⟨⟨hcz5_0,hcz5_1,hcz5_2⟩,hfz5_0,hfz5_1,hfz5_2⟩:=ce3 BK292)|((with_reducible refine zH (f:=59) rfl ?_);refine zT (some 4) rfl rfl Tryz.func59 (by kernel_rfl) rfl #[.agg #[.bool a0_0,.string a0_1,.int .i64 a0_2]] rfl MP ?_;(with_reducible refine (yB.calls a0_0 a0_1 a0_2 t293 t294 t295 _ A2.out).mono ?_);rintro e w6 ⟨rfl,hb⟩;refine⟨_,rfl,?_⟩;replace BK292:=zC BK292 hb;replace HB:=zF HB hb;(try clear hb);(try clear hb2);(try clear hk);(try clear hi);obtain⟨⟨hcz7_0,hcz7_1,hcz7_2⟩,hfz7_0,hfz7_1,hfz7_2⟩:=ce3 BK292))
  go_ret
  exact⟨ER,BL HB⟩
 rw[if_neg c3] at H;have c3b0:(t294.toList==([48]:List UInt8))=false:=beq_eq_false_iff_ne.mpr c3;have c3b1:(t294.toList !=([48]:List UInt8))=true:=bne_iff_ne.mpr c3;by_cases c8:t295 ≥ (-300)
 ·rw[if_pos c8] at H
  have c8b0:decide ((-300)≤t295)=true:=decide_eq_true c8;clear c8;obtain⟨t296,A90,H⟩:=Option.bind_eq_some_iff.mp H
  (try dsimp -simprocs only at H)
  have A9:=K_ A90;clear A90;obtain rfl:=Option.some.inj H;go_enter Tryz.func34,Tryz.ntmps34
  go_wp2_with (first|(refine be_ 1 #[.bool a0_0,.string a0_1,.int .i64 a0_2] 23 ?_;intro gb292 hg w10 hbox hb;have BK292:=K_ (hbox);have GW292:=ge_ hg HB;have GE292:=ge_ hg HB;replace HB:=zF HB hb;clear hb hbox hg;obtain⟨⟨hcz11_0,hcz11_1,hcz11_2⟩,hfz11_0,hfz11_1,hfz11_2⟩:=ce3 BK292)|((with_reducible refine zH (f:=59) rfl ?_);refine zT (some 4) rfl rfl Tryz.func59 (by kernel_rfl) rfl #[.agg #[.bool a0_0,.string a0_1,.int .i64 a0_2]] rfl MP ?_;(with_reducible refine (yB.calls a0_0 a0_1 a0_2 t293 t294 t295 _ A2.out).mono ?_);rintro e w12 ⟨rfl,hb⟩;refine⟨_,rfl,?_⟩;replace BK292:=zC BK292 hb;replace HB:=zF HB hb;(try clear hb);(try clear hb2);(try clear hk);(try clear hi);obtain⟨⟨hcz13_0,hcz13_1,hcz13_2⟩,hfz13_0,hfz13_1,hfz13_2⟩:=ce3 BK292)|((with_reducible refine zE (N:=14) rfl ?_);(refine vQ (by rfl) ?_;dsimp only);(with_reducible refine zH (f:=60) rfl ?_);refine zT (some 14) rfl rfl Tryz.func60 (by kernel_rfl) rfl #[.agg #[.bool t293,.string t294,.int .i64 t295]] rfl MP ?_;(with_reducible refine (zaY.calls t293 t294 t295 t296 _ A9.out).mono ?_);rintro e w14 ⟨rfl,hb⟩;refine⟨_,rfl,?_⟩;replace BK292:=K_ (zcq (g:=gb292) (o:=.cells #[.bool t293,.string t294,.int .i64 t295] 23 (0,0)) (BP BK292) hb);replace HB:=zF HB hb;(try clear hb);(try clear hb2);(try clear hk);(try clear hi)))
  go_ret
  exact⟨ER,BL HB⟩
 rw[if_neg c8] at H;have c8b0:decide ((-300)≤t295)=false:=decide_eq_false c8;clear c8;obtain rfl:=Option.some.inj H;go_enter Tryz.func34,Tryz.ntmps34
 go_wp2_with (first|(refine be_ 1 #[.bool a0_0,.string a0_1,.int .i64 a0_2] 23 ?_;intro gb292 hg w15 hbox hb;have BK292:=K_ (hbox);have GW292:=ge_ hg HB;have GE292:=ge_ hg HB;replace HB:=zF HB hb;clear hb hbox hg;obtain⟨⟨hcz16_0,hcz16_1,hcz16_2⟩,hfz16_0,hfz16_1,hfz16_2⟩:=ce3 BK292)|((with_reducible refine zH (f:=59) rfl ?_);refine zT (some 4) rfl rfl Tryz.func59 (by kernel_rfl) rfl #[.agg #[.bool a0_0,.string a0_1,.int .i64 a0_2]] rfl MP ?_;(with_reducible refine (yB.calls a0_0 a0_1 a0_2 t293 t294 t295 _ A2.out).mono ?_);rintro e w17 ⟨rfl,hb⟩;refine⟨_,rfl,?_⟩;replace BK292:=zC BK292 hb;replace HB:=zF HB hb;(try clear hb);(try clear hb2);(try clear hk);(try clear hi);obtain⟨⟨hcz18_0,hcz18_1,hcz18_2⟩,hfz18_0,hfz18_1,hfz18_2⟩:=ce3 BK292))
 go_ret
 exact⟨ER,BL HB⟩
def zbc.f (a0_0:Bool) (a0_1:ByteArray) (a0_2:Int):Option (Bool):=if (a0_1.size:Int)>1000 then (some false) else (if a0_2<(-1000) then (some false) else (if a0_2>1000 then (some false) else ((uR.f a0_1).bind fun bt280=>(some bt280.2))))
set_option maxHeartbeats 8000000 in
set_option maxRecDepth 100000 in
theorem zbc.calls (a0_0:Bool) (a0_1:ByteArray) (a0_2:Int) (r:Bool) (w:World) (h:zbc.f a0_0 a0_1 a0_2=some r) :
  Calls Tryz.prog 33 #[.agg #[.bool a0_0,.string a0_1,.int .i64 a0_2]] w fun e w'=>e=.returned (.bool r)∧Below w.heap.size w w':=by
 have hu23:=Tryz.underlying23;have HB:=K_ (Below.refl w.heap.size w);have H:(if (a0_1.size:Int)>1000 then (some false) else (if a0_2<(-1000) then (some false) else (if a0_2>1000 then (some false) else ((uR.f a0_1).bind fun bt280=>(some bt280.2)))))=some r:=h;clear h;by_cases c2:(a0_1.size:Int)>1000
 ·rw[if_pos c2] at H
  have c2b0:decide (1000<(a0_1.size:Int))=true:=decide_eq_true c2;have c2b1:decide (1000<a0_1.size)=true:=decide_eq_true (by omega);clear c2;obtain rfl:=Option.some.inj H;go_enter Tryz.func33,Tryz.ntmps33
  go_wp2_with (first|(refine be_ 1 #[.bool a0_0,.string a0_1,.int .i64 a0_2] 23 ?_;intro gb279 hg w3 hbox hb;have BK279:=K_ (hbox);have GW279:=ge_ hg HB;have GE279:=ge_ hg HB;replace HB:=zF HB hb;clear hb hbox hg;obtain⟨⟨hcz4_0,hcz4_1,hcz4_2⟩,hfz4_0,hfz4_1,hfz4_2⟩:=ce3 BK279))
  go_ret
  exact⟨ER,BL HB⟩
 rw[if_neg c2] at H;have c2b0:decide (1000<(a0_1.size:Int))=false:=decide_eq_false c2;have c2b1:decide (1000<a0_1.size)=false:=decide_eq_false (by omega);clear c2;by_cases c5:a0_2<(-1000)
 ·rw[if_pos c5] at H
  have c5b0:decide (a0_2<(-1000))=true:=decide_eq_true c5;clear c5;obtain rfl:=Option.some.inj H;go_enter Tryz.func33,Tryz.ntmps33
  go_wp2_with (first|(refine be_ 1 #[.bool a0_0,.string a0_1,.int .i64 a0_2] 23 ?_;intro gb279 hg w6 hbox hb;have BK279:=K_ (hbox);have GW279:=ge_ hg HB;have GE279:=ge_ hg HB;replace HB:=zF HB hb;clear hb hbox hg;obtain⟨⟨hcz7_0,hcz7_1,hcz7_2⟩,hfz7_0,hfz7_1,hfz7_2⟩:=ce3 BK279))
  go_ret
  exact⟨ER,BL HB⟩
 rw[if_neg c5] at H;have c5b0:decide (a0_2<(-1000))=false:=decide_eq_false c5;clear c5;by_cases c8:a0_2>1000
 ·rw[if_pos c8] at H
  have c8b0:decide (1000<a0_2)=true:=decide_eq_true c8;clear c8;obtain rfl:=Option.some.inj H;go_enter Tryz.func33,Tryz.ntmps33
  go_wp2_with (first|(refine be_ 1 #[.bool a0_0,.string a0_1,.int .i64 a0_2] 23 ?_;intro gb279 hg w9 hbox hb;have BK279:=K_ (hbox);have GW279:=ge_ hg HB;have GE279:=ge_ hg HB;replace HB:=zF HB hb;clear hb hbox hg;obtain⟨⟨hcz10_0,hcz10_1,hcz10_2⟩,hfz10_0,hfz10_1,hfz10_2⟩:=ce3 BK279))
  go_ret
  exact⟨ER,BL HB⟩
 rw[if_neg c8] at H;have c8b0:decide (1000<a0_2)=false:=decide_eq_false c8;clear c8;obtain⟨⟨t280,t281⟩,A110,H⟩:=Option.bind_eq_some_iff.mp H
 (try dsimp -simprocs only at H)
 have A11:=K_ A110;clear A110;obtain rfl:=Option.some.inj H;go_enter Tryz.func33,Tryz.ntmps33
 go_wp2_with (first|(refine be_ 1 #[.bool a0_0,.string a0_1,.int .i64 a0_2] 23 ?_;intro gb279 hg w12 hbox hb;have BK279:=K_ (hbox);have GW279:=ge_ hg HB;have GE279:=ge_ hg HB;replace HB:=zF HB hb;clear hb hbox hg;obtain⟨⟨hcz13_0,hcz13_1,hcz13_2⟩,hfz13_0,hfz13_1,hfz13_2⟩:=ce3 BK279)|((with_reducible refine zH (f:=58) rfl ?_);refine zT (some 22) rfl rfl Tryz.func58 (by kernel_rfl) rfl #[.string a0_1] rfl MP ?_;(with_reducible refine (uR.calls a0_1 t280 t281 _ A11.out).mono ?_);rintro e w14 ⟨v282,rfl,ho0,hb⟩;refine⟨_,rfl,?_⟩;have HO283:=K_ (Kd.R_lower ho0 (zQ (BL HB)));replace BK279:=zC BK279 hb;replace HB:=zF HB hb;(try clear hb);(try clear hb2);(try clear hk);(try clear hi);(try clear ho0)))
 go_ret
 exact⟨ER,BL HB⟩
def vS.f (a0_0:Bool) (a0_1:ByteArray) (a0_2:Int) (a1:Int):Option (Bool×ByteArray×Int):=(yB.f a0_0 a0_1 (wrap64 (a0_2+a1))).bind fun bt529=>(some (bt529.1,bt529.2.1,bt529.2.2))
set_option maxHeartbeats 8000000 in
set_option maxRecDepth 100000 in
theorem vS.calls (a0_0:Bool) (a0_1:ByteArray) (a0_2:Int) (a1:Int) (r1:Bool) (r2:ByteArray) (r3:Int) (w:World) (h:vS.f a0_0 a0_1 a0_2 a1=some (r1,r2,r3)) :
  Calls Tryz.prog 37 #[.agg #[.bool a0_0,.string a0_1,.int .i64 a0_2],.int .i64 a1] w fun e w'=>e=.returned (.agg #[.bool r1,.string r2,.int .i64 r3])∧Below w.heap.size w w':=by
 have hu23:=Tryz.underlying23;have HB:=K_ (Below.refl w.heap.size w);have H:((yB.f a0_0 a0_1 (wrap64 (a0_2+a1))).bind fun bt529=>(some (bt529.1,bt529.2.1,bt529.2.2)))=some (r1,r2,r3):=h;clear h;obtain⟨⟨t529,t530,t531⟩,A30,H⟩:=Option.bind_eq_some_iff.mp H
 (try dsimp -simprocs only at H)
 have A3:=K_ A30;clear A30;simp only[Option.some.injEq,Prod.mk.injEq] at H
 obtain⟨rfl,rfl,rfl⟩:=H;go_enter Tryz.func37,Tryz.ntmps37
 go_wp2_with (first|(refine be_ 2 #[.bool a0_0,.string a0_1,.int .i64 a0_2] 23 ?_;intro gb527 hg w4 hbox hb;have BK527:=K_ (hbox);have GW527:=ge_ hg HB;have GE527:=ge_ hg HB;replace HB:=zF HB hb;clear hb hbox hg)|(refine be_ 4 #[.bool false,.string (⟨#[]⟩:ByteArray),.int .i64 0] 23 ?_;intro gb528 hg w5 hbox hb;have BK528:=K_ (hbox);have GW528:=ge_ hg HB;have GE528:=ge_ hg HB;replace HB:=zF HB hb;have NB527_528:=nb_ hg BK527;have NB528_527:=nc_ hg BK527;replace BK527:=zC BK527 hb;clear hb hbox hg;have hnb6:=NB527_528.out;have hnc6:=NB528_527.out;obtain⟨⟨hcz7_0,hcz7_1,hcz7_2⟩,hfz7_0,hfz7_1,hfz7_2⟩:=ce3 BK527)|((with_reducible refine zH (f:=59) rfl ?_);refine zT (some 11) rfl rfl Tryz.func59 (by kernel_rfl) rfl #[.agg #[.bool a0_0,.string a0_1,.int .i64 (wrap64 (a0_2+a1))]] rfl MP ?_;(with_reducible refine (yB.calls a0_0 a0_1 (wrap64 (a0_2+a1)) t529 t530 t531 _ A3.out).mono ?_);rintro e w8 ⟨rfl,hb⟩;refine⟨_,rfl,?_⟩;replace BK527:=K_ (zcq (g:=gb527) (o:=.cells #[.bool a0_0,.string a0_1,.int .i64 (wrap64 (a0_2+a1))] 23 (0,0)) (BP BK527) hb);replace BK528:=K_ (zcq (g:=gb528) (o:=.cells #[.bool false,.string (⟨#[]⟩:ByteArray),.int .i64 0] 23 (0,0)) (by (with_reducible repeat (first|refine jU ?_ _|refine jS ?_|refine jT ?_ _));refine zS ?_ NB528_527.out _;(with_reducible repeat (first|refine jU ?_ _|refine jS ?_|refine jT ?_ _));exact BK528.out) hb);replace HB:=zF HB hb;(try clear hb);(try clear hb2);(try clear hk);(try clear hi);obtain⟨⟨hcz9_0,hcz9_1,hcz9_2⟩,hfz9_0,hfz9_1,hfz9_2⟩:=ce3 BK528))
 refine bodyPost_ret (results_cell_row rfl _ _ gb528 23 #[.bool t529,.string t530,.int .i64 t531] (0,0) _ rfl (BP BK528) Tryz.underlying23 rfl (by kernel_rfl)) rfl ?_;exact⟨ER,BL HB⟩
end Go.Proofs.YtcmgdjnjmobkoaaGreatDoor.Px
namespace Go.Proofs.YtcmgdjnjmobkoaaGreatDoor.Px
set_option linter.all false
open Fig Go.RowKit Go.Proofs.YtcmgdjnjmobkoaaGreatDoorW.PrintWords Go.Proofs.YtcmgdjnjmobkoaaGreatDoorW.PrintLast Go.Proofs.YtcmgdjnjmobkoaaGreatDoorW.PrintMore
attribute [local go_sem] vK vL uE uD yS yP vM vJ
set_option maxHeartbeats 4000000 in
set_option maxRecDepth 100000 in
theorem zgq (q:Pat) (hg:uS q.P) (w:World):Calls Tryz.prog 25 #[.agg q.cs] w fun e w'=>e=.returned (.tuple #[.int .i64 (zaV q.P).1,.int .i64 (zaV q.P).2])∧Below w.heap.size w w':=by
 have HB:=K_ (Below.refl w.heap.size w);have HG:=K_ hg;have hb1:=zcm hg;have hw1:wrap64 (yA q.P+q.P.mf)=yA q.P+q.P.mf:=by have:=hg.mf0;have:=hg.mfx;have:=hg.xf4;unfold wrap64;omega
 have hw2:wrap64 (yA q.P+q.P.xf)=yA q.P+q.P.xf:=by have:=hg.mf0;have:=hg.mfx;have:=hg.xf4;unfold wrap64;omega
 have HW:=K_ (And.intro hw1 hw2);have HW2:=K_ (show zaV q.P=if 0<q.P.ms then (q.P.ms,q.P.xs) else (yA q.P+q.P.mf,yA q.P+q.P.xf) from rfl);clear hg hb1 hw1 hw2;go_enter Tryz.func25,Tryz.ntmps25
 go_upto_region 1 with ((with_reducible refine zE (N:=1) rfl ?_);refine bx_ 1 q.cs 26 ?_ rfl rfl rfl rfl rfl;intro g1 hg w2 hbox hb;have BK1:=K_ hbox;replace HB:=zF HB hb;clear hb hbox hg)
 have e9:w2.cell? ⟨g1,9,none⟩=some (.int .i64 q.P.ms):=(zA BK1.out 9).trans rfl;by_cases h9:0<q.P.ms
 ·have d9:decide (0<q.P.ms)=true:=decide_eq_true h9
  have HR:=K_ (show zaV q.P=(q.P.ms,q.P.xs) by rw[HW2.out,if_pos h9]);clear HW2 HW;go_upto_region 2 with (fail)
  refine yI (n:=6) (S:=fun W=>W.heap[g1]?=some (.cells q.cs 26 (0,0))∧W.cell? ⟨g1,9,none⟩=some (.int .i64 q.P.ms)∧W.cell? ⟨g1,10,none⟩=some (.int .i64 q.P.xs)∧W.cell? ⟨g1,7,none⟩=some (.int .i64 q.P.mf)∧W.cell? ⟨g1,8,none⟩=some (.int .i64 q.P.xf)) (ds:=[]) #[false,false,false,false,false,false] (by kernel_rfl) rfl rfl ⟨(BK BK1),(zA (BK BK1) 9).trans rfl,(zA (BK BK1) 10).trans rfl,(zA (BK BK1) 7).trans rfl,(zA (BK BK1) 8).trans rfl⟩ (fun hHeld=>?_);refine pw_ 0 7 (bb 6 1) ?_;refine pw_ 2 9 (bb 6 5) ?_;refine tw_ 1 8 (bb 6 7) hHeld ?_;refine pw_ 4 2 (bb 6 23) ?_;refine tw_ 3 10 (bb 6 31) hHeld ?_;refine pw_ 5 3 (bb 6 63) ?_;refine vF (by kernel_rfl) ?_;go_wp2_with (fail)
  go_ret2
  exact⟨by rw[HR.out];rfl,BL HB⟩
 have d9:decide (0<q.P.ms)=false:=decide_eq_false h9;have HR:=K_ (show zaV q.P=(wrap64 (yA q.P+q.P.mf),wrap64 (yA q.P+q.P.xf)) by rw[HW2.out,if_neg h9,HW.out.1,HW.out.2]);clear HW2 HW;go_upto_region 3 with (fail)
 refine yI (n:=12) (S:=fun W=>W.heap[g1]?=some (.cells q.cs 26 (0,0))∧W.cell? ⟨g1,9,none⟩=some (.int .i64 q.P.ms)∧W.cell? ⟨g1,10,none⟩=some (.int .i64 q.P.xs)∧W.cell? ⟨g1,7,none⟩=some (.int .i64 q.P.mf)∧W.cell? ⟨g1,8,none⟩=some (.int .i64 q.P.xf)) (ds:=[]) #[false,false,false,false,false,false,false,false,false,false,false,false] (by kernel_rfl) rfl rfl ⟨(BK BK1),(zA (BK BK1) 9).trans rfl,(zA (BK BK1) 10).trans rfl,(zA (BK BK1) 7).trans rfl,(zA (BK BK1) 8).trans rfl⟩ (fun hHeld=>?_);refine jL (fun W=>W.heap[g1]?=some (.cells q.cs 26 (0,0))∧Below w.heap.size w W) ⟨BK BK1,BL HB⟩ ?_;clear hHeld BK1 HB e9;rintro W ⟨hb1,hbw⟩;have BK1:=K_ hb1;have HB:=K_ hbw;have hHeld:=(show W.heap[g1]?=some (.cells q.cs 26 (0,0))∧W.cell? ⟨g1,9,none⟩=some (.int .i64 q.P.ms)∧W.cell? ⟨g1,10,none⟩=some (.int .i64 q.P.xs)∧W.cell? ⟨g1,7,none⟩=some (.int .i64 q.P.mf)∧W.cell? ⟨g1,8,none⟩=some (.int .i64 q.P.xf) from ⟨hb1,(zA hb1 9).trans rfl,(zA hb1 10).trans rfl,(zA hb1 7).trans rfl,(zA hb1 8).trans rfl⟩)
 clear hb1 hbw;refine pw_ 2 13 (bb 12 4) ?_;refine pw_ 7 18 (bb 12 132) ?_;refine tr_ 0 11 (bb 12 133) (q.cs) (fun _ hs=>⟨hs.1⟩) Tryz.underlying26 jX hHeld ?_;refine tw_ 3 14 (bb 12 141) hHeld ?_;refine tr_ 5 16 (bb 12 173) (q.cs) (fun _ hs=>⟨hs.1⟩) Tryz.underlying26 jX hHeld ?_;refine tw_ 8 19 (bb 12 429) hHeld ?_;refine on_ 1 (some 12) (bb 12 431) (fun K hK=>?_);refine gq_ Tryz.func54 #[.agg q.cs] ?_;refine (zev q HG.out _).mono ?_;rintro e w' ⟨rfl,hb⟩;refine⟨_,rfl,?_⟩;replace HB:=zF HB hb;replace BK1:=zC BK1 hb;clear hb;clear hHeld;refine hK.out _ _ ⟨BK1.out,(zA BK1.out 9).trans rfl,(zA BK1.out 10).trans rfl,(zA BK1.out 7).trans rfl,(zA BK1.out 8).trans rfl⟩ (fun hHeld=>?_);clear hK K;refine no_ (some 12) ?_;refine pw_ 4 15 (bb 12 447) ?_;refine on_ 6 (some 17) (bb 12 511) (fun K hK=>?_);refine gq_ Tryz.func54 #[.agg q.cs] ?_;refine (zev q HG.out _).mono ?_;rintro e w' ⟨rfl,hb⟩;refine⟨_,rfl,?_⟩;replace HB:=zF HB hb;replace BK1:=zC BK1 hb;clear hb;clear hHeld;refine hK.out _ _ ⟨BK1.out,(zA BK1.out 9).trans rfl,(zA BK1.out 10).trans rfl,(zA BK1.out 7).trans rfl,(zA BK1.out 8).trans rfl⟩ (fun hHeld=>?_);clear hK K;refine no_ (some 17) ?_;refine pw_ 9 20 (bb 12 1023) ?_;refine pw_ 10 2 (bb 12 2047) ?_;refine pw_ 11 3 (bb 12 4095) ?_;refine vF (by kernel_rfl) ?_;go_wp2_with (fail)
 go_ret2
 exact⟨by rw[HR.out];rfl,BL HB⟩
theorem jI:(Tryz.prog.info? 23).map (·.size)=some 3:=by kernel_rfl
structure zaR (q:Pat) (W:World):Prop where
 r0:Kd.C k80 W q.A0 q.l0.length q.l0
 r1:Kd.C k80 W q.A1 q.l1.length q.l1
 r3:Kd.C k80 W q.A3 q.l3.length q.l3
 r4:Kd.C k80 W q.A4 q.l4.length q.l4
 k0:q.l0.length≤q.c0
 k1:q.l1.length≤q.c1
 k3:q.l3.length≤q.c3
 k4:q.l4.length≤q.c4
 s0:q.l0.length≤1000
 s1:q.l1.length≤1000
 s3:q.l3.length≤1000
 s4:q.l4.length≤1000
 g0:uH q.l0
 g1:uH q.l1
 g3:uH q.l3
 g4:uH q.l4
theorem zaR.below {q:Pat} {W W':World} (h:zaR q W) (hb:Below W.heap.size W W'):zaR q W':=
 ⟨Kd.C_below h.r0 hb,Kd.C_below h.r1 hb,Kd.C_below h.r3 hb,Kd.C_below h.r4 hb,h.k0,h.k1,h.k3,h.k4,h.s0,h.s1,h.s3,h.s4,h.g0,h.g1,h.g3,h.g4⟩
def Pat.sg (q:Pat) (k:Int):Nat:=sgn k q.l0 q.l1 q.l3 q.l4
def Pat.mult (q:Pat):Int:=if 0<q.sg 4 then 2 else if 0<q.sg 5 then 3 else 0
theorem zfR {k:Int} (hk:k≠1) {l:List S80} (h:uH l):(l.any fun x=>k==x.f0&&0==x.f1)=decide (0<zbw k l):=by
 rw[Bool.eq_iff_iff,List.any_eq_true,decide_eq_true_iff];unfold zbw;rw[List.countP_pos_iff];constructor
 ·rintro⟨x,hx,h2⟩
  rw[Bool.and_eq_true] at h2;exact⟨x,hx,by rw[beq_iff_eq];exact (beq_iff_eq.1 h2.1).symm⟩
 rintro⟨x,hx,h2⟩;have e:=beq_iff_eq.1 h2;refine⟨x,hx,?_⟩;have:=(h x hx).2.2 (by rw[e];exact hk)
 rw[e,this];simp
theorem zot {q:Pat} {W:World} (h:zaR q W) {k:Int} (hk:k≠1):zbC.f q.l0 q.l1 q.hn q.l3 q.l4 q.P.mi q.P.xi q.P.mf q.P.xf q.P.ms q.P.xs q.P.pr q.P.se q.P.inc q.P.sci q.P.me q.P.pe q.at_ q.pad q.wd k=some (decide (0<q.sg k)):=by
 unfold zbC.f;rw[if_pos ⟨h.s0,h.s1,h.s3,h.s4⟩,List.any_append,List.any_append,List.any_append,zfR hk h.g0,zfR hk h.g1,zfR hk h.g3,zfR hk h.g4];congr 1
 unfold Pat.sg sgn;rw[Bool.eq_iff_iff];simp only[Bool.or_eq_true,decide_eq_true_eq]
 omega
theorem zjH (q:Pat) (k:Int) (hk:k≠1) (W:World) (h:zaR q W):Calls Tryz.prog 61 #[.agg q.cs,.int .i64 k] W fun e w'=>e=.returned (.bool (decide (0<q.sg k)))∧Below W.heap.size W w':=
 zbC.calls q.A0 q.c0 q.l0 q.A1 q.c1 q.l1 q.hn q.A3 q.c3 q.l3 q.A4 q.c4 q.l4 q.P.mi q.P.xi q.P.mf q.P.xf q.P.ms q.P.xs q.P.pr q.P.se q.P.inc q.P.sci q.P.me q.P.pe q.at_ q.pad q.wd k _ W h.r0 h.k0 h.r1 h.k1 h.r3 h.k3 h.r4 h.k4 (zot h hk)
set_option maxHeartbeats 4000000 in
set_option maxRecDepth 100000 in
theorem zfA (q:Pat) (w:World) (hr:zaR q w):Calls Tryz.prog 35 #[.agg q.cs] w fun e w'=>e=.returned (.int .i64 q.mult)∧Below w.heap.size w w':=by
 have HB:=K_ (Below.refl w.heap.size w);have HK:=K_ hr;have HM:=K_ (show q.mult=if 0<q.sg 4 then 2 else if 0<q.sg 5 then 3 else 0 from rfl);have H4:∀ W,zaR q W→Aside0 (Calls Tryz.prog 61 #[.agg q.cs,.int .i64 4] W fun e w'=>e=.returned (.bool (decide (0<q.sg 4)))∧Below W.heap.size W w'):=fun W h=>K_ (zjH q 4 (by decide) W h)
 have H5:∀ W,zaR q W→Aside0 (Calls Tryz.prog 61 #[.agg q.cs,.int .i64 5] W fun e w'=>e=.returned (.bool (decide (0<q.sg 5)))∧Below W.heap.size W w'):=fun W h=>K_ (zjH q 5 (by decide) W h)
 clear hr;go_enter Tryz.func35,Tryz.ntmps35
 go_upto_region 1 with ((with_reducible refine zE (N:=1) rfl ?_);refine bx_ 1 q.cs 26 ?_ rfl rfl rfl rfl rfl;intro g1 hg w2 hbox hb;have BK1:=K_ hbox;replace HB:=zF HB hb;clear hb hbox hg)
 by_cases h4:0<q.sg 4
 ·rw[if_pos h4] at HM
  rw[decide_eq_true h4] at H4;clear h4;go_wp2_with (first|((with_reducible refine zE (N:=4) rfl ?_);refine lo_ (g:=g1) (cs:=q.cs) _ ⟨BK BK1⟩ ?_ rfl rfl rfl Tryz.underlying26 rfl jX)|((with_reducible refine zE (N:=7) rfl ?_);refine lo_ (g:=g1) (cs:=q.cs) _ ⟨BK BK1⟩ ?_ rfl rfl rfl Tryz.underlying26 rfl jX)|(go_at_call 61;with_reducible refine ((H4 _ (HK.out.below (BL HB))).out).mono ?_;rintro e w' ⟨rfl,hb⟩;replace HB:=zF HB hb;replace BK1:=zC BK1 hb;clear hb)|(go_at_call 61;with_reducible refine ((H5 _ (HK.out.below (BL HB))).out).mono ?_;rintro e w' ⟨rfl,hb⟩;replace HB:=zF HB hb;replace BK1:=zC BK1 hb;clear hb))
  go_ret
  exact⟨by rw[HM.out];rfl,BL HB⟩
 rw[if_neg h4] at HM;rw[decide_eq_false h4] at H4;clear h4;by_cases h5:0<q.sg 5
 ·rw[if_pos h5] at HM
  rw[decide_eq_true h5] at H5;clear h5;go_wp2_with (first|((with_reducible refine zE (N:=4) rfl ?_);refine lo_ (g:=g1) (cs:=q.cs) _ ⟨BK BK1⟩ ?_ rfl rfl rfl Tryz.underlying26 rfl jX)|((with_reducible refine zE (N:=7) rfl ?_);refine lo_ (g:=g1) (cs:=q.cs) _ ⟨BK BK1⟩ ?_ rfl rfl rfl Tryz.underlying26 rfl jX)|(go_at_call 61;with_reducible refine ((H4 _ (HK.out.below (BL HB))).out).mono ?_;rintro e w' ⟨rfl,hb⟩;replace HB:=zF HB hb;replace BK1:=zC BK1 hb;clear hb)|(go_at_call 61;with_reducible refine ((H5 _ (HK.out.below (BL HB))).out).mono ?_;rintro e w' ⟨rfl,hb⟩;replace HB:=zF HB hb;replace BK1:=zC BK1 hb;clear hb))
  go_ret
  exact⟨by rw[HM.out];rfl,BL HB⟩
 rw[if_neg h5] at HM;rw[decide_eq_false h5] at H5;clear h5;go_wp2_with (first|((with_reducible refine zE (N:=4) rfl ?_);refine lo_ (g:=g1) (cs:=q.cs) _ ⟨BK BK1⟩ ?_ rfl rfl rfl Tryz.underlying26 rfl jX)|((with_reducible refine zE (N:=7) rfl ?_);refine lo_ (g:=g1) (cs:=q.cs) _ ⟨BK BK1⟩ ?_ rfl rfl rfl Tryz.underlying26 rfl jX)|(go_at_call 61;with_reducible refine ((H4 _ (HK.out.below (BL HB))).out).mono ?_;rintro e w' ⟨rfl,hb⟩;replace HB:=zF HB hb;replace BK1:=zC BK1 hb;clear hb)|(go_at_call 61;with_reducible refine ((H5 _ (HK.out.below (BL HB))).out).mono ?_;rintro e w' ⟨rfl,hb⟩;replace HB:=zF HB hb;replace BK1:=zC BK1 hb;clear hb))
 go_ret
 exact⟨by rw[HM.out];rfl,BL HB⟩
theorem zon {s:ByteArray} (h:s.size=0):s=⟨#[]⟩:=xN (List.length_eq_zero_iff.1 (by rw[←zR];exact h))
def zgs (P:jZ) (m:Int) (b:Bool) (s:ByteArray) (e:Int) (r:Bool×ByteArray×Int×Int):Prop:=
 (P.sci=true∨0<P.ms→Ev (fun k=>vA.f k m b s e (zaV P).2) r) ∧
 (¬ (P.sci=true∨0<P.ms)→P.inc.size≠0→Ev (fun k=>vH.f k m b s e P.inc (-P.xf)) r) ∧
 (¬ (P.sci=true∨0<P.ms)→P.inc.size=0→Ev (fun k=>uC.f k m b s e (-P.xf)) r)
set_option maxHeartbeats 8000000 in
set_option maxRecDepth 100000 in
theorem zdr (q:Pat) (hg:uS q.P) (m:Int) (b:Bool) (s:ByteArray) (e:Int) (r:Bool×ByteArray×Int×Int) (h:zgs q.P m b s e r) (w:World) (hG:Fig.Glob w) :
  Calls Tryz.prog 36 #[.agg q.cs,.int .i64 m,.agg #[.bool b,.string s,.int .i64 e]] w fun e w'=>e=.returned (.tuple #[.agg #[.bool r.1,.string r.2.1,.int .i64 r.2.2.1],.int .i64 r.2.2.2])∧Below w.heap.size w w':=by
 have HB:=K_ (Below.refl w.heap.size w);have HGD:=K_ hg;have HG:=K_ hG;have HR:=K_ h;have hwn:wrap64 (-q.P.xf)=-q.P.xf:=by have:=hg.mf0;have:=hg.mfx;have:=hg.xf4;unfold wrap64;omega
 clear hg hG h;go_enter Tryz.func36,Tryz.ntmps36
 go_upto_region 1 with (first|((with_reducible refine zE (N:=3) rfl ?_);refine bx_ 3 q.cs 26 ?_ rfl rfl rfl rfl rfl;intro g3 hg w2 hbox hb;have BK3:=K_ hbox;replace HB:=zF HB hb;clear hb hbox hg)|((with_reducible refine zE (N:=5) rfl ?_);refine bx_ 5 #[.bool b,.string s,.int .i64 e] 23 ?_ rfl rfl rfl rfl rfl;intro g5 hg w2 hbox hb;have BK5:=K_ hbox;have NB3_5:=nb_ hg BK3;replace BK3:=zC BK3 hb;replace HB:=zF HB hb;clear hb hbox hg)|((with_reducible refine zE (N:=6) rfl ?_);refine be_ 6 #[.bool false,.string (⟨#[]⟩:ByteArray),.int .i64 0] 23 ?_;intro g6 hg w2 hbox hb;have BK6:=K_ hbox;have GE6:=ge_ hg HB;have NB3_6:=nb_ hg BK3;replace BK3:=zC BK3 hb;have NB5_6:=nb_ hg BK5;replace BK5:=zC BK5 hb;replace HB:=zF HB hb;clear hb hbox hg))
 have e14:=(show w2.cell? ⟨g3,14,none⟩=some (.bool q.P.sci) from (zA BK3.out 14).trans rfl)
 have e9:=(show w2.cell? ⟨g3,9,none⟩=some (.int .i64 q.P.ms) from (zA BK3.out 9).trans rfl)
 have e13:=(show w2.cell? ⟨g3,13,none⟩=some (.string q.P.inc) from (zA BK3.out 13).trans rfl)
 have e8:=(show w2.cell? ⟨g3,8,none⟩=some (.int .i64 q.P.xf) from (zA BK3.out 8).trans rfl)
 by_cases hs:q.P.sci=true∨0<q.P.ms
 ·obtain⟨k,hk⟩:=Ev.rounds (HR.out.1 hs)
  have HKK:=K_ hk;clear hk e13 e8 HR;rcases hs with hs|hs
  ·rw[hs] at e14
   clear hs;go_wp2_with (first|((with_reducible refine zE (N:=19) rfl ?_);refine lo_ (g:=g3) (cs:=q.cs) _ ⟨BK BK3⟩ ?_ rfl rfl rfl Tryz.underlying26 rfl jX)|(go_at_call 25;refine (zgq q HGD.out _).mono ?_;rintro e w' ⟨rfl,hb⟩;replace HB:=zF HB hb;replace BK3:=zC BK3 hb;replace BK5:=zC BK5 hb;replace BK6:=zC BK6 hb;clear hb)|((with_reducible refine zE (N:=24) rfl ?_);refine lo_ (g:=g5) (cs:=#[.bool b,.string s,.int .i64 e]) _ ⟨BK BK5⟩ ?_ rfl rfl rfl Tryz.underlying23 rfl jI)|(go_at_call 62;refine (vA.calls k m b s e (zaV q.P).2 r.1 r.2.1 r.2.2.1 r.2.2.2 _ (Fig.Glob.below HG.out (BL HB)) HKK.out).mono ?_;rintro e w' ⟨rfl,hb⟩;replace HB:=zF HB hb;replace BK3:=zC BK3 hb;replace BK5:=zC BK5 hb;replace BK6:=zC BK6 hb;clear hb)|((with_reducible refine zW (p:=6) rfl ?_);refine so_ (g:=g6) (cs:=#[.bool false,.string (⟨#[]⟩:ByteArray),.int .i64 0]) (#[.bool r.1,.string r.2.1,.int .i64 r.2.2.1]) ⟨BK BK6⟩ ?_ rfl rfl rfl rfl rfl jI rfl rfl;intro w9 hbk hfar hbel;replace BK3:=K_ (hfar _ _ NB3_6.out (BK BK3));replace BK5:=K_ (hfar _ _ NB5_6.out (BK BK5));replace BK6:=K_ hbk;replace HB:=K_ (hbel _ _ GE6.out (BL HB));clear hbk hfar hbel))
   refine bodyPost_ret (jA rfl _ _ g6 23 #[.bool r.1,.string r.2.1,.int .i64 r.2.2.1] (0,0) _ rfl BK6.out Tryz.underlying23 rfl jI) rfl ?_;exact⟨rfl,BL HB⟩
  have d9:decide (0<q.P.ms)=true:=decide_eq_true hs;cases hsc:q.P.sci
  all_goals
   rw[hsc] at e14;clear hsc;go_wp2_with (first|((with_reducible refine zE (N:=19) rfl ?_);refine lo_ (g:=g3) (cs:=q.cs) _ ⟨BK BK3⟩ ?_ rfl rfl rfl Tryz.underlying26 rfl jX)|(go_at_call 25;refine (zgq q HGD.out _).mono ?_;rintro e w' ⟨rfl,hb⟩;replace HB:=zF HB hb;replace BK3:=zC BK3 hb;replace BK5:=zC BK5 hb;replace BK6:=zC BK6 hb;clear hb)|((with_reducible refine zE (N:=24) rfl ?_);refine lo_ (g:=g5) (cs:=#[.bool b,.string s,.int .i64 e]) _ ⟨BK BK5⟩ ?_ rfl rfl rfl Tryz.underlying23 rfl jI)|(go_at_call 62;refine (vA.calls k m b s e (zaV q.P).2 r.1 r.2.1 r.2.2.1 r.2.2.2 _ (Fig.Glob.below HG.out (BL HB)) HKK.out).mono ?_;rintro e w' ⟨rfl,hb⟩;replace HB:=zF HB hb;replace BK3:=zC BK3 hb;replace BK5:=zC BK5 hb;replace BK6:=zC BK6 hb;clear hb)|((with_reducible refine zW (p:=6) rfl ?_);refine so_ (g:=g6) (cs:=#[.bool false,.string (⟨#[]⟩:ByteArray),.int .i64 0]) (#[.bool r.1,.string r.2.1,.int .i64 r.2.2.1]) ⟨BK BK6⟩ ?_ rfl rfl rfl rfl rfl jI rfl rfl;intro w9 hbk hfar hbel;replace BK3:=K_ (hfar _ _ NB3_6.out (BK BK3));replace BK5:=K_ (hfar _ _ NB5_6.out (BK BK5));replace BK6:=K_ hbk;replace HB:=K_ (hbel _ _ GE6.out (BL HB));clear hbk hfar hbel))
   refine bodyPost_ret (jA rfl _ _ g6 23 #[.bool r.1,.string r.2.1,.int .i64 r.2.2.1] (0,0) _ rfl BK6.out Tryz.underlying23 rfl jI) rfl ?_;exact⟨rfl,BL HB⟩
 have hsc:q.P.sci=false:=by cases h:q.P.sci;rfl;exact absurd (.inl h) hs
 have d9:decide (0<q.P.ms)=false:=decide_eq_false (fun h=>hs (.inr h));rw[hsc] at e14;by_cases hi:q.P.inc.size=0
 ·obtain⟨k,hk⟩:=Ev.rounds (HR.out.2.2 hs hi)
  have HKK:=K_ hk;have hie:q.P.inc=⟨#[]⟩:=zon hi;rw[hie] at e13;clear hk HR hs hsc hi hie;go_wp2_with (first|((with_reducible refine zE (N:=44) rfl ?_);refine lo_ (g:=g5) (cs:=#[.bool b,.string s,.int .i64 e]) _ ⟨BK BK5⟩ ?_ rfl rfl rfl Tryz.underlying23 rfl jI)|(go_at_call 63;refine (uC.calls k m b s e (-q.P.xf) r.1 r.2.1 r.2.2.1 r.2.2.2 _ (Fig.Glob.below HG.out (BL HB)) HKK.out).mono ?_;rintro e w' ⟨rfl,hb⟩;replace HB:=zF HB hb;replace BK3:=zC BK3 hb;replace BK5:=zC BK5 hb;replace BK6:=zC BK6 hb;clear hb)|((with_reducible refine zW (p:=6) rfl ?_);refine so_ (g:=g6) (cs:=#[.bool false,.string (⟨#[]⟩:ByteArray),.int .i64 0]) (#[.bool r.1,.string r.2.1,.int .i64 r.2.2.1]) ⟨BK BK6⟩ ?_ rfl rfl rfl rfl rfl jI rfl rfl;intro w9 hbk hfar hbel;replace BK3:=K_ (hfar _ _ NB3_6.out (BK BK3));replace BK5:=K_ (hfar _ _ NB5_6.out (BK BK5));replace BK6:=K_ hbk;replace HB:=K_ (hbel _ _ GE6.out (BL HB));clear hbk hfar hbel))
  refine bodyPost_ret (jA rfl _ _ g6 23 #[.bool r.1,.string r.2.1,.int .i64 r.2.2.1] (0,0) _ rfl BK6.out Tryz.underlying23 rfl jI) rfl ?_;exact⟨rfl,BL HB⟩
 obtain⟨k,hk⟩:=Ev.rounds (HR.out.2.1 hs hi);have HKK:=K_ hk;have hie2:=zdv (Nat.pos_of_ne_zero hi);clear hk HR hs hsc hi;go_wp2_with (first|((with_reducible refine zE (N:=34) rfl ?_);refine lo_ (g:=g5) (cs:=#[.bool b,.string s,.int .i64 e]) _ ⟨BK BK5⟩ ?_ rfl rfl rfl Tryz.underlying23 rfl jI)|(go_at_call 47;refine (vH.calls k m b s e q.P.inc (-q.P.xf) r.1 r.2.1 r.2.2.1 r.2.2.2 _ (Fig.Glob.below HG.out (BL HB)) HKK.out).mono ?_;rintro e w' ⟨rfl,hb⟩;replace HB:=zF HB hb;replace BK3:=zC BK3 hb;replace BK5:=zC BK5 hb;replace BK6:=zC BK6 hb;clear hb)|((with_reducible refine zW (p:=6) rfl ?_);refine so_ (g:=g6) (cs:=#[.bool false,.string (⟨#[]⟩:ByteArray),.int .i64 0]) (#[.bool r.1,.string r.2.1,.int .i64 r.2.2.1]) ⟨BK BK6⟩ ?_ rfl rfl rfl rfl rfl jI rfl rfl;intro w9 hbk hfar hbel;replace BK3:=K_ (hfar _ _ NB3_6.out (BK BK3));replace BK5:=K_ (hfar _ _ NB5_6.out (BK BK5));replace BK6:=K_ hbk;replace HB:=K_ (hbel _ _ GE6.out (BL HB));clear hbk hfar hbel))
 refine bodyPost_ret (jA rfl _ _ g6 23 #[.bool r.1,.string r.2.1,.int .i64 r.2.2.1] (0,0) _ rfl BK6.out Tryz.underlying23 rfl jI) rfl ?_;exact⟨rfl,BL HB⟩
def zgE (q:Pat) (m:Int) (b:Bool) (s:ByteArray) (e:Int) (r:Bool×ByteArray×Int×Int):Prop:=
  (yF.f m=some false∧r=(false,⟨#[]⟩,0,1)) ∨
  (yF.f m=some true∧zbc.f b s e=some false∧r=(false,⟨#[]⟩,0,9)) ∨
  (yF.f m=some true∧zbc.f b s e=some true∧xV.f b s e=some false∧r=(false,⟨#[]⟩,0,10)) ∨
  (yF.f m=some true∧zbc.f b s e=some true∧xV.f b s e=some true∧∃ (x1:Bool) (x2:ByteArray) (x3:Int) (y:Bool×ByteArray×Int×Int),vS.f b s e q.mult=some (x1,x2,x3)∧zgs q.P m x1 x2 x3 y ∧
    ((y.2.2.2≠0∧r=(false,⟨#[]⟩,0,y.2.2.2)) ∨
     (y.2.2.2=0∧∃ (z1:Bool) (z2:ByteArray) (z3:Int) (g:Bool),vS.f y.1 y.2.1 y.2.2.1 (-q.mult)=some (z1,z2,z3)∧xV.f z1 z2 z3=some g∧r=if g=true then (z1,z2,z3,0) else (false,⟨#[]⟩,0,10))))
set_option maxHeartbeats 8000000 in
set_option maxRecDepth 100000 in
theorem zgL (q:Pat) (hg:uS q.P) (m:Int) (b:Bool) (s:ByteArray) (e:Int) (r:Bool×ByteArray×Int×Int) (h:zgE q m b s e r) (w:World) (hr:zaR q w) (hG:Fig.Glob w) :
    Calls Tryz.prog 14 #[.agg q.cs,.int .i64 m,.agg #[.bool b,.string s,.int .i64 e]] w fun e w'=>e=.returned (.tuple #[.agg #[.bool r.1,.string r.2.1,.int .i64 r.2.2.1],.int .i64 r.2.2.2])∧Below w.heap.size w w':=by
  have HB:=K_ (Below.refl w.heap.size w);have HGD:=K_ hg;have HG:=K_ hG;have HRW:=K_ hr;have hwn:wrap64 (-q.mult)=-q.mult:=by unfold Pat.mult wrap64;split;decide;split <;> decide
  clear hg hG hr;go_enter Tryz.func14,Tryz.ntmps14
  go_upto_region 1 with (first|((with_reducible refine zE (N:=3) rfl ?_);refine bx_ 3 q.cs 26 ?_ rfl rfl rfl rfl rfl;intro g3 hg w2 hbox hb;have BK3:=K_ hbox;replace HB:=zF HB hb;clear hb hbox hg)|((with_reducible refine zE (N:=5) rfl ?_);refine bx_ 5 #[.bool b,.string s,.int .i64 e] 23 ?_ rfl rfl rfl rfl rfl;intro g5 hg w2 hbox hb;have BK5:=K_ hbox;have NB3_5:=nb_ hg BK3;replace BK3:=zC BK3 hb;replace HB:=zF HB hb;clear hb hbox hg)|((with_reducible refine zE (N:=6) rfl ?_);refine be_ 6 #[.bool false,.string (⟨#[]⟩:ByteArray),.int .i64 0] 23 ?_;intro g6 hg w2 hbox hb;have BK6:=K_ hbox;have GE6:=ge_ hg HB;have NB3_6:=nb_ hg BK3;replace BK3:=zC BK3 hb;have NB5_6:=nb_ hg BK5;replace BK5:=zC BK5 hb;replace HB:=zF HB hb;clear hb hbox hg))
  rcases h with ⟨h1,rfl⟩|⟨h1,h2,rfl⟩|⟨h1,h2,h3,rfl⟩|⟨h1,h2,h3,x1,x2,x3,y,hx,hy,hend⟩
  · have HMG:=K_ h1
    clear h1;go_wp2_with (first|(go_at_call 32;refine (yF.calls m _ _ HMG.out).mono ?_;rintro e9 w' ⟨rfl,⟨nd,rfl⟩⟩)|((with_reducible refine zW (p:=6) rfl ?_);refine so_ (g:=g6) (cs:=#[.bool false,.string (⟨#[]⟩:ByteArray),.int .i64 0]) (#[.bool false,.string (⟨#[]⟩:ByteArray),.int .i64 0]) ⟨BK BK6⟩ ?_ rfl rfl rfl rfl rfl jI rfl rfl;intro w9 hbk hfar hbel;replace BK3:=K_ (hfar _ _ NB3_6.out (BK BK3));replace BK5:=K_ (hfar _ _ NB5_6.out (BK BK5));replace BK6:=K_ hbk;replace HB:=K_ (hbel _ _ GE6.out (BL HB));clear hbk hfar hbel))
    refine bodyPost_ret (jA rfl _ _ g6 23 #[.bool false,.string ⟨#[]⟩,.int .i64 0] (0,0) _ rfl BK6.out Tryz.underlying23 rfl jI) rfl ?_;exact⟨rfl,BL HB⟩
  · have HMG:=K_ h1
    have HDG:=K_ h2;clear h1 h2;go_wp2_with (first|(go_at_call 32;refine (yF.calls m _ _ HMG.out).mono ?_;rintro e9 w' ⟨rfl,⟨nd,rfl⟩⟩)|((with_reducible refine zE (N:=17) rfl ?_);refine lo_ (g:=g5) (cs:=#[.bool b,.string s,.int .i64 e]) _ ⟨BK BK5⟩ ?_ rfl rfl rfl Tryz.underlying23 rfl jI)|(go_at_call 33;refine (zbc.calls b s e _ _ HDG.out).mono ?_;rintro e9 w' ⟨rfl,hb⟩;replace HB:=zF HB hb;replace BK3:=zC BK3 hb;replace BK5:=zC BK5 hb;replace BK6:=zC BK6 hb;clear hb)|((with_reducible refine zW (p:=6) rfl ?_);refine so_ (g:=g6) (cs:=#[.bool false,.string (⟨#[]⟩:ByteArray),.int .i64 0]) (#[.bool false,.string (⟨#[]⟩:ByteArray),.int .i64 0]) ⟨BK BK6⟩ ?_ rfl rfl rfl rfl rfl jI rfl rfl;intro w9 hbk hfar hbel;replace BK3:=K_ (hfar _ _ NB3_6.out (BK BK3));replace BK5:=K_ (hfar _ _ NB5_6.out (BK BK5));replace BK6:=K_ hbk;replace HB:=K_ (hbel _ _ GE6.out (BL HB));clear hbk hfar hbel))
    refine bodyPost_ret (jA rfl _ _ g6 23 #[.bool false,.string ⟨#[]⟩,.int .i64 0] (0,0) _ rfl BK6.out Tryz.underlying23 rfl jI) rfl ?_;exact⟨rfl,BL HB⟩
  · have HMG:=K_ h1
    have HDG:=K_ h2;have HDR:=K_ h3;clear h1 h2 h3;go_wp2_with (first|(go_at_call 32;refine (yF.calls m _ _ HMG.out).mono ?_;rintro e9 w' ⟨rfl,⟨nd,rfl⟩⟩)|((with_reducible refine zE (N:=17) rfl ?_);refine lo_ (g:=g5) (cs:=#[.bool b,.string s,.int .i64 e]) _ ⟨BK BK5⟩ ?_ rfl rfl rfl Tryz.underlying23 rfl jI)|(go_at_call 33;refine (zbc.calls b s e _ _ HDG.out).mono ?_;rintro e9 w' ⟨rfl,hb⟩;replace HB:=zF HB hb;replace BK3:=zC BK3 hb;replace BK5:=zC BK5 hb;replace BK6:=zC BK6 hb;clear hb)|((with_reducible refine zE (N:=22) rfl ?_);refine lo_ (g:=g5) (cs:=#[.bool b,.string s,.int .i64 e]) _ ⟨BK BK5⟩ ?_ rfl rfl rfl Tryz.underlying23 rfl jI)|(go_at_call 34;refine (xV.calls b s e _ _ HDR.out).mono ?_;rintro e9 w' ⟨rfl,hb⟩;replace HB:=zF HB hb;replace BK3:=zC BK3 hb;replace BK5:=zC BK5 hb;replace BK6:=zC BK6 hb;clear hb)|((with_reducible refine zW (p:=6) rfl ?_);refine so_ (g:=g6) (cs:=#[.bool false,.string (⟨#[]⟩:ByteArray),.int .i64 0]) (#[.bool false,.string (⟨#[]⟩:ByteArray),.int .i64 0]) ⟨BK BK6⟩ ?_ rfl rfl rfl rfl rfl jI rfl rfl;intro w9 hbk hfar hbel;replace BK3:=K_ (hfar _ _ NB3_6.out (BK BK3));replace BK5:=K_ (hfar _ _ NB5_6.out (BK BK5));replace BK6:=K_ hbk;replace HB:=K_ (hbel _ _ GE6.out (BL HB));clear hbk hfar hbel))
    refine bodyPost_ret (jA rfl _ _ g6 23 #[.bool false,.string ⟨#[]⟩,.int .i64 0] (0,0) _ rfl BK6.out Tryz.underlying23 rfl jI) rfl ?_;exact⟨rfl,BL HB⟩
  have HMG:=K_ h1;have HDG:=K_ h2;have HDR:=K_ h3;have HX:=K_ hx;have HY:=K_ hy;have HEN:=K_ hend;clear h1 h2 h3 hx hy hend;go_upto_region 8 with (first|(go_at_call 32;refine (yF.calls m _ _ HMG.out).mono ?_;rintro e9 w' ⟨rfl,⟨nd,rfl⟩⟩)|((with_reducible refine zE (N:=17) rfl ?_);refine lo_ (g:=g5) (cs:=#[.bool b,.string s,.int .i64 e]) _ ⟨BK BK5⟩ ?_ rfl rfl rfl Tryz.underlying23 rfl jI)|(go_at_call 33;refine (zbc.calls b s e _ _ HDG.out).mono ?_;rintro e9 w' ⟨rfl,hb⟩;replace HB:=zF HB hb;replace BK3:=zC BK3 hb;replace BK5:=zC BK5 hb;replace BK6:=zC BK6 hb;clear hb)|((with_reducible refine zE (N:=22) rfl ?_);refine lo_ (g:=g5) (cs:=#[.bool b,.string s,.int .i64 e]) _ ⟨BK BK5⟩ ?_ rfl rfl rfl Tryz.underlying23 rfl jI)|(go_at_call 34;refine (xV.calls b s e _ _ HDR.out).mono ?_;rintro e9 w' ⟨rfl,hb⟩;replace HB:=zF HB hb;replace BK3:=zC BK3 hb;replace BK5:=zC BK5 hb;replace BK6:=zC BK6 hb;clear hb)|((with_reducible refine zE (N:=26) rfl ?_);refine lo_ (g:=g3) (cs:=q.cs) _ ⟨BK BK3⟩ ?_ rfl rfl rfl Tryz.underlying26 rfl jX)|(go_at_call 35;refine (zfA q _ (HRW.out.below (BL HB))).mono ?_;rintro e9 w' ⟨rfl,hb⟩;replace HB:=zF HB hb;replace BK3:=zC BK3 hb;replace BK5:=zC BK5 hb;replace BK6:=zC BK6 hb;clear hb))
  refine yI (n:=12) (S:=fun W=>W.heap[g3]?=some (.cells q.cs 26 (0,0))∧W.heap[g5]?=some (.cells #[.bool b,.string s,.int .i64 e] 23 (0,0))) (ds:=[]) #[false,false,false,false,false,false,false,false,false,false,false,false] (by kernel_rfl) rfl rfl ⟨BK BK3,BK BK5⟩ (fun hHeld=>?_);refine jL (fun W=>W.heap[g3]?=some (.cells q.cs 26 (0,0))∧W.heap[g5]?=some (.cells #[.bool b,.string s,.int .i64 e] 23 (0,0))∧W.heap[g6]?=some (.cells #[.bool false,.string (⟨#[]⟩:ByteArray),.int .i64 0] 23 (0,0))∧Below w.heap.size w W) ⟨BK BK3,BK BK5,BK BK6,BL HB⟩ ?_;clear hHeld BK3 BK5 BK6 HB;rintro W ⟨hb3,hb5,hb6,hbw⟩;have BK3:=K_ hb3;have BK5:=K_ hb5;have BK6:=K_ hb6;have HB:=K_ hbw;clear hb3 hb5 hb6 hbw;have hHeld:=(show W.heap[g3]?=some (.cells q.cs 26 (0,0))∧W.heap[g5]?=some (.cells #[.bool b,.string s,.int .i64 e] 23 (0,0)) from ⟨BK3.out,BK5.out⟩)
  refine tr_ 0 29 (bb 12 1) (q.cs) (fun _ hs=>⟨hs.1⟩) Tryz.underlying26 jX hHeld ?_;refine pw_ 1 30 (bb 12 3) ?_;refine tr_ 2 31 (bb 12 7) (#[.bool b,.string s,.int .i64 e]) (fun _ hs=>⟨hs.2⟩) Tryz.underlying23 jI hHeld ?_;refine pw_ 3 32 (bb 12 15) ?_;refine zbV (σ:=Nat) 2 (bb 12 1023) (fun g=>[(33,.agg #[.bool x1,.string x2,.int .i64 x3]),(34,(.tuple #[.agg #[.bool y.1,.string y.2.1,.int .i64 y.2.2.1],.int .i64 y.2.2.2])),(28,(.tuple #[.agg #[.bool y.1,.string y.2.1,.int .i64 y.2.2.1],.int .i64 y.2.2.2])),(35,.agg #[.bool y.1,.string y.2.1,.int .i64 y.2.2.1]),(36,.int .i64 y.2.2.2),(9,.pointer (some ⟨g,0,none⟩))]) (fun g W=>W.heap[g]?=some (.cells #[.bool false,.string (⟨#[]⟩:ByteArray),.int .i64 0] 23 (0,0))∧g3≠g∧g5≠g∧g6≠g∧w.heap.size≤g∧W.heap[g3]?=some (.cells q.cs 26 (0,0))∧W.heap[g5]?=some (.cells #[.bool b,.string s,.int .i64 e] 23 (0,0))∧W.heap[g6]?=some (.cells #[.bool false,.string (⟨#[]⟩:ByteArray),.int .i64 0] 23 (0,0))∧Below w.heap.size w W) ?hc8 ?hr8
  case hr8 =>
    intro hCont;refine zeb (i:=4) (j:=9) (Ni:=some 33) (Nj:=some 9) (bb 12 31) (bb 12 527) rfl rfl rfl rfl (by kernel_rfl) (by decide) (by decide) (fun K hK=>?_) (fun K hK=>?_)
    · skip
      refine gq_ Tryz.func37 #[.agg #[.bool b,.string s,.int .i64 e],.int .i64 q.mult] ?_;refine (vS.calls b s e q.mult x1 x2 x3 _ HX.out).mono ?_;rintro e9 w' ⟨rfl,hb⟩;refine⟨_,rfl,?_⟩;replace BK3:=zC BK3 hb;replace BK5:=zC BK5 hb;replace BK6:=zC BK6 hb;replace HB:=zF HB hb;clear hb hHeld;refine hK.out _ _ ⟨BK3.out,BK5.out⟩ (fun hHeld=>?_);clear hK K;refine no_ (some 33) ?_;refine zeb (i:=5) (j:=9) (Ni:=some 34) (Nj:=some 9) (bb 12 63) (bb 12 543) rfl rfl rfl rfl (by kernel_rfl) (by decide) (by decide) (fun K hK=>?_) (fun K hK=>?_)
      · skip
        refine gq_ Tryz.func36 #[.agg q.cs,.int .i64 m,.agg #[.bool x1,.string x2,.int .i64 x3]] ?_;refine (zdr q HGD.out m x1 x2 x3 y HY.out _ (Fig.Glob.below HG.out (BL HB))).mono ?_;rintro e9 w' ⟨rfl,hb⟩;refine⟨_,rfl,?_⟩;replace BK3:=zC BK3 hb;replace BK5:=zC BK5 hb;replace BK6:=zC BK6 hb;replace HB:=zF HB hb;clear hb hHeld;refine hK.out _ _ ⟨BK3.out,BK5.out⟩ (fun hHeld=>?_);clear hK K;refine no_ (some 34) ?_;refine pw_ 6 28 (bb 12 127) ?_;refine pw_ 7 35 (bb 12 255) ?_;refine pw_ 8 36 (bb 12 511) ?_;refine on_ 9 (some 9) (bb 12 1023) (fun K hK=>?_);refine bs_ 9 (#[.bool false,.string (⟨#[]⟩:ByteArray),.int .i64 0]) 23 ?_;intro g9 hg w' hbox hb;have BK9:=K_ hbox;have GE9:=ge_ hg HB;have NB3_9:=nb_ hg BK3;have NB5_9:=nb_ hg BK5;have NB6_9:=nb_ hg BK6;replace BK3:=zC BK3 hb;replace BK5:=zC BK5 hb;replace BK6:=zC BK6 hb;replace HB:=zF HB hb;clear hb hbox hg hHeld;refine hK.out _ _ ⟨BK3.out,BK5.out⟩ (fun hHeld=>?_);clear hK K;refine no_ (some 9) ?_;exact nj_ (hCont g9 _ ⟨BK9.out,NB3_9.out,NB5_9.out,NB6_9.out,GE9.out,BK3.out,BK5.out,BK6.out,HB.out⟩)
      skip
      refine bs_ 9 (#[.bool false,.string (⟨#[]⟩:ByteArray),.int .i64 0]) 23 ?_;intro g9 hg w' hbox hb;have BK9:=K_ hbox;have GE9:=ge_ hg HB;have NB3_9:=nb_ hg BK3;have NB5_9:=nb_ hg BK5;have NB6_9:=nb_ hg BK6;replace BK3:=zC BK3 hb;replace BK5:=zC BK5 hb;replace BK6:=zC BK6 hb;replace HB:=zF HB hb;clear hb hbox hg hHeld;refine hK.out _ _ ⟨BK3.out,BK5.out⟩ (fun hHeld=>?_);clear hK K;refine no_ (some 9) ?_;refine on_ 5 (some 34) (bb 12 575) (fun K hK=>?_);refine gq_ Tryz.func36 #[.agg q.cs,.int .i64 m,.agg #[.bool x1,.string x2,.int .i64 x3]] ?_;refine (zdr q HGD.out m x1 x2 x3 y HY.out _ (Fig.Glob.below HG.out (BL HB))).mono ?_;rintro e9 w' ⟨rfl,hb⟩;refine⟨_,rfl,?_⟩;replace BK3:=zC BK3 hb;replace BK5:=zC BK5 hb;replace BK6:=zC BK6 hb;replace BK9:=zC BK9 hb;replace HB:=zF HB hb;clear hb hHeld;refine hK.out _ _ ⟨BK3.out,BK5.out⟩ (fun hHeld=>?_);clear hK K;refine no_ (some 34) ?_;refine pw_ 6 28 (bb 12 639) ?_;refine pw_ 7 35 (bb 12 767) ?_;refine pw_ 8 36 (bb 12 1023) ?_;exact nj_ (hCont g9 _ ⟨BK9.out,NB3_9.out,NB5_9.out,NB6_9.out,GE9.out,BK3.out,BK5.out,BK6.out,HB.out⟩)
    skip
    refine bs_ 9 (#[.bool false,.string (⟨#[]⟩:ByteArray),.int .i64 0]) 23 ?_;intro g9 hg w' hbox hb;have BK9:=K_ hbox;have GE9:=ge_ hg HB;have NB3_9:=nb_ hg BK3;have NB5_9:=nb_ hg BK5;have NB6_9:=nb_ hg BK6;replace BK3:=zC BK3 hb;replace BK5:=zC BK5 hb;replace BK6:=zC BK6 hb;replace HB:=zF HB hb;clear hb hbox hg hHeld;refine hK.out _ _ ⟨BK3.out,BK5.out⟩ (fun hHeld=>?_);clear hK K;refine no_ (some 9) ?_;refine on_ 4 (some 33) (bb 12 543) (fun K hK=>?_);refine gq_ Tryz.func37 #[.agg #[.bool b,.string s,.int .i64 e],.int .i64 q.mult] ?_;refine (vS.calls b s e q.mult x1 x2 x3 _ HX.out).mono ?_;rintro e9 w' ⟨rfl,hb⟩;refine⟨_,rfl,?_⟩;replace BK3:=zC BK3 hb;replace BK5:=zC BK5 hb;replace BK6:=zC BK6 hb;replace BK9:=zC BK9 hb;replace HB:=zF HB hb;clear hb hHeld;refine hK.out _ _ ⟨BK3.out,BK5.out⟩ (fun hHeld=>?_);clear hK K;refine no_ (some 33) ?_;refine on_ 5 (some 34) (bb 12 575) (fun K hK=>?_);refine gq_ Tryz.func36 #[.agg q.cs,.int .i64 m,.agg #[.bool x1,.string x2,.int .i64 x3]] ?_;refine (zdr q HGD.out m x1 x2 x3 y HY.out _ (Fig.Glob.below HG.out (BL HB))).mono ?_;rintro e9 w' ⟨rfl,hb⟩;refine⟨_,rfl,?_⟩;replace BK3:=zC BK3 hb;replace BK5:=zC BK5 hb;replace BK6:=zC BK6 hb;replace BK9:=zC BK9 hb;replace HB:=zF HB hb;clear hb hHeld;refine hK.out _ _ ⟨BK3.out,BK5.out⟩ (fun hHeld=>?_);clear hK K;refine no_ (some 34) ?_;refine pw_ 6 28 (bb 12 639) ?_;refine pw_ 7 35 (bb 12 767) ?_;refine pw_ 8 36 (bb 12 1023) ?_;exact nj_ (hCont g9 _ ⟨BK9.out,NB3_9.out,NB5_9.out,NB6_9.out,GE9.out,BK3.out,BK5.out,BK6.out,HB.out⟩)
  case hc8 =>
    rintro g9 W8 ⟨hb9,nb3,nb5,nb6,ge9,hb3,hb5,hb6,hbw⟩;have BK3:=K_ hb3;have BK5:=K_ hb5;have BK6:=K_ hb6;have HB:=K_ hbw;clear hb3 hb5 hb6 hbw;have BK9:=K_ hb9;have NB3_9:=K_ nb3;have NB5_9:=K_ nb5;have NB6_9:=K_ nb6;have GE9:=K_ ge9;clear hb9 nb3 nb5 nb6 ge9 hHeld;refine np_ ?_;refine on_ 10 none (bb 12 2047) (fun K hK=>?_);refine yX (g:=g9) (cs:=#[.bool false,.string (⟨#[]⟩:ByteArray),.int .i64 0]) (#[.bool y.1,.string y.2.1,.int .i64 y.2.2.1]) BK9 ?_ rfl rfl rfl rfl rfl jI rfl rfl;intro w9 hbk hfar hbel;replace BK3:=K_ (hfar _ _ NB3_9.out BK3.out);replace BK5:=K_ (hfar _ _ NB5_9.out BK5.out);replace BK6:=K_ (hfar _ _ NB6_9.out BK6.out);replace BK9:=K_ hbk;replace HB:=K_ (hbel _ _ GE9.out HB.out);refine hK.out _ _ ⟨BK3.out,BK5.out⟩ (fun _=>?_);clear hK K hbk hfar hbel;refine pw_ 11 10 (bb 12 4095) ?_;refine vF (by kernel_rfl) ?_;clear BK3 BK5;rcases HEN.out with ⟨hy,rfl⟩|⟨hy,z1,z2,z3,g,hz,hg,rfl⟩
    · have d1:(y.2.2.2 !=0)=true:=bne_iff_ne.2 hy
      clear hy;go_wp2_with (first|((with_reducible refine zW (p:=6) rfl ?_);refine so_ (g:=g6) (cs:=#[.bool false,.string (⟨#[]⟩:ByteArray),.int .i64 0]) (#[.bool false,.string (⟨#[]⟩:ByteArray),.int .i64 0]) ⟨BK BK6⟩ ?_ rfl rfl rfl rfl rfl jI rfl rfl;intro w9 hbk hfar hbel;replace BK6:=K_ hbk;replace HB:=K_ (hbel _ _ GE6.out (BL HB));clear hbk hfar hbel))
      refine bodyPost_ret (jA rfl _ _ g6 23 #[.bool false,.string ⟨#[]⟩,.int .i64 0] (0,0) _ rfl BK6.out Tryz.underlying23 rfl jI) rfl ?_;exact⟨rfl,BL HB⟩
    have d1:(y.2.2.2 !=0)=false:=by rw[hy];rfl
    have HZ:=K_ hz;have HZR:=K_ hg;clear hy hz hg HEN;cases g
    · go_wp2_with (first|((with_reducible refine zE (N:=41) rfl ?_);refine lo_ (g:=g9) (cs:=#[.bool y.1,.string y.2.1,.int .i64 y.2.2.1]) _ ⟨BK BK9⟩ ?_ rfl rfl rfl Tryz.underlying23 rfl jI)|(go_at_call 37;refine (vS.calls y.1 y.2.1 y.2.2.1 (-q.mult) z1 z2 z3 _ HZ.out).mono ?_;rintro e9 w' ⟨rfl,hb⟩;replace HB:=zF HB hb;replace BK6:=zC BK6 hb;replace BK9:=zC BK9 hb;clear hb)|((with_reducible refine zW (p:=9) rfl ?_);refine so_ (g:=g9) (cs:=#[.bool y.1,.string y.2.1,.int .i64 y.2.2.1]) (#[.bool z1,.string z2,.int .i64 z3]) ⟨BK BK9⟩ ?_ rfl rfl rfl rfl rfl jI rfl rfl;intro w9 hbk hfar hbel;replace BK6:=K_ (hfar _ _ NB6_9.out (BK BK6));replace BK9:=K_ hbk;replace HB:=K_ (hbel _ _ GE9.out (BL HB));clear hbk hfar hbel)|((with_reducible refine zE (N:=45) rfl ?_);refine lo_ (g:=g9) (cs:=#[.bool z1,.string z2,.int .i64 z3]) _ ⟨BK BK9⟩ ?_ rfl rfl rfl Tryz.underlying23 rfl jI)|(go_at_call 34;refine (xV.calls z1 z2 z3 _ _ HZR.out).mono ?_;rintro e9 w' ⟨rfl,hb⟩;replace HB:=zF HB hb;replace BK6:=zC BK6 hb;replace BK9:=zC BK9 hb;clear hb)|((with_reducible refine zW (p:=6) rfl ?_);refine so_ (g:=g6) (cs:=#[.bool false,.string (⟨#[]⟩:ByteArray),.int .i64 0]) (#[.bool false,.string (⟨#[]⟩:ByteArray),.int .i64 0]) ⟨BK BK6⟩ ?_ rfl rfl rfl rfl rfl jI rfl rfl;intro w9 hbk hfar hbel;replace BK6:=K_ hbk;replace HB:=K_ (hbel _ _ GE6.out (BL HB));clear hbk hfar hbel))
      refine bodyPost_ret (jA rfl _ _ g6 23 #[.bool false,.string ⟨#[]⟩,.int .i64 0] (0,0) _ rfl BK6.out Tryz.underlying23 rfl jI) rfl ?_;exact⟨rfl,BL HB⟩
    go_wp2_with (first|((with_reducible refine zE (N:=41) rfl ?_);refine lo_ (g:=g9) (cs:=#[.bool y.1,.string y.2.1,.int .i64 y.2.2.1]) _ ⟨BK BK9⟩ ?_ rfl rfl rfl Tryz.underlying23 rfl jI)|(go_at_call 37;refine (vS.calls y.1 y.2.1 y.2.2.1 (-q.mult) z1 z2 z3 _ HZ.out).mono ?_;rintro e9 w' ⟨rfl,hb⟩;replace HB:=zF HB hb;replace BK6:=zC BK6 hb;replace BK9:=zC BK9 hb;clear hb)|((with_reducible refine zW (p:=9) rfl ?_);refine so_ (g:=g9) (cs:=#[.bool y.1,.string y.2.1,.int .i64 y.2.2.1]) (#[.bool z1,.string z2,.int .i64 z3]) ⟨BK BK9⟩ ?_ rfl rfl rfl rfl rfl jI rfl rfl;intro w9 hbk hfar hbel;replace BK6:=K_ (hfar _ _ NB6_9.out (BK BK6));replace BK9:=K_ hbk;replace HB:=K_ (hbel _ _ GE9.out (BL HB));clear hbk hfar hbel)|((with_reducible refine zE (N:=45) rfl ?_);refine lo_ (g:=g9) (cs:=#[.bool z1,.string z2,.int .i64 z3]) _ ⟨BK BK9⟩ ?_ rfl rfl rfl Tryz.underlying23 rfl jI)|(go_at_call 34;refine (xV.calls z1 z2 z3 _ _ HZR.out).mono ?_;rintro e9 w' ⟨rfl,hb⟩;replace HB:=zF HB hb;replace BK6:=zC BK6 hb;replace BK9:=zC BK9 hb;clear hb)|((with_reducible refine zE (N:=49) rfl ?_);refine lo_ (g:=g9) (cs:=#[.bool z1,.string z2,.int .i64 z3]) _ ⟨BK BK9⟩ ?_ rfl rfl rfl Tryz.underlying23 rfl jI)|((with_reducible refine zW (p:=6) rfl ?_);refine so_ (g:=g6) (cs:=#[.bool false,.string (⟨#[]⟩:ByteArray),.int .i64 0]) (#[.bool z1,.string z2,.int .i64 z3]) ⟨BK BK6⟩ ?_ rfl rfl rfl rfl rfl jI rfl rfl;intro w9 hbk hfar hbel;replace BK6:=K_ hbk;replace HB:=K_ (hbel _ _ GE6.out (BL HB));clear hbk hfar hbel))
    refine bodyPost_ret (jA rfl _ _ g6 23 #[.bool z1,.string z2,.int .i64 z3] (0,0) _ rfl BK6.out Tryz.underlying23 rfl jI) rfl ?_;exact⟨rfl,BL HB⟩
end Go.Proofs.YtcmgdjnjmobkoaaGreatDoor.Px
namespace Go.Proofs.YtcmgdjnjmobkoaaGreatDoor.Px
open Fig Go.RowKit Go.Proofs.YtcmgdjnjmobkoaaGreatDoorW.PrintWords Go.Proofs.YtcmgdjnjmobkoaaGreatDoorW.PrintLast Go.Proofs.YtcmgdjnjmobkoaaGreatDoorW.PrintMore
attribute [local go_sem] vK vL uE uD yS yP vM vJ
attribute [local go_sem] qQ qX qL qW qY qN qZ xA qT qS qU qV xB qO
def zcQ.f (a0_0:Bool) (a0_1:ByteArray) (a0_2:Int) (a1:Int):Option (Int):=if a1<a0_2 then (some 0) else (if a1 ≥ (wrap64 (a0_2+(a0_1.size:Int))) then (some 0) else (if 0≤(wrap64 ((wrap64 ((a0_1.size:Int)-1))-(wrap64 (a1-a0_2)))) then (if (wrap64 ((wrap64 ((a0_1.size:Int)-1))-(wrap64 (a1-a0_2))))<(a0_1.size:Int) then (some (((bt a0_1 (wrap64 ((wrap64 ((a0_1.size:Int)-1))-(wrap64 (a1-a0_2)))))-48) % 256)) else (none)) else (none)))
set_option maxHeartbeats 8000000 in
set_option maxRecDepth 100000 in
theorem zcQ.calls (a0_0:Bool) (a0_1:ByteArray) (a0_2:Int) (a1:Int) (r:Int) (w:World) (h:zcQ.f a0_0 a0_1 a0_2 a1=some r) :
  Calls Tryz.prog 96 #[.agg #[.bool a0_0,.string a0_1,.int .i64 a0_2],.int .i64 a1] w fun e w'=>e=.returned (.int .i64 r)∧Below w.heap.size w w':=by
 have hu23:=Tryz.underlying23;have HB:=K_ (Below.refl w.heap.size w);have H:(if a1<a0_2 then (some 0) else (if a1 ≥ (wrap64 (a0_2+(a0_1.size:Int))) then (some 0) else (if 0≤(wrap64 ((wrap64 ((a0_1.size:Int)-1))-(wrap64 (a1-a0_2)))) then (if (wrap64 ((wrap64 ((a0_1.size:Int)-1))-(wrap64 (a1-a0_2))))<(a0_1.size:Int) then (some (((bt a0_1 (wrap64 ((wrap64 ((a0_1.size:Int)-1))-(wrap64 (a1-a0_2)))))-48) % 256)) else (none)) else (none))))=some r:=h;clear h;by_cases c3:a1<a0_2
 ·rw[if_pos c3] at H
  have c3b0:decide (a1<a0_2)=true:=decide_eq_true c3;clear c3;obtain rfl:=Option.some.inj H;go_enter Tryz.func96,Tryz.ntmps96
  go_wp2_with (first|((with_reducible refine zE (N:=2) rfl ?_);(try (refine vQ (by rfl) ?_;dsimp only));refine be_ 2 #[.bool a0_0,.string a0_1,.int .i64 a0_2] 23 ?_;intro gb557 hg w4 hbox hb;have BK557:=K_ (hbox);have GW557:=ge_ hg HB;have GE557:=ge_ hg HB;replace HB:=zF HB hb;clear hb hbox hg;obtain⟨⟨hcz5_0,hcz5_1,hcz5_2⟩,hfz5_0,hfz5_1,hfz5_2⟩:=ce3 BK557))
  go_ret
  exact⟨ER,BL HB⟩
 rw[if_neg c3] at H;have c3b0:decide (a1<a0_2)=false:=decide_eq_false c3;clear c3;by_cases c6:a1 ≥ (wrap64 (a0_2+(a0_1.size:Int)))
 ·rw[if_pos c6] at H
  have c6b0:decide ((wrap64 (a0_2+(a0_1.size:Int)))≤a1)=true:=decide_eq_true c6;clear c6;obtain rfl:=Option.some.inj H;go_enter Tryz.func96,Tryz.ntmps96
  go_wp2_with (first|((with_reducible refine zE (N:=2) rfl ?_);(try (refine vQ (by rfl) ?_;dsimp only));refine be_ 2 #[.bool a0_0,.string a0_1,.int .i64 a0_2] 23 ?_;intro gb557 hg w7 hbox hb;have BK557:=K_ (hbox);have GW557:=ge_ hg HB;have GE557:=ge_ hg HB;replace HB:=zF HB hb;clear hb hbox hg;obtain⟨⟨hcz8_0,hcz8_1,hcz8_2⟩,hfz8_0,hfz8_1,hfz8_2⟩:=ce3 BK557))
  go_ret
  exact⟨ER,BL HB⟩
 rw[if_neg c6] at H;have c6b0:decide ((wrap64 (a0_2+(a0_1.size:Int)))≤a1)=false:=decide_eq_false c6;clear c6;obtain⟨ji9,hji9⟩:∃ j_:Int,(wrap64 ((wrap64 ((a0_1.size:Int)-1))-(wrap64 (a1-a0_2))))=j_:=⟨_,rfl⟩
 replace H:(if 0≤(ji9) then (if (ji9)<(a0_1.size:Int) then (some (((bt a0_1 (ji9))-48) % 256)) else (none)) else (none))=some r:=by first|(rw[hji9] at H;exact H)|(simp only[hji9] at H ⊢;exact H)
 have hji9w:(IntKind.i64.wrap ((wrap64 ((a0_1.size:Int)-1))-(wrap64 (a1-a0_2))))=ji9:=(vY _).trans hji9;by_cases c10:0≤(ji9)
 ·rw[if_pos c10] at H
  have c10b0:decide (0≤(ji9))=true:=decide_eq_true c10;clear c10;by_cases c11:(ji9)<(a0_1.size:Int)
  ·rw[if_pos c11] at H
   have c11b0:decide ((ji9)<(a0_1.size:Int))=true:=decide_eq_true c11;clear c11;obtain rfl:=Option.some.inj H;go_enter Tryz.func96,Tryz.ntmps96
   go_wp2_with (first|((with_reducible refine zE (N:=2) rfl ?_);(try (refine vQ (by rfl) ?_;dsimp only));refine be_ 2 #[.bool a0_0,.string a0_1,.int .i64 a0_2] 23 ?_;intro gb557 hg w13 hbox hb;have BK557:=K_ (hbox);have GW557:=ge_ hg HB;have GE557:=ge_ hg HB;replace HB:=zF HB hb;clear hb hbox hg;obtain⟨⟨hcz14_0,hcz14_1,hcz14_2⟩,hfz14_0,hfz14_1,hfz14_2⟩:=ce3 BK557;have p12:0≤((ji9):Int):=of_decide_eq_true (by first|(with_reducible assumption)|assumption);have q12:(ji9)<(a0_1.size:Int):=of_decide_eq_true (by first|(with_reducible assumption)|assumption);have hx12:=zap a0_1 (ji9);replace p12:=eq_true p12;replace q12:=eq_true q12))
   go_ret
   exact⟨by first|rfl|(simp[yR,yO] <;> rfl)|(simp only[←hji9];first|rfl|(simp[yR,yO] <;> rfl))|(simp[*,yR,yO] <;> rfl),BL HB⟩
  rw[if_neg c11] at H;exact absurd H (by simp)
 rw[if_neg c10] at H;exact absurd H (by simp)
theorem zqq (p:Nat) (e a:Int) (hp:p≤1000000) (h1:-1000000≤e) (h2:e≤a) (h3:a<e+(p:Int)) (h4:e≤1000000):wrap64 (wrap64 ((p:Int)-1)-wrap64 (a-e))=(p:Int)-1-(a-e):=by
 rw[w64 (x:=(p:Int)-1) (by omega) (by omega),w64 (x:=a-e) (by omega) (by omega),w64 (by omega) (by omega)]
theorem zqh {b:Bool} {s:ByteArray} {e a:Int} (h:OkD s e):zcQ.f b s e a=some (zcS (vB s) e a):=by
 have hz:=h.val;have h1:=h.sz;have h2:=h.lo;have h3:=h.hi;unfold zcQ.f;by_cases c1:a<e
 ·rw[if_pos c1];unfold zcS;rw[if_pos c1]
 rw[if_neg c1,w64 (x:=e+(s.size:Int)) (by omega) (by omega)];by_cases c2:a ≥ e+(s.size:Int)
 ·rw[if_pos c2,zpz (by omega)]
 rw[if_neg c2,zqq s.size e a (by omega) (by omega) (by omega) (by omega) (by omega)];obtain⟨j,hj⟩:∃ j:Nat,j=(a-e).toNat:=⟨_,rfl⟩
 have hj2:j<s.size:=by omega
 have e1:(s.size:Int)-1-(a-e)=((s.size-1-j:Nat):Int):=by omega
 rw[e1,if_pos (by omega),if_pos (by omega),zcM (by omega),zoc h.d hj2];unfold zcS;rw[if_neg c1,←hj];congr 1
 have:=Nat.mod_lt (vB s / 10 ^ j) (show 0<10 by decide)
 omega
end Go.Proofs.YtcmgdjnjmobkoaaGreatDoor.Px
namespace Go.Proofs.YtcmgdjnjmobkoaaGreatDoor.Px
set_option linter.all false
open Fig Go.RowKit Go.Proofs.YtcmgdjnjmobkoaaGreatDoorW.PrintWords Go.Proofs.YtcmgdjnjmobkoaaGreatDoorW.PrintLast Go.Proofs.YtcmgdjnjmobkoaaGreatDoorW.PrintMore
attribute [local go_sem] vK vL uE uD yS yP vM vJ
theorem zli (B b:Nat) (bs:List Value) (c:Int) (w:World) (h:Lib.IsBuilderF 118 5 B b bs w) (hlen:bs.length+1≤140737488355328) (hBw:B≤w.heap.size) :
  Calls Tryz.prog 95 #[.pointer (some ⟨b,0,none⟩),.int .u8 c] w fun e w'=>e=.returned .nilIface∧Lib.BuilderAtF 118 5 B b (.pointer (some ⟨b,0,none⟩)) (bs++[.int .u8 c]) w'∧Below B w w'∧Lib.OthersKept 5 (some b) w w':=by
 obtain⟨i0,hi,hz0,hz1,hz2⟩:=info_parts (show (Tryz.prog.info? 5).map (fun i=>(i.zero,i.size,i.bytes))=some (some (.int .u8 0),1,1) by kernel_rfl);go_enter Tryz.func95,Tryz.ntmps95
 go_wp2_with (go_at_call 129;refine (cc B b bs _ h).mono ?_)
 rintro e w1 ⟨rfl,h1,hb1,hk1⟩;obtain⟨hB,v,hbk,hown,hne⟩:=h1;have c0:w1.cell? ⟨b,0,none⟩=some (.pointer (some ⟨b,0,none⟩)):=by rw[Lib.cell_of_heap hbk];rfl
 have c1:w1.cell? ⟨b,1,none⟩=some v:=by rw[Lib.cell_of_heap hbk];rfl
 have hlt:b<w1.heap.size:=by
  rcases Nat.lt_or_ge b w1.heap.size with h'|h'
  ·exact h'
  simp[Array.getElem?_eq_none h'] at hbk
 go_wp2_with (at_builtin;refine wpList_append_ownF _ rfl _ _ 107 rfl B 5 i0 (.int .u8 0) 1 1 Tryz.underlying107 hi hz0 hz1 hz2 rfl (by decide) _ _ _ rfl (hown.alloc _) ⟨w1.heap.size,0,none⟩ 1 1 [.int .u8 c] rfl rfl ?c1 ?c2 ?c3 ?c4 ?c5 ?_)
 case c1 =>
  intro j u hj
  match j,hj with
  | 0,hj=>simp at hj;subst hj;simp[Addr.add]
 case c2=>intro u hu;simp at hu;subst hu;rfl
 case c3=>unfold maxLen;omega
 case c4=>omega
 case c5=>have:=hb1.size;simp;omega
 intro v' w2 hown' hgrow _;have hb2:w2.heap[b]?=some (.cells #[.pointer (some ⟨b,0,none⟩),v] 118 (0,0)):=by
  rw[hgrow.block b (by simp;omega) (fun e=>hne e.symm),heap_alloc_old _ _ hlt];exact hbk
 have d0:w2.cell? ⟨b,0,none⟩=some (.pointer (some ⟨b,0,none⟩)):=by rw[Lib.cell_of_heap hb2];rfl
 have d1:w2.cell? ⟨b,1,none⟩=some v:=by rw[Lib.cell_of_heap hb2];rfl
 have f1:w2.frozen? ⟨b,1,none⟩=false:=Lib.frozen_of_heap hb2 1;obtain⟨ao,n',cap,rfl⟩:∃ ao n' cap,v'=.slice ao n' cap:=by
  rcases hown'.2 with ⟨hv,_⟩|⟨g,cap,cur,fz,hv,_⟩
  ·exact⟨_,_,_,hv⟩
  exact⟨_,_,_,hv⟩
 go_wp2
 go_ret
 refine⟨rfl,?_,?_,?_⟩
 ·exact Lib.BuilderAtF.put (T:=118) (e:=5) hB hb2 (bs':=bs++[.int .u8 c]) (by simpa using hown') (by decide)
 ·exact ((hb1.alloc (Nat.le_trans hBw hb1.size) _).grown hgrow (by have:=hb1.size;simp;omega) (fun k hk=>(hown.lt k hk).1)).setCell (p:=⟨b,1,none⟩) hB _
 exact ((hk1.alloc _).grown hgrow (Lib.ownsRowF_kind (hown.alloc _))).setCell ⟨b,1,none⟩ rfl _
def dgB (n:Nat) (e p:Int):UInt8:=UInt8.ofNat (48+(zcS n e p).toNat)
def zbv (n:Nat) (e hi:Int):Nat→List UInt8
 | 0=>[]
 | k+1=>zbv n e hi k++[dgB n e (hi-k)]
def yE (n:Nat) (e hi lo:Int):ByteArray:=⟨(zbv n e hi (hi-lo+1).toNat).toArray⟩
theorem zfj (n:Nat) (e hi:Int):∀ k,(zbv n e hi k).length=k
 | 0=>rfl
 | k+1=>by rw[zbv,List.length_append,zfj n e hi k];rfl
theorem zkv (n:Nat) (e p:Int):0≤zcS n e p∧zcS n e p≤9:=by
 unfold zcS;split
 ·omega
 have:=Nat.mod_lt (n / 10 ^ (p-e).toNat) (show 0<10 by decide);omega
theorem zoC (n:Nat) (e p:Int):((dgB n e p).toNat:Int)=48+zcS n e p:=by
 have:=zkv n e p
 unfold dgB;rw[UInt8.toNat_ofNat'];omega
theorem zjf (c:UInt8):Lib.byteCells [c]=[Value.int .u8 (c.toNat:Int)]:=rfl
theorem zmp {B g n:Nat} {e hi p dv:Int} {k:Nat} {w:World} {q:Value} (h:Lib.BuilderAtF 118 5 B g q (Lib.byteCells (zbv n e hi k)++[Value.int .u8 (48+dv)]) w) (h1:dv=zcS n e p) (h2:p=hi-(k:Int)):Lib.BuilderAtF 118 5 B g q (Lib.byteCells (zbv n e hi (k+1))) w:=by
 have e1:Lib.byteCells (zbv n e hi k)++[Value.int .u8 (48+dv)]=Lib.byteCells (zbv n e hi (k+1)):=by
  rw[show zbv n e hi (k+1)=zbv n e hi k++[dgB n e (hi-k)] from rfl,←zdw,zjf,zoC,h1,h2]
 rw[e1] at h;exact h
set_option maxHeartbeats 8000000 in
set_option maxRecDepth 100000 in
theorem zmT (b:Bool) (s:ByteArray) (e:Int) (ok:OkD s e) (hi lo:Int) (h1:-200000≤lo) (h2:hi≤200000) (h3:lo≤200000) (h4:-200000≤hi) (w:World) :
  Calls Tryz.prog 66 #[.agg #[.bool b,.string s,.int .i64 e],.int .i64 hi,.int .i64 lo] w fun e' w'=>e'=.returned (.string (yE (vB s) e hi lo))∧Below w.heap.size w w':=by
 have HB:=K_ (Below.refl w.heap.size w);have HOK:=K_ ok;clear ok;go_enter Tryz.func66,Tryz.ntmps66
 go_upto_region 2 with (first|((with_reducible refine zE (N:=3) rfl ?_);refine bx_ 3 (#[.bool b,.string s,.int .i64 e]) 23 ?_ rfl rfl rfl rfl rfl;intro g3 hg w2 hbox hb;have BK3:=K_ hbox;have GE3:=ge_ hg HB;replace HB:=zF HB hb;clear hb hbox hg)|((with_reducible refine zE (N:=7) rfl ?_);refine be_ 7 (#[.pointer none,.slice none 0 0]) 118 ?_;intro g7 hg w3 hbox hb;have BK7:=K_ hbox;have GE7:=ge_ hg HB;have NB3_7:=nb_ hg BK3;replace BK3:=zC BK3 hb;replace HB:=zF HB hb;clear hb hbox hg))
 have HBD:=K_ (show Lib.IsBuilderF 118 5 w.heap.size g7 (Lib.byteCells (zbv (vB s) e hi 0)) w3 from Or.inl ⟨GE7.out,.slice none 0 0,BK7.out,⟨rfl,.inl ⟨rfl,rfl⟩⟩,by simp[Value.ownBlock]⟩);clear BK7;go_wp2_with (fail)
 go_loopw [8] (fun v wr=>∃ k:Nat,k≤(hi-lo+1).toNat∧v=.int .i64 (hi-k)∧Lib.IsBuilderF 118 5 w.heap.size g7 (Lib.byteCells (zbv (vB s) e hi k)) wr∧wr.heap[g3]?=some (.cells #[.bool b,.string s,.int .i64 e] 23 (0,0))∧Below w.heap.size w wr) (fun v _=>(intOf v-lo+1).toNat)
 case atStart=>exact⟨0,Nat.zero_le _,by simp,HBD.out,BK BK3,BL HB⟩
 case round =>
  obtain⟨k,hk,rfl,hbd,hb3,hbw⟩:=hrel;replace HBD:=K_ hbd;replace BK3:=K_ hb3;replace HB:=K_ hbw;clear hbd hb3 hbw;have HSZ:=K_ (show (Lib.byteCells (zbv (vB s) e hi k)).length+1≤140737488355328 by simp only[Lib.byteCells,List.length_map,zfj];omega);obtain⟨p,hp⟩:∃ p,p=hi-(k:Int):=⟨_,rfl⟩
  rw[←hp];by_cases hlt:lo≤p
  ·have dlt:decide (p ≥ lo)=true:=decide_eq_true hlt
   have HD:=K_ (zqh (b:=b) (a:=p) HOK.out);obtain⟨dv,hdv⟩:∃ dv,dv=zcS (vB s) e p:=⟨_,rfl⟩
   have hdb:=zkv (vB s) e p;rw[←hdv] at HD hdb;have hw1:wrap64 (48+dv)=48+dv:=w64 (by omega) (by omega);have hw2:IntKind.u8.wrap (48+dv)=48+dv:=by rw[IntKind.wrap_u8];omega
   have hw3:wrap64 (p-1)=p-1:=w64 (by omega) (by omega);have HDV:=K_ hdv;have HP:=K_ hp;clear hdv hdb hp;go_wp2_with (first
    | ((with_reducible refine zE (N:=15) rfl ?_);refine lo_ (g:=g3) (cs:=#[.bool b,.string s,.int .i64 e]) _ ⟨BK BK3⟩ ?_ rfl rfl rfl Tryz.underlying23 rfl jI)
    | (go_at_call 96;refine (zcQ.calls b s e p dv _ HD.out).mono ?_;rintro e9 w' ⟨rfl,hb⟩;replace HBD:=K_ (zdz HBD.out hb);replace HB:=zF HB hb;replace BK3:=zC BK3 hb;clear hb)
    | (go_at_call 95;refine (zli w.heap.size g7 _ (48+dv) _ HBD.out HSZ.out HB.out.size).mono ?_;rintro e9 w1 ⟨rfl,hbd,hbb,hok⟩;replace BK3:=K_ (hok _ _ BK3.out (fun hh=>by cases hh;exact NB3_7.out rfl) (fun cs fz hh=>by cases hh));replace HB:=K_ (HB.out.trans hbb);replace HBD:=K_ hbd;clear hbd hbb hok))
   go_roundw
   case rel =>
    refine⟨k+1,by have:=HP.out;omega,?_,.inr ?_,BK3.out,HB.out⟩
    ·exact congrArg (Value.int .i64) (by have:=HP.out;omega)
    exact zmp HBD.out HDV.out HP.out
   case measure=>simp only[intOf];omega
  have dlt:decide (p ≥ lo)=false:=decide_eq_false hlt;have hk2:k=(hi-lo+1).toNat:=by omega
  clear hp;go_wp2_with (first
   | (go_at_call 97;refine (Tryz.Builder_String_any_k w.heap.size g7 (zbv (vB s) e hi k) _ HBD.out HB.out.size).mono ?_;rintro e9 w1 ⟨rfl,hbd,hbb,hok⟩;replace HB:=K_ (HB.out.trans hbb);clear hbd hbb hok))
  go_ret
  refine⟨?_,BL HB⟩;first|rfl|(rw[hk2];rfl)
end Go.Proofs.YtcmgdjnjmobkoaaGreatDoor.Px
namespace Go.Proofs.YtcmgdjnjmobkoaaGreatDoor.Px
open Fig Go.RowKit Go.Proofs.YtcmgdjnjmobkoaaGreatDoorW.PrintWords Go.Proofs.YtcmgdjnjmobkoaaGreatDoorW.PrintLast Go.Proofs.YtcmgdjnjmobkoaaGreatDoorW.PrintMore
attribute [local go_sem] vK vL uE uD yS yP vM vJ
attribute [local go_sem] qQ qX qL qW qY qN qZ xA qT qS qU qV xB qO
def zhQ.f (a0_0:Bool) (a0_1:ByteArray) (a0_2:Int):Option (Int):=(yB.f a0_0 a0_1 a0_2).bind fun bt612=>(some (bt612.2.1.size:Int))
end Go.Proofs.YtcmgdjnjmobkoaaGreatDoor.Px
namespace Go.Proofs.YtcmgdjnjmobkoaaGreatDoor.Px
set_option linter.all false
open Fig Go.RowKit Go.Proofs.YtcmgdjnjmobkoaaGreatDoorW.PrintWords Go.Proofs.YtcmgdjnjmobkoaaGreatDoorW.PrintLast Go.Proofs.YtcmgdjnjmobkoaaGreatDoorW.PrintMore
attribute [local go_sem] vK vL uE uD yS yP vM vJ

structure zdm (P:jZ):Prop where
 dig:P.inc.size≠0→dB P.inc=true∧vB P.inc≠0
 sci:P.inc.size≠0→P.sci=false
 frac:P.inc.size≠0→P.mf=P.xf
theorem znu (l:List UInt8):l.any (fun c=>decide (48<c.toNat))=decide (rv l≠0):=by
 induction l with
 | nil=>rfl
 | cons c l ih =>
  rw[List.any_cons,ih,Bool.eq_iff_iff];rw[Bool.or_eq_true,decide_eq_true_eq,decide_eq_true_eq,decide_eq_true_eq];show _ ↔ c.toNat-48+10 * rv l≠0
  omega
theorem znd (s:ByteArray):s.data.toList.any (fun c=>decide (48<c.toNat))=decide (vB s≠0):=by
 unfold vB;rw[←znu,List.any_reverse]
theorem zgo:∀ (l ts:List UInt8),uW ts l=true→∀ x∈l,∃ t∈ts,xW t x=true
 | [],_,_,x,hx=>by cases hx
 | y :: l,ts,h,x,hx=>by
  have h2:(!(zaH y ts).isEmpty&&uW (zaH y ts) l)=true:=h;rw[Bool.and_eq_true] at h2;have hsub:∀ t∈zaH y ts,t∈ts:=fun t ht=>List.dropWhile_sublist _ |>.subset ht
  rcases List.mem_cons.1 hx with rfl|hx
  ·cases hq:zaH x ts with
   | nil=>rw[hq] at h2;exact absurd h2.1 (by decide)
   | cons t r =>
    have ht:t∈zaH x ts:=by rw[hq];exact List.mem_cons_self
    refine⟨t,hsub t ht,?_⟩;have:=List.head?_dropWhile_not (fun t=>!xW t x) ts
    unfold zaH at hq;rw[hq] at this;simpa using this
  obtain⟨t,ht,h3⟩:=zgo l _ h2.2 x hx;exact⟨t,hsub t ht,h3⟩
theorem zpU {x:UInt8} (h1:48≤x.toNat) (h2:x.toNat≤57):isD x=true:=by
 unfold isD;simp[h1,h2]
theorem zgl {x:UInt8} (h:xW 48 x=true):48≤x.toNat∧x.toNat≤57:=by
 unfold xW at h;rw[Bool.or_eq_true] at h;rcases h with h|h
 ·rw[eq_of_beq h];decide
 simpa using h
theorem zht {x:UInt8} (h:xW 35 x=true):x=35:=by
 unfold xW at h;rw[Bool.or_eq_true] at h;rcases h with h|h
 ·exact eq_of_beq h
 exact absurd h (by simp)
theorem zou {pl fr:ByteArray} (h1:uW [35,48,48] pl.data.toList=true) (h2:uW [48,35,35] fr.data.toList=true) (h3:(uF (xE 35 (pl++fr).data.toList)).size≠0) :
  dB (uF (xE 35 (pl++fr).data.toList))=true∧vB (uF (xE 35 (pl++fr).data.toList))≠0:=by
 obtain⟨L,hL⟩:∃ L,L=(pl++fr).data.toList.filter (· !=35):=⟨_,rfl⟩
 have hs:uF (xE 35 (pl++fr).data.toList)=⟨(L.dropWhile (·==48)).toArray⟩:=by rw[hL];rfl
 have hd:∀ x∈L,48≤x.toNat∧x.toNat≤57:=by
  intro x hx;rw[hL,List.mem_filter] at hx;have hne:x≠35:=by simpa using hx.2
  have hm:x∈pl.data.toList∨x∈fr.data.toList:=by
   have:=hx.1
   rw[show (pl++fr).data.toList=pl.data.toList++fr.data.toList by simp] at this;exact List.mem_append.1 this
  rcases hm with hm|hm
  ·obtain⟨t,ht,h⟩:=zgo _ _ h1 x hm
   simp only[List.mem_cons,List.not_mem_nil,or_false] at ht
   rcases ht with rfl|rfl|rfl
   ·exact absurd (zht h) hne
   ·exact zgl h
   exact zgl h
  obtain⟨t,ht,h⟩:=zgo _ _ h2 x hm;simp only[List.mem_cons,List.not_mem_nil,or_false] at ht
  rcases ht with rfl|rfl|rfl
  ·exact zgl h
  ·exact absurd (zht h) hne
  exact absurd (zht h) hne
 rw[hs] at h3 ⊢;constructor
 ·show yH (L.dropWhile (·==48)).toArray.toList=true
  rw[List.toList_toArray,zcj];intro c hc;have:=hd c (List.dropWhile_sublist _ |>.subset hc)
  exact zpU this.1 this.2
 have:=znd ⟨(L.dropWhile (·==48)).toArray⟩
 cases hq:L.dropWhile (·==48) with
 | nil=>rw[hq] at h3;exact absurd rfl h3
 | cons c r =>
  have hc:=List.head?_dropWhile_not (·==(48:UInt8)) L;rw[hq] at hc;have hc:(c==48)=false:=by simpa using hc
  have hcm:=hd c (List.dropWhile_sublist (·==(48:UInt8)) |>.subset (by rw[hq];exact List.mem_cons_self));have hc48:48<c.toNat:=by
   have:c.toNat≠48:=fun e=>by
    have:c=48:=UInt8.toNat_inj.1 e
    rw[this] at hc;exact absurd hc (by decide)
   omega
  rw[hq] at this;have ha:(⟨(c :: r).toArray⟩:ByteArray).data.toList.any (fun c=>decide (48<c.toNat))=true:=by
   show (c :: r).toArray.toList.any _=true
   rw[List.toList_toArray,List.any_cons,decide_eq_true hc48];rfl
  rw[ha] at this;exact of_decide_eq_true this.symm
theorem zmU {sc pt:Bool} {sz:List Int} {pl fr:ByteArray} {P P':jZ} (hz:P.inc.size=0) (hsc:P.sci=sc) (h:zfg sc pt sz pl fr P=some P'):zdm P':=by
 unfold zfg at h;split at h
 ·cases h
 split at h
 ·split at h
  ·cases h
  split at h
  ·cases h
  obtain⟨rfl,_⟩:=zdP (zdE h);exact⟨fun h=>absurd hz h,fun h=>absurd hz h,fun h=>absurd hz h⟩
 split at h
 ·cases h
 rename_i hr
 split at h
 ·cases h
 rename_i hi
 obtain⟨rfl,_⟩:=zdP (zdE h);have r1:uW [35,48,48] pl.data.toList=true:=by
  cases e:uW [35,48,48] pl.data.toList
  ·exact absurd (.inl e) hr
  rfl
 have r2:uW [48,35,35] fr.data.toList=true:=by
  cases e:uW [48,35,35] fr.data.toList
  ·exact absurd (.inr e) hr
  rfl
 refine⟨fun h0=>zou r1 r2 h0,fun h0=>?_,fun h0=>?_⟩
 ·show P.sci=false
  rw[hsc];cases sc
  ·rfl
  exact absurd ⟨h0,.inr rfl⟩ hi
 show ((jO 48 fr.data.toList:Nat):Int)=(fr.size:Int)
 have:=zmK 48 fr.data.toList
 rw[←zR] at this;apply Decidable.byContradiction
 intro hne;exact hi ⟨h0,.inl (by omega)⟩
theorem zir {sc:Bool} {b:ByteArray} {P P':jZ} (hz:P.inc.size=0) (hsc:P.sci=sc) (h:zch sc b P=some P'):zdm P':=by
 unfold zch at h;split at h
 ·cases h
 split at h
 ·cases h
 split at h
 ·cases h
 unfold zgy at h;split at h
 ·cases h
 refine zmU ?_ ?_ h
 ·exact hz
 exact hsc
theorem zlN {s:ByteArray} {P:jZ} (h:vI s=some P):zdm P:=by
 unfold vI at h;split at h
 ·split at h
  ·cases h
  split at h
  ·cases h
  refine zir ?_ ?_ h
  ·rfl
  rfl
 refine zir ?_ ?_ h
 ·rfl
 rfl
set_option maxHeartbeats 16000000 in
set_option maxRecDepth 100000 in
theorem zjT (s:ByteArray) (hs:s.size≤1048576) (w:World):Calls Tryz.prog 90 #[.string s] w (zoR s w):=by
 have HS:=K_ hs;have HB:=K_ (Below.refl w.heap.size w);obtain⟨b,x,sc,hcut⟩:∃ b x sc,zaf s 69=(b,x,sc):=⟨_,_,_,rfl⟩
 have HC:∀ W,Aside0 (Calls Tryz.prog 116 #[.string s,.int .u8 69] W fun e w'=>e=.returned (.tuple #[.string b,.string x,.bool sc])∧zL W w'):=fun W=>⟨by
  have h:=zjI s 69 (by omega) W;rw[hcut] at h;exact h⟩
 have hsz:=zik s 69;rw[hcut] at hsz;have hbs:b.size≤1048576:=Nat.le_trans hsz.1 hs;have hxs:x.size≤1048576:=Nat.le_trans hsz.2 hs;have HBS:=K_ hbs;have HXS:=K_ hxs
 have HN:=K_ (show vI s=if sc=true then
   if (zbp x).size=0∨(uF (zbp x)).size≠0 then none
   else if (zbp x).size>9 then none
   else zch true b { jQ with sci:=true,me:=((zbp x).size:Int),pe:=zbW x }
  else zch false b jQ by unfold vI;rw[hcut])
 clear hs hcut hsz hbs hxs;go_enter Tryz.func90,Tryz.ntmps90
 go_upto_if 30 with (first
  | (refine be_ 2 Z26 26 ?_;intro g2 hg w2 hbox hb;have BK2:=K_ hbox;have GE2:=ge_ hg HB;replace HB:=zF HB hb;clear hb hbox hg)
  | (refine be_ 4 Z26 26 ?_;intro g4 hg w4 hbox hb;have BK4:=K_ hbox;have GE4:=ge_ hg HB;have NB:=nb_ hg BK2;replace BK2:=zC BK2 hb;replace HB:=zF HB hb;clear hb hbox hg)
  | (refine so_ (g:=g4) (cs:=Z26) Z26 ⟨BP BK4⟩ ?_ rfl rfl rfl rfl rfl (by kernel_rfl) rfl rfl;intro w5 hbk hfar hbel;replace BK4:=K_ hbk;replace BK2:=K_ (hfar g2 _ NB.out (BK BK2));replace HB:=K_ (hbel _ _ GE4.out (BL HB));clear hbk hfar hbel)
  | (go_at_call 116;refine ((HC _).out).mono ?_;rintro e w' ⟨rfl,⟨nd,rfl⟩⟩))
 go_cut [6] from 30 to 57 (fun x' wx=>∃ (y:ByteArray) (P:jZ),x'=.string y∧wx.heap[g2]?=some (.cells Z26 26 (0,0))∧wx.heap[g4]?=some (.cells P.cs 26 (0,0))∧Below w.heap.size w wx∧vI s=zch sc b P∧P.ms=0)
 case first =>
  cases sc
  ·have HN2:=K_ (show vI s=zch false b jQ by rw[HN.out,if_neg (by decide)])
   clear HN;go_wp2
   go_meet
   case rel=>exact⟨_,jQ,rfl,BK BK2,BK BK4,BL HB,HN2.out,rfl⟩
  have HN2:=K_ (show vI s=if (zbp x).size=0∨(uF (zbp x)).size≠0 then none
   else if (zbp x).size>9 then none else zch true b { jQ with sci:=true,me:=((zbp x).size:Int),pe:=zbW x } by rw[HN.out,if_pos rfl])
  clear HN;go_upto_region 4 with (fail)
  go_cut [38] from 31 to 38 (fun c wx=>c=.bool (zbW x)∧wx=w5.drewN nd)
  case first =>
   by_cases h0:0<x.size
   ·have hp:(((x[0].toNat:Nat):Int)==43)=zbW x:=by rw[zoi h0];exact zbF x[0] 43
    have hd:decide ((x.size:Int)>0)=true:=decide_eq_true (by omega);go_wp2
    go_meet
    case rel=>exact⟨rfl,rfl⟩
   have hp:=zjG h0;have hd:decide ((x.size:Int)>0)=false:=decide_eq_false (by omega);go_wp2
   go_meet
   case rel=>exact⟨by rw[hp],rfl⟩
  case rest =>
   obtain⟨rfl,rfl⟩:=hcut;go_upto_if 38 with (fail)
   go_cut [6] from 31 to 41 (fun x' wx=>x'=.string (zbp x)∧wx.heap[g2]?=some (.cells Z26 26 (0,0))∧wx.heap[g4]?=some (.cells ({ jQ with pe:=zbW x }:jZ).cs 26 (0,0))∧Below w.heap.size w wx)
   case first =>
    cases hp:zbW x
    ·have hx:zbp x=x:=by unfold zbp;rw[hp];rfl
     go_wp2
     go_meet
     case rel=>exact⟨by rw[hx],BK BK2,by rw[hp];exact BK BK4,BL HB⟩
    have hx:zbp x=x.extract 1 x.size:=by unfold zbp;rw[hp];rfl
    have h0:0<x.size:=by
     apply Decidable.byContradiction;intro h;rw[zjG h] at hp;cases hp
    obtain⟨⟨cz0,cz1,cz2,cz3,cz4,cz5,cz6,cz7,cz8,cz9,cz10,cz11,cz12,cz13,cz14,cz15,cz16,cz17,cz18,cz19⟩,fz0,fz1,fz2,fz3,fz4,fz5,fz6,fz7,fz8,fz9,fz10,fz11,fz12,fz13,fz14,fz15,fz16,fz17,fz18,fz19⟩:=zfh BK4;go_wp2
    go_meet
    case rel=>exact⟨by rw[hx],(by (repeat (first|(with_reducible exact Aside0.out BK2)|(with_reducible refine jU ?_ _)|(with_reducible refine jS ?_)|(with_reducible refine jT ?_ _)|refine zS ?_ (Aside0.out NB) _))),by rw[hp];exact BP BK4,BL HB⟩
   case rest =>
    obtain⟨rfl,hb2,hb4,hbw⟩:=hcut;replace BK2:=K_ hb2;replace BK4:=K_ hb4;replace HB:=K_ hbw;clear hb2 hb4 hbw;obtain⟨y,hy⟩:∃ y,y=zbp x:=⟨_,rfl⟩
    obtain⟨P,hP⟩:∃ P:jZ,P={ jQ with pe:=zbW x }:=⟨_,rfl⟩
    have hys:y.size≤1048576:=by
     have:=HXS.out
     rw[hy];unfold zbp;split
     ·rw[ByteArray.size_extract];omega
     exact this
    rw[←hP] at BK4;replace HN2:=K_ (show vI s=if y.size=0∨(uF y).size≠0 then none else if y.size>9 then none else zch true b { P with sci:=true,me:=(y.size:Int) } by rw[HN2.out,hP,hy]);have HP4:=K_ (show P.ms=0 by rw[hP];rfl);rw[←hy];clear hP hy;have HL:=fun W=>K_ (zgg y (by omega) W)
    have hls:=zlg y;by_cases h0:0<y.size
    ·have HM:=K_ hls
     clear hls;have hye:=zdv h0;by_cases h1:0<(uF y).size
     ·have HE:=K_ (show vI s=none by rw[HN2.out,if_pos (.inr (by omega))])
      have hle:=zdv h1;go_upto_if 48 with (go_at_call 117;refine ((HL _).out).mono ?_;rintro e w' ⟨rfl,⟨nd,rfl⟩⟩)
      (
       go_wp2_with (refine so_ (g:=g2) (cs:=Z26) Z26 ⟨(by (repeat (first|(with_reducible exact Aside0.out BK2)|(with_reducible refine jU ?_ _)|(with_reducible refine jS ?_)|(with_reducible refine jT ?_ _)|refine zS ?_ (Aside0.out NB) _)))⟩ ?_ rfl rfl rfl rfl rfl (by kernel_rfl) rfl rfl;intro w9 hbk hfar hbel;replace BK2:=K_ hbk;replace HB:=K_ (hbel _ _ GE2.out (BL HB));clear hbk hfar hbel)
       refine bodyPost_ret (jA rfl _ _ g2 26 jQ.cs (0,0) _ rfl (BP BK2) Tryz.underlying26 rfl (by kernel_rfl)) rfl ?_;exact⟨jQ,4,rfl,BL HB,.inr ⟨by decide,HE.out⟩⟩)
     have hle:=zfF h1;by_cases h2:9<y.size
     ·have HE:=K_ (show vI s=none by rw[HN2.out,if_neg (by omega),if_pos h2])
      have hd:decide ((y.size:Int)>9)=true:=decide_eq_true (by omega);go_upto_if 52 with (go_at_call 117;refine ((HL _).out).mono ?_;rintro e w' ⟨rfl,⟨nd,rfl⟩⟩)
      (
       go_wp2_with (refine so_ (g:=g2) (cs:=Z26) Z26 ⟨(by (repeat (first|(with_reducible exact Aside0.out BK2)|(with_reducible refine jU ?_ _)|(with_reducible refine jS ?_)|(with_reducible refine jT ?_ _)|refine zS ?_ (Aside0.out NB) _)))⟩ ?_ rfl rfl rfl rfl rfl (by kernel_rfl) rfl rfl;intro w9 hbk hfar hbel;replace BK2:=K_ hbk;replace HB:=K_ (hbel _ _ GE2.out (BL HB));clear hbk hfar hbel)
       refine bodyPost_ret (jA rfl _ _ g2 26 jQ.cs (0,0) _ rfl (BP BK2) Tryz.underlying26 rfl (by kernel_rfl)) rfl ?_;exact⟨jQ,8,rfl,BL HB,.inr ⟨by decide,HE.out⟩⟩)
     have HE:=K_ (show vI s=zch true b { P with sci:=true,me:=(y.size:Int) } by rw[HN2.out,if_neg (by omega),if_neg h2]);have hd:decide ((y.size:Int)>9)=false:=decide_eq_false (by omega);obtain⟨⟨cz0,cz1,cz2,cz3,cz4,cz5,cz6,cz7,cz8,cz9,cz10,cz11,cz12,cz13,cz14,cz15,cz16,cz17,cz18,cz19⟩,fz0,fz1,fz2,fz3,fz4,fz5,fz6,fz7,fz8,fz9,fz10,fz11,fz12,fz13,fz14,fz15,fz16,fz17,fz18,fz19⟩:=zfh BK4;go_upto_region 11 with (go_at_call 117;refine ((HL _).out).mono ?_;rintro e w' ⟨rfl,⟨nd,rfl⟩⟩)
     go_wp2
     go_meet
     case rel=>exact⟨y,_,rfl,(by (repeat (first|(with_reducible exact Aside0.out BK2)|(with_reducible refine jU ?_ _)|(with_reducible refine jS ?_)|(with_reducible refine jT ?_ _)|refine zS ?_ (Aside0.out NB) _))),BP BK4,BL HB,HE.out,HP4.out⟩
    have HE:=K_ (show vI s=none by rw[HN2.out,if_pos (.inl (by omega))]);obtain rfl:=zhT h0
    (
     go_wp2_with (refine so_ (g:=g2) (cs:=Z26) Z26 ⟨(by (repeat (first|(with_reducible exact Aside0.out BK2)|(with_reducible refine jU ?_ _)|(with_reducible refine jS ?_)|(with_reducible refine jT ?_ _)|refine zS ?_ (Aside0.out NB) _)))⟩ ?_ rfl rfl rfl rfl rfl (by kernel_rfl) rfl rfl;intro w9 hbk hfar hbel;replace BK2:=K_ hbk;replace HB:=K_ (hbel _ _ GE2.out (BL HB));clear hbk hfar hbel)
     refine bodyPost_ret (jA rfl _ _ g2 26 jQ.cs (0,0) _ rfl (BP BK2) Tryz.underlying26 rfl (by kernel_rfl)) rfl ?_;exact⟨jQ,4,rfl,BL HB,.inr ⟨by decide,HE.out⟩⟩)
 case rest =>
  obtain⟨y,P,rfl,hb2,hb4,hbw,he,hms⟩:=hcut;have HMS:=K_ hms;replace BK2:=K_ hb2;replace BK4:=K_ hb4;replace HB:=K_ hbw;replace HN:=K_ he;clear hb2 hb4 hbw he hms HXS HC;go_wp2_with (fail)
  go_loop [8] (fun i=>∃ k:Nat,k≤b.size∧i=.int .i64 k∧(b.data.toList.take k).all okC=true) (fun i=>b.size-(intOf i).toNat)
  case atStart=>exact⟨0,by omega,rfl,rfl⟩
  case round =>
   obtain⟨k,hk,rfl,ha⟩:=hrel;have HA:=K_ ha;have hbz:=HBS.out;clear ha;by_cases hlt:k<b.size
   ·have HS1:=fun h2=>K_ (znt (l:=b.data.toList) (k:=k) (by rw[←zR];exact hlt) HA.out h2)
    have HS2:=fun h2=>K_ (zqa (l:=b.data.toList) (k:=k) (by rw[←zR];exact hlt) h2)
    have HS1:okC b[k]=true→Aside0 _:=HS1;have HS2:okC b[k]=false→Aside0 _:=HS2;go_upto_region 16 with (fail)
    go_cut [9,88] from 64 to 88 (fun v c wx=>v=.int .u8 (b[k].toNat:Int)∧c=.bool (!okC b[k])∧wx=wc)
    case first =>
     have e35:(((b[k].toNat:Nat):Int) !=35)=!(b[k]==35):=congrArg (! ·) (zbF b[k] 35);have e64:(((b[k].toNat:Nat):Int) !=64)=!(b[k]==64):=congrArg (! ·) (zbF b[k] 64);have e44:(((b[k].toNat:Nat):Int) !=44)=!(b[k]==44):=congrArg (! ·) (zbF b[k] 44);have e46:(((b[k].toNat:Nat):Int) !=46)=!(b[k]==46):=congrArg (! ·) (zbF b[k] 46);have HO:=K_ (show okC b[k]=(b[k]==35||(b[k]==64||(b[k]==44||(b[k]==46||(decide (48≤b[k].toNat)&&decide (b[k].toNat≤57)))))) from rfl);cases h1:(b[k]==35)
     ·rw[h1] at e35
      cases h2:(b[k]==64)
      ·rw[h2] at e64
       cases h3:(b[k]==44)
       ·rw[h3] at e44
        cases h4:(b[k]==46)
        ·rw[h4] at e46
         have HO2:=K_ (show okC b[k]=(decide (48≤b[k].toNat)&&decide (b[k].toNat≤57)) by rw[HO.out,h1,h2,h3,h4];rfl);clear h1 h2 h3 h4;by_cases h5:48≤b[k].toNat
         ·by_cases h6:b[k].toNat≤57
          ·have HO3:=K_ (show okC b[k]=true by rw[HO2.out];simp[h5,h6])
           have d1:decide (((b[k].toNat:Nat):Int)<48)=false:=decide_eq_false (by omega);have d2:decide (((b[k].toNat:Nat):Int)>57)=false:=decide_eq_false (by omega);go_wp2
           go_meet
           case rel=>exact⟨rfl,by rw[HO3.out];rfl,rfl⟩
          have HO3:=K_ (show okC b[k]=false by rw[HO2.out];simp[h6]);have d1:decide (((b[k].toNat:Nat):Int)<48)=false:=decide_eq_false (by omega);have d2:decide (((b[k].toNat:Nat):Int)>57)=true:=decide_eq_true (by omega);go_wp2
          go_meet
          case rel=>exact⟨rfl,by rw[HO3.out];rfl,rfl⟩
         have HO3:=K_ (show okC b[k]=false by rw[HO2.out];simp[h5]);have d1:decide (((b[k].toNat:Nat):Int)<48)=true:=decide_eq_true (by omega);go_wp2
         go_meet
         case rel=>exact⟨rfl,by rw[HO3.out];rfl,rfl⟩
        rw[h4] at e46;have Q:=K_ (show ((b[k].toNat:Nat):Int)=46 by simpa using e46);have HO3:=K_ (show okC b[k]=true by rw[HO.out,h1,h2,h3,h4];rfl);clear h1 h2 h3 h4;go_wp2
        go_meet
        case rel=>exact⟨by rw[Q.out],by rw[HO3.out];rfl,rfl⟩
       rw[h3] at e44;have Q:=K_ (show ((b[k].toNat:Nat):Int)=44 by simpa using e44);have HO3:=K_ (show okC b[k]=true by rw[HO.out,h1,h2,h3];rfl);clear h1 h2 h3;go_wp2
       go_meet
       case rel=>exact⟨by rw[Q.out],by rw[HO3.out];rfl,rfl⟩
      rw[h2] at e64;have Q:=K_ (show ((b[k].toNat:Nat):Int)=64 by simpa using e64);have HO3:=K_ (show okC b[k]=true by rw[HO.out,h1,h2];rfl);clear h1 h2;go_wp2
      go_meet
      case rel=>exact⟨by rw[Q.out],by rw[HO3.out];rfl,rfl⟩
     rw[h1] at e35;have Q:=K_ (show ((b[k].toNat:Nat):Int)=35 by simpa using e35);have HO3:=K_ (show okC b[k]=true by rw[HO.out,h1];rfl);clear h1;go_wp2
     go_meet
     case rel=>exact⟨by rw[Q.out],by rw[HO3.out];rfl,rfl⟩
    case rest =>
     obtain⟨rfl,rfl,rfl⟩:=hcut;cases ho:okC b[k]
     ·have HE:=K_ (show vI s=none by rw[HN.out];unfold zch;rw[if_pos (HS2 ho).out])
      go_upto_if 88 with (fail)
      (
       go_wp2_with (refine so_ (g:=g2) (cs:=Z26) Z26 ⟨(by (repeat (first|(with_reducible exact Aside0.out BK2)|(with_reducible refine jU ?_ _)|(with_reducible refine jS ?_)|(with_reducible refine jT ?_ _)|refine zS ?_ (Aside0.out NB) _)))⟩ ?_ rfl rfl rfl rfl rfl (by kernel_rfl) rfl rfl;intro w9 hbk hfar hbel;replace BK2:=K_ hbk;replace HB:=K_ (hbel _ _ GE2.out (BL HB));clear hbk hfar hbel)
       refine bodyPost_ret (jA rfl _ _ g2 26 jQ.cs (0,0) _ rfl (BP BK2) Tryz.underlying26 rfl (by kernel_rfl)) rfl ?_;exact⟨jQ,4,rfl,BL HB,.inr ⟨by decide,HE.out⟩⟩)
     have HS3:=HS1 ho;go_wp2
     go_round
     case rel=>exact⟨k+1,by omega,by go_num,HS3.out⟩
     case measure=>simp[intOf];omega
   obtain rfl:k=b.size:=by omega
   have HA2:=K_ (show b.data.toList.all okC=true by have:=HA.out;rwa [zR,List.take_length] at this);clear HA;obtain⟨wh,fr,pt,hc2⟩:∃ wh fr pt,zaf b 46=(wh,fr,pt):=⟨_,_,_,rfl⟩
   have HC2:∀ W,Aside0 (Calls Tryz.prog 116 #[.string b,.int .u8 46] W fun e w'=>e=.returned (.tuple #[.string wh,.string fr,.bool pt])∧zL W w'):=fun W=>⟨by
    have h:=zjI b 46 (by omega) W;rw[hc2] at h;exact h⟩
   have hz2:=zik b 46;rw[hc2] at hz2;have HPF:=K_ (show pt=false→fr=⟨#[]⟩ from fun h=>by have:=zoI b 46 (by rw[hc2];exact h);rwa [hc2] at this);have hws:wh.size≤1048576:=Nat.le_trans hz2.1 hbz;have hfs:fr.size≤1048576:=Nat.le_trans hz2.2 hbz;have HK6:∀ W,Aside0 (Calls Tryz.prog 118 #[.string fr,.int .u8 46] W fun e w'=>e=.returned (.int .i64 (jO 46 fr.data.toList:Nat))∧w'=W):=fun W=>⟨zaZ fr 46 (by omega) W⟩
   have HK4:∀ W,Aside0 (Calls Tryz.prog 118 #[.string fr,.int .u8 44] W fun e w'=>e=.returned (.int .i64 (jO 44 fr.data.toList:Nat))∧w'=W):=fun W=>⟨zaZ fr 44 (by omega) W⟩
   have HN2:=K_ (show vI s=if 0<jO 46 fr.data.toList∨(pt=true∧fr.size=0) then none else if 0<jO 44 fr.data.toList then none else zgy sc pt wh fr P by
    rw[HN.out];unfold zch;rw[if_neg (by rw[HA2.out];decide),hc2])
   clear HN;have HN:=HN2;have HWS:=K_ hws;have HFS:=K_ hfs;clear HN2 hc2 hz2 hws hfs hbz HA2;go_upto_region 19 with (go_at_call 116;refine ((HC2 _).out).mono ?_;rintro e w' ⟨rfl,⟨nd2,rfl⟩⟩)
   go_cut [12,105] from 90 to 105 (fun v c wx=>v=.bool pt∧c=.bool (decide (0<jO 46 fr.data.toList)||(pt&&decide (fr.size=0)))∧wx=wc.drewN nd2)
   case first =>
    have hfz:=HFS.out;by_cases h1:0<jO 46 fr.data.toList
    ·have d1:decide (((jO 46 fr.data.toList:Nat):Int)>0)=true:=decide_eq_true (by omega)
     have d2:decide (0<jO 46 fr.data.toList)=true:=decide_eq_true h1;have D:=K_ d2;have d3:¬ jO 46 fr.data.toList=0:=by omega
     go_wp2_with (go_at_call 118;refine ((HK6 _).out).mono ?_;rintro e w' ⟨rfl,rfl⟩)
     go_meet
     case rel=>exact⟨rfl,by rw[D.out];rfl,rfl⟩
    have d1:decide (((jO 46 fr.data.toList:Nat):Int)>0)=false:=decide_eq_false (by omega);have d2:decide (0<jO 46 fr.data.toList)=false:=decide_eq_false h1;have D:=K_ d2;have d3:jO 46 fr.data.toList=0:=by omega
    clear h1;cases hp:pt
    ·go_wp2_with (go_at_call 118;refine ((HK6 _).out).mono ?_;rintro e w' ⟨rfl,rfl⟩)
     go_meet
     case rel=>exact⟨by rw[hp],by rw[D.out,hp];rfl,rfl⟩
    by_cases h2:0<fr.size
    ·have hfe:=zdv h2
     have D2:=K_ (decide_eq_false (show ¬ fr.size=0 by omega));go_wp2_with (go_at_call 118;refine ((HK6 _).out).mono ?_;rintro e w' ⟨rfl,rfl⟩)
     go_meet
     case rel=>exact⟨by rw[hp],by rw[D.out,hp,D2.out];rfl,rfl⟩
    have hfe:=zfF h2;have D2:=K_ (decide_eq_true (show fr.size=0 by omega));go_wp2_with (go_at_call 118;refine ((HK6 _).out).mono ?_;rintro e w' ⟨rfl,rfl⟩)
    go_meet
    case rel=>exact⟨by rw[hp],by rw[D.out,hp,D2.out];rfl,rfl⟩
   case rest =>
    obtain⟨rfl,rfl,rfl⟩:=hcut;cases hq:(decide (0<jO 46 fr.data.toList)||(pt&&decide (fr.size=0)))
    ·have HN2:=K_ (show vI s=if 0<jO 44 fr.data.toList then none else zgy sc pt wh fr P by
      rw[HN.out,if_neg];intro h;have:(decide (0<jO 46 fr.data.toList)||(pt&&decide (fr.size=0)))=true:=by simpa using h
      rw[hq] at this;cases this)
     clear HN hq;by_cases h4:0<jO 44 fr.data.toList
     ·have HE:=K_ (show vI s=none by rw[HN2.out,if_pos h4])
      have d1:decide (((jO 44 fr.data.toList:Nat):Int)>0)=true:=decide_eq_true (by omega);have d2:decide (0<jO 44 fr.data.toList)=true:=decide_eq_true h4;go_upto_if 109 with (go_at_call 118;refine ((HK4 _).out).mono ?_;rintro e w' ⟨rfl,rfl⟩)
      (
       go_wp2_with (refine so_ (g:=g2) (cs:=Z26) Z26 ⟨(by (repeat (first|(with_reducible exact Aside0.out BK2)|(with_reducible refine jU ?_ _)|(with_reducible refine jS ?_)|(with_reducible refine jT ?_ _)|refine zS ?_ (Aside0.out NB) _)))⟩ ?_ rfl rfl rfl rfl rfl (by kernel_rfl) rfl rfl;intro w9 hbk hfar hbel;replace BK2:=K_ hbk;replace HB:=K_ (hbel _ _ GE2.out (BL HB));clear hbk hfar hbel)
       refine bodyPost_ret (jA rfl _ _ g2 26 jQ.cs (0,0) _ rfl (BP BK2) Tryz.underlying26 rfl (by kernel_rfl)) rfl ?_;exact⟨jQ,5,rfl,BL HB,.inr ⟨by decide,HE.out⟩⟩)
     have HN:=K_ (show vI s=zgy sc pt wh fr P by rw[HN2.out,if_neg h4]);have d1:decide (((jO 44 fr.data.toList:Nat):Int)>0)=false:=decide_eq_false (by omega);have d2:decide (0<jO 44 fr.data.toList)=false:=decide_eq_false h4;clear HN2;go_upto_region 26 with (go_at_call 118;refine ((HK4 _).out).mono ?_;rintro e w' ⟨rfl,rfl⟩)
     clear d1 d2 h4;obtain⟨L,hL⟩:∃ L,L=wh.data.toList++[44]:=⟨_,rfl⟩
     have hLl:L.length=wh.size+1:=by rw[hL,List.length_append,←zR];rfl
     have HLL:=K_ hLl;have HLD:=K_ hL;go_wp2_with (fail)
     go_loopw [13,14,15,16] (fun vz vp vn vi wr=>∃ k:Nat,k≤wh.size+1∧vi=.int .i64 k∧vn=.int .i64 (szS (L.take k)).2∧vp=.string (xE 44 (wh.data.toList.take k))∧(Kd.int .i64).R 3 wr w.heap.size (fun _=>True) vz (szS (L.take k)).1∧wr.heap[g2]?=some (.cells Z26 26 (0,0))∧wr.heap[g4]?=some (.cells P.cs 26 (0,0))∧Below w.heap.size w wr) (fun _ _ _ i _=>wh.size+1-(intOf i).toNat)
     case atStart=>exact⟨0,by omega,rfl,rfl,rfl,Kd.R_nil _ _ _ _ _,BK BK2,BK BK4,BL HB⟩
     case round =>
      obtain⟨k,hk,rfl,rfl,rfl,hz,hb2,hb4,hbw⟩:=hrel;clear BK2 BK4 HB;have HZ:=K_ hz;have BK2:=K_ hb2;have BK4:=K_ hb4;have HB:=K_ hbw;clear hz hb2 hb4 hbw;have hwz:=HWS.out;by_cases hlt:k≤wh.size
      ·have hbd:=zkF L k
       have HSU:=K_ (zoh (l:=L) (k:=k) (by rw[HLL.out];omega));obtain⟨a,ha⟩:∃ a,a=szS (L.take k):=⟨_,rfl⟩
       rw[←ha] at hbd HSU HZ;simp only[←ha]
       clear ha;obtain⟨A4,c4,rfl⟩:=Kd.R_slice HZ.out;have dle:decide ((k:Int)≤(wh.size:Int))=true:=decide_eq_true (by omega);have hwk:IntKind.i64.wrap ((k:Int)+1)=(k:Int)+1:=by rw[IntKind.wrap_i64];omega
       have hwn:IntKind.i64.wrap (a.2+1)=a.2+1:=by rw[IntKind.wrap_i64];omega
       have HZ2n:=K_ (Kd.R_ne HZ.out BK2.out (by decide));have HZ4n:=K_ (Kd.R_ne HZ.out BK4.out (by decide));have HAP:=K_ (show (a.1.length+1) * 8≤140737488355328 by omega);by_cases hlt2:k<wh.size
       ·have dlt:decide ((k:Int)<(wh.size:Int))=true:=decide_eq_true (by omega)
        have hLk:L[k]'(by rw[HLL.out];omega)=wh[k]:=by
         have:=HLD.out;subst this;rw[List.getElem_append_left (by rw[←zR];exact hlt2)];rfl
        rw[hLk] at HSU;have e44:(((wh[k].toNat:Nat):Int) !=44)=!(wh[k]==44):=congrArg (! ·) (zbF wh[k] 44);cases hc:(wh[k]==44)
        ·rw[hc] at e44
         have HF:=K_ (ziV (l:=wh.data.toList) (k:=k) 44 (by rw[←zR];exact hlt2) (beq_eq_false_iff_ne.1 hc));have HSV:=K_ (show szS (L.take (k+1))=(a.1,a.2+1) by rw[HSU.out];unfold szF;rw[hc];rfl);have hle1:(k:Int)≤(k:Int)+1:=by omega
         have hle2:(k:Int)+1≤(wh.size:Int):=by omega
         have h01:(0:Int)≤(k:Int)+1:=by omega
         have hle3:k+1≤wh.size:=hlt2;have hn1:((k:Int)+1).toNat=k+1:=by omega
         have hfl:=zey 44 (wh.data.toList.take k);rw[List.length_take] at hfl;have hfb:¬ 9223372036854775807<(xE 44 (List.take k wh.data.toList)).size+1:=by omega
         clear hLk hc HSU;go_wp2
         go_roundw
         case rel =>
          refine⟨k+1,by omega,by go_num,by rw[HSV.out],?_,by rw[HSV.out];exact RB HZ.out,BK BK2,BK BK4,BL HB⟩;rw[HF.out,zgz hlt2];rfl
         case measure=>simp[intOf];omega
        rw[hc] at e44;have HF:=K_ (zjh (l:=wh.data.toList) (k:=k) 44 (by rw[←zR];exact hlt2) (eq_of_beq hc));have HSV:=K_ (show szS (L.take (k+1))=(a.1++[a.2],0) by rw[HSU.out];unfold szF;rw[hc];rfl);clear hLk hc HSU;go_wp2_with ((with_reducible refine jH (b:=.append) (xs:=#[.tmp 136,.tmp 138]) rfl ?_);at_builtin;(refine Kd.R_append (Kd.int .i64) (w0:=w) w.heap.size rfl (.tmp 136) (.tmp 138) 147 3 (.int .i64 0) 8 rfl Tryz.underlying147 zkX rfl (by decide) (by omega) (.slice A4 a.1.length c4) a.1 a.2 [.int .i64 a.2] (fun _=>True) (fun _=>False) rfl rfl rfl (fun _ hk=>hk.elim) (fun _ _=>trivial) ?aO ?aB ?aS ?aL ?_;(case aO=>exact RB HZ.out);(case aB=>exact BL HB);(case aS=>exact zQ (BL HB));(case aL=>exact HAP.out);intro v1 w10 ho hb hg hat;have HZ2:=K_ ho;have BK2b:=K_ (vC (BK BK2) hg HZ2n.out);have BK4b:=K_ (vC (BK BK4) hg HZ4n.out);replace HB:=K_ hb;clear ho hb hg hat))
        go_roundw
        case rel=>exact⟨k+1,by omega,by go_num,by rw[HSV.out],by rw[HF.out],by rw[HSV.out];exact RB HZ2.out,BK BK2b,BK BK4b,BL HB⟩
        case measure=>simp[intOf];omega
       have dlt:decide ((k:Int)<(wh.size:Int))=false:=decide_eq_false (by omega);have hkk:k=wh.size:=by omega
       have hLk:L[k]'(by rw[HLL.out];omega)=44:=by
        have:=HLD.out;subst this;exact List.getElem_concat_length (hkk.trans (zR _)) _
       rw[hLk] at HSU;have HF:=K_ (show xE 44 (wh.data.toList.take (k+1))=xE 44 (wh.data.toList.take k) by rw[List.take_of_length_le (by rw[←zR];omega),List.take_of_length_le (by rw[←zR];omega)]);have HSV:=K_ (show szS (L.take (k+1))=(a.1++[a.2],0) by rw[HSU.out];rfl);clear hLk hkk HSU;go_wp2_with ((with_reducible refine jH (b:=.append) (xs:=#[.tmp 136,.tmp 138]) rfl ?_);at_builtin;(refine Kd.R_append (Kd.int .i64) (w0:=w) w.heap.size rfl (.tmp 136) (.tmp 138) 147 3 (.int .i64 0) 8 rfl Tryz.underlying147 zkX rfl (by decide) (by omega) (.slice A4 a.1.length c4) a.1 a.2 [.int .i64 a.2] (fun _=>True) (fun _=>False) rfl rfl rfl (fun _ hk=>hk.elim) (fun _ _=>trivial) ?aO ?aB ?aS ?aL ?_;(case aO=>exact RB HZ.out);(case aB=>exact BL HB);(case aS=>exact zQ (BL HB));(case aL=>exact HAP.out);intro v1 w10 ho hb hg hat;have HZ2:=K_ ho;have BK2b:=K_ (vC (BK BK2) hg HZ2n.out);have BK4b:=K_ (vC (BK BK4) hg HZ4n.out);replace HB:=K_ hb;clear ho hb hg hat))
       go_roundw
       case rel=>exact⟨k+1,by omega,by go_num,by rw[HSV.out],by rw[HF.out],by rw[HSV.out];exact RB HZ2.out,BK BK2b,BK BK4b,BL HB⟩
       case measure=>simp[intOf];omega
      obtain rfl:k=wh.size+1:=by omega
      have dle:decide (((wh.size+1:Nat):Int)≤(wh.size:Int))=false:=decide_eq_false (by omega);have eL:L.take (wh.size+1)=L:=List.take_of_length_le (by rw[HLL.out];exact Nat.le_refl _);have eW:wh.data.toList.take (wh.size+1)=wh.data.toList:=List.take_of_length_le (by rw[←zR];omega);have hbd:=zkF L (wh.size+1);have hpb:=zey 44 wh.data.toList;rw[←zR] at hpb;rw[eL] at HZ hbd;simp only[eL,eW]
      obtain⟨sz,hsz⟩:∃ sz,sz=(szS L).1:=⟨_,rfl⟩
      obtain⟨n0,hn0⟩:∃ n0,n0=(szS L).2:=⟨_,rfl⟩
      obtain⟨pl,hpl⟩:∃ pl,pl=xE 44 wh.data.toList:=⟨_,rfl⟩
      have HN2:=K_ (show vI s=if sz.length>1∧0∈sz then none else zfg sc pt sz pl fr { P with pr:=if sz.length>1 then sz.getD (sz.length-1) 0 else P.pr,se:=if sz.length>2 then sz.getD (sz.length-2) 0 else if sz.length>1 then sz.getD (sz.length-1) 0 else P.se } by
       rw[HN.out,hsz,hpl,HLD.out];rfl)
      rw[←hsz] at HZ hbd;rw[←hpl] at hpb;simp only[←hsz,←hn0,←hpl]
      clear hsz hn0 hpl eL eW HN HLL HLD;have hszl:sz.length≤1048577:=by omega
      have HSL:=K_ hszl;have HPL:=K_ (show pl.size≤1048576 by omega);clear hbd hpb hszl hwz;obtain⟨A4,c4,rfl⟩:=Kd.R_slice HZ.out;go_wp2_with (fail)
      go_loop [17] (fun i=>∃ k:Nat,k≤sz.length∧i=.int .i64 k∧(sz.length>1→∀ x∈sz.take k,x≠0)) (fun i=>sz.length-(intOf i).toNat)
      case atStart=>exact⟨0,by omega,rfl,fun _ x hx=>by simp at hx⟩
      case round =>
       obtain⟨k,hk,rfl,hz⟩:=hrel;have HK:=K_ hz;have hsz2:=HSL.out;clear hz;by_cases hlt:k<sz.length
       ·have dlt:decide ((k:Int)<(sz.length:Int))=true:=decide_eq_true (by omega)
        by_cases h1:sz.length>1
        ·have d1:decide ((sz.length:Int)>1)=true:=decide_eq_true (by omega)
         have d2:decide (1<sz.length)=true:=decide_eq_true h1;obtain⟨ad,ea,hcell⟩:=Kd.at_int (Kd.R_reads' HZ.out).2.2 (k:Int) (by omega) (by omega);subst ea;have hrd:rd sz (k:Int)=sz[k]:=by unfold rd;rw[Int.toNat_natCast,List.getD_eq_getElem?_getD,List.getElem?_eq_getElem hlt];rfl
         rw[hrd,Int.toNat_natCast] at hcell;obtain⟨x0,hx0⟩:∃ x0,x0=sz[k]:=⟨_,rfl⟩
         have HX0:=K_ hx0;rw[←hx0] at hcell;clear hx0 hrd;cases hq:(x0==0)
         ·have HKK:=K_ (show sz.length>1→∀ x∈sz.take (k+1),x≠0 by
           intro _ x hx;rw[List.take_succ_eq_append_getElem hlt,List.mem_append,List.mem_singleton] at hx;rcases hx with hx|rfl
           ·exact HK.out h1 x hx
           rw[←HX0.out];exact beq_eq_false_iff_ne.1 hq)
          go_wp2
          go_round
          case rel=>exact⟨k+1,by omega,by go_num,HKK.out⟩
          case measure=>simp[intOf];omega
         have HE:=K_ (show vI s=none by
          rw[HN2.out,if_pos ⟨h1,by rw[←eq_of_beq hq,HX0.out];exact List.getElem_mem hlt⟩])
         go_upto_if 155 with (fail)
         (
          go_wp2_with (refine so_ (g:=g2) (cs:=Z26) Z26 ⟨(by (repeat (first|(with_reducible exact Aside0.out BK2)|(with_reducible refine jU ?_ _)|(with_reducible refine jS ?_)|(with_reducible refine jT ?_ _)|refine zS ?_ (Aside0.out NB) _)))⟩ ?_ rfl rfl rfl rfl rfl (by kernel_rfl) rfl rfl;intro w9 hbk hfar hbel;replace BK2:=K_ hbk;replace HB:=K_ (hbel _ _ GE2.out (BL HB));clear hbk hfar hbel)
          refine bodyPost_ret (jA rfl _ _ g2 26 jQ.cs (0,0) _ rfl (BP BK2) Tryz.underlying26 rfl (by kernel_rfl)) rfl ?_;exact⟨jQ,5,rfl,BL HB,.inr ⟨by decide,HE.out⟩⟩)
        have d1:decide ((sz.length:Int)>1)=false:=decide_eq_false (by omega);have d2:decide (1<sz.length)=false:=decide_eq_false h1;have HKK:=K_ (show sz.length>1→∀ x∈sz.take (k+1),x≠0 from fun h=>absurd h h1);go_wp2
        go_round
        case rel=>exact⟨k+1,by omega,by go_num,HKK.out⟩
        case measure=>simp[intOf];omega
       obtain rfl:k=sz.length:=by omega
       have HN3:=K_ (show vI s=zfg sc pt sz pl fr { P with pr:=if sz.length>1 then sz.getD (sz.length-1) 0 else P.pr,se:=if sz.length>2 then sz.getD (sz.length-2) 0 else if sz.length>1 then sz.getD (sz.length-1) 0 else P.se } by
        rw[HN2.out,if_neg];rintro⟨h1,h2⟩;have:=HK.out h1 0 (by rw[List.take_length];exact h2);exact this rfl)
       clear HN2 HK;have dlt:decide ((sz.length:Int)<(sz.length:Int))=false:=decide_eq_false (by omega);go_upto_region 39 with (fail)
       obtain⟨Pa,hPa⟩:∃ Pa:jZ,Pa={ P with pr:=if sz.length>1 then sz.getD (sz.length-1) 0 else P.pr,se:=if sz.length>1 then sz.getD (sz.length-1) 0 else P.se }:=⟨_,rfl⟩
       obtain⟨P2,hP2⟩:∃ P2:jZ,P2={ Pa with se:=if sz.length>2 then sz.getD (sz.length-2) 0 else Pa.se }:=⟨_,rfl⟩
       have HN:=K_ (show vI s=zfg sc pt sz pl fr P2 by rw[HN3.out,hP2,hPa]);have HMS2:=K_ (show P2.ms=0 by rw[hP2,hPa];exact HMS.out);clear HN3;go_upto_if 159 with (fail)
       go_cut [] from 157 to 173 (fun wx=>(Kd.int .i64).R 3 wx w.heap.size (fun _=>True) (.slice A4 sz.length c4) sz∧wx.heap[g2]?=some (.cells Z26 26 (0,0))∧wx.heap[g4]?=some (.cells Pa.cs 26 (0,0))∧Below w.heap.size w wx)
       case first =>
        by_cases h1:sz.length>1
        ·have d1:decide ((sz.length:Int)>1)=true:=decide_eq_true (by omega)
         have d2:decide (1<sz.length)=true:=decide_eq_true h1;obtain⟨ad,ea,hcell⟩:=Kd.at_int (Kd.R_reads' HZ.out).2.2 ((sz.length:Int)-1) (by omega) (by omega);subst ea;have hrd:rd sz ((sz.length:Int)-1)=sz.getD (sz.length-1) 0:=by unfold rd;congr 1;omega
         rw[hrd,show ((sz.length:Int)-1).toNat=sz.length-1 by omega] at hcell;have h1le:(1:Int)≤(sz.length:Int):=by omega
         obtain⟨v0,hv0⟩:∃ v0,v0=sz.getD (sz.length-1) 0:=⟨_,rfl⟩
         rw[←hv0] at hcell;have HG4:=K_ (Kd.R_ne HZ.out BK4.out (by decide));have hbn:(ad.add (sz.length-1)).block≠g4:=by
          rw[zdO];intro e;exact HG4.out (by simp[Value.ownBlock,e])
         have hcell2:∀ j v,(wr.setCell ⟨g4,j,none⟩ v).cell? (ad.add (sz.length-1))=some (.int .i64 v0):=fun j v=>(yT hbn v).trans hcell
         have hwl:IntKind.i64.wrap ((sz.length:Int)-1)=(sz.length:Int)-1:=by rw[IntKind.wrap_i64];omega
         have hb0:(0:Int)≤(sz.length:Int)-1:=by omega
         have hb1:(sz.length:Int)-1<(sz.length:Int):=by omega
         have ePa:=K_ (show Pa={ P with pr:=sz.getD (sz.length-1) 0,se:=sz.getD (sz.length-1) 0 } by rw[hPa,if_pos h1,if_pos h1]);rw[←hv0] at ePa;clear hv0 hrd;have BK40:=BK4;obtain⟨⟨cz0,cz1,cz2,cz3,cz4,cz5,cz6,cz7,cz8,cz9,cz10,cz11,cz12,cz13,cz14,cz15,cz16,cz17,cz18,cz19⟩,fz0,fz1,fz2,fz3,fz4,fz5,fz6,fz7,fz8,fz9,fz10,fz11,fz12,fz13,fz14,fz15,fz16,fz17,fz18,fz19⟩:=zfh BK4;go_upto_region 40 with (fail)
         go_region
         have HZ4:=K_ (Kd.R_types HZ.out BK40.out (by decide))
         all_goals (go_wp2_with (fail);go_meet;exact⟨(by refine Kd.R_mono (ok:=fun k=>True∧k≠g4) ?_ (fun _ hk=>hk.1);(repeat (first|(with_reducible exact Aside0.out HZ4)|(with_reducible refine Kd.R_drewN ?_ _)|(with_reducible refine Kd.R_drew ?_)|refine Kd.R_far ?_ (fun _ hk=>hk.2) _))),(by (repeat (first|(with_reducible exact Aside0.out BK2)|(with_reducible refine jU ?_ _)|(with_reducible refine jS ?_)|(with_reducible refine jT ?_ _)|refine zS ?_ (Aside0.out NB) _))),by rw[ePa.out];exact BP BK4,BL HB⟩)
        have d1:decide ((sz.length:Int)>1)=false:=decide_eq_false (by omega);have d2:decide (1<sz.length)=false:=decide_eq_false h1;have e2:Pa=P:=by rw[hPa,if_neg h1,if_neg h1]
        go_wp2
        go_meet
        case rel=>exact⟨HZ.out,BK BK2,by rw[e2];exact BK BK4,BL HB⟩
       case rest =>
        obtain⟨hz,hb2,hb4,hbw⟩:=hcut;replace HZ:=K_ hz;replace BK2:=K_ hb2;replace BK4:=K_ hb4;replace HB:=K_ hbw;have HP2:=K_ hP2;clear hz hb2 hb4 hbw hP2 hPa;go_upto_if 176 with (fail)
        go_cut [] from 174 to 183 (fun wx=>(Kd.int .i64).R 3 wx w.heap.size (fun _=>True) (.slice A4 sz.length c4) sz∧wx.heap[g2]?=some (.cells Z26 26 (0,0))∧wx.heap[g4]?=some (.cells P2.cs 26 (0,0))∧Below w.heap.size w wx)
        case first =>
         have hszl:=HSL.out;by_cases h1:sz.length>2
         ·have d1:decide ((sz.length:Int)>2)=true:=decide_eq_true (by omega)
          have d2:decide (2<sz.length)=true:=decide_eq_true h1;obtain⟨ad,ea,hcell⟩:=Kd.at_int (Kd.R_reads' HZ.out).2.2 ((sz.length:Int)-2) (by omega) (by omega);subst ea;have hrd:rd sz ((sz.length:Int)-2)=sz.getD (sz.length-2) 0:=by unfold rd;congr 1;omega
          rw[hrd,show ((sz.length:Int)-2).toNat=sz.length-2 by omega] at hcell;have h1le:(2:Int)≤(sz.length:Int):=by omega
          have hwl:IntKind.i64.wrap ((sz.length:Int)-2)=(sz.length:Int)-2:=by rw[IntKind.wrap_i64];omega
          have hb0:(0:Int)≤(sz.length:Int)-2:=by omega
          have hb1:(sz.length:Int)-2<(sz.length:Int):=by omega
          have eP2:=K_ (show P2={ Pa with se:=sz.getD (sz.length-2) 0 } by rw[HP2.out,if_pos h1]);obtain⟨v0,hv0⟩:∃ v0,v0=sz.getD (sz.length-2) 0:=⟨_,rfl⟩
          rw[←hv0] at hcell eP2;clear hv0 hrd;have HZ4:=K_ (Kd.R_types HZ.out BK4.out (by decide));obtain⟨⟨cz0,cz1,cz2,cz3,cz4,cz5,cz6,cz7,cz8,cz9,cz10,cz11,cz12,cz13,cz14,cz15,cz16,cz17,cz18,cz19⟩,fz0,fz1,fz2,fz3,fz4,fz5,fz6,fz7,fz8,fz9,fz10,fz11,fz12,fz13,fz14,fz15,fz16,fz17,fz18,fz19⟩:=zfh BK4;go_wp2
          go_meet
          case rel=>exact⟨(by refine Kd.R_mono (ok:=fun k=>True∧k≠g4) ?_ (fun _ hk=>hk.1);(repeat (first|(with_reducible exact Aside0.out HZ4)|(with_reducible refine Kd.R_drewN ?_ _)|(with_reducible refine Kd.R_drew ?_)|refine Kd.R_far ?_ (fun _ hk=>hk.2) _))),(by (repeat (first|(with_reducible exact Aside0.out BK2)|(with_reducible refine jU ?_ _)|(with_reducible refine jS ?_)|(with_reducible refine jT ?_ _)|refine zS ?_ (Aside0.out NB) _))),by rw[eP2.out];exact BP BK4,BL HB⟩
         have d1:decide ((sz.length:Int)>2)=false:=decide_eq_false (by omega);have d2:decide (2<sz.length)=false:=decide_eq_false h1;have e2:P2=Pa:=by rw[HP2.out,if_neg h1]
         go_wp2
         go_meet
         case rel=>exact⟨HZ.out,BK BK2,by rw[e2];exact BK BK4,BL HB⟩
        case rest =>
         obtain⟨hz,hb2,hb4,hbw⟩:=hcut;replace HZ:=K_ hz;replace BK2:=K_ hb2;replace BK4:=K_ hb4;replace HB:=K_ hbw;clear hz hb2 hb4 hbw HP2;have hpz:=HPL.out;have hfz:=HFS.out;have hfb:¬ 9223372036854775807<pl.size+fr.size:=by omega
         go_upto_region 44 with (fail)
         obtain⟨al,hal⟩:∃ al,al=pl++fr:=⟨_,rfl⟩
         have hals:al.size≤2097152:=by rw[hal,ByteArray.size_append];omega
         have HN2:=K_ (show vI s=if al.size=0 then none else if 0<jO 64 al.data.toList then (if pt=true∨0<jO 48 pl.data.toList then none else if uW [35,64,35] pl.data.toList=false then none else zbm sc sz pl { P2 with ms:=(jO 64 pl.data.toList:Nat),xs:=(pl.size:Int)-(xX pl.data.toList:Nat) })
          else if uW [35,48,48] pl.data.toList=false∨uW [48,35,35] fr.data.toList=false then none
          else if (uF (xE 35 al.data.toList)).size≠0∧((jO 48 fr.data.toList:Int)<(fr.size:Int)∨sc=true) then none
          else zbm sc sz pl { P2 with mi:=(jO 48 pl.data.toList:Nat),mf:=(jO 48 fr.data.toList:Nat),xf:=(fr.size:Int),inc:=uF (xE 35 al.data.toList),xi:=if sc=true then (pl.size:Int) else P2.xi } by rw[HN.out,hal];rfl)
         clear HN;have HAL:=K_ hal;have HAS:=K_ hals;rw[←hal];have hals2:=hals;clear hal hals hfb hpz hfz;by_cases h0:0<al.size
         ·have hle:=zdv h0
          have HK:=fun W=>K_ (zaZ al 64 (by omega) W)
          clear hals2;go_upto_if 192 with (go_at_call 118;refine ((HK _).out).mono ?_;rintro e w' ⟨rfl,rfl⟩)
          go_cut [7,12,19,20,24,26,29,191,192] from 193 to 277 (fun v7 v12 _ _ _ _ _ _ _ wx=>v7=.bool sc∧v12=.bool pt∧∃ P':jZ,vI s=zbm sc sz pl P'∧(0<P'.ms→0<pl.size)∧(Kd.int .i64).R 3 wx w.heap.size (fun _=>True) (.slice A4 sz.length c4) sz∧wx.heap[g2]?=some (.cells Z26 26 (0,0))∧wx.heap[g4]?=some (.cells P'.cs 26 (0,0))∧Below w.heap.size w wx)
          case first =>
           have hpz:=HPL.out;have hfz:=HFS.out;by_cases h1:0<jO 64 al.data.toList
           ·have d1:decide (((jO 64 al.data.toList:Nat):Int)>0)=true:=decide_eq_true (by omega)
            have d2:decide (0<jO 64 al.data.toList)=true:=decide_eq_true h1;have d3:¬ jO 64 al.data.toList=0:=by omega
            have HN3:=K_ (show vI s=if pt=true∨0<jO 48 pl.data.toList then none else if uW [35,64,35] pl.data.toList=false then none else zbm sc sz pl { P2 with ms:=(jO 64 pl.data.toList:Nat),xs:=(pl.size:Int)-(xX pl.data.toList:Nat) } by rw[HN2.out,if_neg (by omega),if_pos h1]);clear HN2;cases hp:pt
            ·have hfr:=HPF.out hp
             have HLL:=K_ (show xX pl.data.toList<pl.size by
              have e:al=pl:=by rw[HAL.out,hfr];exact ByteArray.append_empty
              rw[e] at h1;rw[zR];exact zoy _ h1)
             have HK1:=fun W=>K_ (zaZ pl 48 (by omega) W)
             clear hfr;by_cases h2:0<jO 48 pl.data.toList
             ·have HE:=K_ (show vI s=none by rw[HN3.out,if_pos (.inr h2)])
              have e1:decide (((jO 48 pl.data.toList:Nat):Int)>0)=true:=decide_eq_true (by omega);have e2:decide (0<jO 48 pl.data.toList)=true:=decide_eq_true h2;have e3:¬ jO 48 pl.data.toList=0:=by omega
              go_upto_if 198 with (go_at_call 118;refine ((HK1 _).out).mono ?_;rintro e w' ⟨rfl,rfl⟩)
              (
               go_wp2_with (refine so_ (g:=g2) (cs:=Z26) Z26 ⟨(by (repeat (first|(with_reducible exact Aside0.out BK2)|(with_reducible refine jU ?_ _)|(with_reducible refine jS ?_)|(with_reducible refine jT ?_ _)|refine zS ?_ (Aside0.out NB) _)))⟩ ?_ rfl rfl rfl rfl rfl (by kernel_rfl) rfl rfl;intro w9 hbk hfar hbel;replace BK2:=K_ hbk;replace HB:=K_ (hbel _ _ GE2.out (BL HB));clear hbk hfar hbel)
               refine bodyPost_ret (jA rfl _ _ g2 26 jQ.cs (0,0) _ rfl (BP BK2) Tryz.underlying26 rfl (by kernel_rfl)) rfl ?_;exact⟨jQ,6,rfl,BL HB,.inr ⟨by decide,HE.out⟩⟩)
             have e1:decide (((jO 48 pl.data.toList:Nat):Int)>0)=false:=decide_eq_false (by omega);have e2:decide (0<jO 48 pl.data.toList)=false:=decide_eq_false h2;have e3:jO 48 pl.data.toList=0:=by omega
             have HR:∀ W,Aside0 (Calls Tryz.prog 119 #[.string pl,.int .u8 35,.int .u8 64,.int .u8 35] W fun e w'=>e=.returned (.bool (uW [35,64,35] pl.data.toList))∧Below W.heap.size W w'):=fun W=>⟨zfs pl 35 64 35 (by omega) W⟩
             have HN4:=K_ (show vI s=if uW [35,64,35] pl.data.toList=false then none else zbm sc sz pl { P2 with ms:=(jO 64 pl.data.toList:Nat),xs:=(pl.size:Int)-(xX pl.data.toList:Nat) } by
              rw[HN3.out,if_neg];rintro (h|h);(rw[hp] at h;cases h);exact h2 h)
             clear HN3;cases hr:uW [35,64,35] pl.data.toList
             ·have HE:=K_ (show vI s=none by rw[HN4.out,if_pos hr])
              rw[hr] at HR;go_upto_if 202 with (first|(go_at_call 118;refine ((HK1 _).out).mono ?_;rintro e w' ⟨rfl,rfl⟩)|(go_at_call 119;refine ((HR _).out).mono ?_;rintro e w' ⟨rfl,hb⟩;replace HB:=zF HB hb;replace BK2:=zC BK2 hb;clear hb))
              (
               go_wp2_with (refine so_ (g:=g2) (cs:=Z26) Z26 ⟨(by (repeat (first|(with_reducible exact Aside0.out BK2)|(with_reducible refine jU ?_ _)|(with_reducible refine jS ?_)|(with_reducible refine jT ?_ _)|refine zS ?_ (Aside0.out NB) _)))⟩ ?_ rfl rfl rfl rfl rfl (by kernel_rfl) rfl rfl;intro w9 hbk hfar hbel;replace BK2:=K_ hbk;replace HB:=K_ (hbel _ _ GE2.out (BL HB));clear hbk hfar hbel)
               refine bodyPost_ret (jA rfl _ _ g2 26 jQ.cs (0,0) _ rfl (BP BK2) Tryz.underlying26 rfl (by kernel_rfl)) rfl ?_;exact⟨jQ,4,rfl,BL HB,.inr ⟨by decide,HE.out⟩⟩)
             have HN5:=K_ (show vI s=zbm sc sz pl { P2 with ms:=(jO 64 pl.data.toList:Nat),xs:=(pl.size:Int)-(xX pl.data.toList:Nat) } by rw[HN4.out,hr];rfl);clear HN4;rw[hr] at HR;go_upto_region 51 with (first|(go_at_call 118;refine ((HK1 _).out).mono ?_;rintro e w' ⟨rfl,rfl⟩)|(go_at_call 119;refine ((HR _).out).mono ?_;rintro e w' ⟨rfl,hb⟩;replace HZ:=K_ (Kd.R_below (RB HZ.out) hb);replace HB:=zF HB hb;replace BK2:=zC BK2 hb;replace BK4:=zC BK4 hb;clear hb))
             clear HR HK1 e1 e2 e3 d1 d2 d3;have HK1:=fun W=>K_ (zaZ pl 64 (by omega) W)
             have HZ4:=K_ (Kd.R_types HZ.out BK4.out (by decide));obtain⟨⟨cz0,cz1,cz2,cz3,cz4,cz5,cz6,cz7,cz8,cz9,cz10,cz11,cz12,cz13,cz14,cz15,cz16,cz17,cz18,cz19⟩,fz0,fz1,fz2,fz3,fz4,fz5,fz6,fz7,fz8,fz9,fz10,fz11,fz12,fz13,fz14,fz15,fz16,fz17,fz18,fz19⟩:=zfh BK4;obtain⟨P3,hP3⟩:∃ P3:jZ,P3={ P2 with ms:=(jO 64 pl.data.toList:Nat) }:=⟨_,rfl⟩
             have HN6:=K_ (show vI s=zbm sc sz pl { P3 with xs:=(pl.size:Int)-(xX pl.data.toList:Nat) } by rw[HN5.out,hP3]);clear HN5;go_wp2_with (go_at_call 118;refine ((HK1 _).out).mono ?_;rintro e w' ⟨rfl,rfl⟩)
             go_loopw [] (fun wr=>∃ k:Nat,k≤xX pl.data.toList∧(Kd.int .i64).R 3 wr w.heap.size (fun _=>True) (.slice A4 sz.length c4) sz∧wr.heap[g2]?=some (.cells Z26 26 (0,0))∧wr.heap[g4]?=some (.cells ({ P3 with xs:=(pl.size:Int)-(k:Int) }:jZ).cs 26 (0,0))∧Below w.heap.size w wr) (fun wr=>(intOf ((wr.cell? ⟨g4,10,none⟩).getD (.bool false))).toNat)
             case atStart=>exact⟨0,by omega,(by refine Kd.R_mono (ok:=fun k=>True∧k≠g4) ?_ (fun _ hk=>hk.1);(repeat (first|(with_reducible exact Aside0.out HZ4)|(with_reducible refine Kd.R_drewN ?_ _)|(with_reducible refine Kd.R_drew ?_)|refine Kd.R_far ?_ (fun _ hk=>hk.2) _))),(by (repeat (first|(with_reducible exact Aside0.out BK2)|(with_reducible refine jU ?_ _)|(with_reducible refine jS ?_)|(with_reducible refine jT ?_ _)|refine zS ?_ (Aside0.out NB) _))),by rw[hP3,show ((pl.size:Int)-((0:Nat):Int))=(pl.size:Int) by omega];exact BP BK4,BL HB⟩
             case round =>
              obtain⟨k,hk,hz,hb2,hb4,hbw⟩:=hrel;have HZL:=K_ hz;have BK2L:=K_ hb2;have BK4L:=K_ hb4;have HBL:=K_ hbw;clear hz hb2 hb4 hbw;have hpz:=HPL.out;have hll:=HLL.out;have HZ4L:=K_ (Kd.R_types HZL.out BK4L.out (by decide));have hwk:IntKind.i64.wrap ((pl.size:Int)-((pl.size:Int)-(k:Int)))=(k:Int):=by rw[IntKind.wrap_i64];omega
              have hkp:k<pl.size:=by omega
              have hwn:IntKind.i64.wrap ((pl.size:Int)-(k:Int)-1)=(pl.size:Int)-((k+1:Nat):Int):=by rw[IntKind.wrap_i64];omega
              have e35:(((pl[k].toNat:Nat):Int)==35)=(pl[k]==35):=zbF pl[k] 35;have hm:=K_ (show (wr.cell? ⟨g4,10,none⟩)=some (.int .i64 ((pl.size:Int)-(k:Int))) from (zA BK4L.out 10).trans rfl);obtain⟨⟨cz0,cz1,cz2,cz3,cz4,cz5,cz6,cz7,cz8,cz9,cz10,cz11,cz12,cz13,cz14,cz15,cz16,cz17,cz18,cz19⟩,fz0,fz1,fz2,fz3,fz4,fz5,fz6,fz7,fz8,fz9,fz10,fz11,fz12,fz13,fz14,fz15,fz16,fz17,fz18,fz19⟩:=zfh BK4L;cases hc:(pl[k]==35)
              ·rw[hc] at e35
               have hkk:k=xX pl.data.toList:=by
                apply Decidable.byContradiction;intro h
                have:=zpo pl.data.toList k (by omega) (by rw[←zR];exact hkp)
                rw[show pl.data.toList[k]'(by rw[←zR];exact hkp)=pl[k] from rfl] at this;rw[this] at hc;cases hc
               have HKK:=K_ hkk;clear hc hkk;go_wp2
               go_meet
               case rel=>exact⟨rfl,by rw[hp],{ P3 with xs:=(pl.size:Int)-(xX pl.data.toList:Nat) },HN6.out,fun _=>by omega,HZL.out,BK BK2L,by rw[←HKK.out];exact BK BK4L,BL HBL⟩
              rw[hc] at e35;have hkk:k<xX pl.data.toList:=by
               apply Decidable.byContradiction;intro h
               have hke:k=xX pl.data.toList:=by omega
               subst hke;exact zmE pl.data.toList (by rw[←zR];exact hkp) (eq_of_beq hc)
              have HKK:=K_ hkk;clear hc hkk;go_wp2
              go_roundw
              case rel=>exact⟨k+1,HKK.out,(by refine Kd.R_mono (ok:=fun k=>True∧k≠g4) ?_ (fun _ hk=>hk.1);(repeat (first|(with_reducible exact Aside0.out HZ4L)|(with_reducible refine Kd.R_drewN ?_ _)|(with_reducible refine Kd.R_drew ?_)|refine Kd.R_far ?_ (fun _ hk=>hk.2) _))),(by (repeat (first|(with_reducible exact Aside0.out BK2L)|(with_reducible refine jU ?_ _)|(with_reducible refine jS ?_)|(with_reducible refine jT ?_ _)|refine zS ?_ (Aside0.out NB) _))),BP BK4L,BL HBL⟩
              case measure =>
               have hm2:(wr.setCell ⟨g4,10,none⟩ (Value.int IntKind.i64 ((pl.size:Int)-((k:Int)+1)))).cell? ⟨g4,10,none⟩=some (.int .i64 ((pl.size:Int)-((k:Int)+1))):=(zA (t:=26) (cs:=({ P3 with xs:=(pl.size:Int)-((k+1:Nat):Int) }:jZ).cs) (BP BK4L) 10).trans rfl;rw[hm2,hm.out];simp[intOf];omega
            have HE:=K_ (show vI s=none by rw[HN3.out,if_pos (.inl hp)]);go_upto_if 198 with (fail)
            (
             go_wp2_with (refine so_ (g:=g2) (cs:=Z26) Z26 ⟨(by (repeat (first|(with_reducible exact Aside0.out BK2)|(with_reducible refine jU ?_ _)|(with_reducible refine jS ?_)|(with_reducible refine jT ?_ _)|refine zS ?_ (Aside0.out NB) _)))⟩ ?_ rfl rfl rfl rfl rfl (by kernel_rfl) rfl rfl;intro w9 hbk hfar hbel;replace BK2:=K_ hbk;replace HB:=K_ (hbel _ _ GE2.out (BL HB));clear hbk hfar hbel)
             refine bodyPost_ret (jA rfl _ _ g2 26 jQ.cs (0,0) _ rfl (BP BK2) Tryz.underlying26 rfl (by kernel_rfl)) rfl ?_;exact⟨jQ,6,rfl,BL HB,.inr ⟨by decide,HE.out⟩⟩)
           have d1:decide (((jO 64 al.data.toList:Nat):Int)>0)=false:=decide_eq_false (by omega);have d2:decide (0<jO 64 al.data.toList)=false:=decide_eq_false h1;have d3:jO 64 al.data.toList=0:=by omega
           have hals:=HAS.out
           have HN3:=K_ (show vI s=if uW [35,48,48] pl.data.toList=false∨uW [48,35,35] fr.data.toList=false then none
            else if (uF (xE 35 al.data.toList)).size≠0∧((jO 48 fr.data.toList:Int)<(fr.size:Int)∨sc=true) then none
            else zbm sc sz pl { P2 with mi:=(jO 48 pl.data.toList:Nat),mf:=(jO 48 fr.data.toList:Nat),xf:=(fr.size:Int),inc:=uF (xE 35 al.data.toList),xi:=if sc=true then (pl.size:Int) else P2.xi } by rw[HN2.out,if_neg (by omega),if_neg h1])
           clear HN2 HK;have HR1:∀ W,Aside0 (Calls Tryz.prog 119 #[.string pl,.int .u8 35,.int .u8 48,.int .u8 48] W fun e w'=>e=.returned (.bool (uW [35,48,48] pl.data.toList))∧Below W.heap.size W w'):=fun W=>⟨zfs pl 35 48 48 (by omega) W⟩
           have HR2:∀ W,Aside0 (Calls Tryz.prog 119 #[.string fr,.int .u8 48,.int .u8 35,.int .u8 35] W fun e w'=>e=.returned (.bool (uW [48,35,35] fr.data.toList))∧Below W.heap.size W w'):=fun W=>⟨zfs fr 48 35 35 (by omega) W⟩
           cases hr:uW [35,48,48] pl.data.toList
           ·have HE:=K_ (show vI s=none by rw[HN3.out,if_pos (.inl hr)])
            rw[hr] at HR1;go_upto_if 229 with (go_at_call 119;refine ((HR1 _).out).mono ?_;rintro e w' ⟨rfl,hb⟩;replace HB:=zF HB hb;replace BK2:=zC BK2 hb;clear hb)
            (
             go_wp2_with (refine so_ (g:=g2) (cs:=Z26) Z26 ⟨(by (repeat (first|(with_reducible exact Aside0.out BK2)|(with_reducible refine jU ?_ _)|(with_reducible refine jS ?_)|(with_reducible refine jT ?_ _)|refine zS ?_ (Aside0.out NB) _)))⟩ ?_ rfl rfl rfl rfl rfl (by kernel_rfl) rfl rfl;intro w9 hbk hfar hbel;replace BK2:=K_ hbk;replace HB:=K_ (hbel _ _ GE2.out (BL HB));clear hbk hfar hbel)
             refine bodyPost_ret (jA rfl _ _ g2 26 jQ.cs (0,0) _ rfl (BP BK2) Tryz.underlying26 rfl (by kernel_rfl)) rfl ?_;exact⟨jQ,4,rfl,BL HB,.inr ⟨by decide,HE.out⟩⟩)
           rw[hr] at HR1;cases hr2:uW [48,35,35] fr.data.toList
           ·have HE:=K_ (show vI s=none by rw[HN3.out,if_pos (.inr hr2)])
            rw[hr2] at HR2;go_upto_if 229 with (first|(go_at_call 119;(with_reducible refine ((HR1 _).out).mono ?_);rintro e w' ⟨rfl,hb⟩;replace HB:=zF HB hb;replace BK2:=zC BK2 hb;clear hb)|(go_at_call 119;refine ((HR2 _).out).mono ?_;rintro e w' ⟨rfl,hb⟩;replace HB:=zF HB hb;replace BK2:=zC BK2 hb;clear hb))
            (
             go_wp2_with (refine so_ (g:=g2) (cs:=Z26) Z26 ⟨(by (repeat (first|(with_reducible exact Aside0.out BK2)|(with_reducible refine jU ?_ _)|(with_reducible refine jS ?_)|(with_reducible refine jT ?_ _)|refine zS ?_ (Aside0.out NB) _)))⟩ ?_ rfl rfl rfl rfl rfl (by kernel_rfl) rfl rfl;intro w9 hbk hfar hbel;replace BK2:=K_ hbk;replace HB:=K_ (hbel _ _ GE2.out (BL HB));clear hbk hfar hbel)
             refine bodyPost_ret (jA rfl _ _ g2 26 jQ.cs (0,0) _ rfl (BP BK2) Tryz.underlying26 rfl (by kernel_rfl)) rfl ?_;exact⟨jQ,4,rfl,BL HB,.inr ⟨by decide,HE.out⟩⟩)
           have HN4:=K_ (show vI s=if (uF (xE 35 al.data.toList)).size≠0∧((jO 48 fr.data.toList:Int)<(fr.size:Int)∨sc=true) then none
            else zbm sc sz pl { P2 with mi:=(jO 48 pl.data.toList:Nat),mf:=(jO 48 fr.data.toList:Nat),xf:=(fr.size:Int),inc:=uF (xE 35 al.data.toList),xi:=if sc=true then (pl.size:Int) else P2.xi } by
            rw[HN3.out,if_neg];rintro (h|h)
            ·rw[hr] at h;cases h
            rw[hr2] at h;cases h)
           clear HN3;rw[hr2] at HR2;go_upto_region 57 with (first|(go_at_call 119;(with_reducible refine ((HR1 _).out).mono ?_);rintro e w' ⟨rfl,hb⟩;replace HZ:=K_ (Kd.R_below (RB HZ.out) hb);replace HB:=zF HB hb;replace BK2:=zC BK2 hb;replace BK4:=zC BK4 hb;clear hb)|(go_at_call 119;refine ((HR2 _).out).mono ?_;rintro e w' ⟨rfl,hb⟩;replace HZ:=K_ (Kd.R_below (RB HZ.out) hb);replace HB:=zF HB hb;replace BK2:=zC BK2 hb;replace BK4:=zC BK4 hb;clear hb))
           clear HR1 HR2 d1 d2 d3 hr hr2;have HK1:∀ W,Aside0 (Calls Tryz.prog 118 #[.string pl,.int .u8 48] W fun e w'=>e=.returned (.int .i64 (jO 48 pl.data.toList:Nat))∧w'=W):=fun W=>⟨zaZ pl 48 (by omega) W⟩
           have HK2:∀ W,Aside0 (Calls Tryz.prog 118 #[.string fr,.int .u8 48] W fun e w'=>e=.returned (.int .i64 (jO 48 fr.data.toList:Nat))∧w'=W):=fun W=>⟨zaZ fr 48 (by omega) W⟩
           have HZ4:=K_ (Kd.R_types HZ.out BK4.out (by decide));obtain⟨⟨cz0,cz1,cz2,cz3,cz4,cz5,cz6,cz7,cz8,cz9,cz10,cz11,cz12,cz13,cz14,cz15,cz16,cz17,cz18,cz19⟩,fz0,fz1,fz2,fz3,fz4,fz5,fz6,fz7,fz8,fz9,fz10,fz11,fz12,fz13,fz14,fz15,fz16,fz17,fz18,fz19⟩:=zfh BK4;go_upto_region 58 with (first|(go_at_call 118;(with_reducible refine ((HK1 _).out).mono ?_);rintro e w' ⟨rfl,rfl⟩)|(go_at_call 118;refine ((HK2 _).out).mono ?_;rintro e w' ⟨rfl,rfl⟩))
           go_wp2_with (fail)
           go_loop [19,20] (fun vd vi=>∃ k:Nat,k≤al.size∧vd=.string (xE 35 (al.data.toList.take k))∧vi=.int .i64 k) (fun _ vi=>al.size-(intOf vi).toNat)
           case atStart=>exact⟨0,by omega,rfl,rfl⟩
           case round =>
            obtain⟨k,hk,rfl,rfl⟩:=hrel;have hals:=HAS.out;by_cases hlt:k<al.size
            ·have hfl:=zey 35 (al.data.toList.take k)
             rw[List.length_take] at hfl;have e35:(((al[k].toNat:Nat):Int) !=35)=!(al[k]==35):=congrArg (! ·) (zbF al[k] 35);have hwk:IntKind.i64.wrap ((k:Int)+1)=(k:Int)+1:=by rw[IntKind.wrap_i64];omega
             cases hc:(al[k]==35)
             ·rw[hc] at e35
              have HF:=K_ (ziV (l:=al.data.toList) (k:=k) 35 (by rw[←zR];exact hlt) (beq_eq_false_iff_ne.1 hc));have hle1:(k:Int)≤(k:Int)+1:=by omega
              have hle2:(k:Int)+1≤(al.size:Int):=by omega
              have h01:(0:Int)≤(k:Int)+1:=by omega
              have hle3:k+1≤al.size:=hlt;have hn1:((k:Int)+1).toNat=k+1:=by omega
              have hfb:¬ 9223372036854775807<(xE 35 (List.take k al.data.toList)).size+1:=by omega
              clear hc;go_wp2
              go_round
              case rel=>exact⟨k+1,by omega,by rw[HF.out,zgz hlt];rfl,by go_num⟩
              case measure=>simp[intOf];omega
             rw[hc] at e35;have HF:=K_ (zjh (l:=al.data.toList) (k:=k) 35 (by rw[←zR];exact hlt) (eq_of_beq hc));clear hc;go_wp2
             go_round
             case rel=>exact⟨k+1,by omega,by rw[HF.out],by go_num⟩
             case measure=>simp[intOf];omega
            obtain rfl:k=al.size:=by omega
            have eW:al.data.toList.take al.size=al.data.toList:=List.take_of_length_le (by rw[←zR];exact Nat.le_refl _);obtain⟨D,hD⟩:∃ D,D=xE 35 al.data.toList:=⟨_,rfl⟩
            have hds:D.size≤2097152:=by
             have:=zey 35 al.data.toList
             rw[←zR] at this;rw[hD];omega
            rw[eW,←hD];rw[←hD] at HN4;have HL:=fun W=>K_ (zgg D (by omega) W)
            clear hD eW hds;go_upto_region 65 with (go_at_call 117;refine ((HL _).out).mono ?_;rintro e w' ⟨rfl,⟨nd,rfl⟩⟩)
            obtain⟨D2,hD2⟩:∃ D2,D2=uF D:=⟨_,rfl⟩
            rw[←hD2] at HN4 ⊢;clear hD2 HL;obtain⟨P4,hP4⟩:∃ P4:jZ,P4={ P2 with mi:=(jO 48 pl.data.toList:Nat),mf:=(jO 48 fr.data.toList:Nat),xf:=(fr.size:Int),inc:=D2 }:=⟨_,rfl⟩
            have HM4:=K_ (show P4.ms=0 by rw[hP4];exact HMS2.out);have HF4:=K_ (show P4.mf=(jO 48 fr.data.toList:Nat)∧P4.xf=(fr.size:Int)∧P4.inc=D2 by rw[hP4];exact⟨rfl,rfl,rfl⟩);replace HN4:=K_ (show vI s=if D2.size≠0∧((jO 48 fr.data.toList:Int)<(fr.size:Int)∨sc=true) then none else zbm sc sz pl { P4 with xi:=if sc=true then (pl.size:Int) else P4.xi } by rw[HN4.out,hP4]);refine zbO (fun wx=>(Kd.int .i64).R 3 wx w.heap.size (fun _=>True) (.slice A4 sz.length c4) sz∧wx.heap[g2]?=some (.cells Z26 26 (0,0))∧wx.heap[g4]?=some (.cells P4.cs 26 (0,0))∧Below w.heap.size w wx) ⟨(by refine Kd.R_mono (ok:=fun k=>True∧k≠g4) ?_ (fun _ hk=>hk.1);(repeat (first|(with_reducible exact Aside0.out HZ4)|(with_reducible refine Kd.R_drewN ?_ _)|(with_reducible refine Kd.R_drew ?_)|refine Kd.R_far ?_ (fun _ hk=>hk.2) _))),(by (repeat (first|(with_reducible exact Aside0.out BK2)|(with_reducible refine jU ?_ _)|(with_reducible refine jS ?_)|(with_reducible refine jT ?_ _)|refine zS ?_ (Aside0.out NB) _))),by rw[hP4];exact BP BK4,BL HB⟩ ?_;rintro w6 ⟨hz,hb2,hb4,hbw⟩;replace HZ:=K_ hz;replace BK2:=K_ hb2;replace BK4:=K_ hb4;replace HB:=K_ hbw;clear hz hb2 hb4 hbw hP4;replace HZ4:=K_ (Kd.R_types HZ.out BK4.out (by decide));have eI:=(zA BK4.out 13).trans (show _=some (Value.string P4.inc) from rfl);have eF:=(zA BK4.out 7).trans (show _=some (Value.int .i64 P4.mf) from rfl);have eX:=(zA BK4.out 8).trans (show _=some (Value.int .i64 P4.xf) from rfl);have e6:=(zA BK4.out 6).trans (show _=some (Value.int .i64 P4.xi) from rfl)
            have eZ:=zM BK4.out 6;rw[HF4.out.2.2] at eI;rw[HF4.out.1] at eF;rw[HF4.out.2.1] at eX;by_cases q1:0<D2.size
            ·have qe:=zdv q1
             by_cases q2:((jO 48 fr.data.toList:Nat):Int)<(fr.size:Int)
             ·have HE:=K_ (show vI s=none by rw[HN4.out,if_pos ⟨by omega,.inl q2⟩])
              have dq:=decide_eq_true q2;go_upto_if 272 with (fail)
              (
               go_wp2_with (refine so_ (g:=g2) (cs:=Z26) Z26 ⟨(by (repeat (first|(with_reducible exact Aside0.out BK2)|(with_reducible refine jU ?_ _)|(with_reducible refine jS ?_)|(with_reducible refine jT ?_ _)|refine zS ?_ (Aside0.out NB) _)))⟩ ?_ rfl rfl rfl rfl rfl (by kernel_rfl) rfl rfl;intro w9 hbk hfar hbel;replace BK2:=K_ hbk;replace HB:=K_ (hbel _ _ GE2.out (BL HB));clear hbk hfar hbel)
               refine bodyPost_ret (jA rfl _ _ g2 26 jQ.cs (0,0) _ rfl (BP BK2) Tryz.underlying26 rfl (by kernel_rfl)) rfl ?_;exact⟨jQ,6,rfl,BL HB,.inr ⟨by decide,HE.out⟩⟩)
             have dq:=decide_eq_false q2;cases hs:sc
             ·have HN5:=K_ (show vI s=zbm sc sz pl P4 by
               rw[HN4.out,if_neg,hs]
               ·rfl
               rintro⟨_,h|h⟩
               ·exact q2 h
               rw[hs] at h;cases h)
              go_wp2
              go_meet
              case rel=>exact⟨by rw[hs],rfl,_,HN5.out,fun h=>by rw[HM4.out] at h;omega,HZ.out,BK BK2,BK BK4,BL HB⟩
             have HE:=K_ (show vI s=none by rw[HN4.out,if_pos ⟨by omega,.inr hs⟩]);go_upto_if 272 with (fail)
             (
              go_wp2_with (refine so_ (g:=g2) (cs:=Z26) Z26 ⟨(by (repeat (first|(with_reducible exact Aside0.out BK2)|(with_reducible refine jU ?_ _)|(with_reducible refine jS ?_)|(with_reducible refine jT ?_ _)|refine zS ?_ (Aside0.out NB) _)))⟩ ?_ rfl rfl rfl rfl rfl (by kernel_rfl) rfl rfl;intro w9 hbk hfar hbel;replace BK2:=K_ hbk;replace HB:=K_ (hbel _ _ GE2.out (BL HB));clear hbk hfar hbel)
              refine bodyPost_ret (jA rfl _ _ g2 26 jQ.cs (0,0) _ rfl (BP BK2) Tryz.underlying26 rfl (by kernel_rfl)) rfl ?_;exact⟨jQ,6,rfl,BL HB,.inr ⟨by decide,HE.out⟩⟩)
            have qe:=zfF q1;have HN5:=K_ (show vI s=zbm sc sz pl { P4 with xi:=if sc=true then (pl.size:Int) else P4.xi } by
             rw[HN4.out,if_neg];rintro⟨h,_⟩;exact h (by omega))
            cases hs:sc
            ·have HN6:=K_ (show vI s=zbm sc sz pl P4 by rw[HN5.out,hs];rfl)
             go_wp2
             go_meet
             case rel=>exact⟨by rw[hs],rfl,_,HN6.out,fun h=>by rw[HM4.out] at h;omega,HZ.out,BK BK2,BK BK4,BL HB⟩
            have HN6:=K_ (show vI s=zbm sc sz pl { P4 with xi:=(pl.size:Int) } by rw[HN5.out,hs];rfl);go_wp2
            go_meet
            case rel=>exact⟨by rw[hs],rfl,_,HN6.out,fun h=>by rw[show ({ P4 with xi:=(pl.size:Int) }:jZ).ms=P4.ms from rfl,HM4.out] at h;omega,(by refine Kd.R_mono (ok:=fun k=>True∧k≠g4) ?_ (fun _ hk=>hk.1);(repeat (first|(with_reducible exact Aside0.out HZ4)|(with_reducible refine Kd.R_drewN ?_ _)|(with_reducible refine Kd.R_drew ?_)|refine Kd.R_far ?_ (fun _ hk=>hk.2) _))),(by (repeat (first|(with_reducible exact Aside0.out BK2)|(with_reducible refine jU ?_ _)|(with_reducible refine jS ?_)|(with_reducible refine jT ?_ _)|refine zS ?_ (Aside0.out NB) _))),BP BK4,BL HB⟩
          case rest =>
           obtain⟨rfl,rfl,P6,he,hms,hz,hb2,hb4,hbw⟩:=hcut;replace HZ:=K_ hz;replace BK2:=K_ hb2;replace BK4:=K_ hb4;replace HB:=K_ hbw;have HN:=K_ he;have HM:=K_ hms;clear he hms hz hb2 hb4 hbw HN2 HK HAL HPF hle h0;have hszl:=HSL.out;obtain⟨tst,htst⟩:∃ tst:Bool,tst=(sc&&(decide (1<sz.length)||(decide (0<P6.ms)&&(pl.data.toList.headD 0==35)))):=⟨_,rfl⟩
           have HT:=K_ htst;have e9:=(zA BK4.out 9).trans (show _=some (Value.int .i64 P6.ms) from rfl);clear htst;go_upto_region 69 with (fail)
           go_cut [7,293] from 278 to 293 (fun v c wx=>v=.bool sc∧c=.bool tst∧wx=wc)
           case first =>
            cases hs:sc
            ·go_wp2
             go_meet
             case rel=>exact⟨by rw[hs],by rw[HT.out,hs];rfl,rfl⟩
            by_cases h1:sz.length>1
            ·have d1:decide ((sz.length:Int)>1)=true:=decide_eq_true (by omega)
             have d2:decide (1<sz.length)=true:=decide_eq_true h1;have D:=K_ d2;go_wp2
             go_meet
             case rel=>exact⟨by rw[hs],by rw[HT.out,hs,D.out];rfl,rfl⟩
            have d1:decide ((sz.length:Int)>1)=false:=decide_eq_false (by omega);have d2:decide (1<sz.length)=false:=decide_eq_false h1;have D:=K_ d2;by_cases h2:P6.ms>0
            ·have d3:decide (P6.ms>0)=true:=decide_eq_true h2
             have D3:=K_ (show decide (0<P6.ms)=true from d3);have hp0:=HM.out h2;have e35:(((pl[0].toNat:Nat):Int)==35)=(pl.data.toList.headD 0==35):=by rw[zkM hp0];exact zbF pl[0] 35
             go_wp2
             go_meet
             case rel=>exact⟨by rw[hs],by rw[HT.out,hs,D.out,D3.out,List.headD_eq_head?_getD];rfl,rfl⟩
            have d3:decide (P6.ms>0)=false:=decide_eq_false h2;have D3:=K_ (show decide (0<P6.ms)=false from d3);go_wp2
            go_meet
            case rel=>exact⟨by rw[hs],by rw[HT.out,hs,D.out,D3.out];rfl,rfl⟩
           case rest =>
            obtain⟨rfl,rfl,rfl⟩:=hcut;cases ht:tst
            ·have HN3:=K_ (show vI s=zes P6 by
              rw[HN.out];unfold zbm;rw[if_neg];rintro⟨q1,q2⟩;have:=HT.out
              rw[ht,q1] at this;rcases q2 with q2|⟨q2,q3⟩
              ·rw[decide_eq_true q2] at this;cases this
              rw[decide_eq_true (show 0<P6.ms from q2),q3,Bool.or_comm] at this;cases this)
             clear HN HT HM ht e9;obtain⟨⟨cz0,cz1,cz2,cz3,cz4,cz5,cz6,cz7,cz8,cz9,cz10,cz11,cz12,cz13,cz14,cz15,cz16,cz17,cz18,cz19⟩,fz0,fz1,fz2,fz3,fz4,fz5,fz6,fz7,fz8,fz9,fz10,fz11,fz12,fz13,fz14,fz15,fz16,fz17,fz18,fz19⟩:=zfh BK4;go_upto_region 71 with (fail)
             go_wp2_with (fail)
             obtain⟨g7,hg7⟩:∃ g7,g7=wc.heap.size:=⟨_,rfl⟩
             rw[←hg7];obtain⟨ad7,had⟩:∃ ad7:Addr,ad7=⟨g7,0,none⟩:=⟨_,rfl⟩
             rw[←had];refine zbO (fun wx=>wx.heap[g7]?=some (.cells #[.int .i64 P6.mi,.int .i64 P6.xi,.int .i64 P6.xf,.int .i64 P6.xs,.int .i64 P6.pr,.int .i64 P6.se,.int .i64 (P6.inc.size:Int)] 3 (0,0))∧wx.heap[g2]?=some (.cells Z26 26 (0,0))∧wx.heap[g4]?=some (.cells P6.cs 26 (0,0))∧Below w.heap.size w wx) ⟨by rw[hg7];exact zcl _ _,BK BK2,BK BK4,BL HB⟩ ?_;rintro w7 ⟨h7,hb2,hb4,hbw⟩;replace BK2:=K_ hb2;replace BK4:=K_ hb4;replace HB:=K_ hbw;have HC7:=K_ (show ∀ k,(h:k<(zbb P6).length)→w7.cell? (ad7.add k)=some (.int .i64 ((zbb P6)[k]'h)) by
              intro k h;rw[show ad7.add k=⟨g7,k,none⟩ by rw[had];simp[Addr.add] <;> omega,zA h7 k];rw[zin] at h
              match k,h with
              | 0,_=>rfl
              | 1,_=>rfl
              | 2,_=>rfl
              | 3,_=>rfl
              | 4,_=>rfl
              | 5,_=>rfl
              | 6,_=>rfl)
             clear h7 hb2 hb4 hbw had hg7;go_loop [312] (fun v=>∃ k:Nat,k≤7∧v=.int .i64 k∧∀ x∈(zbb P6).take k,x≤40) (fun v=>7-(intOf v).toNat)
             case atStart=>exact⟨0,by omega,rfl,fun x hx=>by simp at hx⟩
             case round =>
              obtain⟨k,hk,rfl,hz⟩:=hrel;have HK:=K_ hz;clear hz;by_cases hlt:k<7
              ·have dlt:decide ((k:Int)<7)=true:=decide_eq_true (by omega)
               have hlt2:k<(zbb P6).length:=hlt;obtain⟨x0,hx0⟩:∃ x0,x0=(zbb P6)[k]:=⟨_,rfl⟩
               have hcell:=HC7.out k hlt2;rw[←hx0] at hcell;have HX0:=K_ hx0;clear hx0;by_cases hq:x0>40
               ·have HE:=K_ (show vI s=none by rw[HN3.out];exact znz P6 (by rw[HX0.out];exact List.getElem_mem hlt2) hq)
                have dq:decide (x0>40)=true:=decide_eq_true hq;go_upto_if 317 with (fail)
                (
                 go_wp2_with (refine so_ (g:=g2) (cs:=Z26) Z26 ⟨(by (repeat (first|(with_reducible exact Aside0.out BK2)|(with_reducible refine jU ?_ _)|(with_reducible refine jS ?_)|(with_reducible refine jT ?_ _)|refine zS ?_ (Aside0.out NB) _)))⟩ ?_ rfl rfl rfl rfl rfl (by kernel_rfl) rfl rfl;intro w9 hbk hfar hbel;replace BK2:=K_ hbk;replace HB:=K_ (hbel _ _ GE2.out (BL HB));clear hbk hfar hbel)
                 refine bodyPost_ret (jA rfl _ _ g2 26 jQ.cs (0,0) _ rfl (BP BK2) Tryz.underlying26 rfl (by kernel_rfl)) rfl ?_;exact⟨jQ,8,rfl,BL HB,.inr ⟨by decide,HE.out⟩⟩)
               have dq:decide (x0>40)=false:=decide_eq_false hq;have HKK:=K_ (show ∀ x∈(zbb P6).take (k+1),x≤40 by
                intro x hx;rw[List.take_succ_eq_append_getElem hlt2,List.mem_append,List.mem_singleton] at hx;rcases hx with hx|rfl
                ·exact HK.out x hx
                rw[←HX0.out];omega)
               go_wp2
               go_round
               case rel=>exact⟨k+1,by omega,by go_num,HKK.out⟩
               case measure=>simp[intOf];omega
              obtain rfl:k=7:=by omega
              have HE:=K_ (show vI s=some P6 by rw[HN3.out];exact znr P6 (by have:=HK.out;rwa [List.take_of_length_le (by rw[zin];exact Nat.le_refl _)] at this));have dlt:decide (((7:Nat):Int)<7)=false:=rfl;go_wp2_with (first|(refine lo_ (g:=g4) (cs:=P6.cs) _ BK4 ?_ rfl rfl rfl Tryz.underlying26 rfl (by kernel_rfl))|(refine so_ (g:=g2) (cs:=Z26) P6.cs BK2 ?_ rfl rfl rfl rfl rfl rfl rfl rfl;intro w9 hbk hfar hbel;replace BK2:=K_ hbk;replace HB:=K_ (hbel _ _ GE2.out (BL HB));clear hbk hfar hbel))
              refine bodyPost_ret (jA rfl _ _ g2 26 P6.cs (0,0) _ rfl BK2.out Tryz.underlying26 rfl rfl) rfl ?_;exact⟨P6,0,rfl,BL HB,.inl ⟨rfl,HE.out⟩⟩
            have HE:=K_ (show vI s=none by
             rw[HN.out];unfold zbm;rw[if_pos];have:=HT.out
             rw[ht] at this;have q:=this.symm;rw[Bool.and_eq_true,Bool.or_eq_true,Bool.and_eq_true] at q;exact⟨q.1,q.2.imp (fun h=>of_decide_eq_true h) (fun h=>⟨of_decide_eq_true h.1,eq_of_beq h.2⟩)⟩)
            go_upto_if 293 with (fail)
            (
             go_wp2_with (refine so_ (g:=g2) (cs:=Z26) Z26 ⟨(by (repeat (first|(with_reducible exact Aside0.out BK2)|(with_reducible refine jU ?_ _)|(with_reducible refine jS ?_)|(with_reducible refine jT ?_ _)|refine zS ?_ (Aside0.out NB) _)))⟩ ?_ rfl rfl rfl rfl rfl (by kernel_rfl) rfl rfl;intro w9 hbk hfar hbel;replace BK2:=K_ hbk;replace HB:=K_ (hbel _ _ GE2.out (BL HB));clear hbk hfar hbel)
             refine bodyPost_ret (jA rfl _ _ g2 26 jQ.cs (0,0) _ rfl (BP BK2) Tryz.underlying26 rfl (by kernel_rfl)) rfl ?_;exact⟨jQ,6,rfl,BL HB,.inr ⟨by decide,HE.out⟩⟩)
         have HE:=K_ (show vI s=none by rw[HN2.out,if_pos (by omega)]);have hle:=zfF h0;go_upto_if 188 with (fail)
         (
          go_wp2_with (refine so_ (g:=g2) (cs:=Z26) Z26 ⟨(by (repeat (first|(with_reducible exact Aside0.out BK2)|(with_reducible refine jU ?_ _)|(with_reducible refine jS ?_)|(with_reducible refine jT ?_ _)|refine zS ?_ (Aside0.out NB) _)))⟩ ?_ rfl rfl rfl rfl rfl (by kernel_rfl) rfl rfl;intro w9 hbk hfar hbel;replace BK2:=K_ hbk;replace HB:=K_ (hbel _ _ GE2.out (BL HB));clear hbk hfar hbel)
          refine bodyPost_ret (jA rfl _ _ g2 26 jQ.cs (0,0) _ rfl (BP BK2) Tryz.underlying26 rfl (by kernel_rfl)) rfl ?_;exact⟨jQ,4,rfl,BL HB,.inr ⟨by decide,HE.out⟩⟩)
    have HE:=K_ (show vI s=none by
     rw[HN.out,if_pos];simpa using hq)
    go_upto_if 105 with (fail)
    (
     go_wp2_with (refine so_ (g:=g2) (cs:=Z26) Z26 ⟨(by (repeat (first|(with_reducible exact Aside0.out BK2)|(with_reducible refine jU ?_ _)|(with_reducible refine jS ?_)|(with_reducible refine jT ?_ _)|refine zS ?_ (Aside0.out NB) _)))⟩ ?_ rfl rfl rfl rfl rfl (by kernel_rfl) rfl rfl;intro w9 hbk hfar hbel;replace BK2:=K_ hbk;replace HB:=K_ (hbel _ _ GE2.out (BL HB));clear hbk hfar hbel)
     refine bodyPost_ret (jA rfl _ _ g2 26 jQ.cs (0,0) _ rfl (BP BK2) Tryz.underlying26 rfl (by kernel_rfl)) rfl ?_;exact⟨jQ,4,rfl,BL HB,.inr ⟨by decide,HE.out⟩⟩)
end Go.Proofs.YtcmgdjnjmobkoaaGreatDoor.Px
