/- The functions that the law ShapeValueUpto reaches, told as plain functions, with what is proved of them, and the words they need (part 3). -/
import Derived.Test.YtcmgdjnjmobkoaaGreatDoorCShapeValueUpto0
import Derived.Test.YtcmgdjnjmobkoaaGreatDoorCShapeValueUpto2
import Derived.Test.YtcmgdjnjmobkoaaGreatDoorCShapeValueUpto1
import Derived.Lib.FrozenHead2
set_option linter.unusedVariables false
set_option linter.unusedSimpArgs false
namespace Go.Proofs.YtcmgdjnjmobkoaaGreatDoor.Px
open Fig Go.RowKit Go.Proofs.YtcmgdjnjmobkoaaGreatDoorW.PrintWords Go.Proofs.YtcmgdjnjmobkoaaGreatDoorW.PrintLast Go.Proofs.YtcmgdjnjmobkoaaGreatDoorW.PrintMore
attribute [local go_sem] yS yR vN vM yF yE yU yT
attribute [local go_sem] uX uQ uP uU uV uO qA uR uZ uM uT uN uY uW
def zdZ.f (a0_0:Bool) (a0_1:ByteArray) (a0_2:Int):Option (Bool):=if (a0_1.size:Int)>1000 then (some false) else (if a0_2<(-1000) then (some false) else (if a0_2>1000 then (some false) else ((zap.f a0_1).bind fun bt280=>(some bt280.2))))
set_option maxHeartbeats 8000000 in
set_option maxRecDepth 100000 in
theorem zdZ.calls (a0_0:Bool) (a0_1:ByteArray) (a0_2:Int) (r:Bool) (w:World) (h:zdZ.f a0_0 a0_1 a0_2=some r) :
  Calls Tryz.prog 33 #[.agg #[.bool a0_0,.string a0_1,.int .i64 a0_2]] w fun e w'=>e=.returned (.bool r)∧Below w.heap.size w w':=by
 have hu23:=Tryz.underlying23;have HB:=K_ (Below.refl w.heap.size w);have H:(if (a0_1.size:Int)>1000 then (some false) else (if a0_2<(-1000) then (some false) else (if a0_2>1000 then (some false) else ((zap.f a0_1).bind fun bt280=>(some bt280.2)))))=some r:=h;clear h;by_cases c2:(a0_1.size:Int)>1000
 ·rw[if_pos c2] at H
  have c2b0:decide (1000<(a0_1.size:Int))=true:=decide_eq_true c2;have c2b1:decide (1000<a0_1.size)=true:=decide_eq_true (by omega);clear c2;obtain rfl:=Option.some.inj H;go_enter Tryz.func33,Tryz.ntmps33
  go_wp2_with (first|(refine be_ 1 #[.bool a0_0,.string a0_1,.int .i64 a0_2] 23 ?_;intro gb279 hg w3 hbox hb;have BK279:=K_ (hbox);have GW279:=ge_ hg HB;have GE279:=ge_ hg HB;replace HB:=zF HB hb;clear hb hbox hg;obtain⟨⟨hcz4_0,hcz4_1,hcz4_2⟩,hfz4_0,hfz4_1,hfz4_2⟩:=ce3 BK279))
  go_ret
  exact⟨ER,BL HB⟩
 rw[if_neg c2] at H;have c2b0:decide (1000<(a0_1.size:Int))=false:=decide_eq_false c2;have c2b1:decide (1000<a0_1.size)=false:=decide_eq_false (by omega);clear c2;by_cases c5:a0_2<(-1000)
 ·rw[if_pos c5] at H
  have c5b0:decide (a0_2<(-1000))=true:=decide_eq_true c5;clear c5;obtain rfl:=Option.some.inj H;go_enter Tryz.func33,Tryz.ntmps33
  go_wp2_with (first|(refine be_ 1 #[.bool a0_0,.string a0_1,.int .i64 a0_2] 23 ?_;intro gb279 hg w6 hbox hb;have BK279:=K_ (hbox);have GW279:=ge_ hg HB;have GE279:=ge_ hg HB;replace HB:=zF HB hb;clear hb hbox hg;obtain⟨⟨hcz7_0,hcz7_1,hcz7_2⟩,hfz7_0,hfz7_1,hfz7_2⟩:=ce3 BK279))
  go_ret
  exact⟨ER,BL HB⟩
 rw[if_neg c5] at H;have c5b0:decide (a0_2<(-1000))=false:=decide_eq_false c5;clear c5;by_cases c8:a0_2>1000
 ·rw[if_pos c8] at H
  have c8b0:decide (1000<a0_2)=true:=decide_eq_true c8;clear c8;obtain rfl:=Option.some.inj H;go_enter Tryz.func33,Tryz.ntmps33
  go_wp2_with (first|(refine be_ 1 #[.bool a0_0,.string a0_1,.int .i64 a0_2] 23 ?_;intro gb279 hg w9 hbox hb;have BK279:=K_ (hbox);have GW279:=ge_ hg HB;have GE279:=ge_ hg HB;replace HB:=zF HB hb;clear hb hbox hg;obtain⟨⟨hcz10_0,hcz10_1,hcz10_2⟩,hfz10_0,hfz10_1,hfz10_2⟩:=ce3 BK279))
  go_ret
  exact⟨ER,BL HB⟩
 rw[if_neg c8] at H;have c8b0:decide (1000<a0_2)=false:=decide_eq_false c8;clear c8;obtain⟨⟨t280,t281⟩,A110,H⟩:=Option.bind_eq_some_iff.mp H
 (try dsimp -simprocs only at H)
 have A11:=K_ A110;clear A110;obtain rfl:=Option.some.inj H;go_enter Tryz.func33,Tryz.ntmps33
 go_wp2_with (first|(refine be_ 1 #[.bool a0_0,.string a0_1,.int .i64 a0_2] 23 ?_;intro gb279 hg w12 hbox hb;have BK279:=K_ (hbox);have GW279:=ge_ hg HB;have GE279:=ge_ hg HB;replace HB:=zF HB hb;clear hb hbox hg;obtain⟨⟨hcz13_0,hcz13_1,hcz13_2⟩,hfz13_0,hfz13_1,hfz13_2⟩:=ce3 BK279)|((with_reducible refine zK (f:=58) rfl ?_);refine zW (some 22) rfl rfl Tryz.func58 (by kernel_rfl) rfl #[.string a0_1] rfl MP ?_;(with_reducible refine (zap.calls a0_1 t280 t281 _ A11.out).mono ?_);rintro e w14 ⟨v282,rfl,ho0,hb⟩;refine⟨_,rfl,?_⟩;have HO283:=K_ (Kd.R_lower ho0 (zS (BL HB)));replace BK279:=zC BK279 hb;replace HB:=zF HB hb;(try clear hb);(try clear hb2);(try clear hk);(try clear hi);(try clear ho0)))
 go_ret
 exact⟨ER,BL HB⟩
def vV.f (a0_0:Bool) (a0_1:ByteArray) (a0_2:Int) (a1:Int):Option (Bool×ByteArray×Int):=(vH.f a0_0 a0_1 (wrap64 (a0_2+a1))).bind fun bt529=>(some (bt529.1,bt529.2.1,bt529.2.2))
set_option maxHeartbeats 8000000 in
set_option maxRecDepth 100000 in
theorem vV.calls (a0_0:Bool) (a0_1:ByteArray) (a0_2:Int) (a1:Int) (r1:Bool) (r2:ByteArray) (r3:Int) (w:World) (h:vV.f a0_0 a0_1 a0_2 a1=some (r1,r2,r3)) :
  Calls Tryz.prog 37 #[.agg #[.bool a0_0,.string a0_1,.int .i64 a0_2],.int .i64 a1] w fun e w'=>e=.returned (.agg #[.bool r1,.string r2,.int .i64 r3])∧Below w.heap.size w w':=by
 have hu23:=Tryz.underlying23;have HB:=K_ (Below.refl w.heap.size w);have H:((vH.f a0_0 a0_1 (wrap64 (a0_2+a1))).bind fun bt529=>(some (bt529.1,bt529.2.1,bt529.2.2)))=some (r1,r2,r3):=h;clear h;obtain⟨⟨t529,t530,t531⟩,A30,H⟩:=Option.bind_eq_some_iff.mp H
 (try dsimp -simprocs only at H)
 have A3:=K_ A30;clear A30;simp only[Option.some.injEq,Prod.mk.injEq] at H
 obtain⟨rfl,rfl,rfl⟩:=H;go_enter Tryz.func37,Tryz.ntmps37
 go_wp2_with (first|(refine be_ 2 #[.bool a0_0,.string a0_1,.int .i64 a0_2] 23 ?_;intro gb527 hg w4 hbox hb;have BK527:=K_ (hbox);have GW527:=ge_ hg HB;have GE527:=ge_ hg HB;replace HB:=zF HB hb;clear hb hbox hg)|(refine be_ 4 #[.bool false,.string (⟨#[]⟩:ByteArray),.int .i64 0] 23 ?_;intro gb528 hg w5 hbox hb;have BK528:=K_ (hbox);have GW528:=ge_ hg HB;have GE528:=ge_ hg HB;replace HB:=zF HB hb;have NB527_528:=nb_ hg BK527;have NB528_527:=nc_ hg BK527;replace BK527:=zC BK527 hb;clear hb hbox hg;have hnb6:=NB527_528.out;have hnc6:=NB528_527.out;obtain⟨⟨hcz7_0,hcz7_1,hcz7_2⟩,hfz7_0,hfz7_1,hfz7_2⟩:=ce3 BK527)|((with_reducible refine zK (f:=59) rfl ?_);refine zW (some 11) rfl rfl Tryz.func59 (by kernel_rfl) rfl #[.agg #[.bool a0_0,.string a0_1,.int .i64 (wrap64 (a0_2+a1))]] rfl MP ?_;(with_reducible refine (vH.calls a0_0 a0_1 (wrap64 (a0_2+a1)) t529 t530 t531 _ A3.out).mono ?_);rintro e w8 ⟨rfl,hb⟩;refine⟨_,rfl,?_⟩;replace BK527:=K_ (zcg (g:=gb527) (o:=.cells #[.bool a0_0,.string a0_1,.int .i64 (wrap64 (a0_2+a1))] 23 (0,0)) (BP BK527) hb);replace BK528:=K_ (zcg (g:=gb528) (o:=.cells #[.bool false,.string (⟨#[]⟩:ByteArray),.int .i64 0] 23 (0,0)) (by (with_reducible repeat (first|refine jT ?_ _|refine jS ?_|refine jU ?_ _));refine zR ?_ NB528_527.out _;(with_reducible repeat (first|refine jT ?_ _|refine jS ?_|refine jU ?_ _));exact BK528.out) hb);replace HB:=zF HB hb;(try clear hb);(try clear hb2);(try clear hk);(try clear hi);obtain⟨⟨hcz9_0,hcz9_1,hcz9_2⟩,hfz9_0,hfz9_1,hfz9_2⟩:=ce3 BK528))
 refine bodyPost_ret (results_cell_row rfl _ _ gb528 23 #[.bool t529,.string t530,.int .i64 t531] (0,0) _ rfl (BP BK528) Tryz.underlying23 rfl (by kernel_rfl)) rfl ?_;exact⟨ER,BL HB⟩
end Go.Proofs.YtcmgdjnjmobkoaaGreatDoor.Px
namespace Go.Proofs.YtcmgdjnjmobkoaaGreatDoor.Px
set_option linter.all false
open Fig Go.RowKit Go.Proofs.YtcmgdjnjmobkoaaGreatDoorW.PrintWords Go.Proofs.YtcmgdjnjmobkoaaGreatDoorW.PrintLast Go.Proofs.YtcmgdjnjmobkoaaGreatDoorW.PrintMore
attribute [local go_sem] yS yR vN vM yF yE yU yT
set_option maxHeartbeats 4000000 in
set_option maxRecDepth 100000 in
theorem ziC (q:Pat) (hg:uC q.P) (w:World):Calls Tryz.prog 25 #[.agg q.cs] w fun e w'=>e=.returned (.tuple #[.int .i64 (zax q.P).1,.int .i64 (zax q.P).2])∧Below w.heap.size w w':=by
 have HB:=K_ (Below.refl w.heap.size w);have HG:=K_ hg;have hb1:=zaT hg;have hw1:wrap64 (jV q.P+q.P.mf)=jV q.P+q.P.mf:=by have:=hg.mf0;have:=hg.mfx;have:=hg.xf4;unfold wrap64;omega
 have hw2:wrap64 (jV q.P+q.P.xf)=jV q.P+q.P.xf:=by have:=hg.mf0;have:=hg.mfx;have:=hg.xf4;unfold wrap64;omega
 have HW:=K_ (And.intro hw1 hw2);have HW2:=K_ (show zax q.P=if 0<q.P.ms then (q.P.ms,q.P.xs) else (jV q.P+q.P.mf,jV q.P+q.P.xf) from rfl);clear hg hb1 hw1 hw2;go_enter Tryz.func25,Tryz.ntmps25
 go_upto_region 1 with ((with_reducible refine zE (N:=1) rfl ?_);refine bx_ 1 q.cs 26 ?_ rfl rfl rfl rfl rfl;intro g1 hg w2 hbox hb;have BK1:=K_ hbox;replace HB:=zF HB hb;clear hb hbox hg)
 have e9:w2.cell? ⟨g1,9,none⟩=some (.int .i64 q.P.ms):=(zA BK1.out 9).trans rfl;by_cases h9:0<q.P.ms
 ·have d9:decide (0<q.P.ms)=true:=decide_eq_true h9
  have HR:=K_ (show zax q.P=(q.P.ms,q.P.xs) by rw[HW2.out,if_pos h9]);clear HW2 HW;go_upto_region 2 with (fail)
  refine yA (n:=6) (S:=fun W=>W.heap[g1]?=some (.cells q.cs 26 (0,0))∧W.cell? ⟨g1,9,none⟩=some (.int .i64 q.P.ms)∧W.cell? ⟨g1,10,none⟩=some (.int .i64 q.P.xs)∧W.cell? ⟨g1,7,none⟩=some (.int .i64 q.P.mf)∧W.cell? ⟨g1,8,none⟩=some (.int .i64 q.P.xf)) (ds:=[]) #[false,false,false,false,false,false] (by kernel_rfl) rfl rfl ⟨(BK BK1),(zA (BK BK1) 9).trans rfl,(zA (BK BK1) 10).trans rfl,(zA (BK BK1) 7).trans rfl,(zA (BK BK1) 8).trans rfl⟩ (fun hHeld=>?_);refine pw_ 0 7 (bb 6 1) ?_;refine pw_ 2 9 (bb 6 5) ?_;refine tw_ 1 8 (bb 6 7) hHeld ?_;refine pw_ 4 2 (bb 6 23) ?_;refine tw_ 3 10 (bb 6 31) hHeld ?_;refine pw_ 5 3 (bb 6 63) ?_;refine yN (by kernel_rfl) ?_;go_wp2_with (fail)
  go_ret2
  exact⟨by rw[HR.out];rfl,BL HB⟩
 have d9:decide (0<q.P.ms)=false:=decide_eq_false h9;have HR:=K_ (show zax q.P=(wrap64 (jV q.P+q.P.mf),wrap64 (jV q.P+q.P.xf)) by rw[HW2.out,if_neg h9,HW.out.1,HW.out.2]);clear HW2 HW;go_upto_region 3 with (fail)
 refine yA (n:=12) (S:=fun W=>W.heap[g1]?=some (.cells q.cs 26 (0,0))∧W.cell? ⟨g1,9,none⟩=some (.int .i64 q.P.ms)∧W.cell? ⟨g1,10,none⟩=some (.int .i64 q.P.xs)∧W.cell? ⟨g1,7,none⟩=some (.int .i64 q.P.mf)∧W.cell? ⟨g1,8,none⟩=some (.int .i64 q.P.xf)) (ds:=[]) #[false,false,false,false,false,false,false,false,false,false,false,false] (by kernel_rfl) rfl rfl ⟨(BK BK1),(zA (BK BK1) 9).trans rfl,(zA (BK BK1) 10).trans rfl,(zA (BK BK1) 7).trans rfl,(zA (BK BK1) 8).trans rfl⟩ (fun hHeld=>?_);refine jG (fun W=>W.heap[g1]?=some (.cells q.cs 26 (0,0))∧Below w.heap.size w W) ⟨BK BK1,BL HB⟩ ?_;clear hHeld BK1 HB e9;rintro W ⟨hb1,hbw⟩;have BK1:=K_ hb1;have HB:=K_ hbw;have hHeld:=(show W.heap[g1]?=some (.cells q.cs 26 (0,0))∧W.cell? ⟨g1,9,none⟩=some (.int .i64 q.P.ms)∧W.cell? ⟨g1,10,none⟩=some (.int .i64 q.P.xs)∧W.cell? ⟨g1,7,none⟩=some (.int .i64 q.P.mf)∧W.cell? ⟨g1,8,none⟩=some (.int .i64 q.P.xf) from ⟨hb1,(zA hb1 9).trans rfl,(zA hb1 10).trans rfl,(zA hb1 7).trans rfl,(zA hb1 8).trans rfl⟩)
 clear hb1 hbw;refine pw_ 2 13 (bb 12 4) ?_;refine pw_ 7 18 (bb 12 132) ?_;refine tr_ 0 11 (bb 12 133) (q.cs) (fun _ hs=>⟨hs.1⟩) Tryz.underlying26 jR hHeld ?_;refine tw_ 3 14 (bb 12 141) hHeld ?_;refine tr_ 5 16 (bb 12 173) (q.cs) (fun _ hs=>⟨hs.1⟩) Tryz.underlying26 jR hHeld ?_;refine tw_ 8 19 (bb 12 429) hHeld ?_;refine on_ 1 (some 12) (bb 12 431) (fun K hK=>?_);refine gq_ Tryz.func54 #[.agg q.cs] ?_;refine (zep q HG.out _).mono ?_;rintro e w' ⟨rfl,hb⟩;refine⟨_,rfl,?_⟩;replace HB:=zF HB hb;replace BK1:=zC BK1 hb;clear hb;clear hHeld;refine hK.out _ _ ⟨BK1.out,(zA BK1.out 9).trans rfl,(zA BK1.out 10).trans rfl,(zA BK1.out 7).trans rfl,(zA BK1.out 8).trans rfl⟩ (fun hHeld=>?_);clear hK K;refine no_ (some 12) ?_;refine pw_ 4 15 (bb 12 447) ?_;refine on_ 6 (some 17) (bb 12 511) (fun K hK=>?_);refine gq_ Tryz.func54 #[.agg q.cs] ?_;refine (zep q HG.out _).mono ?_;rintro e w' ⟨rfl,hb⟩;refine⟨_,rfl,?_⟩;replace HB:=zF HB hb;replace BK1:=zC BK1 hb;clear hb;clear hHeld;refine hK.out _ _ ⟨BK1.out,(zA BK1.out 9).trans rfl,(zA BK1.out 10).trans rfl,(zA BK1.out 7).trans rfl,(zA BK1.out 8).trans rfl⟩ (fun hHeld=>?_);clear hK K;refine no_ (some 17) ?_;refine pw_ 9 20 (bb 12 1023) ?_;refine pw_ 10 2 (bb 12 2047) ?_;refine pw_ 11 3 (bb 12 4095) ?_;refine yN (by kernel_rfl) ?_;go_wp2_with (fail)
 go_ret2
 exact⟨by rw[HR.out];rfl,BL HB⟩
theorem jL:(Tryz.prog.info? 23).map (·.size)=some 3:=by kernel_rfl
structure xX (q:Pat) (W:World):Prop where
 r0:Kd.C k80 W q.A0 q.l0.length q.l0
 r1:Kd.C k80 W q.A1 q.l1.length q.l1
 r3:Kd.C k80 W q.A3 q.l3.length q.l3
 r4:Kd.C k80 W q.A4 q.l4.length q.l4
 k0:q.l0.length≤q.c0
 k1:q.l1.length≤q.c1
 k3:q.l3.length≤q.c3
 k4:q.l4.length≤q.c4
 s0:q.l0.length≤1000
 s1:q.l1.length≤1000
 s3:q.l3.length≤1000
 s4:q.l4.length≤1000
 g0:vS q.l0
 g1:vS q.l1
 g3:vS q.l3
 g4:vS q.l4
theorem xX.below {q:Pat} {W W':World} (h:xX q W) (hb:Below W.heap.size W W'):xX q W':=
 ⟨Kd.C_below h.r0 hb,Kd.C_below h.r1 hb,Kd.C_below h.r3 hb,Kd.C_below h.r4 hb,h.k0,h.k1,h.k3,h.k4,h.s0,h.s1,h.s3,h.s4,h.g0,h.g1,h.g3,h.g4⟩
def Pat.sg (q:Pat) (k:Int):Nat:=sgn k q.l0 q.l1 q.l3 q.l4
def Pat.mult (q:Pat):Int:=if 0<q.sg 4 then 2 else if 0<q.sg 5 then 3 else 0
theorem zft {k:Int} (hk:k≠1) {l:List S80} (h:vS l):(l.any fun x=>k==x.f0&&0==x.f1)=decide (0<zaW k l):=by
 rw[Bool.eq_iff_iff,List.any_eq_true,decide_eq_true_iff];unfold zaW;rw[List.countP_pos_iff];constructor
 ·rintro⟨x,hx,h2⟩
  rw[Bool.and_eq_true] at h2;exact⟨x,hx,by rw[beq_iff_eq];exact (beq_iff_eq.1 h2.1).symm⟩
 rintro⟨x,hx,h2⟩;have e:=beq_iff_eq.1 h2;refine⟨x,hx,?_⟩;have:=(h x hx).2.2 (by rw[e];exact hk)
 rw[e,this];simp
theorem zot {q:Pat} {W:World} (h:xX q W) {k:Int} (hk:k≠1):zbj.f q.l0 q.l1 q.hn q.l3 q.l4 q.P.mi q.P.xi q.P.mf q.P.xf q.P.ms q.P.xs q.P.pr q.P.se q.P.inc q.P.sci q.P.me q.P.pe q.at_ q.pad q.wd k=some (decide (0<q.sg k)):=by
 unfold zbj.f;rw[if_pos ⟨h.s0,h.s1,h.s3,h.s4⟩,List.any_append,List.any_append,List.any_append,zft hk h.g0,zft hk h.g1,zft hk h.g3,zft hk h.g4];congr 1
 unfold Pat.sg sgn;rw[Bool.eq_iff_iff];simp only[Bool.or_eq_true,decide_eq_true_eq]
 omega
theorem zjd (q:Pat) (k:Int) (hk:k≠1) (W:World) (h:xX q W):Calls Tryz.prog 61 #[.agg q.cs,.int .i64 k] W fun e w'=>e=.returned (.bool (decide (0<q.sg k)))∧Below W.heap.size W w':=
 zbj.calls q.A0 q.c0 q.l0 q.A1 q.c1 q.l1 q.hn q.A3 q.c3 q.l3 q.A4 q.c4 q.l4 q.P.mi q.P.xi q.P.mf q.P.xf q.P.ms q.P.xs q.P.pr q.P.se q.P.inc q.P.sci q.P.me q.P.pe q.at_ q.pad q.wd k _ W h.r0 h.k0 h.r1 h.k1 h.r3 h.k3 h.r4 h.k4 (zot h hk)
set_option maxHeartbeats 4000000 in
set_option maxRecDepth 100000 in
theorem zeQ (q:Pat) (w:World) (hr:xX q w):Calls Tryz.prog 35 #[.agg q.cs] w fun e w'=>e=.returned (.int .i64 q.mult)∧Below w.heap.size w w':=by
 have HB:=K_ (Below.refl w.heap.size w);have HK:=K_ hr;have HM:=K_ (show q.mult=if 0<q.sg 4 then 2 else if 0<q.sg 5 then 3 else 0 from rfl);have H4:∀ W,xX q W→Aside0 (Calls Tryz.prog 61 #[.agg q.cs,.int .i64 4] W fun e w'=>e=.returned (.bool (decide (0<q.sg 4)))∧Below W.heap.size W w'):=fun W h=>K_ (zjd q 4 (by decide) W h)
 have H5:∀ W,xX q W→Aside0 (Calls Tryz.prog 61 #[.agg q.cs,.int .i64 5] W fun e w'=>e=.returned (.bool (decide (0<q.sg 5)))∧Below W.heap.size W w'):=fun W h=>K_ (zjd q 5 (by decide) W h)
 clear hr;go_enter Tryz.func35,Tryz.ntmps35
 go_upto_region 1 with ((with_reducible refine zE (N:=1) rfl ?_);refine bx_ 1 q.cs 26 ?_ rfl rfl rfl rfl rfl;intro g1 hg w2 hbox hb;have BK1:=K_ hbox;replace HB:=zF HB hb;clear hb hbox hg)
 by_cases h4:0<q.sg 4
 ·rw[if_pos h4] at HM
  rw[decide_eq_true h4] at H4;clear h4;go_wp2_with (first|((with_reducible refine zE (N:=4) rfl ?_);refine lo_ (g:=g1) (cs:=q.cs) _ ⟨BK BK1⟩ ?_ rfl rfl rfl Tryz.underlying26 rfl jR)|((with_reducible refine zE (N:=7) rfl ?_);refine lo_ (g:=g1) (cs:=q.cs) _ ⟨BK BK1⟩ ?_ rfl rfl rfl Tryz.underlying26 rfl jR)|(go_at_call 61;with_reducible refine ((H4 _ (HK.out.below (BL HB))).out).mono ?_;rintro e w' ⟨rfl,hb⟩;replace HB:=zF HB hb;replace BK1:=zC BK1 hb;clear hb)|(go_at_call 61;with_reducible refine ((H5 _ (HK.out.below (BL HB))).out).mono ?_;rintro e w' ⟨rfl,hb⟩;replace HB:=zF HB hb;replace BK1:=zC BK1 hb;clear hb))
  go_ret
  exact⟨by rw[HM.out];rfl,BL HB⟩
 rw[if_neg h4] at HM;rw[decide_eq_false h4] at H4;clear h4;by_cases h5:0<q.sg 5
 ·rw[if_pos h5] at HM
  rw[decide_eq_true h5] at H5;clear h5;go_wp2_with (first|((with_reducible refine zE (N:=4) rfl ?_);refine lo_ (g:=g1) (cs:=q.cs) _ ⟨BK BK1⟩ ?_ rfl rfl rfl Tryz.underlying26 rfl jR)|((with_reducible refine zE (N:=7) rfl ?_);refine lo_ (g:=g1) (cs:=q.cs) _ ⟨BK BK1⟩ ?_ rfl rfl rfl Tryz.underlying26 rfl jR)|(go_at_call 61;with_reducible refine ((H4 _ (HK.out.below (BL HB))).out).mono ?_;rintro e w' ⟨rfl,hb⟩;replace HB:=zF HB hb;replace BK1:=zC BK1 hb;clear hb)|(go_at_call 61;with_reducible refine ((H5 _ (HK.out.below (BL HB))).out).mono ?_;rintro e w' ⟨rfl,hb⟩;replace HB:=zF HB hb;replace BK1:=zC BK1 hb;clear hb))
  go_ret
  exact⟨by rw[HM.out];rfl,BL HB⟩
 rw[if_neg h5] at HM;rw[decide_eq_false h5] at H5;clear h5;go_wp2_with (first|((with_reducible refine zE (N:=4) rfl ?_);refine lo_ (g:=g1) (cs:=q.cs) _ ⟨BK BK1⟩ ?_ rfl rfl rfl Tryz.underlying26 rfl jR)|((with_reducible refine zE (N:=7) rfl ?_);refine lo_ (g:=g1) (cs:=q.cs) _ ⟨BK BK1⟩ ?_ rfl rfl rfl Tryz.underlying26 rfl jR)|(go_at_call 61;with_reducible refine ((H4 _ (HK.out.below (BL HB))).out).mono ?_;rintro e w' ⟨rfl,hb⟩;replace HB:=zF HB hb;replace BK1:=zC BK1 hb;clear hb)|(go_at_call 61;with_reducible refine ((H5 _ (HK.out.below (BL HB))).out).mono ?_;rintro e w' ⟨rfl,hb⟩;replace HB:=zF HB hb;replace BK1:=zC BK1 hb;clear hb))
 go_ret
 exact⟨by rw[HM.out];rfl,BL HB⟩
theorem zpL {s:ByteArray} (h:s.size=0):s=⟨#[]⟩:=qM (List.length_eq_zero_iff.1 (by rw[←zQ];exact h))

end Go.Proofs.YtcmgdjnjmobkoaaGreatDoor.Px
namespace Go.Proofs.YtcmgdjnjmobkoaaGreatDoor.Px
open Fig Go.RowKit Go.Proofs.YtcmgdjnjmobkoaaGreatDoorW.PrintWords Go.Proofs.YtcmgdjnjmobkoaaGreatDoorW.PrintLast Go.Proofs.YtcmgdjnjmobkoaaGreatDoorW.PrintMore
attribute [local go_sem] yS yR vN vM yF yE yU yT
attribute [local go_sem] uX uQ uP uU uV uO qA uR uZ uM uT uN uY uW
def zcB.f (a0_0:Bool) (a0_1:ByteArray) (a0_2:Int) (a1:Int):Option (Int):=if a1<a0_2 then (some 0) else (if a1 ≥ (wrap64 (a0_2+(a0_1.size:Int))) then (some 0) else (if 0≤(wrap64 ((wrap64 ((a0_1.size:Int)-1))-(wrap64 (a1-a0_2)))) then (if (wrap64 ((wrap64 ((a0_1.size:Int)-1))-(wrap64 (a1-a0_2))))<(a0_1.size:Int) then (some (((bt a0_1 (wrap64 ((wrap64 ((a0_1.size:Int)-1))-(wrap64 (a1-a0_2)))))-48) % 256)) else (none)) else (none)))
set_option maxHeartbeats 8000000 in
set_option maxRecDepth 100000 in
theorem zcB.calls (a0_0:Bool) (a0_1:ByteArray) (a0_2:Int) (a1:Int) (r:Int) (w:World) (h:zcB.f a0_0 a0_1 a0_2 a1=some r) :
  Calls Tryz.prog 96 #[.agg #[.bool a0_0,.string a0_1,.int .i64 a0_2],.int .i64 a1] w fun e w'=>e=.returned (.int .i64 r)∧Below w.heap.size w w':=by
 have hu23:=Tryz.underlying23;have HB:=K_ (Below.refl w.heap.size w);have H:(if a1<a0_2 then (some 0) else (if a1 ≥ (wrap64 (a0_2+(a0_1.size:Int))) then (some 0) else (if 0≤(wrap64 ((wrap64 ((a0_1.size:Int)-1))-(wrap64 (a1-a0_2)))) then (if (wrap64 ((wrap64 ((a0_1.size:Int)-1))-(wrap64 (a1-a0_2))))<(a0_1.size:Int) then (some (((bt a0_1 (wrap64 ((wrap64 ((a0_1.size:Int)-1))-(wrap64 (a1-a0_2)))))-48) % 256)) else (none)) else (none))))=some r:=h;clear h;by_cases c3:a1<a0_2
 ·rw[if_pos c3] at H
  have c3b0:decide (a1<a0_2)=true:=decide_eq_true c3;clear c3;obtain rfl:=Option.some.inj H;go_enter Tryz.func96,Tryz.ntmps96
  go_wp2_with (first|((with_reducible refine zE (N:=2) rfl ?_);(try (refine vG (by rfl) ?_;dsimp only));refine be_ 2 #[.bool a0_0,.string a0_1,.int .i64 a0_2] 23 ?_;intro gb557 hg w4 hbox hb;have BK557:=K_ (hbox);have GW557:=ge_ hg HB;have GE557:=ge_ hg HB;replace HB:=zF HB hb;clear hb hbox hg;obtain⟨⟨hcz5_0,hcz5_1,hcz5_2⟩,hfz5_0,hfz5_1,hfz5_2⟩:=ce3 BK557))
  go_ret
  exact⟨ER,BL HB⟩
 rw[if_neg c3] at H;have c3b0:decide (a1<a0_2)=false:=decide_eq_false c3;clear c3;by_cases c6:a1 ≥ (wrap64 (a0_2+(a0_1.size:Int)))
 ·rw[if_pos c6] at H
  have c6b0:decide ((wrap64 (a0_2+(a0_1.size:Int)))≤a1)=true:=decide_eq_true c6;clear c6;obtain rfl:=Option.some.inj H;go_enter Tryz.func96,Tryz.ntmps96
  go_wp2_with (first|((with_reducible refine zE (N:=2) rfl ?_);(try (refine vG (by rfl) ?_;dsimp only));refine be_ 2 #[.bool a0_0,.string a0_1,.int .i64 a0_2] 23 ?_;intro gb557 hg w7 hbox hb;have BK557:=K_ (hbox);have GW557:=ge_ hg HB;have GE557:=ge_ hg HB;replace HB:=zF HB hb;clear hb hbox hg;obtain⟨⟨hcz8_0,hcz8_1,hcz8_2⟩,hfz8_0,hfz8_1,hfz8_2⟩:=ce3 BK557))
  go_ret
  exact⟨ER,BL HB⟩
 rw[if_neg c6] at H;have c6b0:decide ((wrap64 (a0_2+(a0_1.size:Int)))≤a1)=false:=decide_eq_false c6;clear c6;obtain⟨ji9,hji9⟩:∃ j_:Int,(wrap64 ((wrap64 ((a0_1.size:Int)-1))-(wrap64 (a1-a0_2))))=j_:=⟨_,rfl⟩
 replace H:(if 0≤(ji9) then (if (ji9)<(a0_1.size:Int) then (some (((bt a0_1 (ji9))-48) % 256)) else (none)) else (none))=some r:=by first|(rw[hji9] at H;exact H)|(simp only[hji9] at H ⊢;exact H)
 have hji9w:(IntKind.i64.wrap ((wrap64 ((a0_1.size:Int)-1))-(wrap64 (a1-a0_2))))=ji9:=(yY _).trans hji9;by_cases c10:0≤(ji9)
 ·rw[if_pos c10] at H
  have c10b0:decide (0≤(ji9))=true:=decide_eq_true c10;clear c10;by_cases c11:(ji9)<(a0_1.size:Int)
  ·rw[if_pos c11] at H
   have c11b0:decide ((ji9)<(a0_1.size:Int))=true:=decide_eq_true c11;clear c11;obtain rfl:=Option.some.inj H;go_enter Tryz.func96,Tryz.ntmps96
   go_wp2_with (first|((with_reducible refine zE (N:=2) rfl ?_);(try (refine vG (by rfl) ?_;dsimp only));refine be_ 2 #[.bool a0_0,.string a0_1,.int .i64 a0_2] 23 ?_;intro gb557 hg w13 hbox hb;have BK557:=K_ (hbox);have GW557:=ge_ hg HB;have GE557:=ge_ hg HB;replace HB:=zF HB hb;clear hb hbox hg;obtain⟨⟨hcz14_0,hcz14_1,hcz14_2⟩,hfz14_0,hfz14_1,hfz14_2⟩:=ce3 BK557;have p12:0≤((ji9):Int):=of_decide_eq_true (by first|(with_reducible assumption)|assumption);have q12:(ji9)<(a0_1.size:Int):=of_decide_eq_true (by first|(with_reducible assumption)|assumption);have hx12:=xV a0_1 (ji9);replace p12:=eq_true p12;replace q12:=eq_true q12))
   go_ret
   exact⟨by first|rfl|(simp[vA,vC] <;> rfl)|(simp only[←hji9];first|rfl|(simp[vA,vC] <;> rfl))|(simp[*,vA,vC] <;> rfl),BL HB⟩
  rw[if_neg c11] at H;exact absurd H (by simp)
 rw[if_neg c10] at H;exact absurd H (by simp)
theorem zpF (p:Nat) (e a:Int) (hp:p≤1000000) (h1:-1000000≤e) (h2:e≤a) (h3:a<e+(p:Int)) (h4:e≤1000000):wrap64 (wrap64 ((p:Int)-1)-wrap64 (a-e))=(p:Int)-1-(a-e):=by
 rw[w64 (x:=(p:Int)-1) (by omega) (by omega),w64 (x:=a-e) (by omega) (by omega),w64 (by omega) (by omega)]
theorem zpg {b:Bool} {s:ByteArray} {e a:Int} (h:OkD s e):zcB.f b s e a=some (zcp (vB s) e a):=by
 have hz:=h.val;have h1:=h.sz;have h2:=h.lo;have h3:=h.hi;unfold zcB.f;by_cases c1:a<e
 ·rw[if_pos c1];unfold zcp;rw[if_pos c1]
 rw[if_neg c1,w64 (x:=e+(s.size:Int)) (by omega) (by omega)];by_cases c2:a ≥ e+(s.size:Int)
 ·rw[if_pos c2,zox (by omega)]
 rw[if_neg c2,zpF s.size e a (by omega) (by omega) (by omega) (by omega) (by omega)];obtain⟨j,hj⟩:∃ j:Nat,j=(a-e).toNat:=⟨_,rfl⟩
 have hj2:j<s.size:=by omega
 have e1:(s.size:Int)-1-(a-e)=((s.size-1-j:Nat):Int):=by omega
 rw[e1,if_pos (by omega),if_pos (by omega),zcD (by omega),znk h.d hj2];unfold zcp;rw[if_neg c1,←hj];congr 1
 have:=Nat.mod_lt (vB s / 10 ^ j) (show 0<10 by decide)
 omega
end Go.Proofs.YtcmgdjnjmobkoaaGreatDoor.Px
namespace Go.Proofs.YtcmgdjnjmobkoaaGreatDoor.Px
set_option linter.all false
open Fig Go.RowKit Go.Proofs.YtcmgdjnjmobkoaaGreatDoorW.PrintWords Go.Proofs.YtcmgdjnjmobkoaaGreatDoorW.PrintLast Go.Proofs.YtcmgdjnjmobkoaaGreatDoorW.PrintMore
attribute [local go_sem] yS yR vN vM yF yE yU yT
theorem zkB (B b:Nat) (bs:List Value) (c:Int) (w:World) (h:Lib.IsBuilderF 118 5 B b bs w) (hlen:bs.length+1≤140737488355328) (hBw:B≤w.heap.size) :
  Calls Tryz.prog 95 #[.pointer (some ⟨b,0,none⟩),.int .u8 c] w fun e w'=>e=.returned .nilIface∧Lib.BuilderAtF 118 5 B b (.pointer (some ⟨b,0,none⟩)) (bs++[.int .u8 c]) w'∧Below B w w'∧Lib.OthersKept 5 (some b) w w':=by
 obtain⟨i0,hi,hz0,hz1,hz2⟩:=info_parts (show (Tryz.prog.info? 5).map (fun i=>(i.zero,i.size,i.bytes))=some (some (.int .u8 0),1,1) by kernel_rfl);go_enter Tryz.func95,Tryz.ntmps95
 go_wp2_with (go_at_call 129;refine (cc B b bs _ h).mono ?_)
 rintro e w1 ⟨rfl,h1,hb1,hk1⟩;obtain⟨hB,v,hbk,hown,hne⟩:=h1;have c0:w1.cell? ⟨b,0,none⟩=some (.pointer (some ⟨b,0,none⟩)):=by rw[Lib.cell_of_heap hbk];rfl
 have c1:w1.cell? ⟨b,1,none⟩=some v:=by rw[Lib.cell_of_heap hbk];rfl
 have hlt:b<w1.heap.size:=by
  rcases Nat.lt_or_ge b w1.heap.size with h'|h'
  ·exact h'
  simp[Array.getElem?_eq_none h'] at hbk
 go_wp2_with (at_builtin;refine wpList_append_ownF _ rfl _ _ 107 rfl B 5 i0 (.int .u8 0) 1 1 Tryz.underlying107 hi hz0 hz1 hz2 rfl (by decide) _ _ _ rfl (hown.alloc _) ⟨w1.heap.size,0,none⟩ 1 1 [.int .u8 c] rfl rfl ?c1 ?c2 ?c3 ?c4 ?c5 ?_)
 case c1 =>
  intro j u hj
  match j,hj with
  | 0,hj=>simp at hj;subst hj;simp[Addr.add]
 case c2=>intro u hu;simp at hu;subst hu;rfl
 case c3=>unfold maxLen;omega
 case c4=>omega
 case c5=>have:=hb1.size;simp;omega
 intro v' w2 hown' hgrow _;have hb2:w2.heap[b]?=some (.cells #[.pointer (some ⟨b,0,none⟩),v] 118 (0,0)):=by
  rw[hgrow.block b (by simp;omega) (fun e=>hne e.symm),heap_alloc_old _ _ hlt];exact hbk
 have d0:w2.cell? ⟨b,0,none⟩=some (.pointer (some ⟨b,0,none⟩)):=by rw[Lib.cell_of_heap hb2];rfl
 have d1:w2.cell? ⟨b,1,none⟩=some v:=by rw[Lib.cell_of_heap hb2];rfl
 have f1:w2.frozen? ⟨b,1,none⟩=false:=Lib.frozen_of_heap hb2 1;obtain⟨ao,n',cap,rfl⟩:∃ ao n' cap,v'=.slice ao n' cap:=by
  rcases hown'.2 with ⟨hv,_⟩|⟨g,cap,cur,fz,hv,_⟩
  ·exact⟨_,_,_,hv⟩
  exact⟨_,_,_,hv⟩
 go_wp2
 go_ret
 refine⟨rfl,?_,?_,?_⟩
 ·exact Lib.BuilderAtF.put (T:=118) (e:=5) hB hb2 (bs':=bs++[.int .u8 c]) (by simpa using hown') (by decide)
 ·exact ((hb1.alloc (Nat.le_trans hBw hb1.size) _).grown hgrow (by have:=hb1.size;simp;omega) (fun k hk=>(hown.lt k hk).1)).setCell (p:=⟨b,1,none⟩) hB _
 exact ((hk1.alloc _).grown hgrow (Lib.ownsRowF_kind (hown.alloc _))).setCell ⟨b,1,none⟩ rfl _
def dgB (n:Nat) (e p:Int):UInt8:=UInt8.ofNat (48+(zcp n e p).toNat)
def qQ (n:Nat) (e hi:Int):Nat→List UInt8
 | 0=>[]
 | k+1=>qQ n e hi k++[dgB n e (hi-k)]
def jQ (n:Nat) (e hi lo:Int):ByteArray:=⟨(qQ n e hi (hi-lo+1).toNat).toArray⟩
theorem zeU (n:Nat) (e hi:Int):∀ k,(qQ n e hi k).length=k
 | 0=>rfl
 | k+1=>by rw[qQ,List.length_append,zeU n e hi k];rfl
theorem zfk (n:Nat) (e p:Int):0≤zcp n e p∧zcp n e p≤9:=by
 unfold zcp;split
 ·omega
 have:=Nat.mod_lt (n / 10 ^ (p-e).toNat) (show 0<10 by decide);omega
theorem zhk (n:Nat) (e p:Int):((dgB n e p).toNat:Int)=48+zcp n e p:=by
 have:=zfk n e p
 unfold dgB;rw[UInt8.toNat_ofNat'];omega
theorem zis (c:UInt8):Lib.byteCells [c]=[Value.int .u8 (c.toNat:Int)]:=rfl
theorem zlM {B g n:Nat} {e hi p dv:Int} {k:Nat} {w:World} {q:Value} (h:Lib.BuilderAtF 118 5 B g q (Lib.byteCells (qQ n e hi k)++[Value.int .u8 (48+dv)]) w) (h1:dv=zcp n e p) (h2:p=hi-(k:Int)):Lib.BuilderAtF 118 5 B g q (Lib.byteCells (qQ n e hi (k+1))) w:=by
 have e1:Lib.byteCells (qQ n e hi k)++[Value.int .u8 (48+dv)]=Lib.byteCells (qQ n e hi (k+1)):=by
  rw[show qQ n e hi (k+1)=qQ n e hi k++[dgB n e (hi-k)] from rfl,←zcZ,zis,zhk,h1,h2]
 rw[e1] at h;exact h
set_option maxHeartbeats 8000000 in
set_option maxRecDepth 100000 in
theorem zlU (b:Bool) (s:ByteArray) (e:Int) (ok:OkD s e) (hi lo:Int) (h1:-200000≤lo) (h2:hi≤200000) (h3:lo≤200000) (h4:-200000≤hi) (w:World) :
  Calls Tryz.prog 66 #[.agg #[.bool b,.string s,.int .i64 e],.int .i64 hi,.int .i64 lo] w fun e' w'=>e'=.returned (.string (jQ (vB s) e hi lo))∧Below w.heap.size w w':=by
 have HB:=K_ (Below.refl w.heap.size w);have HOK:=K_ ok;clear ok;go_enter Tryz.func66,Tryz.ntmps66
 go_upto_region 2 with (first|((with_reducible refine zE (N:=3) rfl ?_);refine bx_ 3 (#[.bool b,.string s,.int .i64 e]) 23 ?_ rfl rfl rfl rfl rfl;intro g3 hg w2 hbox hb;have BK3:=K_ hbox;have GE3:=ge_ hg HB;replace HB:=zF HB hb;clear hb hbox hg)|((with_reducible refine zE (N:=7) rfl ?_);refine be_ 7 (#[.pointer none,.slice none 0 0]) 118 ?_;intro g7 hg w3 hbox hb;have BK7:=K_ hbox;have GE7:=ge_ hg HB;have NB3_7:=nb_ hg BK3;replace BK3:=zC BK3 hb;replace HB:=zF HB hb;clear hb hbox hg))
 have HBD:=K_ (show Lib.IsBuilderF 118 5 w.heap.size g7 (Lib.byteCells (qQ (vB s) e hi 0)) w3 from Or.inl ⟨GE7.out,.slice none 0 0,BK7.out,⟨rfl,.inl ⟨rfl,rfl⟩⟩,by simp[Value.ownBlock]⟩);clear BK7;go_wp2_with (fail)
 go_loopw [8] (fun v wr=>∃ k:Nat,k≤(hi-lo+1).toNat∧v=.int .i64 (hi-k)∧Lib.IsBuilderF 118 5 w.heap.size g7 (Lib.byteCells (qQ (vB s) e hi k)) wr∧wr.heap[g3]?=some (.cells #[.bool b,.string s,.int .i64 e] 23 (0,0))∧Below w.heap.size w wr) (fun v _=>(intOf v-lo+1).toNat)
 case atStart=>exact⟨0,Nat.zero_le _,by simp,HBD.out,BK BK3,BL HB⟩
 case round =>
  obtain⟨k,hk,rfl,hbd,hb3,hbw⟩:=hrel;replace HBD:=K_ hbd;replace BK3:=K_ hb3;replace HB:=K_ hbw;clear hbd hb3 hbw;have HSZ:=K_ (show (Lib.byteCells (qQ (vB s) e hi k)).length+1≤140737488355328 by simp only[Lib.byteCells,List.length_map,zeU];omega);obtain⟨p,hp⟩:∃ p,p=hi-(k:Int):=⟨_,rfl⟩
  rw[←hp];by_cases hlt:lo≤p
  ·have dlt:decide (p ≥ lo)=true:=decide_eq_true hlt
   have HD:=K_ (zpg (b:=b) (a:=p) HOK.out);obtain⟨dv,hdv⟩:∃ dv,dv=zcp (vB s) e p:=⟨_,rfl⟩
   have hdb:=zfk (vB s) e p;rw[←hdv] at HD hdb;have hw1:wrap64 (48+dv)=48+dv:=w64 (by omega) (by omega);have hw2:IntKind.u8.wrap (48+dv)=48+dv:=by rw[IntKind.wrap_u8];omega
   have hw3:wrap64 (p-1)=p-1:=w64 (by omega) (by omega);have HDV:=K_ hdv;have HP:=K_ hp;clear hdv hdb hp;go_wp2_with (first
    | ((with_reducible refine zE (N:=15) rfl ?_);refine lo_ (g:=g3) (cs:=#[.bool b,.string s,.int .i64 e]) _ ⟨BK BK3⟩ ?_ rfl rfl rfl Tryz.underlying23 rfl jL)
    | (go_at_call 96;refine (zcB.calls b s e p dv _ HD.out).mono ?_;rintro e9 w' ⟨rfl,hb⟩;replace HBD:=K_ (zda HBD.out hb);replace HB:=zF HB hb;replace BK3:=zC BK3 hb;clear hb)
    | (go_at_call 95;refine (zkB w.heap.size g7 _ (48+dv) _ HBD.out HSZ.out HB.out.size).mono ?_;rintro e9 w1 ⟨rfl,hbd,hbb,hok⟩;replace BK3:=K_ (hok _ _ BK3.out (fun hh=>by cases hh;exact NB3_7.out rfl) (fun cs fz hh=>by cases hh));replace HB:=K_ (HB.out.trans hbb);replace HBD:=K_ hbd;clear hbd hbb hok))
   go_roundw
   case rel =>
    refine⟨k+1,by have:=HP.out;omega,?_,.inr ?_,BK3.out,HB.out⟩
    ·exact congrArg (Value.int .i64) (by have:=HP.out;omega)
    exact zlM HBD.out HDV.out HP.out
   case measure=>simp only[intOf];omega
  have dlt:decide (p ≥ lo)=false:=decide_eq_false hlt;have hk2:k=(hi-lo+1).toNat:=by omega
  clear hp;go_wp2_with (first
   | (go_at_call 97;refine (Tryz.Builder_String_any_k w.heap.size g7 (qQ (vB s) e hi k) _ HBD.out HB.out.size).mono ?_;rintro e9 w1 ⟨rfl,hbd,hbb,hok⟩;replace HB:=K_ (HB.out.trans hbb);clear hbd hbb hok))
  go_ret
  refine⟨?_,BL HB⟩;first|rfl|(rw[hk2];rfl)
end Go.Proofs.YtcmgdjnjmobkoaaGreatDoor.Px
namespace Go.Proofs.YtcmgdjnjmobkoaaGreatDoor.Px
open Fig Go.RowKit Go.Proofs.YtcmgdjnjmobkoaaGreatDoorW.PrintWords Go.Proofs.YtcmgdjnjmobkoaaGreatDoorW.PrintLast Go.Proofs.YtcmgdjnjmobkoaaGreatDoorW.PrintMore
attribute [local go_sem] yS yR vN vM yF yE yU yT
attribute [local go_sem] uX uQ uP uU uV uO qA uR uZ uM uT uN uY uW
def zhH.f (a0_0:Bool) (a0_1:ByteArray) (a0_2:Int):Option (Int):=(vH.f a0_0 a0_1 a0_2).bind fun bt612=>(some (bt612.2.1.size:Int))
end Go.Proofs.YtcmgdjnjmobkoaaGreatDoor.Px
namespace Go.Proofs.YtcmgdjnjmobkoaaGreatDoor.Px
set_option linter.all false
open Fig Go.RowKit Go.Proofs.YtcmgdjnjmobkoaaGreatDoorW.PrintWords Go.Proofs.YtcmgdjnjmobkoaaGreatDoorW.PrintLast Go.Proofs.YtcmgdjnjmobkoaaGreatDoorW.PrintMore
attribute [local go_sem] yS yR vN vM yF yE yU yT

structure zdJ (P:jY):Prop where
 dig:P.inc.size≠0→dB P.inc=true∧vB P.inc≠0
 sci:P.inc.size≠0→P.sci=false
 frac:P.inc.size≠0→P.mf=P.xf
theorem zmR (l:List UInt8):l.any (fun c=>decide (48<c.toNat))=decide (rv l≠0):=by
 induction l with
 | nil=>rfl
 | cons c l ih =>
  rw[List.any_cons,ih,Bool.eq_iff_iff];rw[Bool.or_eq_true,decide_eq_true_eq,decide_eq_true_eq,decide_eq_true_eq];show _ ↔ c.toNat-48+10 * rv l≠0
  omega
theorem zmW (s:ByteArray):s.data.toList.any (fun c=>decide (48<c.toNat))=decide (vB s≠0):=by
 unfold vB;rw[←zmR,List.any_reverse]
theorem zfV:∀ (l ts:List UInt8),uG ts l=true→∀ x∈l,∃ t∈ts,xG t x=true
 | [],_,_,x,hx=>by cases hx
 | y :: l,ts,h,x,hx=>by
  have h2:(!(zao y ts).isEmpty&&uG (zao y ts) l)=true:=h;rw[Bool.and_eq_true] at h2;have hsub:∀ t∈zao y ts,t∈ts:=fun t ht=>List.dropWhile_sublist _ |>.subset ht
  rcases List.mem_cons.1 hx with rfl|hx
  ·cases hq:zao x ts with
   | nil=>rw[hq] at h2;exact absurd h2.1 (by decide)
   | cons t r =>
    have ht:t∈zao x ts:=by rw[hq];exact List.mem_cons_self
    refine⟨t,hsub t ht,?_⟩;have:=List.head?_dropWhile_not (fun t=>!xG t x) ts
    unfold zao at hq;rw[hq] at this;simpa using this
  obtain⟨t,ht,h3⟩:=zfV l _ h2.2 x hx;exact⟨t,hsub t ht,h3⟩
theorem zoQ {x:UInt8} (h1:48≤x.toNat) (h2:x.toNat≤57):isD x=true:=by
 unfold isD;simp[h1,h2]
theorem zge {x:UInt8} (h:xG 48 x=true):48≤x.toNat∧x.toNat≤57:=by
 unfold xG at h;rw[Bool.or_eq_true] at h;rcases h with h|h
 ·rw[eq_of_beq h];decide
 simpa using h
theorem zhp {x:UInt8} (h:xG 35 x=true):x=35:=by
 unfold xG at h;rw[Bool.or_eq_true] at h;rcases h with h|h
 ·exact eq_of_beq h
 exact absurd h (by simp)
theorem znS {pl fr:ByteArray} (h1:uG [35,48,48] pl.data.toList=true) (h2:uG [48,35,35] fr.data.toList=true) (h3:(vU (qS 35 (pl++fr).data.toList)).size≠0) :
  dB (vU (qS 35 (pl++fr).data.toList))=true∧vB (vU (qS 35 (pl++fr).data.toList))≠0:=by
 obtain⟨L,hL⟩:∃ L,L=(pl++fr).data.toList.filter (· !=35):=⟨_,rfl⟩
 have hs:vU (qS 35 (pl++fr).data.toList)=⟨(L.dropWhile (·==48)).toArray⟩:=by rw[hL];rfl
 have hd:∀ x∈L,48≤x.toNat∧x.toNat≤57:=by
  intro x hx;rw[hL,List.mem_filter] at hx;have hne:x≠35:=by simpa using hx.2
  have hm:x∈pl.data.toList∨x∈fr.data.toList:=by
   have:=hx.1
   rw[show (pl++fr).data.toList=pl.data.toList++fr.data.toList by simp] at this;exact List.mem_append.1 this
  rcases hm with hm|hm
  ·obtain⟨t,ht,h⟩:=zfV _ _ h1 x hm
   simp only[List.mem_cons,List.not_mem_nil,or_false] at ht
   rcases ht with rfl|rfl|rfl
   ·exact absurd (zhp h) hne
   ·exact zge h
   exact zge h
  obtain⟨t,ht,h⟩:=zfV _ _ h2 x hm;simp only[List.mem_cons,List.not_mem_nil,or_false] at ht
  rcases ht with rfl|rfl|rfl
  ·exact zge h
  ·exact absurd (zhp h) hne
  exact absurd (zhp h) hne
 rw[hs] at h3 ⊢;constructor
 ·show yB (L.dropWhile (·==48)).toArray.toList=true
  rw[List.toList_toArray,zbS];intro c hc;have:=hd c (List.dropWhile_sublist _ |>.subset hc)
  exact zoQ this.1 this.2
 have:=zmW ⟨(L.dropWhile (·==48)).toArray⟩
 cases hq:L.dropWhile (·==48) with
 | nil=>rw[hq] at h3;exact absurd rfl h3
 | cons c r =>
  have hc:=List.head?_dropWhile_not (·==(48:UInt8)) L;rw[hq] at hc;have hc:(c==48)=false:=by simpa using hc
  have hcm:=hd c (List.dropWhile_sublist (·==(48:UInt8)) |>.subset (by rw[hq];exact List.mem_cons_self));have hc48:48<c.toNat:=by
   have:c.toNat≠48:=fun e=>by
    have:c=48:=UInt8.toNat_inj.1 e
    rw[this] at hc;exact absurd hc (by decide)
   omega
  rw[hq] at this;have ha:(⟨(c :: r).toArray⟩:ByteArray).data.toList.any (fun c=>decide (48<c.toNat))=true:=by
   show (c :: r).toArray.toList.any _=true
   rw[List.toList_toArray,List.any_cons,decide_eq_true hc48];rfl
  rw[ha] at this;exact of_decide_eq_true this.symm
theorem zlb {sc pt:Bool} {sz:List Int} {pl fr:ByteArray} {P P':jY} (hz:P.inc.size=0) (hsc:P.sci=sc) (h:zeL sc pt sz pl fr P=some P'):zdJ P':=by
 unfold zeL at h;split at h
 ·cases h
 split at h
 ·split at h
  ·cases h
  split at h
  ·cases h
  obtain⟨rfl,_⟩:=zdn (zds h);exact⟨fun h=>absurd hz h,fun h=>absurd hz h,fun h=>absurd hz h⟩
 split at h
 ·cases h
 rename_i hr
 split at h
 ·cases h
 rename_i hi
 obtain⟨rfl,_⟩:=zdn (zds h);have r1:uG [35,48,48] pl.data.toList=true:=by
  cases e:uG [35,48,48] pl.data.toList
  ·exact absurd (.inl e) hr
  rfl
 have r2:uG [48,35,35] fr.data.toList=true:=by
  cases e:uG [48,35,35] fr.data.toList
  ·exact absurd (.inr e) hr
  rfl
 refine⟨fun h0=>znS r1 r2 h0,fun h0=>?_,fun h0=>?_⟩
 ·show P.sci=false
  rw[hsc];cases sc
  ·rfl
  exact absurd ⟨h0,.inr rfl⟩ hi
 show ((jK 48 fr.data.toList:Nat):Int)=(fr.size:Int)
 have:=zkT 48 fr.data.toList
 rw[←zQ] at this;apply Decidable.byContradiction
 intro hne;exact hi ⟨h0,.inl (by omega)⟩
theorem zhP {sc:Bool} {b:ByteArray} {P P':jY} (hz:P.inc.size=0) (hsc:P.sci=sc) (h:zbT sc b P=some P'):zdJ P':=by
 unfold zbT at h;split at h
 ·cases h
 split at h
 ·cases h
 split at h
 ·cases h
 unfold zfY at h;split at h
 ·cases h
 refine zlb ?_ ?_ h
 ·exact hz
 exact hsc
theorem zle {s:ByteArray} {P:jY} (h:vD s=some P):zdJ P:=by
 unfold vD at h;split at h
 ·split at h
  ·cases h
  split at h
  ·cases h
  refine zhP ?_ ?_ h
  ·rfl
  rfl
 refine zhP ?_ ?_ h
 ·rfl
 rfl
set_option maxHeartbeats 16000000 in
set_option maxRecDepth 100000 in
theorem zjJ (s:ByteArray) (hs:s.size≤1048576) (w:World):Calls Tryz.prog 90 #[.string s] w (zoi s w):=by
 have HS:=K_ hs;have HB:=K_ (Below.refl w.heap.size w);obtain⟨b,x,sc,hcut⟩:∃ b x sc,xM s 69=(b,x,sc):=⟨_,_,_,rfl⟩
 have HC:∀ W,Aside0 (Calls Tryz.prog 116 #[.string s,.int .u8 69] W fun e w'=>e=.returned (.tuple #[.string b,.string x,.bool sc])∧zJ W w'):=fun W=>⟨by
  have h:=ziX s 69 (by omega) W;rw[hcut] at h;exact h⟩
 have hsz:=zhv s 69;rw[hcut] at hsz;have hbs:b.size≤1048576:=Nat.le_trans hsz.1 hs;have hxs:x.size≤1048576:=Nat.le_trans hsz.2 hs;have HBS:=K_ hbs;have HXS:=K_ hxs
 have HN:=K_ (show vD s=if sc=true then
   if (zaZ x).size=0∨(vU (zaZ x)).size≠0 then none
   else if (zaZ x).size>9 then none
   else zbT true b { jN with sci:=true,me:=((zaZ x).size:Int),pe:=zbH x }
  else zbT false b jN by unfold vD;rw[hcut])
 clear hs hcut hsz hbs hxs;go_enter Tryz.func90,Tryz.ntmps90
 go_upto_if 30 with (first
  | (refine be_ 2 Z26 26 ?_;intro g2 hg w2 hbox hb;have BK2:=K_ hbox;have GE2:=ge_ hg HB;replace HB:=zF HB hb;clear hb hbox hg)
  | (refine be_ 4 Z26 26 ?_;intro g4 hg w4 hbox hb;have BK4:=K_ hbox;have GE4:=ge_ hg HB;have NB:=nb_ hg BK2;replace BK2:=zC BK2 hb;replace HB:=zF HB hb;clear hb hbox hg)
  | (refine so_ (g:=g4) (cs:=Z26) Z26 ⟨BP BK4⟩ ?_ rfl rfl rfl rfl rfl (by kernel_rfl) rfl rfl;intro w5 hbk hfar hbel;replace BK4:=K_ hbk;replace BK2:=K_ (hfar g2 _ NB.out (BK BK2));replace HB:=K_ (hbel _ _ GE4.out (BL HB));clear hbk hfar hbel)
  | (go_at_call 116;refine ((HC _).out).mono ?_;rintro e w' ⟨rfl,⟨nd,rfl⟩⟩))
 go_cut [6] from 30 to 57 (fun x' wx=>∃ (y:ByteArray) (P:jY),x'=.string y∧wx.heap[g2]?=some (.cells Z26 26 (0,0))∧wx.heap[g4]?=some (.cells P.cs 26 (0,0))∧Below w.heap.size w wx∧vD s=zbT sc b P∧P.ms=0)
 case first =>
  cases sc
  ·have HN2:=K_ (show vD s=zbT false b jN by rw[HN.out,if_neg (by decide)])
   clear HN;go_wp2
   go_meet
   case rel=>exact⟨_,jN,rfl,BK BK2,BK BK4,BL HB,HN2.out,rfl⟩
  have HN2:=K_ (show vD s=if (zaZ x).size=0∨(vU (zaZ x)).size≠0 then none
   else if (zaZ x).size>9 then none else zbT true b { jN with sci:=true,me:=((zaZ x).size:Int),pe:=zbH x } by rw[HN.out,if_pos rfl])
  clear HN;go_upto_region 4 with (fail)
  go_cut [38] from 31 to 38 (fun c wx=>c=.bool (zbH x)∧wx=w5.drewN nd)
  case first =>
   by_cases h0:0<x.size
   ·have hp:(((x[0].toNat:Nat):Int)==43)=zbH x:=by rw[zmP h0];exact zbm x[0] 43
    have hd:decide ((x.size:Int)>0)=true:=decide_eq_true (by omega);go_wp2
    go_meet
    case rel=>exact⟨rfl,rfl⟩
   have hp:=ziZ h0;have hd:decide ((x.size:Int)>0)=false:=decide_eq_false (by omega);go_wp2
   go_meet
   case rel=>exact⟨by rw[hp],rfl⟩
  case rest =>
   obtain⟨rfl,rfl⟩:=hcut;go_upto_if 38 with (fail)
   go_cut [6] from 31 to 41 (fun x' wx=>x'=.string (zaZ x)∧wx.heap[g2]?=some (.cells Z26 26 (0,0))∧wx.heap[g4]?=some (.cells ({ jN with pe:=zbH x }:jY).cs 26 (0,0))∧Below w.heap.size w wx)
   case first =>
    cases hp:zbH x
    ·have hx:zaZ x=x:=by unfold zaZ;rw[hp];rfl
     go_wp2
     go_meet
     case rel=>exact⟨by rw[hx],BK BK2,by rw[hp];exact BK BK4,BL HB⟩
    have hx:zaZ x=x.extract 1 x.size:=by unfold zaZ;rw[hp];rfl
    have h0:0<x.size:=by
     apply Decidable.byContradiction;intro h;rw[ziZ h] at hp;cases hp
    obtain⟨⟨cz0,cz1,cz2,cz3,cz4,cz5,cz6,cz7,cz8,cz9,cz10,cz11,cz12,cz13,cz14,cz15,cz16,cz17,cz18,cz19⟩,fz0,fz1,fz2,fz3,fz4,fz5,fz6,fz7,fz8,fz9,fz10,fz11,fz12,fz13,fz14,fz15,fz16,fz17,fz18,fz19⟩:=zeR BK4;go_wp2
    go_meet
    case rel=>exact⟨by rw[hx],(by (repeat (first|(with_reducible exact Aside0.out BK2)|(with_reducible refine jT ?_ _)|(with_reducible refine jS ?_)|(with_reducible refine jU ?_ _)|refine zR ?_ (Aside0.out NB) _))),by rw[hp];exact BP BK4,BL HB⟩
   case rest =>
    obtain⟨rfl,hb2,hb4,hbw⟩:=hcut;replace BK2:=K_ hb2;replace BK4:=K_ hb4;replace HB:=K_ hbw;clear hb2 hb4 hbw;obtain⟨y,hy⟩:∃ y,y=zaZ x:=⟨_,rfl⟩
    obtain⟨P,hP⟩:∃ P:jY,P={ jN with pe:=zbH x }:=⟨_,rfl⟩
    have hys:y.size≤1048576:=by
     have:=HXS.out
     rw[hy];unfold zaZ;split
     ·rw[ByteArray.size_extract];omega
     exact this
    rw[←hP] at BK4;replace HN2:=K_ (show vD s=if y.size=0∨(vU y).size≠0 then none else if y.size>9 then none else zbT true b { P with sci:=true,me:=(y.size:Int) } by rw[HN2.out,hP,hy]);have HP4:=K_ (show P.ms=0 by rw[hP];rfl);rw[←hy];clear hP hy;have HL:=fun W=>K_ (zfJ y (by omega) W)
    have hls:=zkC y;by_cases h0:0<y.size
    ·have HM:=K_ hls
     clear hls;have hye:=zdK h0;by_cases h1:0<(vU y).size
     ·have HE:=K_ (show vD s=none by rw[HN2.out,if_pos (.inr (by omega))])
      have hle:=zdK h1;go_upto_if 48 with (go_at_call 117;refine ((HL _).out).mono ?_;rintro e w' ⟨rfl,⟨nd,rfl⟩⟩)
      (
       go_wp2_with (refine so_ (g:=g2) (cs:=Z26) Z26 ⟨(by (repeat (first|(with_reducible exact Aside0.out BK2)|(with_reducible refine jT ?_ _)|(with_reducible refine jS ?_)|(with_reducible refine jU ?_ _)|refine zR ?_ (Aside0.out NB) _)))⟩ ?_ rfl rfl rfl rfl rfl (by kernel_rfl) rfl rfl;intro w9 hbk hfar hbel;replace BK2:=K_ hbk;replace HB:=K_ (hbel _ _ GE2.out (BL HB));clear hbk hfar hbel)
       refine bodyPost_ret (jE rfl _ _ g2 26 jN.cs (0,0) _ rfl (BP BK2) Tryz.underlying26 rfl (by kernel_rfl)) rfl ?_;exact⟨jN,4,rfl,BL HB,.inr ⟨by decide,HE.out⟩⟩)
     have hle:=zfo h1;by_cases h2:9<y.size
     ·have HE:=K_ (show vD s=none by rw[HN2.out,if_neg (by omega),if_pos h2])
      have hd:decide ((y.size:Int)>9)=true:=decide_eq_true (by omega);go_upto_if 52 with (go_at_call 117;refine ((HL _).out).mono ?_;rintro e w' ⟨rfl,⟨nd,rfl⟩⟩)
      (
       go_wp2_with (refine so_ (g:=g2) (cs:=Z26) Z26 ⟨(by (repeat (first|(with_reducible exact Aside0.out BK2)|(with_reducible refine jT ?_ _)|(with_reducible refine jS ?_)|(with_reducible refine jU ?_ _)|refine zR ?_ (Aside0.out NB) _)))⟩ ?_ rfl rfl rfl rfl rfl (by kernel_rfl) rfl rfl;intro w9 hbk hfar hbel;replace BK2:=K_ hbk;replace HB:=K_ (hbel _ _ GE2.out (BL HB));clear hbk hfar hbel)
       refine bodyPost_ret (jE rfl _ _ g2 26 jN.cs (0,0) _ rfl (BP BK2) Tryz.underlying26 rfl (by kernel_rfl)) rfl ?_;exact⟨jN,8,rfl,BL HB,.inr ⟨by decide,HE.out⟩⟩)
     have HE:=K_ (show vD s=zbT true b { P with sci:=true,me:=(y.size:Int) } by rw[HN2.out,if_neg (by omega),if_neg h2]);have hd:decide ((y.size:Int)>9)=false:=decide_eq_false (by omega);obtain⟨⟨cz0,cz1,cz2,cz3,cz4,cz5,cz6,cz7,cz8,cz9,cz10,cz11,cz12,cz13,cz14,cz15,cz16,cz17,cz18,cz19⟩,fz0,fz1,fz2,fz3,fz4,fz5,fz6,fz7,fz8,fz9,fz10,fz11,fz12,fz13,fz14,fz15,fz16,fz17,fz18,fz19⟩:=zeR BK4;go_upto_region 11 with (go_at_call 117;refine ((HL _).out).mono ?_;rintro e w' ⟨rfl,⟨nd,rfl⟩⟩)
     go_wp2
     go_meet
     case rel=>exact⟨y,_,rfl,(by (repeat (first|(with_reducible exact Aside0.out BK2)|(with_reducible refine jT ?_ _)|(with_reducible refine jS ?_)|(with_reducible refine jU ?_ _)|refine zR ?_ (Aside0.out NB) _))),BP BK4,BL HB,HE.out,HP4.out⟩
    have HE:=K_ (show vD s=none by rw[HN2.out,if_pos (.inl (by omega))]);obtain rfl:=zhS h0
    (
     go_wp2_with (refine so_ (g:=g2) (cs:=Z26) Z26 ⟨(by (repeat (first|(with_reducible exact Aside0.out BK2)|(with_reducible refine jT ?_ _)|(with_reducible refine jS ?_)|(with_reducible refine jU ?_ _)|refine zR ?_ (Aside0.out NB) _)))⟩ ?_ rfl rfl rfl rfl rfl (by kernel_rfl) rfl rfl;intro w9 hbk hfar hbel;replace BK2:=K_ hbk;replace HB:=K_ (hbel _ _ GE2.out (BL HB));clear hbk hfar hbel)
     refine bodyPost_ret (jE rfl _ _ g2 26 jN.cs (0,0) _ rfl (BP BK2) Tryz.underlying26 rfl (by kernel_rfl)) rfl ?_;exact⟨jN,4,rfl,BL HB,.inr ⟨by decide,HE.out⟩⟩)
 case rest =>
  obtain⟨y,P,rfl,hb2,hb4,hbw,he,hms⟩:=hcut;have HMS:=K_ hms;replace BK2:=K_ hb2;replace BK4:=K_ hb4;replace HB:=K_ hbw;replace HN:=K_ he;clear hb2 hb4 hbw he hms HXS HC;go_wp2_with (fail)
  go_loop [8] (fun i=>∃ k:Nat,k≤b.size∧i=.int .i64 k∧(b.data.toList.take k).all okC=true) (fun i=>b.size-(intOf i).toNat)
  case atStart=>exact⟨0,by omega,rfl,rfl⟩
  case round =>
   obtain⟨k,hk,rfl,ha⟩:=hrel;have HA:=K_ ha;have hbz:=HBS.out;clear ha;by_cases hlt:k<b.size
   ·have HS1:=fun h2=>K_ (zmm (l:=b.data.toList) (k:=k) (by rw[←zQ];exact hlt) HA.out h2)
    have HS2:=fun h2=>K_ (zoI (l:=b.data.toList) (k:=k) (by rw[←zQ];exact hlt) h2)
    have HS1:okC b[k]=true→Aside0 _:=HS1;have HS2:okC b[k]=false→Aside0 _:=HS2;go_upto_region 16 with (fail)
    go_cut [9,88] from 64 to 88 (fun v c wx=>v=.int .u8 (b[k].toNat:Int)∧c=.bool (!okC b[k])∧wx=wc)
    case first =>
     have e35:(((b[k].toNat:Nat):Int) !=35)=!(b[k]==35):=congrArg (! ·) (zbm b[k] 35);have e64:(((b[k].toNat:Nat):Int) !=64)=!(b[k]==64):=congrArg (! ·) (zbm b[k] 64);have e44:(((b[k].toNat:Nat):Int) !=44)=!(b[k]==44):=congrArg (! ·) (zbm b[k] 44);have e46:(((b[k].toNat:Nat):Int) !=46)=!(b[k]==46):=congrArg (! ·) (zbm b[k] 46);have HO:=K_ (show okC b[k]=(b[k]==35||(b[k]==64||(b[k]==44||(b[k]==46||(decide (48≤b[k].toNat)&&decide (b[k].toNat≤57)))))) from rfl);cases h1:(b[k]==35)
     ·rw[h1] at e35
      cases h2:(b[k]==64)
      ·rw[h2] at e64
       cases h3:(b[k]==44)
       ·rw[h3] at e44
        cases h4:(b[k]==46)
        ·rw[h4] at e46
         have HO2:=K_ (show okC b[k]=(decide (48≤b[k].toNat)&&decide (b[k].toNat≤57)) by rw[HO.out,h1,h2,h3,h4];rfl);clear h1 h2 h3 h4;by_cases h5:48≤b[k].toNat
         ·by_cases h6:b[k].toNat≤57
          ·have HO3:=K_ (show okC b[k]=true by rw[HO2.out];simp[h5,h6])
           have d1:decide (((b[k].toNat:Nat):Int)<48)=false:=decide_eq_false (by omega);have d2:decide (((b[k].toNat:Nat):Int)>57)=false:=decide_eq_false (by omega);go_wp2
           go_meet
           case rel=>exact⟨rfl,by rw[HO3.out];rfl,rfl⟩
          have HO3:=K_ (show okC b[k]=false by rw[HO2.out];simp[h6]);have d1:decide (((b[k].toNat:Nat):Int)<48)=false:=decide_eq_false (by omega);have d2:decide (((b[k].toNat:Nat):Int)>57)=true:=decide_eq_true (by omega);go_wp2
          go_meet
          case rel=>exact⟨rfl,by rw[HO3.out];rfl,rfl⟩
         have HO3:=K_ (show okC b[k]=false by rw[HO2.out];simp[h5]);have d1:decide (((b[k].toNat:Nat):Int)<48)=true:=decide_eq_true (by omega);go_wp2
         go_meet
         case rel=>exact⟨rfl,by rw[HO3.out];rfl,rfl⟩
        rw[h4] at e46;have Q:=K_ (show ((b[k].toNat:Nat):Int)=46 by simpa using e46);have HO3:=K_ (show okC b[k]=true by rw[HO.out,h1,h2,h3,h4];rfl);clear h1 h2 h3 h4;go_wp2
        go_meet
        case rel=>exact⟨by rw[Q.out],by rw[HO3.out];rfl,rfl⟩
       rw[h3] at e44;have Q:=K_ (show ((b[k].toNat:Nat):Int)=44 by simpa using e44);have HO3:=K_ (show okC b[k]=true by rw[HO.out,h1,h2,h3];rfl);clear h1 h2 h3;go_wp2
       go_meet
       case rel=>exact⟨by rw[Q.out],by rw[HO3.out];rfl,rfl⟩
      rw[h2] at e64;have Q:=K_ (show ((b[k].toNat:Nat):Int)=64 by simpa using e64);have HO3:=K_ (show okC b[k]=true by rw[HO.out,h1,h2];rfl);clear h1 h2;go_wp2
      go_meet
      case rel=>exact⟨by rw[Q.out],by rw[HO3.out];rfl,rfl⟩
     rw[h1] at e35;have Q:=K_ (show ((b[k].toNat:Nat):Int)=35 by simpa using e35);have HO3:=K_ (show okC b[k]=true by rw[HO.out,h1];rfl);clear h1;go_wp2
     go_meet
     case rel=>exact⟨by rw[Q.out],by rw[HO3.out];rfl,rfl⟩
    case rest =>
     obtain⟨rfl,rfl,rfl⟩:=hcut;cases ho:okC b[k]
     ·have HE:=K_ (show vD s=none by rw[HN.out];unfold zbT;rw[if_pos (HS2 ho).out])
      go_upto_if 88 with (fail)
      (
       go_wp2_with (refine so_ (g:=g2) (cs:=Z26) Z26 ⟨(by (repeat (first|(with_reducible exact Aside0.out BK2)|(with_reducible refine jT ?_ _)|(with_reducible refine jS ?_)|(with_reducible refine jU ?_ _)|refine zR ?_ (Aside0.out NB) _)))⟩ ?_ rfl rfl rfl rfl rfl (by kernel_rfl) rfl rfl;intro w9 hbk hfar hbel;replace BK2:=K_ hbk;replace HB:=K_ (hbel _ _ GE2.out (BL HB));clear hbk hfar hbel)
       refine bodyPost_ret (jE rfl _ _ g2 26 jN.cs (0,0) _ rfl (BP BK2) Tryz.underlying26 rfl (by kernel_rfl)) rfl ?_;exact⟨jN,4,rfl,BL HB,.inr ⟨by decide,HE.out⟩⟩)
     have HS3:=HS1 ho;go_wp2
     go_round
     case rel=>exact⟨k+1,by omega,by go_num,HS3.out⟩
     case measure=>simp[intOf];omega
   obtain rfl:k=b.size:=by omega
   have HA2:=K_ (show b.data.toList.all okC=true by have:=HA.out;rwa [zQ,List.take_length] at this);clear HA;obtain⟨wh,fr,pt,hc2⟩:∃ wh fr pt,xM b 46=(wh,fr,pt):=⟨_,_,_,rfl⟩
   have HC2:∀ W,Aside0 (Calls Tryz.prog 116 #[.string b,.int .u8 46] W fun e w'=>e=.returned (.tuple #[.string wh,.string fr,.bool pt])∧zJ W w'):=fun W=>⟨by
    have h:=ziX b 46 (by omega) W;rw[hc2] at h;exact h⟩
   have hz2:=zhv b 46;rw[hc2] at hz2;have HPF:=K_ (show pt=false→fr=⟨#[]⟩ from fun h=>by have:=zom b 46 (by rw[hc2];exact h);rwa [hc2] at this);have hws:wh.size≤1048576:=Nat.le_trans hz2.1 hbz;have hfs:fr.size≤1048576:=Nat.le_trans hz2.2 hbz;have HK6:∀ W,Aside0 (Calls Tryz.prog 118 #[.string fr,.int .u8 46] W fun e w'=>e=.returned (.int .i64 (jK 46 fr.data.toList:Nat))∧w'=W):=fun W=>⟨zaH fr 46 (by omega) W⟩
   have HK4:∀ W,Aside0 (Calls Tryz.prog 118 #[.string fr,.int .u8 44] W fun e w'=>e=.returned (.int .i64 (jK 44 fr.data.toList:Nat))∧w'=W):=fun W=>⟨zaH fr 44 (by omega) W⟩
   have HN2:=K_ (show vD s=if 0<jK 46 fr.data.toList∨(pt=true∧fr.size=0) then none else if 0<jK 44 fr.data.toList then none else zfY sc pt wh fr P by
    rw[HN.out];unfold zbT;rw[if_neg (by rw[HA2.out];decide),hc2])
   clear HN;have HN:=HN2;have HWS:=K_ hws;have HFS:=K_ hfs;clear HN2 hc2 hz2 hws hfs hbz HA2;go_upto_region 19 with (go_at_call 116;refine ((HC2 _).out).mono ?_;rintro e w' ⟨rfl,⟨nd2,rfl⟩⟩)
   go_cut [12,105] from 90 to 105 (fun v c wx=>v=.bool pt∧c=.bool (decide (0<jK 46 fr.data.toList)||(pt&&decide (fr.size=0)))∧wx=wc.drewN nd2)
   case first =>
    have hfz:=HFS.out;by_cases h1:0<jK 46 fr.data.toList
    ·have d1:decide (((jK 46 fr.data.toList:Nat):Int)>0)=true:=decide_eq_true (by omega)
     have d2:decide (0<jK 46 fr.data.toList)=true:=decide_eq_true h1;have D:=K_ d2;have d3:¬ jK 46 fr.data.toList=0:=by omega
     go_wp2_with (go_at_call 118;refine ((HK6 _).out).mono ?_;rintro e w' ⟨rfl,rfl⟩)
     go_meet
     case rel=>exact⟨rfl,by rw[D.out];rfl,rfl⟩
    have d1:decide (((jK 46 fr.data.toList:Nat):Int)>0)=false:=decide_eq_false (by omega);have d2:decide (0<jK 46 fr.data.toList)=false:=decide_eq_false h1;have D:=K_ d2;have d3:jK 46 fr.data.toList=0:=by omega
    clear h1;cases hp:pt
    ·go_wp2_with (go_at_call 118;refine ((HK6 _).out).mono ?_;rintro e w' ⟨rfl,rfl⟩)
     go_meet
     case rel=>exact⟨by rw[hp],by rw[D.out,hp];rfl,rfl⟩
    by_cases h2:0<fr.size
    ·have hfe:=zdK h2
     have D2:=K_ (decide_eq_false (show ¬ fr.size=0 by omega));go_wp2_with (go_at_call 118;refine ((HK6 _).out).mono ?_;rintro e w' ⟨rfl,rfl⟩)
     go_meet
     case rel=>exact⟨by rw[hp],by rw[D.out,hp,D2.out];rfl,rfl⟩
    have hfe:=zfo h2;have D2:=K_ (decide_eq_true (show fr.size=0 by omega));go_wp2_with (go_at_call 118;refine ((HK6 _).out).mono ?_;rintro e w' ⟨rfl,rfl⟩)
    go_meet
    case rel=>exact⟨by rw[hp],by rw[D.out,hp,D2.out];rfl,rfl⟩
   case rest =>
    obtain⟨rfl,rfl,rfl⟩:=hcut;cases hq:(decide (0<jK 46 fr.data.toList)||(pt&&decide (fr.size=0)))
    ·have HN2:=K_ (show vD s=if 0<jK 44 fr.data.toList then none else zfY sc pt wh fr P by
      rw[HN.out,if_neg];intro h;have:(decide (0<jK 46 fr.data.toList)||(pt&&decide (fr.size=0)))=true:=by simpa using h
      rw[hq] at this;cases this)
     clear HN hq;by_cases h4:0<jK 44 fr.data.toList
     ·have HE:=K_ (show vD s=none by rw[HN2.out,if_pos h4])
      have d1:decide (((jK 44 fr.data.toList:Nat):Int)>0)=true:=decide_eq_true (by omega);have d2:decide (0<jK 44 fr.data.toList)=true:=decide_eq_true h4;go_upto_if 109 with (go_at_call 118;refine ((HK4 _).out).mono ?_;rintro e w' ⟨rfl,rfl⟩)
      (
       go_wp2_with (refine so_ (g:=g2) (cs:=Z26) Z26 ⟨(by (repeat (first|(with_reducible exact Aside0.out BK2)|(with_reducible refine jT ?_ _)|(with_reducible refine jS ?_)|(with_reducible refine jU ?_ _)|refine zR ?_ (Aside0.out NB) _)))⟩ ?_ rfl rfl rfl rfl rfl (by kernel_rfl) rfl rfl;intro w9 hbk hfar hbel;replace BK2:=K_ hbk;replace HB:=K_ (hbel _ _ GE2.out (BL HB));clear hbk hfar hbel)
       refine bodyPost_ret (jE rfl _ _ g2 26 jN.cs (0,0) _ rfl (BP BK2) Tryz.underlying26 rfl (by kernel_rfl)) rfl ?_;exact⟨jN,5,rfl,BL HB,.inr ⟨by decide,HE.out⟩⟩)
     have HN:=K_ (show vD s=zfY sc pt wh fr P by rw[HN2.out,if_neg h4]);have d1:decide (((jK 44 fr.data.toList:Nat):Int)>0)=false:=decide_eq_false (by omega);have d2:decide (0<jK 44 fr.data.toList)=false:=decide_eq_false h4;clear HN2;go_upto_region 26 with (go_at_call 118;refine ((HK4 _).out).mono ?_;rintro e w' ⟨rfl,rfl⟩)
     clear d1 d2 h4;obtain⟨L,hL⟩:∃ L,L=wh.data.toList++[44]:=⟨_,rfl⟩
     have hLl:L.length=wh.size+1:=by rw[hL,List.length_append,←zQ];rfl
     have HLL:=K_ hLl;have HLD:=K_ hL;go_wp2_with (fail)
     go_loopw [13,14,15,16] (fun vz vp vn vi wr=>∃ k:Nat,k≤wh.size+1∧vi=.int .i64 k∧vn=.int .i64 (szS (L.take k)).2∧vp=.string (qS 44 (wh.data.toList.take k))∧(Kd.int .i64).R 3 wr w.heap.size (fun _=>True) vz (szS (L.take k)).1∧wr.heap[g2]?=some (.cells Z26 26 (0,0))∧wr.heap[g4]?=some (.cells P.cs 26 (0,0))∧Below w.heap.size w wr) (fun _ _ _ i _=>wh.size+1-(intOf i).toNat)
     case atStart=>exact⟨0,by omega,rfl,rfl,rfl,Kd.R_nil _ _ _ _ _,BK BK2,BK BK4,BL HB⟩
     case round =>
      obtain⟨k,hk,rfl,rfl,rfl,hz,hb2,hb4,hbw⟩:=hrel;clear BK2 BK4 HB;have HZ:=K_ hz;have BK2:=K_ hb2;have BK4:=K_ hb4;have HB:=K_ hbw;clear hz hb2 hb4 hbw;have hwz:=HWS.out;by_cases hlt:k≤wh.size
      ·have hbd:=zjR L k
       have HSU:=K_ (zmU (l:=L) (k:=k) (by rw[HLL.out];omega));obtain⟨a,ha⟩:∃ a,a=szS (L.take k):=⟨_,rfl⟩
       rw[←ha] at hbd HSU HZ;simp only[←ha]
       clear ha;obtain⟨A4,c4,rfl⟩:=Kd.R_slice HZ.out;have dle:decide ((k:Int)≤(wh.size:Int))=true:=decide_eq_true (by omega);have hwk:IntKind.i64.wrap ((k:Int)+1)=(k:Int)+1:=by rw[IntKind.wrap_i64];omega
       have hwn:IntKind.i64.wrap (a.2+1)=a.2+1:=by rw[IntKind.wrap_i64];omega
       have HZ2n:=K_ (Kd.R_ne HZ.out BK2.out (by decide));have HZ4n:=K_ (Kd.R_ne HZ.out BK4.out (by decide));have HAP:=K_ (show (a.1.length+1) * 8≤140737488355328 by omega);by_cases hlt2:k<wh.size
       ·have dlt:decide ((k:Int)<(wh.size:Int))=true:=decide_eq_true (by omega)
        have hLk:L[k]'(by rw[HLL.out];omega)=wh[k]:=by
         have:=HLD.out;subst this;rw[List.getElem_append_left (by rw[←zQ];exact hlt2)];rfl
        rw[hLk] at HSU;have e44:(((wh[k].toNat:Nat):Int) !=44)=!(wh[k]==44):=congrArg (! ·) (zbm wh[k] 44);cases hc:(wh[k]==44)
        ·rw[hc] at e44
         have HF:=K_ (ziV (l:=wh.data.toList) (k:=k) 44 (by rw[←zQ];exact hlt2) (beq_eq_false_iff_ne.1 hc));have HSV:=K_ (show szS (L.take (k+1))=(a.1,a.2+1) by rw[HSU.out];unfold szF;rw[hc];rfl);have hle1:(k:Int)≤(k:Int)+1:=by omega
         have hle2:(k:Int)+1≤(wh.size:Int):=by omega
         have h01:(0:Int)≤(k:Int)+1:=by omega
         have hle3:k+1≤wh.size:=hlt2;have hn1:((k:Int)+1).toNat=k+1:=by omega
         have hfl:=zeq 44 (wh.data.toList.take k);rw[List.length_take] at hfl;have hfb:¬ 9223372036854775807<(qS 44 (List.take k wh.data.toList)).size+1:=by omega
         clear hLk hc HSU;go_wp2
         go_roundw
         case rel =>
          refine⟨k+1,by omega,by go_num,by rw[HSV.out],?_,by rw[HSV.out];exact RB HZ.out,BK BK2,BK BK4,BL HB⟩;rw[HF.out,zgd hlt2];rfl
         case measure=>simp[intOf];omega
        rw[hc] at e44;have HF:=K_ (ziJ (l:=wh.data.toList) (k:=k) 44 (by rw[←zQ];exact hlt2) (eq_of_beq hc));have HSV:=K_ (show szS (L.take (k+1))=(a.1++[a.2],0) by rw[HSU.out];unfold szF;rw[hc];rfl);clear hLk hc HSU;go_wp2_with ((with_reducible refine jH (b:=.append) (xs:=#[.tmp 136,.tmp 138]) rfl ?_);at_builtin;(refine Kd.R_append (Kd.int .i64) (w0:=w) w.heap.size rfl (.tmp 136) (.tmp 138) 147 3 (.int .i64 0) 8 rfl Tryz.underlying147 zkF rfl (by decide) (by omega) (.slice A4 a.1.length c4) a.1 a.2 [.int .i64 a.2] (fun _=>True) (fun _=>False) rfl rfl rfl (fun _ hk=>hk.elim) (fun _ _=>trivial) ?aO ?aB ?aS ?aL ?_;(case aO=>exact RB HZ.out);(case aB=>exact BL HB);(case aS=>exact zS (BL HB));(case aL=>exact HAP.out);intro v1 w10 ho hb hg hat;have HZ2:=K_ ho;have BK2b:=K_ (yQ (BK BK2) hg HZ2n.out);have BK4b:=K_ (yQ (BK BK4) hg HZ4n.out);replace HB:=K_ hb;clear ho hb hg hat))
        go_roundw
        case rel=>exact⟨k+1,by omega,by go_num,by rw[HSV.out],by rw[HF.out],by rw[HSV.out];exact RB HZ2.out,BK BK2b,BK BK4b,BL HB⟩
        case measure=>simp[intOf];omega
       have dlt:decide ((k:Int)<(wh.size:Int))=false:=decide_eq_false (by omega);have hkk:k=wh.size:=by omega
       have hLk:L[k]'(by rw[HLL.out];omega)=44:=by
        have:=HLD.out;subst this;exact List.getElem_concat_length (hkk.trans (zQ _)) _
       rw[hLk] at HSU;have HF:=K_ (show qS 44 (wh.data.toList.take (k+1))=qS 44 (wh.data.toList.take k) by rw[List.take_of_length_le (by rw[←zQ];omega),List.take_of_length_le (by rw[←zQ];omega)]);have HSV:=K_ (show szS (L.take (k+1))=(a.1++[a.2],0) by rw[HSU.out];rfl);clear hLk hkk HSU;go_wp2_with ((with_reducible refine jH (b:=.append) (xs:=#[.tmp 136,.tmp 138]) rfl ?_);at_builtin;(refine Kd.R_append (Kd.int .i64) (w0:=w) w.heap.size rfl (.tmp 136) (.tmp 138) 147 3 (.int .i64 0) 8 rfl Tryz.underlying147 zkF rfl (by decide) (by omega) (.slice A4 a.1.length c4) a.1 a.2 [.int .i64 a.2] (fun _=>True) (fun _=>False) rfl rfl rfl (fun _ hk=>hk.elim) (fun _ _=>trivial) ?aO ?aB ?aS ?aL ?_;(case aO=>exact RB HZ.out);(case aB=>exact BL HB);(case aS=>exact zS (BL HB));(case aL=>exact HAP.out);intro v1 w10 ho hb hg hat;have HZ2:=K_ ho;have BK2b:=K_ (yQ (BK BK2) hg HZ2n.out);have BK4b:=K_ (yQ (BK BK4) hg HZ4n.out);replace HB:=K_ hb;clear ho hb hg hat))
       go_roundw
       case rel=>exact⟨k+1,by omega,by go_num,by rw[HSV.out],by rw[HF.out],by rw[HSV.out];exact RB HZ2.out,BK BK2b,BK BK4b,BL HB⟩
       case measure=>simp[intOf];omega
      obtain rfl:k=wh.size+1:=by omega
      have dle:decide (((wh.size+1:Nat):Int)≤(wh.size:Int))=false:=decide_eq_false (by omega);have eL:L.take (wh.size+1)=L:=List.take_of_length_le (by rw[HLL.out];exact Nat.le_refl _);have eW:wh.data.toList.take (wh.size+1)=wh.data.toList:=List.take_of_length_le (by rw[←zQ];omega);have hbd:=zjR L (wh.size+1);have hpb:=zeq 44 wh.data.toList;rw[←zQ] at hpb;rw[eL] at HZ hbd;simp only[eL,eW]
      obtain⟨sz,hsz⟩:∃ sz,sz=(szS L).1:=⟨_,rfl⟩
      obtain⟨n0,hn0⟩:∃ n0,n0=(szS L).2:=⟨_,rfl⟩
      obtain⟨pl,hpl⟩:∃ pl,pl=qS 44 wh.data.toList:=⟨_,rfl⟩
      have HN2:=K_ (show vD s=if sz.length>1∧0∈sz then none else zeL sc pt sz pl fr { P with pr:=if sz.length>1 then sz.getD (sz.length-1) 0 else P.pr,se:=if sz.length>2 then sz.getD (sz.length-2) 0 else if sz.length>1 then sz.getD (sz.length-1) 0 else P.se } by
       rw[HN.out,hsz,hpl,HLD.out];rfl)
      rw[←hsz] at HZ hbd;rw[←hpl] at hpb;simp only[←hsz,←hn0,←hpl]
      clear hsz hn0 hpl eL eW HN HLL HLD;have hszl:sz.length≤1048577:=by omega
      have HSL:=K_ hszl;have HPL:=K_ (show pl.size≤1048576 by omega);clear hbd hpb hszl hwz;obtain⟨A4,c4,rfl⟩:=Kd.R_slice HZ.out;go_wp2_with (fail)
      go_loop [17] (fun i=>∃ k:Nat,k≤sz.length∧i=.int .i64 k∧(sz.length>1→∀ x∈sz.take k,x≠0)) (fun i=>sz.length-(intOf i).toNat)
      case atStart=>exact⟨0,by omega,rfl,fun _ x hx=>by simp at hx⟩
      case round =>
       obtain⟨k,hk,rfl,hz⟩:=hrel;have HK:=K_ hz;have hsz2:=HSL.out;clear hz;by_cases hlt:k<sz.length
       ·have dlt:decide ((k:Int)<(sz.length:Int))=true:=decide_eq_true (by omega)
        by_cases h1:sz.length>1
        ·have d1:decide ((sz.length:Int)>1)=true:=decide_eq_true (by omega)
         have d2:decide (1<sz.length)=true:=decide_eq_true h1;obtain⟨ad,ea,hcell⟩:=Kd.at_int (Kd.R_reads' HZ.out).2.2 (k:Int) (by omega) (by omega);subst ea;have hrd:rd sz (k:Int)=sz[k]:=by unfold rd;rw[Int.toNat_natCast,List.getD_eq_getElem?_getD,List.getElem?_eq_getElem hlt];rfl
         rw[hrd,Int.toNat_natCast] at hcell;obtain⟨x0,hx0⟩:∃ x0,x0=sz[k]:=⟨_,rfl⟩
         have HX0:=K_ hx0;rw[←hx0] at hcell;clear hx0 hrd;cases hq:(x0==0)
         ·have HKK:=K_ (show sz.length>1→∀ x∈sz.take (k+1),x≠0 by
           intro _ x hx;rw[List.take_succ_eq_append_getElem hlt,List.mem_append,List.mem_singleton] at hx;rcases hx with hx|rfl
           ·exact HK.out h1 x hx
           rw[←HX0.out];exact beq_eq_false_iff_ne.1 hq)
          go_wp2
          go_round
          case rel=>exact⟨k+1,by omega,by go_num,HKK.out⟩
          case measure=>simp[intOf];omega
         have HE:=K_ (show vD s=none by
          rw[HN2.out,if_pos ⟨h1,by rw[←eq_of_beq hq,HX0.out];exact List.getElem_mem hlt⟩])
         go_upto_if 155 with (fail)
         (
          go_wp2_with (refine so_ (g:=g2) (cs:=Z26) Z26 ⟨(by (repeat (first|(with_reducible exact Aside0.out BK2)|(with_reducible refine jT ?_ _)|(with_reducible refine jS ?_)|(with_reducible refine jU ?_ _)|refine zR ?_ (Aside0.out NB) _)))⟩ ?_ rfl rfl rfl rfl rfl (by kernel_rfl) rfl rfl;intro w9 hbk hfar hbel;replace BK2:=K_ hbk;replace HB:=K_ (hbel _ _ GE2.out (BL HB));clear hbk hfar hbel)
          refine bodyPost_ret (jE rfl _ _ g2 26 jN.cs (0,0) _ rfl (BP BK2) Tryz.underlying26 rfl (by kernel_rfl)) rfl ?_;exact⟨jN,5,rfl,BL HB,.inr ⟨by decide,HE.out⟩⟩)
        have d1:decide ((sz.length:Int)>1)=false:=decide_eq_false (by omega);have d2:decide (1<sz.length)=false:=decide_eq_false h1;have HKK:=K_ (show sz.length>1→∀ x∈sz.take (k+1),x≠0 from fun h=>absurd h h1);go_wp2
        go_round
        case rel=>exact⟨k+1,by omega,by go_num,HKK.out⟩
        case measure=>simp[intOf];omega
       obtain rfl:k=sz.length:=by omega
       have HN3:=K_ (show vD s=zeL sc pt sz pl fr { P with pr:=if sz.length>1 then sz.getD (sz.length-1) 0 else P.pr,se:=if sz.length>2 then sz.getD (sz.length-2) 0 else if sz.length>1 then sz.getD (sz.length-1) 0 else P.se } by
        rw[HN2.out,if_neg];rintro⟨h1,h2⟩;have:=HK.out h1 0 (by rw[List.take_length];exact h2);exact this rfl)
       clear HN2 HK;have dlt:decide ((sz.length:Int)<(sz.length:Int))=false:=decide_eq_false (by omega);go_upto_region 39 with (fail)
       obtain⟨Pa,hPa⟩:∃ Pa:jY,Pa={ P with pr:=if sz.length>1 then sz.getD (sz.length-1) 0 else P.pr,se:=if sz.length>1 then sz.getD (sz.length-1) 0 else P.se }:=⟨_,rfl⟩
       obtain⟨P2,hP2⟩:∃ P2:jY,P2={ Pa with se:=if sz.length>2 then sz.getD (sz.length-2) 0 else Pa.se }:=⟨_,rfl⟩
       have HN:=K_ (show vD s=zeL sc pt sz pl fr P2 by rw[HN3.out,hP2,hPa]);have HMS2:=K_ (show P2.ms=0 by rw[hP2,hPa];exact HMS.out);clear HN3;go_upto_if 159 with (fail)
       go_cut [] from 157 to 173 (fun wx=>(Kd.int .i64).R 3 wx w.heap.size (fun _=>True) (.slice A4 sz.length c4) sz∧wx.heap[g2]?=some (.cells Z26 26 (0,0))∧wx.heap[g4]?=some (.cells Pa.cs 26 (0,0))∧Below w.heap.size w wx)
       case first =>
        by_cases h1:sz.length>1
        ·have d1:decide ((sz.length:Int)>1)=true:=decide_eq_true (by omega)
         have d2:decide (1<sz.length)=true:=decide_eq_true h1;obtain⟨ad,ea,hcell⟩:=Kd.at_int (Kd.R_reads' HZ.out).2.2 ((sz.length:Int)-1) (by omega) (by omega);subst ea;have hrd:rd sz ((sz.length:Int)-1)=sz.getD (sz.length-1) 0:=by unfold rd;congr 1;omega
         rw[hrd,show ((sz.length:Int)-1).toNat=sz.length-1 by omega] at hcell;have h1le:(1:Int)≤(sz.length:Int):=by omega
         obtain⟨v0,hv0⟩:∃ v0,v0=sz.getD (sz.length-1) 0:=⟨_,rfl⟩
         rw[←hv0] at hcell;have HG4:=K_ (Kd.R_ne HZ.out BK4.out (by decide));have hbn:(ad.add (sz.length-1)).block≠g4:=by
          rw[zdx];intro e;exact HG4.out (by simp[Value.ownBlock,e])
         have hcell2:∀ j v,(wr.setCell ⟨g4,j,none⟩ v).cell? (ad.add (sz.length-1))=some (.int .i64 v0):=fun j v=>(yK hbn v).trans hcell
         have hwl:IntKind.i64.wrap ((sz.length:Int)-1)=(sz.length:Int)-1:=by rw[IntKind.wrap_i64];omega
         have hb0:(0:Int)≤(sz.length:Int)-1:=by omega
         have hb1:(sz.length:Int)-1<(sz.length:Int):=by omega
         have ePa:=K_ (show Pa={ P with pr:=sz.getD (sz.length-1) 0,se:=sz.getD (sz.length-1) 0 } by rw[hPa,if_pos h1,if_pos h1]);rw[←hv0] at ePa;clear hv0 hrd;have BK40:=BK4;obtain⟨⟨cz0,cz1,cz2,cz3,cz4,cz5,cz6,cz7,cz8,cz9,cz10,cz11,cz12,cz13,cz14,cz15,cz16,cz17,cz18,cz19⟩,fz0,fz1,fz2,fz3,fz4,fz5,fz6,fz7,fz8,fz9,fz10,fz11,fz12,fz13,fz14,fz15,fz16,fz17,fz18,fz19⟩:=zeR BK4;go_upto_region 40 with (fail)
         go_region
         have HZ4:=K_ (Kd.R_types HZ.out BK40.out (by decide))
         all_goals (go_wp2_with (fail);go_meet;exact⟨(by refine Kd.R_mono (ok:=fun k=>True∧k≠g4) ?_ (fun _ hk=>hk.1);(repeat (first|(with_reducible exact Aside0.out HZ4)|(with_reducible refine Kd.R_drewN ?_ _)|(with_reducible refine Kd.R_drew ?_)|refine Kd.R_far ?_ (fun _ hk=>hk.2) _))),(by (repeat (first|(with_reducible exact Aside0.out BK2)|(with_reducible refine jT ?_ _)|(with_reducible refine jS ?_)|(with_reducible refine jU ?_ _)|refine zR ?_ (Aside0.out NB) _))),by rw[ePa.out];exact BP BK4,BL HB⟩)
        have d1:decide ((sz.length:Int)>1)=false:=decide_eq_false (by omega);have d2:decide (1<sz.length)=false:=decide_eq_false h1;have e2:Pa=P:=by rw[hPa,if_neg h1,if_neg h1]
        go_wp2
        go_meet
        case rel=>exact⟨HZ.out,BK BK2,by rw[e2];exact BK BK4,BL HB⟩
       case rest =>
        obtain⟨hz,hb2,hb4,hbw⟩:=hcut;replace HZ:=K_ hz;replace BK2:=K_ hb2;replace BK4:=K_ hb4;replace HB:=K_ hbw;have HP2:=K_ hP2;clear hz hb2 hb4 hbw hP2 hPa;go_upto_if 176 with (fail)
        go_cut [] from 174 to 183 (fun wx=>(Kd.int .i64).R 3 wx w.heap.size (fun _=>True) (.slice A4 sz.length c4) sz∧wx.heap[g2]?=some (.cells Z26 26 (0,0))∧wx.heap[g4]?=some (.cells P2.cs 26 (0,0))∧Below w.heap.size w wx)
        case first =>
         have hszl:=HSL.out;by_cases h1:sz.length>2
         ·have d1:decide ((sz.length:Int)>2)=true:=decide_eq_true (by omega)
          have d2:decide (2<sz.length)=true:=decide_eq_true h1;obtain⟨ad,ea,hcell⟩:=Kd.at_int (Kd.R_reads' HZ.out).2.2 ((sz.length:Int)-2) (by omega) (by omega);subst ea;have hrd:rd sz ((sz.length:Int)-2)=sz.getD (sz.length-2) 0:=by unfold rd;congr 1;omega
          rw[hrd,show ((sz.length:Int)-2).toNat=sz.length-2 by omega] at hcell;have h1le:(2:Int)≤(sz.length:Int):=by omega
          have hwl:IntKind.i64.wrap ((sz.length:Int)-2)=(sz.length:Int)-2:=by rw[IntKind.wrap_i64];omega
          have hb0:(0:Int)≤(sz.length:Int)-2:=by omega
          have hb1:(sz.length:Int)-2<(sz.length:Int):=by omega
          have eP2:=K_ (show P2={ Pa with se:=sz.getD (sz.length-2) 0 } by rw[HP2.out,if_pos h1]);obtain⟨v0,hv0⟩:∃ v0,v0=sz.getD (sz.length-2) 0:=⟨_,rfl⟩
          rw[←hv0] at hcell eP2;clear hv0 hrd;have HZ4:=K_ (Kd.R_types HZ.out BK4.out (by decide));obtain⟨⟨cz0,cz1,cz2,cz3,cz4,cz5,cz6,cz7,cz8,cz9,cz10,cz11,cz12,cz13,cz14,cz15,cz16,cz17,cz18,cz19⟩,fz0,fz1,fz2,fz3,fz4,fz5,fz6,fz7,fz8,fz9,fz10,fz11,fz12,fz13,fz14,fz15,fz16,fz17,fz18,fz19⟩:=zeR BK4;go_wp2
          go_meet
          case rel=>exact⟨(by refine Kd.R_mono (ok:=fun k=>True∧k≠g4) ?_ (fun _ hk=>hk.1);(repeat (first|(with_reducible exact Aside0.out HZ4)|(with_reducible refine Kd.R_drewN ?_ _)|(with_reducible refine Kd.R_drew ?_)|refine Kd.R_far ?_ (fun _ hk=>hk.2) _))),(by (repeat (first|(with_reducible exact Aside0.out BK2)|(with_reducible refine jT ?_ _)|(with_reducible refine jS ?_)|(with_reducible refine jU ?_ _)|refine zR ?_ (Aside0.out NB) _))),by rw[eP2.out];exact BP BK4,BL HB⟩
         have d1:decide ((sz.length:Int)>2)=false:=decide_eq_false (by omega);have d2:decide (2<sz.length)=false:=decide_eq_false h1;have e2:P2=Pa:=by rw[HP2.out,if_neg h1]
         go_wp2
         go_meet
         case rel=>exact⟨HZ.out,BK BK2,by rw[e2];exact BK BK4,BL HB⟩
        case rest =>
         obtain⟨hz,hb2,hb4,hbw⟩:=hcut;replace HZ:=K_ hz;replace BK2:=K_ hb2;replace BK4:=K_ hb4;replace HB:=K_ hbw;clear hz hb2 hb4 hbw HP2;have hpz:=HPL.out;have hfz:=HFS.out;have hfb:¬ 9223372036854775807<pl.size+fr.size:=by omega
         go_upto_region 44 with (fail)
         obtain⟨al,hal⟩:∃ al,al=pl++fr:=⟨_,rfl⟩
         have hals:al.size≤2097152:=by rw[hal,ByteArray.size_append];omega
         have HN2:=K_ (show vD s=if al.size=0 then none else if 0<jK 64 al.data.toList then (if pt=true∨0<jK 48 pl.data.toList then none else if uG [35,64,35] pl.data.toList=false then none else zaN sc sz pl { P2 with ms:=(jK 64 pl.data.toList:Nat),xs:=(pl.size:Int)-(xF pl.data.toList:Nat) })
          else if uG [35,48,48] pl.data.toList=false∨uG [48,35,35] fr.data.toList=false then none
          else if (vU (qS 35 al.data.toList)).size≠0∧((jK 48 fr.data.toList:Int)<(fr.size:Int)∨sc=true) then none
          else zaN sc sz pl { P2 with mi:=(jK 48 pl.data.toList:Nat),mf:=(jK 48 fr.data.toList:Nat),xf:=(fr.size:Int),inc:=vU (qS 35 al.data.toList),xi:=if sc=true then (pl.size:Int) else P2.xi } by rw[HN.out,hal];rfl)
         clear HN;have HAL:=K_ hal;have HAS:=K_ hals;rw[←hal];have hals2:=hals;clear hal hals hfb hpz hfz;by_cases h0:0<al.size
         ·have hle:=zdK h0
          have HK:=fun W=>K_ (zaH al 64 (by omega) W)
          clear hals2;go_upto_if 192 with (go_at_call 118;refine ((HK _).out).mono ?_;rintro e w' ⟨rfl,rfl⟩)
          go_cut [7,12,19,20,24,26,29,191,192] from 193 to 277 (fun v7 v12 _ _ _ _ _ _ _ wx=>v7=.bool sc∧v12=.bool pt∧∃ P':jY,vD s=zaN sc sz pl P'∧(0<P'.ms→0<pl.size)∧(Kd.int .i64).R 3 wx w.heap.size (fun _=>True) (.slice A4 sz.length c4) sz∧wx.heap[g2]?=some (.cells Z26 26 (0,0))∧wx.heap[g4]?=some (.cells P'.cs 26 (0,0))∧Below w.heap.size w wx)
          case first =>
           have hpz:=HPL.out;have hfz:=HFS.out;by_cases h1:0<jK 64 al.data.toList
           ·have d1:decide (((jK 64 al.data.toList:Nat):Int)>0)=true:=decide_eq_true (by omega)
            have d2:decide (0<jK 64 al.data.toList)=true:=decide_eq_true h1;have d3:¬ jK 64 al.data.toList=0:=by omega
            have HN3:=K_ (show vD s=if pt=true∨0<jK 48 pl.data.toList then none else if uG [35,64,35] pl.data.toList=false then none else zaN sc sz pl { P2 with ms:=(jK 64 pl.data.toList:Nat),xs:=(pl.size:Int)-(xF pl.data.toList:Nat) } by rw[HN2.out,if_neg (by omega),if_pos h1]);clear HN2;cases hp:pt
            ·have hfr:=HPF.out hp
             have HLL:=K_ (show xF pl.data.toList<pl.size by
              have e:al=pl:=by rw[HAL.out,hfr];exact ByteArray.append_empty
              rw[e] at h1;rw[zQ];exact znQ _ h1)
             have HK1:=fun W=>K_ (zaH pl 48 (by omega) W)
             clear hfr;by_cases h2:0<jK 48 pl.data.toList
             ·have HE:=K_ (show vD s=none by rw[HN3.out,if_pos (.inr h2)])
              have e1:decide (((jK 48 pl.data.toList:Nat):Int)>0)=true:=decide_eq_true (by omega);have e2:decide (0<jK 48 pl.data.toList)=true:=decide_eq_true h2;have e3:¬ jK 48 pl.data.toList=0:=by omega
              go_upto_if 198 with (go_at_call 118;refine ((HK1 _).out).mono ?_;rintro e w' ⟨rfl,rfl⟩)
              (
               go_wp2_with (refine so_ (g:=g2) (cs:=Z26) Z26 ⟨(by (repeat (first|(with_reducible exact Aside0.out BK2)|(with_reducible refine jT ?_ _)|(with_reducible refine jS ?_)|(with_reducible refine jU ?_ _)|refine zR ?_ (Aside0.out NB) _)))⟩ ?_ rfl rfl rfl rfl rfl (by kernel_rfl) rfl rfl;intro w9 hbk hfar hbel;replace BK2:=K_ hbk;replace HB:=K_ (hbel _ _ GE2.out (BL HB));clear hbk hfar hbel)
               refine bodyPost_ret (jE rfl _ _ g2 26 jN.cs (0,0) _ rfl (BP BK2) Tryz.underlying26 rfl (by kernel_rfl)) rfl ?_;exact⟨jN,6,rfl,BL HB,.inr ⟨by decide,HE.out⟩⟩)
             have e1:decide (((jK 48 pl.data.toList:Nat):Int)>0)=false:=decide_eq_false (by omega);have e2:decide (0<jK 48 pl.data.toList)=false:=decide_eq_false h2;have e3:jK 48 pl.data.toList=0:=by omega
             have HR:∀ W,Aside0 (Calls Tryz.prog 119 #[.string pl,.int .u8 35,.int .u8 64,.int .u8 35] W fun e w'=>e=.returned (.bool (uG [35,64,35] pl.data.toList))∧Below W.heap.size W w'):=fun W=>⟨zeK pl 35 64 35 (by omega) W⟩
             have HN4:=K_ (show vD s=if uG [35,64,35] pl.data.toList=false then none else zaN sc sz pl { P2 with ms:=(jK 64 pl.data.toList:Nat),xs:=(pl.size:Int)-(xF pl.data.toList:Nat) } by
              rw[HN3.out,if_neg];rintro (h|h);(rw[hp] at h;cases h);exact h2 h)
             clear HN3;cases hr:uG [35,64,35] pl.data.toList
             ·have HE:=K_ (show vD s=none by rw[HN4.out,if_pos hr])
              rw[hr] at HR;go_upto_if 202 with (first|(go_at_call 118;refine ((HK1 _).out).mono ?_;rintro e w' ⟨rfl,rfl⟩)|(go_at_call 119;refine ((HR _).out).mono ?_;rintro e w' ⟨rfl,hb⟩;replace HB:=zF HB hb;replace BK2:=zC BK2 hb;clear hb))
              (
               go_wp2_with (refine so_ (g:=g2) (cs:=Z26) Z26 ⟨(by (repeat (first|(with_reducible exact Aside0.out BK2)|(with_reducible refine jT ?_ _)|(with_reducible refine jS ?_)|(with_reducible refine jU ?_ _)|refine zR ?_ (Aside0.out NB) _)))⟩ ?_ rfl rfl rfl rfl rfl (by kernel_rfl) rfl rfl;intro w9 hbk hfar hbel;replace BK2:=K_ hbk;replace HB:=K_ (hbel _ _ GE2.out (BL HB));clear hbk hfar hbel)
               refine bodyPost_ret (jE rfl _ _ g2 26 jN.cs (0,0) _ rfl (BP BK2) Tryz.underlying26 rfl (by kernel_rfl)) rfl ?_;exact⟨jN,4,rfl,BL HB,.inr ⟨by decide,HE.out⟩⟩)
             have HN5:=K_ (show vD s=zaN sc sz pl { P2 with ms:=(jK 64 pl.data.toList:Nat),xs:=(pl.size:Int)-(xF pl.data.toList:Nat) } by rw[HN4.out,hr];rfl);clear HN4;rw[hr] at HR;go_upto_region 51 with (first|(go_at_call 118;refine ((HK1 _).out).mono ?_;rintro e w' ⟨rfl,rfl⟩)|(go_at_call 119;refine ((HR _).out).mono ?_;rintro e w' ⟨rfl,hb⟩;replace HZ:=K_ (Kd.R_below (RB HZ.out) hb);replace HB:=zF HB hb;replace BK2:=zC BK2 hb;replace BK4:=zC BK4 hb;clear hb))
             clear HR HK1 e1 e2 e3 d1 d2 d3;have HK1:=fun W=>K_ (zaH pl 64 (by omega) W)
             have HZ4:=K_ (Kd.R_types HZ.out BK4.out (by decide));obtain⟨⟨cz0,cz1,cz2,cz3,cz4,cz5,cz6,cz7,cz8,cz9,cz10,cz11,cz12,cz13,cz14,cz15,cz16,cz17,cz18,cz19⟩,fz0,fz1,fz2,fz3,fz4,fz5,fz6,fz7,fz8,fz9,fz10,fz11,fz12,fz13,fz14,fz15,fz16,fz17,fz18,fz19⟩:=zeR BK4;obtain⟨P3,hP3⟩:∃ P3:jY,P3={ P2 with ms:=(jK 64 pl.data.toList:Nat) }:=⟨_,rfl⟩
             have HN6:=K_ (show vD s=zaN sc sz pl { P3 with xs:=(pl.size:Int)-(xF pl.data.toList:Nat) } by rw[HN5.out,hP3]);clear HN5;go_wp2_with (go_at_call 118;refine ((HK1 _).out).mono ?_;rintro e w' ⟨rfl,rfl⟩)
             go_loopw [] (fun wr=>∃ k:Nat,k≤xF pl.data.toList∧(Kd.int .i64).R 3 wr w.heap.size (fun _=>True) (.slice A4 sz.length c4) sz∧wr.heap[g2]?=some (.cells Z26 26 (0,0))∧wr.heap[g4]?=some (.cells ({ P3 with xs:=(pl.size:Int)-(k:Int) }:jY).cs 26 (0,0))∧Below w.heap.size w wr) (fun wr=>(intOf ((wr.cell? ⟨g4,10,none⟩).getD (.bool false))).toNat)
             case atStart=>exact⟨0,by omega,(by refine Kd.R_mono (ok:=fun k=>True∧k≠g4) ?_ (fun _ hk=>hk.1);(repeat (first|(with_reducible exact Aside0.out HZ4)|(with_reducible refine Kd.R_drewN ?_ _)|(with_reducible refine Kd.R_drew ?_)|refine Kd.R_far ?_ (fun _ hk=>hk.2) _))),(by (repeat (first|(with_reducible exact Aside0.out BK2)|(with_reducible refine jT ?_ _)|(with_reducible refine jS ?_)|(with_reducible refine jU ?_ _)|refine zR ?_ (Aside0.out NB) _))),by rw[hP3,show ((pl.size:Int)-((0:Nat):Int))=(pl.size:Int) by omega];exact BP BK4,BL HB⟩
             case round =>
              obtain⟨k,hk,hz,hb2,hb4,hbw⟩:=hrel;have HZL:=K_ hz;have BK2L:=K_ hb2;have BK4L:=K_ hb4;have HBL:=K_ hbw;clear hz hb2 hb4 hbw;have hpz:=HPL.out;have hll:=HLL.out;have HZ4L:=K_ (Kd.R_types HZL.out BK4L.out (by decide));have hwk:IntKind.i64.wrap ((pl.size:Int)-((pl.size:Int)-(k:Int)))=(k:Int):=by rw[IntKind.wrap_i64];omega
              have hkp:k<pl.size:=by omega
              have hwn:IntKind.i64.wrap ((pl.size:Int)-(k:Int)-1)=(pl.size:Int)-((k+1:Nat):Int):=by rw[IntKind.wrap_i64];omega
              have e35:(((pl[k].toNat:Nat):Int)==35)=(pl[k]==35):=zbm pl[k] 35;have hm:=K_ (show (wr.cell? ⟨g4,10,none⟩)=some (.int .i64 ((pl.size:Int)-(k:Int))) from (zA BK4L.out 10).trans rfl);obtain⟨⟨cz0,cz1,cz2,cz3,cz4,cz5,cz6,cz7,cz8,cz9,cz10,cz11,cz12,cz13,cz14,cz15,cz16,cz17,cz18,cz19⟩,fz0,fz1,fz2,fz3,fz4,fz5,fz6,fz7,fz8,fz9,fz10,fz11,fz12,fz13,fz14,fz15,fz16,fz17,fz18,fz19⟩:=zeR BK4L;cases hc:(pl[k]==35)
              ·rw[hc] at e35
               have hkk:k=xF pl.data.toList:=by
                apply Decidable.byContradiction;intro h
                have:=znW pl.data.toList k (by omega) (by rw[←zQ];exact hkp)
                rw[show pl.data.toList[k]'(by rw[←zQ];exact hkp)=pl[k] from rfl] at this;rw[this] at hc;cases hc
               have HKK:=K_ hkk;clear hc hkk;go_wp2
               go_meet
               case rel=>exact⟨rfl,by rw[hp],{ P3 with xs:=(pl.size:Int)-(xF pl.data.toList:Nat) },HN6.out,fun _=>by omega,HZL.out,BK BK2L,by rw[←HKK.out];exact BK BK4L,BL HBL⟩
              rw[hc] at e35;have hkk:k<xF pl.data.toList:=by
               apply Decidable.byContradiction;intro h
               have hke:k=xF pl.data.toList:=by omega
               subst hke;exact zlH pl.data.toList (by rw[←zQ];exact hkp) (eq_of_beq hc)
              have HKK:=K_ hkk;clear hc hkk;go_wp2
              go_roundw
              case rel=>exact⟨k+1,HKK.out,(by refine Kd.R_mono (ok:=fun k=>True∧k≠g4) ?_ (fun _ hk=>hk.1);(repeat (first|(with_reducible exact Aside0.out HZ4L)|(with_reducible refine Kd.R_drewN ?_ _)|(with_reducible refine Kd.R_drew ?_)|refine Kd.R_far ?_ (fun _ hk=>hk.2) _))),(by (repeat (first|(with_reducible exact Aside0.out BK2L)|(with_reducible refine jT ?_ _)|(with_reducible refine jS ?_)|(with_reducible refine jU ?_ _)|refine zR ?_ (Aside0.out NB) _))),BP BK4L,BL HBL⟩
              case measure =>
               have hm2:(wr.setCell ⟨g4,10,none⟩ (Value.int IntKind.i64 ((pl.size:Int)-((k:Int)+1)))).cell? ⟨g4,10,none⟩=some (.int .i64 ((pl.size:Int)-((k:Int)+1))):=(zA (t:=26) (cs:=({ P3 with xs:=(pl.size:Int)-((k+1:Nat):Int) }:jY).cs) (BP BK4L) 10).trans rfl;rw[hm2,hm.out];simp[intOf];omega
            have HE:=K_ (show vD s=none by rw[HN3.out,if_pos (.inl hp)]);go_upto_if 198 with (fail)
            (
             go_wp2_with (refine so_ (g:=g2) (cs:=Z26) Z26 ⟨(by (repeat (first|(with_reducible exact Aside0.out BK2)|(with_reducible refine jT ?_ _)|(with_reducible refine jS ?_)|(with_reducible refine jU ?_ _)|refine zR ?_ (Aside0.out NB) _)))⟩ ?_ rfl rfl rfl rfl rfl (by kernel_rfl) rfl rfl;intro w9 hbk hfar hbel;replace BK2:=K_ hbk;replace HB:=K_ (hbel _ _ GE2.out (BL HB));clear hbk hfar hbel)
             refine bodyPost_ret (jE rfl _ _ g2 26 jN.cs (0,0) _ rfl (BP BK2) Tryz.underlying26 rfl (by kernel_rfl)) rfl ?_;exact⟨jN,6,rfl,BL HB,.inr ⟨by decide,HE.out⟩⟩)
           have d1:decide (((jK 64 al.data.toList:Nat):Int)>0)=false:=decide_eq_false (by omega);have d2:decide (0<jK 64 al.data.toList)=false:=decide_eq_false h1;have d3:jK 64 al.data.toList=0:=by omega
           have hals:=HAS.out
           have HN3:=K_ (show vD s=if uG [35,48,48] pl.data.toList=false∨uG [48,35,35] fr.data.toList=false then none
            else if (vU (qS 35 al.data.toList)).size≠0∧((jK 48 fr.data.toList:Int)<(fr.size:Int)∨sc=true) then none
            else zaN sc sz pl { P2 with mi:=(jK 48 pl.data.toList:Nat),mf:=(jK 48 fr.data.toList:Nat),xf:=(fr.size:Int),inc:=vU (qS 35 al.data.toList),xi:=if sc=true then (pl.size:Int) else P2.xi } by rw[HN2.out,if_neg (by omega),if_neg h1])
           clear HN2 HK;have HR1:∀ W,Aside0 (Calls Tryz.prog 119 #[.string pl,.int .u8 35,.int .u8 48,.int .u8 48] W fun e w'=>e=.returned (.bool (uG [35,48,48] pl.data.toList))∧Below W.heap.size W w'):=fun W=>⟨zeK pl 35 48 48 (by omega) W⟩
           have HR2:∀ W,Aside0 (Calls Tryz.prog 119 #[.string fr,.int .u8 48,.int .u8 35,.int .u8 35] W fun e w'=>e=.returned (.bool (uG [48,35,35] fr.data.toList))∧Below W.heap.size W w'):=fun W=>⟨zeK fr 48 35 35 (by omega) W⟩
           cases hr:uG [35,48,48] pl.data.toList
           ·have HE:=K_ (show vD s=none by rw[HN3.out,if_pos (.inl hr)])
            rw[hr] at HR1;go_upto_if 229 with (go_at_call 119;refine ((HR1 _).out).mono ?_;rintro e w' ⟨rfl,hb⟩;replace HB:=zF HB hb;replace BK2:=zC BK2 hb;clear hb)
            (
             go_wp2_with (refine so_ (g:=g2) (cs:=Z26) Z26 ⟨(by (repeat (first|(with_reducible exact Aside0.out BK2)|(with_reducible refine jT ?_ _)|(with_reducible refine jS ?_)|(with_reducible refine jU ?_ _)|refine zR ?_ (Aside0.out NB) _)))⟩ ?_ rfl rfl rfl rfl rfl (by kernel_rfl) rfl rfl;intro w9 hbk hfar hbel;replace BK2:=K_ hbk;replace HB:=K_ (hbel _ _ GE2.out (BL HB));clear hbk hfar hbel)
             refine bodyPost_ret (jE rfl _ _ g2 26 jN.cs (0,0) _ rfl (BP BK2) Tryz.underlying26 rfl (by kernel_rfl)) rfl ?_;exact⟨jN,4,rfl,BL HB,.inr ⟨by decide,HE.out⟩⟩)
           rw[hr] at HR1;cases hr2:uG [48,35,35] fr.data.toList
           ·have HE:=K_ (show vD s=none by rw[HN3.out,if_pos (.inr hr2)])
            rw[hr2] at HR2;go_upto_if 229 with (first|(go_at_call 119;(with_reducible refine ((HR1 _).out).mono ?_);rintro e w' ⟨rfl,hb⟩;replace HB:=zF HB hb;replace BK2:=zC BK2 hb;clear hb)|(go_at_call 119;refine ((HR2 _).out).mono ?_;rintro e w' ⟨rfl,hb⟩;replace HB:=zF HB hb;replace BK2:=zC BK2 hb;clear hb))
            (
             go_wp2_with (refine so_ (g:=g2) (cs:=Z26) Z26 ⟨(by (repeat (first|(with_reducible exact Aside0.out BK2)|(with_reducible refine jT ?_ _)|(with_reducible refine jS ?_)|(with_reducible refine jU ?_ _)|refine zR ?_ (Aside0.out NB) _)))⟩ ?_ rfl rfl rfl rfl rfl (by kernel_rfl) rfl rfl;intro w9 hbk hfar hbel;replace BK2:=K_ hbk;replace HB:=K_ (hbel _ _ GE2.out (BL HB));clear hbk hfar hbel)
             refine bodyPost_ret (jE rfl _ _ g2 26 jN.cs (0,0) _ rfl (BP BK2) Tryz.underlying26 rfl (by kernel_rfl)) rfl ?_;exact⟨jN,4,rfl,BL HB,.inr ⟨by decide,HE.out⟩⟩)
           have HN4:=K_ (show vD s=if (vU (qS 35 al.data.toList)).size≠0∧((jK 48 fr.data.toList:Int)<(fr.size:Int)∨sc=true) then none
            else zaN sc sz pl { P2 with mi:=(jK 48 pl.data.toList:Nat),mf:=(jK 48 fr.data.toList:Nat),xf:=(fr.size:Int),inc:=vU (qS 35 al.data.toList),xi:=if sc=true then (pl.size:Int) else P2.xi } by
            rw[HN3.out,if_neg];rintro (h|h)
            ·rw[hr] at h;cases h
            rw[hr2] at h;cases h)
           clear HN3;rw[hr2] at HR2;go_upto_region 57 with (first|(go_at_call 119;(with_reducible refine ((HR1 _).out).mono ?_);rintro e w' ⟨rfl,hb⟩;replace HZ:=K_ (Kd.R_below (RB HZ.out) hb);replace HB:=zF HB hb;replace BK2:=zC BK2 hb;replace BK4:=zC BK4 hb;clear hb)|(go_at_call 119;refine ((HR2 _).out).mono ?_;rintro e w' ⟨rfl,hb⟩;replace HZ:=K_ (Kd.R_below (RB HZ.out) hb);replace HB:=zF HB hb;replace BK2:=zC BK2 hb;replace BK4:=zC BK4 hb;clear hb))
           clear HR1 HR2 d1 d2 d3 hr hr2;have HK1:∀ W,Aside0 (Calls Tryz.prog 118 #[.string pl,.int .u8 48] W fun e w'=>e=.returned (.int .i64 (jK 48 pl.data.toList:Nat))∧w'=W):=fun W=>⟨zaH pl 48 (by omega) W⟩
           have HK2:∀ W,Aside0 (Calls Tryz.prog 118 #[.string fr,.int .u8 48] W fun e w'=>e=.returned (.int .i64 (jK 48 fr.data.toList:Nat))∧w'=W):=fun W=>⟨zaH fr 48 (by omega) W⟩
           have HZ4:=K_ (Kd.R_types HZ.out BK4.out (by decide));obtain⟨⟨cz0,cz1,cz2,cz3,cz4,cz5,cz6,cz7,cz8,cz9,cz10,cz11,cz12,cz13,cz14,cz15,cz16,cz17,cz18,cz19⟩,fz0,fz1,fz2,fz3,fz4,fz5,fz6,fz7,fz8,fz9,fz10,fz11,fz12,fz13,fz14,fz15,fz16,fz17,fz18,fz19⟩:=zeR BK4;go_upto_region 58 with (first|(go_at_call 118;(with_reducible refine ((HK1 _).out).mono ?_);rintro e w' ⟨rfl,rfl⟩)|(go_at_call 118;refine ((HK2 _).out).mono ?_;rintro e w' ⟨rfl,rfl⟩))
           go_wp2_with (fail)
           go_loop [19,20] (fun vd vi=>∃ k:Nat,k≤al.size∧vd=.string (qS 35 (al.data.toList.take k))∧vi=.int .i64 k) (fun _ vi=>al.size-(intOf vi).toNat)
           case atStart=>exact⟨0,by omega,rfl,rfl⟩
           case round =>
            obtain⟨k,hk,rfl,rfl⟩:=hrel;have hals:=HAS.out;by_cases hlt:k<al.size
            ·have hfl:=zeq 35 (al.data.toList.take k)
             rw[List.length_take] at hfl;have e35:(((al[k].toNat:Nat):Int) !=35)=!(al[k]==35):=congrArg (! ·) (zbm al[k] 35);have hwk:IntKind.i64.wrap ((k:Int)+1)=(k:Int)+1:=by rw[IntKind.wrap_i64];omega
             cases hc:(al[k]==35)
             ·rw[hc] at e35
              have HF:=K_ (ziV (l:=al.data.toList) (k:=k) 35 (by rw[←zQ];exact hlt) (beq_eq_false_iff_ne.1 hc));have hle1:(k:Int)≤(k:Int)+1:=by omega
              have hle2:(k:Int)+1≤(al.size:Int):=by omega
              have h01:(0:Int)≤(k:Int)+1:=by omega
              have hle3:k+1≤al.size:=hlt;have hn1:((k:Int)+1).toNat=k+1:=by omega
              have hfb:¬ 9223372036854775807<(qS 35 (List.take k al.data.toList)).size+1:=by omega
              clear hc;go_wp2
              go_round
              case rel=>exact⟨k+1,by omega,by rw[HF.out,zgd hlt];rfl,by go_num⟩
              case measure=>simp[intOf];omega
             rw[hc] at e35;have HF:=K_ (ziJ (l:=al.data.toList) (k:=k) 35 (by rw[←zQ];exact hlt) (eq_of_beq hc));clear hc;go_wp2
             go_round
             case rel=>exact⟨k+1,by omega,by rw[HF.out],by go_num⟩
             case measure=>simp[intOf];omega
            obtain rfl:k=al.size:=by omega
            have eW:al.data.toList.take al.size=al.data.toList:=List.take_of_length_le (by rw[←zQ];exact Nat.le_refl _);obtain⟨D,hD⟩:∃ D,D=qS 35 al.data.toList:=⟨_,rfl⟩
            have hds:D.size≤2097152:=by
             have:=zeq 35 al.data.toList
             rw[←zQ] at this;rw[hD];omega
            rw[eW,←hD];rw[←hD] at HN4;have HL:=fun W=>K_ (zfJ D (by omega) W)
            clear hD eW hds;go_upto_region 65 with (go_at_call 117;refine ((HL _).out).mono ?_;rintro e w' ⟨rfl,⟨nd,rfl⟩⟩)
            obtain⟨D2,hD2⟩:∃ D2,D2=vU D:=⟨_,rfl⟩
            rw[←hD2] at HN4 ⊢;clear hD2 HL;obtain⟨P4,hP4⟩:∃ P4:jY,P4={ P2 with mi:=(jK 48 pl.data.toList:Nat),mf:=(jK 48 fr.data.toList:Nat),xf:=(fr.size:Int),inc:=D2 }:=⟨_,rfl⟩
            have HM4:=K_ (show P4.ms=0 by rw[hP4];exact HMS2.out);have HF4:=K_ (show P4.mf=(jK 48 fr.data.toList:Nat)∧P4.xf=(fr.size:Int)∧P4.inc=D2 by rw[hP4];exact⟨rfl,rfl,rfl⟩);replace HN4:=K_ (show vD s=if D2.size≠0∧((jK 48 fr.data.toList:Int)<(fr.size:Int)∨sc=true) then none else zaN sc sz pl { P4 with xi:=if sc=true then (pl.size:Int) else P4.xi } by rw[HN4.out,hP4]);refine zbs (fun wx=>(Kd.int .i64).R 3 wx w.heap.size (fun _=>True) (.slice A4 sz.length c4) sz∧wx.heap[g2]?=some (.cells Z26 26 (0,0))∧wx.heap[g4]?=some (.cells P4.cs 26 (0,0))∧Below w.heap.size w wx) ⟨(by refine Kd.R_mono (ok:=fun k=>True∧k≠g4) ?_ (fun _ hk=>hk.1);(repeat (first|(with_reducible exact Aside0.out HZ4)|(with_reducible refine Kd.R_drewN ?_ _)|(with_reducible refine Kd.R_drew ?_)|refine Kd.R_far ?_ (fun _ hk=>hk.2) _))),(by (repeat (first|(with_reducible exact Aside0.out BK2)|(with_reducible refine jT ?_ _)|(with_reducible refine jS ?_)|(with_reducible refine jU ?_ _)|refine zR ?_ (Aside0.out NB) _))),by rw[hP4];exact BP BK4,BL HB⟩ ?_;rintro w6 ⟨hz,hb2,hb4,hbw⟩;replace HZ:=K_ hz;replace BK2:=K_ hb2;replace BK4:=K_ hb4;replace HB:=K_ hbw;clear hz hb2 hb4 hbw hP4;replace HZ4:=K_ (Kd.R_types HZ.out BK4.out (by decide));have eI:=(zA BK4.out 13).trans (show _=some (Value.string P4.inc) from rfl);have eF:=(zA BK4.out 7).trans (show _=some (Value.int .i64 P4.mf) from rfl);have eX:=(zA BK4.out 8).trans (show _=some (Value.int .i64 P4.xf) from rfl);have e6:=(zA BK4.out 6).trans (show _=some (Value.int .i64 P4.xi) from rfl)
            have eZ:=zL BK4.out 6;rw[HF4.out.2.2] at eI;rw[HF4.out.1] at eF;rw[HF4.out.2.1] at eX;by_cases q1:0<D2.size
            ·have qe:=zdK q1
             by_cases q2:((jK 48 fr.data.toList:Nat):Int)<(fr.size:Int)
             ·have HE:=K_ (show vD s=none by rw[HN4.out,if_pos ⟨by omega,.inl q2⟩])
              have dq:=decide_eq_true q2;go_upto_if 272 with (fail)
              (
               go_wp2_with (refine so_ (g:=g2) (cs:=Z26) Z26 ⟨(by (repeat (first|(with_reducible exact Aside0.out BK2)|(with_reducible refine jT ?_ _)|(with_reducible refine jS ?_)|(with_reducible refine jU ?_ _)|refine zR ?_ (Aside0.out NB) _)))⟩ ?_ rfl rfl rfl rfl rfl (by kernel_rfl) rfl rfl;intro w9 hbk hfar hbel;replace BK2:=K_ hbk;replace HB:=K_ (hbel _ _ GE2.out (BL HB));clear hbk hfar hbel)
               refine bodyPost_ret (jE rfl _ _ g2 26 jN.cs (0,0) _ rfl (BP BK2) Tryz.underlying26 rfl (by kernel_rfl)) rfl ?_;exact⟨jN,6,rfl,BL HB,.inr ⟨by decide,HE.out⟩⟩)
             have dq:=decide_eq_false q2;cases hs:sc
             ·have HN5:=K_ (show vD s=zaN sc sz pl P4 by
               rw[HN4.out,if_neg,hs]
               ·rfl
               rintro⟨_,h|h⟩
               ·exact q2 h
               rw[hs] at h;cases h)
              go_wp2
              go_meet
              case rel=>exact⟨by rw[hs],rfl,_,HN5.out,fun h=>by rw[HM4.out] at h;omega,HZ.out,BK BK2,BK BK4,BL HB⟩
             have HE:=K_ (show vD s=none by rw[HN4.out,if_pos ⟨by omega,.inr hs⟩]);go_upto_if 272 with (fail)
             (
              go_wp2_with (refine so_ (g:=g2) (cs:=Z26) Z26 ⟨(by (repeat (first|(with_reducible exact Aside0.out BK2)|(with_reducible refine jT ?_ _)|(with_reducible refine jS ?_)|(with_reducible refine jU ?_ _)|refine zR ?_ (Aside0.out NB) _)))⟩ ?_ rfl rfl rfl rfl rfl (by kernel_rfl) rfl rfl;intro w9 hbk hfar hbel;replace BK2:=K_ hbk;replace HB:=K_ (hbel _ _ GE2.out (BL HB));clear hbk hfar hbel)
              refine bodyPost_ret (jE rfl _ _ g2 26 jN.cs (0,0) _ rfl (BP BK2) Tryz.underlying26 rfl (by kernel_rfl)) rfl ?_;exact⟨jN,6,rfl,BL HB,.inr ⟨by decide,HE.out⟩⟩)
            have qe:=zfo q1;have HN5:=K_ (show vD s=zaN sc sz pl { P4 with xi:=if sc=true then (pl.size:Int) else P4.xi } by
             rw[HN4.out,if_neg];rintro⟨h,_⟩;exact h (by omega))
            cases hs:sc
            ·have HN6:=K_ (show vD s=zaN sc sz pl P4 by rw[HN5.out,hs];rfl)
             go_wp2
             go_meet
             case rel=>exact⟨by rw[hs],rfl,_,HN6.out,fun h=>by rw[HM4.out] at h;omega,HZ.out,BK BK2,BK BK4,BL HB⟩
            have HN6:=K_ (show vD s=zaN sc sz pl { P4 with xi:=(pl.size:Int) } by rw[HN5.out,hs];rfl);go_wp2
            go_meet
            case rel=>exact⟨by rw[hs],rfl,_,HN6.out,fun h=>by rw[show ({ P4 with xi:=(pl.size:Int) }:jY).ms=P4.ms from rfl,HM4.out] at h;omega,(by refine Kd.R_mono (ok:=fun k=>True∧k≠g4) ?_ (fun _ hk=>hk.1);(repeat (first|(with_reducible exact Aside0.out HZ4)|(with_reducible refine Kd.R_drewN ?_ _)|(with_reducible refine Kd.R_drew ?_)|refine Kd.R_far ?_ (fun _ hk=>hk.2) _))),(by (repeat (first|(with_reducible exact Aside0.out BK2)|(with_reducible refine jT ?_ _)|(with_reducible refine jS ?_)|(with_reducible refine jU ?_ _)|refine zR ?_ (Aside0.out NB) _))),BP BK4,BL HB⟩
          case rest =>
           obtain⟨rfl,rfl,P6,he,hms,hz,hb2,hb4,hbw⟩:=hcut;replace HZ:=K_ hz;replace BK2:=K_ hb2;replace BK4:=K_ hb4;replace HB:=K_ hbw;have HN:=K_ he;have HM:=K_ hms;clear he hms hz hb2 hb4 hbw HN2 HK HAL HPF hle h0;have hszl:=HSL.out;obtain⟨tst,htst⟩:∃ tst:Bool,tst=(sc&&(decide (1<sz.length)||(decide (0<P6.ms)&&(pl.data.toList.headD 0==35)))):=⟨_,rfl⟩
           have HT:=K_ htst;have e9:=(zA BK4.out 9).trans (show _=some (Value.int .i64 P6.ms) from rfl);clear htst;go_upto_region 69 with (fail)
           go_cut [7,293] from 278 to 293 (fun v c wx=>v=.bool sc∧c=.bool tst∧wx=wc)
           case first =>
            cases hs:sc
            ·go_wp2
             go_meet
             case rel=>exact⟨by rw[hs],by rw[HT.out,hs];rfl,rfl⟩
            by_cases h1:sz.length>1
            ·have d1:decide ((sz.length:Int)>1)=true:=decide_eq_true (by omega)
             have d2:decide (1<sz.length)=true:=decide_eq_true h1;have D:=K_ d2;go_wp2
             go_meet
             case rel=>exact⟨by rw[hs],by rw[HT.out,hs,D.out];rfl,rfl⟩
            have d1:decide ((sz.length:Int)>1)=false:=decide_eq_false (by omega);have d2:decide (1<sz.length)=false:=decide_eq_false h1;have D:=K_ d2;by_cases h2:P6.ms>0
            ·have d3:decide (P6.ms>0)=true:=decide_eq_true h2
             have D3:=K_ (show decide (0<P6.ms)=true from d3);have hp0:=HM.out h2;have e35:(((pl[0].toNat:Nat):Int)==35)=(pl.data.toList.headD 0==35):=by rw[zkd hp0];exact zbm pl[0] 35
             go_wp2
             go_meet
             case rel=>exact⟨by rw[hs],by rw[HT.out,hs,D.out,D3.out,List.headD_eq_head?_getD];rfl,rfl⟩
            have d3:decide (P6.ms>0)=false:=decide_eq_false h2;have D3:=K_ (show decide (0<P6.ms)=false from d3);go_wp2
            go_meet
            case rel=>exact⟨by rw[hs],by rw[HT.out,hs,D.out,D3.out];rfl,rfl⟩
           case rest =>
            obtain⟨rfl,rfl,rfl⟩:=hcut;cases ht:tst
            ·have HN3:=K_ (show vD s=zem P6 by
              rw[HN.out];unfold zaN;rw[if_neg];rintro⟨q1,q2⟩;have:=HT.out
              rw[ht,q1] at this;rcases q2 with q2|⟨q2,q3⟩
              ·rw[decide_eq_true q2] at this;cases this
              rw[decide_eq_true (show 0<P6.ms from q2),q3,Bool.or_comm] at this;cases this)
             clear HN HT HM ht e9;obtain⟨⟨cz0,cz1,cz2,cz3,cz4,cz5,cz6,cz7,cz8,cz9,cz10,cz11,cz12,cz13,cz14,cz15,cz16,cz17,cz18,cz19⟩,fz0,fz1,fz2,fz3,fz4,fz5,fz6,fz7,fz8,fz9,fz10,fz11,fz12,fz13,fz14,fz15,fz16,fz17,fz18,fz19⟩:=zeR BK4;go_upto_region 71 with (fail)
             go_wp2_with (fail)
             obtain⟨g7,hg7⟩:∃ g7,g7=wc.heap.size:=⟨_,rfl⟩
             rw[←hg7];obtain⟨ad7,had⟩:∃ ad7:Addr,ad7=⟨g7,0,none⟩:=⟨_,rfl⟩
             rw[←had];refine zbs (fun wx=>wx.heap[g7]?=some (.cells #[.int .i64 P6.mi,.int .i64 P6.xi,.int .i64 P6.xf,.int .i64 P6.xs,.int .i64 P6.pr,.int .i64 P6.se,.int .i64 (P6.inc.size:Int)] 3 (0,0))∧wx.heap[g2]?=some (.cells Z26 26 (0,0))∧wx.heap[g4]?=some (.cells P6.cs 26 (0,0))∧Below w.heap.size w wx) ⟨by rw[hg7];exact zbU _ _,BK BK2,BK BK4,BL HB⟩ ?_;rintro w7 ⟨h7,hb2,hb4,hbw⟩;replace BK2:=K_ hb2;replace BK4:=K_ hb4;replace HB:=K_ hbw;have HC7:=K_ (show ∀ k,(h:k<(zaF P6).length)→w7.cell? (ad7.add k)=some (.int .i64 ((zaF P6)[k]'h)) by
              intro k h;rw[show ad7.add k=⟨g7,k,none⟩ by rw[had];simp[Addr.add] <;> omega,zA h7 k];rw[zhX] at h
              match k,h with
              | 0,_=>rfl
              | 1,_=>rfl
              | 2,_=>rfl
              | 3,_=>rfl
              | 4,_=>rfl
              | 5,_=>rfl
              | 6,_=>rfl)
             clear h7 hb2 hb4 hbw had hg7;go_loop [312] (fun v=>∃ k:Nat,k≤7∧v=.int .i64 k∧∀ x∈(zaF P6).take k,x≤40) (fun v=>7-(intOf v).toNat)
             case atStart=>exact⟨0,by omega,rfl,fun x hx=>by simp at hx⟩
             case round =>
              obtain⟨k,hk,rfl,hz⟩:=hrel;have HK:=K_ hz;clear hz;by_cases hlt:k<7
              ·have dlt:decide ((k:Int)<7)=true:=decide_eq_true (by omega)
               have hlt2:k<(zaF P6).length:=hlt;obtain⟨x0,hx0⟩:∃ x0,x0=(zaF P6)[k]:=⟨_,rfl⟩
               have hcell:=HC7.out k hlt2;rw[←hx0] at hcell;have HX0:=K_ hx0;clear hx0;by_cases hq:x0>40
               ·have HE:=K_ (show vD s=none by rw[HN3.out];exact zmM P6 (by rw[HX0.out];exact List.getElem_mem hlt2) hq)
                have dq:decide (x0>40)=true:=decide_eq_true hq;go_upto_if 317 with (fail)
                (
                 go_wp2_with (refine so_ (g:=g2) (cs:=Z26) Z26 ⟨(by (repeat (first|(with_reducible exact Aside0.out BK2)|(with_reducible refine jT ?_ _)|(with_reducible refine jS ?_)|(with_reducible refine jU ?_ _)|refine zR ?_ (Aside0.out NB) _)))⟩ ?_ rfl rfl rfl rfl rfl (by kernel_rfl) rfl rfl;intro w9 hbk hfar hbel;replace BK2:=K_ hbk;replace HB:=K_ (hbel _ _ GE2.out (BL HB));clear hbk hfar hbel)
                 refine bodyPost_ret (jE rfl _ _ g2 26 jN.cs (0,0) _ rfl (BP BK2) Tryz.underlying26 rfl (by kernel_rfl)) rfl ?_;exact⟨jN,8,rfl,BL HB,.inr ⟨by decide,HE.out⟩⟩)
               have dq:decide (x0>40)=false:=decide_eq_false hq;have HKK:=K_ (show ∀ x∈(zaF P6).take (k+1),x≤40 by
                intro x hx;rw[List.take_succ_eq_append_getElem hlt2,List.mem_append,List.mem_singleton] at hx;rcases hx with hx|rfl
                ·exact HK.out x hx
                rw[←HX0.out];omega)
               go_wp2
               go_round
               case rel=>exact⟨k+1,by omega,by go_num,HKK.out⟩
               case measure=>simp[intOf];omega
              obtain rfl:k=7:=by omega
              have HE:=K_ (show vD s=some P6 by rw[HN3.out];exact zmI P6 (by have:=HK.out;rwa [List.take_of_length_le (by rw[zhX];exact Nat.le_refl _)] at this));have dlt:decide (((7:Nat):Int)<7)=false:=rfl;go_wp2_with (first|(refine lo_ (g:=g4) (cs:=P6.cs) _ BK4 ?_ rfl rfl rfl Tryz.underlying26 rfl (by kernel_rfl))|(refine so_ (g:=g2) (cs:=Z26) P6.cs BK2 ?_ rfl rfl rfl rfl rfl rfl rfl rfl;intro w9 hbk hfar hbel;replace BK2:=K_ hbk;replace HB:=K_ (hbel _ _ GE2.out (BL HB));clear hbk hfar hbel))
              refine bodyPost_ret (jE rfl _ _ g2 26 P6.cs (0,0) _ rfl BK2.out Tryz.underlying26 rfl rfl) rfl ?_;exact⟨P6,0,rfl,BL HB,.inl ⟨rfl,HE.out⟩⟩
            have HE:=K_ (show vD s=none by
             rw[HN.out];unfold zaN;rw[if_pos];have:=HT.out
             rw[ht] at this;have q:=this.symm;rw[Bool.and_eq_true,Bool.or_eq_true,Bool.and_eq_true] at q;exact⟨q.1,q.2.imp (fun h=>of_decide_eq_true h) (fun h=>⟨of_decide_eq_true h.1,eq_of_beq h.2⟩)⟩)
            go_upto_if 293 with (fail)
            (
             go_wp2_with (refine so_ (g:=g2) (cs:=Z26) Z26 ⟨(by (repeat (first|(with_reducible exact Aside0.out BK2)|(with_reducible refine jT ?_ _)|(with_reducible refine jS ?_)|(with_reducible refine jU ?_ _)|refine zR ?_ (Aside0.out NB) _)))⟩ ?_ rfl rfl rfl rfl rfl (by kernel_rfl) rfl rfl;intro w9 hbk hfar hbel;replace BK2:=K_ hbk;replace HB:=K_ (hbel _ _ GE2.out (BL HB));clear hbk hfar hbel)
             refine bodyPost_ret (jE rfl _ _ g2 26 jN.cs (0,0) _ rfl (BP BK2) Tryz.underlying26 rfl (by kernel_rfl)) rfl ?_;exact⟨jN,6,rfl,BL HB,.inr ⟨by decide,HE.out⟩⟩)
         have HE:=K_ (show vD s=none by rw[HN2.out,if_pos (by omega)]);have hle:=zfo h0;go_upto_if 188 with (fail)
         (
          go_wp2_with (refine so_ (g:=g2) (cs:=Z26) Z26 ⟨(by (repeat (first|(with_reducible exact Aside0.out BK2)|(with_reducible refine jT ?_ _)|(with_reducible refine jS ?_)|(with_reducible refine jU ?_ _)|refine zR ?_ (Aside0.out NB) _)))⟩ ?_ rfl rfl rfl rfl rfl (by kernel_rfl) rfl rfl;intro w9 hbk hfar hbel;replace BK2:=K_ hbk;replace HB:=K_ (hbel _ _ GE2.out (BL HB));clear hbk hfar hbel)
          refine bodyPost_ret (jE rfl _ _ g2 26 jN.cs (0,0) _ rfl (BP BK2) Tryz.underlying26 rfl (by kernel_rfl)) rfl ?_;exact⟨jN,4,rfl,BL HB,.inr ⟨by decide,HE.out⟩⟩)
    have HE:=K_ (show vD s=none by
     rw[HN.out,if_pos];simpa using hq)
    go_upto_if 105 with (fail)
    (
     go_wp2_with (refine so_ (g:=g2) (cs:=Z26) Z26 ⟨(by (repeat (first|(with_reducible exact Aside0.out BK2)|(with_reducible refine jT ?_ _)|(with_reducible refine jS ?_)|(with_reducible refine jU ?_ _)|refine zR ?_ (Aside0.out NB) _)))⟩ ?_ rfl rfl rfl rfl rfl (by kernel_rfl) rfl rfl;intro w9 hbk hfar hbel;replace BK2:=K_ hbk;replace HB:=K_ (hbel _ _ GE2.out (BL HB));clear hbk hfar hbel)
     refine bodyPost_ret (jE rfl _ _ g2 26 jN.cs (0,0) _ rfl (BP BK2) Tryz.underlying26 rfl (by kernel_rfl)) rfl ?_;exact⟨jN,4,rfl,BL HB,.inr ⟨by decide,HE.out⟩⟩)
set_option maxHeartbeats 16000000 in
set_option maxRecDepth 100000 in
theorem zcb (A:Option Addr) (c:Nat) (l:List S73) (b0:Int) (fst:Bool) (w:World) (hr:Kd.C k73 w A l.length l) (hc:l.length≤c) (hl:l.length≤1000) :
  Calls Tryz.prog 57 #[.slice A l.length c,.int .i64 b0,.bool fst] w (zmS l w):=by
 have HR:=K_ hr;have HL:=K_ hl;have HCC:=K_ hc;have HB:=K_ (Below.refl w.heap.size w);clear hr hc;go_enter Tryz.func57,Tryz.ntmps57
 go_upto_region 1 with (first
  | ((with_reducible refine zE (N:=6) rfl ?_);refine be_ 6 Z76 76 ?_;intro g6 hg w2 hbox hb;have BK6:=K_ hbox;have GE6:=ge_ hg HB;replace HB:=zF HB hb;clear hb hbox hg)
  | ((with_reducible refine zE (N:=7) rfl ?_);refine be_ 7 Z51 51 ?_;intro g7 hg w4 hbox hb;have BK7:=K_ hbox;have GE7:=ge_ hg HB;have NB:=nb_ hg BK6;replace BK6:=zC BK6 hb;replace HB:=zF HB hb;clear hb hbox hg))
 go_wp2_with (fail)
 go_loopw [8] (fun v wr=>∃ k:Nat,k≤l.length∧v=.int .i64 k∧qR (fun x=>!vK x) l k=qK l∧wr.heap[g6]?=some (.cells Z76 76 (0,0))∧wr.heap[g7]?=some (.cells Z51 51 (0,0))∧Below w.heap.size w wr) (fun v _=>l.length-(intOf v).toNat)
 case atStart=>exact⟨0,by omega,rfl,rfl,BK BK6,BK BK7,BL HB⟩
 case round =>
  obtain⟨k,hk,rfl,hrun,hb6,hb7,hbw⟩:=hrel;have HRun:=K_ hrun;replace BK6:=K_ hb6;replace BK7:=K_ hb7;replace HB:=K_ hbw;clear hrun hb6 hb7 hbw;have hcl:=HCC.out;by_cases hlt:k<l.length
  ·have dlt:decide ((k:Int)<(l.length:Int))=true:=decide_eq_true (by omega)
   obtain⟨x,hx⟩:∃ x,x=l[k]:=⟨_,rfl⟩
   obtain⟨ad,ea,h0,h1,h2,h3⟩:=zaw (Kd.C_below HR.out HB.out) (k:Int) (by omega) (by omega);rw[zcN hlt,←hx] at h0 h1 h2 h3;simp only[Int.toNat_natCast] at h0 h1 h2 h3
   have HX:=K_ hx;have HA:=K_ ea;clear hx;subst ea;cases hb:vK x
   ·have HC:∀ W,Aside0 (Calls Tryz.prog 87 #[.agg #[.int .i32 x.f0.f0,.bool x.f0.f1,.int .i64 x.f0.f2,.bool x.f1]] W fun e w'=>e=.returned (.bool false)∧Below W.heap.size W w'):=fun W=>⟨by have h:=zdi x W;rw[hb] at h;exact h⟩
    have HR2:=K_ (show qR (fun x=>!vK x) l (k+1)=qK l by rw[←zhl hlt (by rw[←HX.out,hb];rfl)];exact HRun.out);clear hb;go_wp2_with (go_at_call 87;refine ((HC _).out).mono ?_;rintro e w' ⟨rfl,hb⟩;replace HB:=zF HB hb;replace BK6:=zC BK6 hb;replace BK7:=zC BK7 hb;clear hb)
    go_roundw
    case rel=>exact⟨k+1,by omega,by go_num,HR2.out,BK BK6,BK BK7,BL HB⟩
    case measure=>simp[intOf];omega
   have HC:∀ W,Aside0 (Calls Tryz.prog 87 #[.agg #[.int .i32 x.f0.f0,.bool x.f0.f1,.int .i64 x.f0.f2,.bool x.f1]] W fun e w'=>e=.returned (.bool true)∧Below W.heap.size W w'):=fun W=>⟨by have h:=zdi x W;rw[hb] at h;exact h⟩
   have HBEG:=K_ (show qK l=k by rw[←HRun.out];exact zeO hlt (by rw[←HX.out,hb];rfl));have HKL:=K_ hlt;have dne:((k:Int)==(l.length:Int))=false:=beq_eq_false_iff_ne.2 (by omega);clear hb;go_upto_region 6 with (go_at_call 87;refine ((HC _).out).mono ?_;rintro e w' ⟨rfl,hb⟩;replace HB:=zF HB hb;replace BK6:=zC BK6 hb;replace BK7:=zC BK7 hb;clear hb)
   go_wp2_with (fail)
   go_loopw [9] (fun v wr=>∃ j:Nat,k≤j∧j≤l.length∧v=.int .i64 j∧qR vK l j=qR vK l (k)∧wr.heap[g6]?=some (.cells Z76 76 (0,0))∧wr.heap[g7]?=some (.cells Z51 51 (0,0))∧Below w.heap.size w wr) (fun v _=>l.length-(intOf v).toNat)
   case atStart=>exact⟨k,Nat.le_refl _,by omega,rfl,rfl,BK BK6,BK BK7,BL HB⟩
   case round =>
    obtain⟨j,hj0,hj,rfl,hrun,hb6,hb7,hbw⟩:=hrel;have HRun:=K_ hrun;replace BK6:=K_ hb6;replace BK7:=K_ hb7;replace HB:=K_ hbw;clear hrun hb6 hb7 hbw;go_upto_region 7 with (fail)
    go_cut [55] from 45 to 55 (fun c wx=>c=.bool (zaz l j)∧wx.heap[g6]?=some (.cells Z76 76 (0,0))∧wx.heap[g7]?=some (.cells Z51 51 (0,0))∧Below w.heap.size w wx)
    case first =>
     have hcl:=HCC.out;by_cases hlt:j<l.length
     ·have dlt:decide (((j:Nat):Int)<(l.length:Int))=true:=decide_eq_true (by omega)
      obtain⟨x,hx⟩:∃ x,x=l[j]:=⟨_,rfl⟩
      obtain⟨ad2,ea,h0,h1,h2,h3⟩:=zaw (Kd.C_below HR.out HB.out) ((j:Nat):Int) (by omega) (by omega);rw[zcN hlt,←hx] at h0 h1 h2 h3;simp only[Int.toNat_natCast] at h0 h1 h2 h3
      have HX:=K_ hx;obtain rfl:=Option.some.inj ea;clear hx ea;have HV:=K_ (show zaz l j=vK x by rw[HX.out];exact zdq hlt);cases hb:vK x
      all_goals
       rw[hb] at HV;have HC:∀ W,Aside0 (Calls Tryz.prog 87 #[.agg #[.int .i32 x.f0.f0,.bool x.f0.f1,.int .i64 x.f0.f2,.bool x.f1]] W fun e w'=>e=.returned (.bool _)∧Below W.heap.size W w'):=fun W=>⟨by have h:=zdi x W;rw[hb] at h;exact h⟩
       clear hb;go_wp2_with (go_at_call 87;refine ((HC _).out).mono ?_;rintro e w' ⟨rfl,hb⟩;replace HB:=zF HB hb;replace BK6:=zC BK6 hb;replace BK7:=zC BK7 hb;clear hb)
       go_meet
       case rel=>exact⟨by rw[HV.out],BK BK6,BK BK7,BL HB⟩
     have dlt:decide (((j:Nat):Int)<(l.length:Int))=false:=decide_eq_false (by omega);have HV:=K_ (show zaz l j=false from zeb (by omega));go_wp2
     go_meet
     case rel=>exact⟨by rw[HV.out],BK BK6,BK BK7,BL HB⟩
    case rest =>
     obtain⟨rfl,hb6,hb7,hbw⟩:=hcut;replace BK6:=K_ hb6;replace BK7:=K_ hb7;replace HB:=K_ hbw;clear hb6 hb7 hbw;cases hb:zaz l j
     ·have HE0:=K_ (show qR vK l k=j by rw[←HRun.out];exact zlQ hb)
      clear hb;have HEND:=K_ (show qE l=zeH l j by unfold qE;rw[HBEG.out,HE0.out]);go_upto_region 9 with (fail)
      go_cut [68] from 58 to 68 (fun c wx=>c=.bool (atS l j 69)∧wx.heap[g6]?=some (.cells Z76 76 (0,0))∧wx.heap[g7]?=some (.cells Z51 51 (0,0))∧Below w.heap.size w wx)
      case first =>
       have hcl:=HCC.out;by_cases hlt:j<l.length
       ·have dlt:decide (((j:Nat):Int)<(l.length:Int))=true:=decide_eq_true (by omega)
        obtain⟨x,hx⟩:∃ x,x=l[j]:=⟨_,rfl⟩
        obtain⟨ad2,ea,h0,h1,h2,h3⟩:=zaw (Kd.C_below HR.out HB.out) ((j:Nat):Int) (by omega) (by omega);rw[zcN hlt,←hx] at h0 h1 h2 h3;simp only[Int.toNat_natCast] at h0 h1 h2 h3
        have HX:=K_ hx;obtain rfl:=Option.some.inj ea;clear hx ea;have HV:=K_ (show atS l j 69=zan x 69 by rw[HX.out];exact zgK hlt 69);cases hb:zan x 69
        all_goals
         rw[hb] at HV;have HC:∀ W,Aside0 (Calls Tryz.prog 56 #[.agg #[.int .i32 x.f0.f0,.bool x.f0.f1,.int .i64 x.f0.f2,.bool x.f1],.int .i32 69] W fun e w'=>e=.returned (.bool _)∧Below W.heap.size W w'):=fun W=>⟨by have h:=zbD x 69 W;rw[hb] at h;exact h⟩
         clear hb;go_wp2_with (go_at_call 56;refine ((HC _).out).mono ?_;rintro e w' ⟨rfl,hb⟩;replace HB:=zF HB hb;replace BK6:=zC BK6 hb;replace BK7:=zC BK7 hb;clear hb)
         go_meet
         case rel=>exact⟨by rw[HV.out],BK BK6,BK BK7,BL HB⟩
       have dlt:decide (((j:Nat):Int)<(l.length:Int))=false:=decide_eq_false (by omega);have HV:=K_ (show atS l j 69=false from zdQ (by omega) 69);go_wp2
       go_meet
       case rel=>exact⟨by rw[HV.out],BK BK6,BK BK7,BL HB⟩
      case rest =>
       obtain⟨rfl,hb6,hb7,hbw⟩:=hcut;replace BK6:=K_ hb6;replace BK7:=K_ hb7;replace HB:=K_ hbw;clear hb6 hb7 hbw;go_upto_if 68 with (fail)
       go_cut [9] from 58 to 96 (fun v wx=>v=.int .i64 ((qE l:Nat):Int)∧wx.heap[g6]?=some (.cells Z76 76 (0,0))∧wx.heap[g7]?=some (.cells Z51 51 (0,0))∧Below w.heap.size w wx)
       case first =>
        have hll:=HL.out;cases h69:atS l j 69
        ·have HEND2:=K_ (show qE l=j by rw[HEND.out];unfold zeH;rw[if_neg (by rw[h69];decide)])
         clear h69;go_wp2
         go_meet
         case rel=>exact⟨by rw[HEND2.out],BK BK6,BK BK7,BL HB⟩
        have hj1:=zlc h69;have HEND2:=K_ (show qE l=qR vK l (if atS l (j+1) 43=true then j+2 else j+1) by rw[HEND.out];unfold zeH;rw[if_pos h69]);have hwj:IntKind.i64.wrap ((j:Int)+1)=(j:Int)+1:=by rw[IntKind.wrap_i64];omega
        clear h69;go_upto_region 11 with (fail)
        obtain⟨j1,hj2⟩:∃ j1:Nat,j1=j+1:=⟨_,rfl⟩
        have hc1:((j:Int)+1)=((j1:Nat):Int):=by omega
        have hj3:j1≤l.length:=by omega
        have HEND3:=K_ (show qE l=qR vK l (if atS l j1 43=true then j1+1 else j1) by rw[HEND2.out,hj2]);rw[hc1];clear hc1 hwj hj2 HEND2;go_cut [81] from 71 to 81 (fun c wx=>c=.bool (atS l j1 43)∧wx.heap[g6]?=some (.cells Z76 76 (0,0))∧wx.heap[g7]?=some (.cells Z51 51 (0,0))∧Below w.heap.size w wx)
        case first =>
         have hcl:=HCC.out;by_cases hlt:j1<l.length
         ·have dlt:decide (((j1:Nat):Int)<(l.length:Int))=true:=decide_eq_true (by omega)
          obtain⟨x,hx⟩:∃ x,x=l[j1]:=⟨_,rfl⟩
          obtain⟨ad2,ea,h0,h1,h2,h3⟩:=zaw (Kd.C_below HR.out HB.out) ((j1:Nat):Int) (by omega) (by omega);rw[zcN hlt,←hx] at h0 h1 h2 h3;simp only[Int.toNat_natCast] at h0 h1 h2 h3
          have HX:=K_ hx;obtain rfl:=Option.some.inj ea;clear hx ea;have HV:=K_ (show atS l j1 43=zan x 43 by rw[HX.out];exact zgK hlt 43);cases hb:zan x 43
          all_goals
           rw[hb] at HV;have HC:∀ W,Aside0 (Calls Tryz.prog 56 #[.agg #[.int .i32 x.f0.f0,.bool x.f0.f1,.int .i64 x.f0.f2,.bool x.f1],.int .i32 43] W fun e w'=>e=.returned (.bool _)∧Below W.heap.size W w'):=fun W=>⟨by have h:=zbD x 43 W;rw[hb] at h;exact h⟩
           clear hb;go_wp2_with (go_at_call 56;refine ((HC _).out).mono ?_;rintro e w' ⟨rfl,hb⟩;replace HB:=zF HB hb;replace BK6:=zC BK6 hb;replace BK7:=zC BK7 hb;clear hb)
           go_meet
           case rel=>exact⟨by rw[HV.out],BK BK6,BK BK7,BL HB⟩
         have dlt:decide (((j1:Nat):Int)<(l.length:Int))=false:=decide_eq_false (by omega);have HV:=K_ (show atS l j1 43=false from zdQ (by omega) 43);go_wp2
         go_meet
         case rel=>exact⟨by rw[HV.out],BK BK6,BK BK7,BL HB⟩
        case rest =>
         obtain⟨rfl,hb6,hb7,hbw⟩:=hcut;replace BK6:=K_ hb6;replace BK7:=K_ hb7;replace HB:=K_ hbw;clear hb6 hb7 hbw;go_upto_if 81 with (fail)
         go_cut [9] from 71 to 83 (fun v wx=>v=.int .i64 (((if atS l j1 43=true then j1+1 else j1):Nat):Int)∧wx.heap[g6]?=some (.cells Z76 76 (0,0))∧wx.heap[g7]?=some (.cells Z51 51 (0,0))∧Below w.heap.size w wx)
         case first =>
          cases h43:atS l j1 43
          ·go_wp2
           go_meet
           case rel=>exact⟨by rw[h43];rfl,BK BK6,BK BK7,BL HB⟩
          have hwj:IntKind.i64.wrap ((j1:Int)+1)=(j1:Int)+1:=by rw[IntKind.wrap_i64];omega
          go_wp2
          go_meet
          case rel=>exact⟨by rw[h43];rfl,BK BK6,BK BK7,BL HB⟩
         case rest =>
          obtain⟨rfl,hb6,hb7,hbw⟩:=hcut;replace BK6:=K_ hb6;replace BK7:=K_ hb7;replace HB:=K_ hbw;clear hb6 hb7 hbw;obtain⟨e1,he1⟩:∃ e1:Nat,e1=if atS l j1 43=true then j1+1 else j1:=⟨_,rfl⟩
          have hel:e1≤l.length:=by
           rw[he1];split
           ·rename_i h;have:=zlc h;omega
           exact hj3
          have HEND4:=K_ (show qE l=qR vK l e1 by rw[HEND3.out,he1]);rw[←he1];clear he1 HEND3;go_wp2_with (fail)
          go_loopw [9] (fun v wr=>∃ j:Nat,e1≤j∧j≤l.length∧v=.int .i64 j∧qR vK l j=qR vK l (e1)∧wr.heap[g6]?=some (.cells Z76 76 (0,0))∧wr.heap[g7]?=some (.cells Z51 51 (0,0))∧Below w.heap.size w wr) (fun v _=>l.length-(intOf v).toNat)
          case atStart=>exact⟨e1,Nat.le_refl _,by omega,rfl,rfl,BK BK6,BK BK7,BL HB⟩
          case round =>
           obtain⟨j,hj0,hj,rfl,hrun,hb6,hb7,hbw⟩:=hrel;have HRun:=K_ hrun;replace BK6:=K_ hb6;replace BK7:=K_ hb7;replace HB:=K_ hbw;clear hrun hb6 hb7 hbw;go_upto_region 13 with (fail)
           go_cut [94] from 84 to 94 (fun c wx=>c=.bool (zaz l j)∧wx.heap[g6]?=some (.cells Z76 76 (0,0))∧wx.heap[g7]?=some (.cells Z51 51 (0,0))∧Below w.heap.size w wx)
           case first =>
            have hcl:=HCC.out;by_cases hlt:j<l.length
            ·have dlt:decide (((j:Nat):Int)<(l.length:Int))=true:=decide_eq_true (by omega)
             obtain⟨x,hx⟩:∃ x,x=l[j]:=⟨_,rfl⟩
             obtain⟨ad2,ea,h0,h1,h2,h3⟩:=zaw (Kd.C_below HR.out HB.out) ((j:Nat):Int) (by omega) (by omega);rw[zcN hlt,←hx] at h0 h1 h2 h3;simp only[Int.toNat_natCast] at h0 h1 h2 h3
             have HX:=K_ hx;obtain rfl:=Option.some.inj ea;clear hx ea;have HV:=K_ (show zaz l j=vK x by rw[HX.out];exact zdq hlt);cases hb:vK x
             all_goals
              rw[hb] at HV;have HC:∀ W,Aside0 (Calls Tryz.prog 87 #[.agg #[.int .i32 x.f0.f0,.bool x.f0.f1,.int .i64 x.f0.f2,.bool x.f1]] W fun e w'=>e=.returned (.bool _)∧Below W.heap.size W w'):=fun W=>⟨by have h:=zdi x W;rw[hb] at h;exact h⟩
              clear hb;go_wp2_with (go_at_call 87;refine ((HC _).out).mono ?_;rintro e w' ⟨rfl,hb⟩;replace HB:=zF HB hb;replace BK6:=zC BK6 hb;replace BK7:=zC BK7 hb;clear hb)
              go_meet
              case rel=>exact⟨by rw[HV.out],BK BK6,BK BK7,BL HB⟩
            have dlt:decide (((j:Nat):Int)<(l.length:Int))=false:=decide_eq_false (by omega);have HV:=K_ (show zaz l j=false from zeb (by omega));go_wp2
            go_meet
            case rel=>exact⟨by rw[HV.out],BK BK6,BK BK7,BL HB⟩
           case rest =>
            obtain⟨rfl,hb6,hb7,hbw⟩:=hcut;replace BK6:=K_ hb6;replace BK7:=K_ hb7;replace HB:=K_ hbw;clear hb6 hb7 hbw;cases hb:zaz l j
            ·have HE9:=K_ (show qE l=j by rw[HEND4.out,←HRun.out];exact zlQ hb)
             clear hb;go_wp2
             go_meet
             case rel=>exact⟨by rw[HE9.out],BK BK6,BK BK7,BL HB⟩
            have hjl:=zfd hb;have HR2:=K_ (show qR vK l (j+1)=qR vK l e1 by rw[←zjP hb];exact HRun.out);clear hb;go_wp2
            go_roundw
            case rel=>exact⟨j+1,by omega,by omega,by go_num,HR2.out,BK BK6,BK BK7,BL HB⟩
            case measure=>simp[intOf];omega
       case rest =>
        obtain⟨rfl,hb6,hb7,hbw⟩:=hcut;replace BK6:=K_ hb6;replace BK7:=K_ hb7;replace HB:=K_ hbw;clear hb6 hb7 hbw;clear HEND HE0 HC HRun hk hj0 hj;obtain⟨e,hen⟩:∃ e,e=qE l:=⟨_,rfl⟩
        have HEN:=K_ hen;rw[←hen];clear hen;go_upto_region 16 with (first
         | ((with_reducible refine zE (N:=10) rfl ?_);refine be_ 10 Z76 76 ?_;intro g10 hg w10 hbox hb;have BK10:=K_ hbox;have GE10:=ge_ hg HB;have N6:=nb_ hg BK6;have N7:=nb_ hg BK7;replace BK6:=zC BK6 hb;replace BK7:=zC BK7 hb;replace HB:=zF HB hb;clear hb hbox hg)
         | ((with_reducible refine zY (p:=10) rfl ?_);refine so_ (g:=g10) (cs:=Z76) Z76 ⟨BK BK10⟩ ?_ rfl rfl rfl rfl rfl zbJ rfl rfl;intro w9 hbk hfar hbel;replace BK6:=K_ (hfar g6 _ N6.out (BK BK6));replace BK7:=K_ (hfar g7 _ N7.out (BK BK7));replace BK10:=K_ hbk;replace HB:=K_ (hbel _ _ GE10.out (BL HB));clear hbk hfar hbel))
        go_wp2_with (fail)
        go_loopw [11,12] (fun p i wr=>∃ (k pads:Nat) (at_ pad:Int),k≤l.length∧pads≤k∧i=.int .i64 k∧p=.int .i64 pads∧wr.heap[g10]?=some (.cells (qF (.slice none 0 0) (.slice none 0 0) jN at_ pad 0) 76 (0,0))∧wr.heap[g6]?=some (.cells Z76 76 (0,0))∧wr.heap[g7]?=some (.cells Z51 51 (0,0))∧Below w.heap.size w wr) (fun _ i _=>l.length-(intOf i).toNat)
        case atStart=>exact⟨0,0,0,0,by omega,by omega,rfl,rfl,BK BK10,BK BK6,BK BK7,BL HB⟩
        case round =>
         obtain⟨i,pads,at_,pad,hi,hpd,rfl,rfl,hb10,hb6,hb7,hbw⟩:=hrel;replace BK10:=K_ hb10;replace BK6:=K_ hb6;replace BK7:=K_ hb7;replace HB:=K_ hbw;clear hb10 hb6 hb7 hbw;have hcl:=HCC.out;have hll:=HL.out;by_cases hlt:i<l.length
         ·have dlt:decide (((i:Nat):Int)<(l.length:Int))=true:=decide_eq_true (by omega)
          obtain⟨x,hx⟩:∃ x,x=l[i]:=⟨_,rfl⟩
          obtain⟨ad2,ea,h0,h1,h2,h3⟩:=zaw (Kd.C_below HR.out HB.out) ((i:Nat):Int) (by omega) (by omega);rw[zcN hlt,←hx] at h0 h1 h2 h3;simp only[Int.toNat_natCast] at h0 h1 h2 h3
          have HX:=K_ hx;obtain rfl:=Option.some.inj ea;clear hx ea;cases hp:x.f1
          ·rw[hp] at h3
           clear hp;go_wp2
           go_roundw
           case rel=>exact⟨i+1,pads,at_,pad,by omega,by omega,by go_num,rfl,BK BK10,BK BK6,BK BK7,BL HB⟩
           case measure=>simp[intOf];omega
          have HPAD:=K_ (show (∀ x∈l,x.f1=false)→False by
           intro h;have:=h l[i] (List.getElem_mem hlt);rw[←HX.out,hp] at this;cases this)
          rw[hp] at h3;clear hp;have HXO:=K_ ((zaw HR.out ((i:Nat):Int) (by omega) (by omega)).choose_spec.2.1);go_upto_block 8 with (fail)
          go_cut [13] from 110 to 127 (fun v wx=>(∃ a:Int,v=.int .i64 a)∧wx.heap[g10]?=some (.cells (qF (.slice none 0 0) (.slice none 0 0) jN at_ pad 0) 76 (0,0))∧wx.heap[g6]?=some (.cells Z76 76 (0,0))∧wx.heap[g7]?=some (.cells Z51 51 (0,0))∧Below w.heap.size w wx)
          case first =>
           have hwk:IntKind.i64.wrap ((k:Int)-1)=(k:Int)-1:=by rw[IntKind.wrap_i64];omega
           have hwl:IntKind.i64.wrap ((l.length:Int)-1)=(l.length:Int)-1:=by rw[IntKind.wrap_i64];omega
           by_cases q1:((i:Nat):Int)=0
           ·have e1:(((i:Nat):Int)==0)=true:=beq_iff_eq.2 q1
            clear q1;go_wp2
            go_meet
            case rel=>exact⟨⟨_,rfl⟩,BK BK10,BK BK6,BK BK7,BL HB⟩
           have e1:(((i:Nat):Int)==0)=false:=beq_eq_false_iff_ne.2 q1;by_cases q2:((i:Nat):Int)=(k:Int)-1
           ·have e2:(((i:Nat):Int)==(k:Int)-1)=true:=beq_iff_eq.2 q2
            clear q1 q2;go_wp2
            go_meet
            case rel=>exact⟨⟨_,rfl⟩,BK BK10,BK BK6,BK BK7,BL HB⟩
           have e2:(((i:Nat):Int)==(k:Int)-1)=false:=beq_eq_false_iff_ne.2 q2;by_cases q3:((i:Nat):Int)=(e:Int)
           ·have e3:(((i:Nat):Int)==(e:Int))=true:=beq_iff_eq.2 q3
            clear q1 q2 q3;go_wp2
            go_meet
            case rel=>exact⟨⟨_,rfl⟩,BK BK10,BK BK6,BK BK7,BL HB⟩
           have e3:(((i:Nat):Int)==(e:Int))=false:=beq_eq_false_iff_ne.2 q3;by_cases q4:((i:Nat):Int)=(l.length:Int)-1
           ·have e4:(((i:Nat):Int)==(l.length:Int)-1)=true:=beq_iff_eq.2 q4
            clear q1 q2 q3 q4;go_wp2
            go_meet
            case rel=>exact⟨⟨_,rfl⟩,BK BK10,BK BK6,BK BK7,BL HB⟩
           have e4:(((i:Nat):Int)==(l.length:Int)-1)=false:=beq_eq_false_iff_ne.2 q4;clear q1 q2 q3 q4;go_wp2
           go_meet
           case rel=>exact⟨⟨_,rfl⟩,BK BK10,BK BK6,BK BK7,BL HB⟩
          case rest =>
           obtain⟨⟨a,rfl⟩,hb10,hb6,hb7,hbw⟩:=hcut;replace BK10:=K_ hb10;replace BK6:=K_ hb6;replace BK7:=K_ hb7;replace HB:=K_ hbw;clear hb10 hb6 hb7 hbw h0 h1 h2 h3;have hwp:IntKind.i64.wrap ((pads:Int)+1)=(pads:Int)+1:=by rw[IntKind.wrap_i64];omega
           go_upto_region 31 with (fail)
           go_cut [139] from 130 to 139 (fun v wx=>(∃ t:Bool,v=.bool t)∧wx.heap[g10]?=some (.cells (qF (.slice none 0 0) (.slice none 0 0) jN at_ pad 0) 76 (0,0))∧wx.heap[g6]?=some (.cells Z76 76 (0,0))∧wx.heap[g7]?=some (.cells Z51 51 (0,0))∧Below w.heap.size w wx)
           case first =>
            by_cases q1:a=0
            ·have e1:(a==0)=true:=beq_iff_eq.2 q1
             clear q1;go_wp2
             go_meet
             case rel=>exact⟨⟨_,rfl⟩,BK BK10,BK BK6,BK BK7,BL HB⟩
            have e1:(a==0)=false:=beq_eq_false_iff_ne.2 q1;by_cases q2:(pads:Int)+1>1
            ·have e2:decide ((pads:Int)+1>1)=true:=decide_eq_true q2
             go_wp2
             go_meet
             case rel=>exact⟨⟨_,rfl⟩,BK BK10,BK BK6,BK BK7,BL HB⟩
            have e2:decide ((pads:Int)+1>1)=false:=decide_eq_false q2;go_wp2
            go_meet
            case rel=>exact⟨⟨_,rfl⟩,BK BK10,BK BK6,BK BK7,BL HB⟩
           case rest =>
            obtain⟨⟨t,rfl⟩,hb10,hb6,hb7,hbw⟩:=hcut;replace BK10:=K_ hb10;replace BK6:=K_ hb6;replace BK7:=K_ hb7;replace HB:=K_ hbw;clear hb10 hb6 hb7 hbw;obtain⟨ad2,ea,h0,h1,h2,h3⟩:=zaw (Kd.C_below HR.out HB.out) ((i:Nat):Int) (by omega) (by omega);rw[zcN hlt,←HX.out] at h0 h1 h2 h3;simp only[Int.toNat_natCast] at h0 h1 h2 h3
            obtain rfl:=Option.some.inj ea;clear ea;have hbw:(ad.add (i * 4)).block<w.heap.size:=by
             obtain⟨ad3,ea3,h03,_⟩:=zaw HR.out ((i:Nat):Int) (by omega) (by omega);obtain rfl:=Option.some.inj ea3;simp only[Int.toNat_natCast] at h03
             exact World.block_lt_of_cell? _ _ h03
            cases t
            ·have hbn:(ad.add (i * 4)).block≠g10:=Nat.ne_of_lt (Nat.lt_of_lt_of_le hbw GE10.out)
             have hcell2:∀ j v,(wc.setCell ⟨g10,j,none⟩ v).cell? (ad.add (i * 4))=some (.int .i32 x.f0.f0):=fun j v=>(yK hbn v).trans h0
             have hi0:(0:Int)≤(i:Int):=by omega
             have hi1:(i:Int)<(l.length:Int):=by omega
             have hi2:i+1≤l.length:=hlt;clear hbw;obtain⟨⟨cz0,cz1,cz2,cz3,cz4,cz5,cz6,cz7,cz8,cz9,cz10,cz11,cz12,cz13,cz14,cz15,cz16,cz17,cz18,cz19,cz20,cz21,cz22,cz23,cz24⟩,fz0,fz1,fz2,fz3,fz4,fz5,fz6,fz7,fz8,fz9,fz10,fz11,fz12,fz13,fz14,fz15,fz16,fz17,fz18,fz19,fz20,fz21,fz22,fz23,fz24⟩:=zpW BK10;go_upto_region 33 with (fail)
             go_region
             all_goals
              go_wp2_with (fail)
              go_roundw
              case rel=>exact⟨i+1,pads+1,a,x.f0.f0,by omega,by omega,by go_num,by go_num,BP BK10,(by (repeat (first|(with_reducible exact Aside0.out BK6)|(with_reducible refine jT ?_ _)|(with_reducible refine jS ?_)|(with_reducible refine jU ?_ _)|refine zR ?_ (Aside0.out N6) _))),(by (repeat (first|(with_reducible exact Aside0.out BK7)|(with_reducible refine jT ?_ _)|(with_reducible refine jS ?_)|(with_reducible refine jU ?_ _)|refine zR ?_ (Aside0.out N7) _))),BL HB⟩
              case measure=>simp[intOf];omega
            have hi0:(0:Int)≤(i:Int):=by omega
            have hi1:(i:Int)<(l.length:Int):=by omega
            have HE:=K_ (show (∀ x∈l,x.f1=false)→(∃ P,xW l P)→(7:Int)=0 from fun h _=>(HPAD.out h).elim);have hb6:(ad.add (i * 4)).block≠g6:=Nat.ne_of_lt (Nat.lt_of_lt_of_le hbw GE6.out);have hb7:(ad.add (i * 4)).block≠g7:=Nat.ne_of_lt (Nat.lt_of_lt_of_le hbw GE7.out);go_upto_region 32 with (fail)
            refine yA (n:=10) (S:=fun w'=>w'.cell? ⟨(ad.add (i * 4)).block,(ad.add (i * 4)).off+2,none⟩=some (.int .i64 x.f0.f2)) (ds:=[]) #[false,false,false,false,false,false,false,false,false,false] (by kernel_rfl) rfl rfl h2 (fun hHeld=>?_);obtain⟨W,hW⟩:∃ W,W=World.drew wc:=⟨_,rfl⟩
            rw[←hW] at hHeld ⊢;replace BK6:=K_ (show W.heap[g6]?=some (.cells Z76 76 (0,0)) by rw[hW];exact BK BK6);replace BK7:=K_ (show W.heap[g7]?=some (.cells Z51 51 (0,0)) by rw[hW];exact BK BK7);replace HB:=K_ (show Below w.heap.size w W by rw[hW];exact BL HB);clear hW h0 h1 h2 h3;refine pw_ 0 140 (bb 10 1) ?_;refine pw_ 1 141 (bb 10 3) ?_;refine pw_ 2 142 (bb 10 7) ?_;refine pw_ 3 143 (bb 10 15) ?_;refine pw_ 4 144 (bb 10 31) ?_;refine pw_ 5 145 (bb 10 63) ?_;refine tw_ 6 146 (bb 10 127) hHeld ?_;refine pw_ 7 147 (bb 10 255) ?_;refine on_ 8 none (bb 10 511) (fun K hK=>?_);refine yL (g:=g6) (cs:=Z76) Z76 BK6 ?_ rfl rfl rfl rfl rfl zbJ rfl rfl;intro w8 hbk hfar hbel;have hHeld2:=zau hfar (p:=⟨(ad.add (i * 4)).block,(ad.add (i * 4)).off+2,none⟩) hb6 hHeld;replace BK7:=K_ (hfar g7 _ (Ne.symm NB.out) BK7.out);replace BK6:=K_ hbk;replace HB:=K_ (hbel _ _ GE6.out HB.out);refine hK.out _ _ hHeld2 (fun _=>?_);clear hK K hbk hfar hbel;refine on_ 9 none (bb 10 1023) (fun K hK=>?_);refine yL (g:=g7) (cs:=Z51) #[.int .i64 7,.int .i64 x.f0.f2] BK7 ?_ rfl rfl rfl rfl rfl qC rfl rfl;intro w9 hbk hfar hbel;have hHeld3:=zau hfar (p:=⟨(ad.add (i * 4)).block,(ad.add (i * 4)).off+2,none⟩) hb7 hHeld2;replace BK6:=K_ (hfar g6 _ NB.out BK6.out);replace BK7:=K_ hbk;replace HB:=K_ (hbel _ _ GE7.out HB.out);refine hK.out _ _ hHeld3 (fun _=>?_);clear hK K hbk hfar hbel;refine yN (by kernel_rfl) ?_;go_wp2_with (fail)
            (
             refine bodyPost_ret (qZ rfl _ _ g6 g7 76 51 Z76 #[.int .i64 7,.int .i64 x.f0.f2] (0,0) (0,0) _ _ rfl BK6.out Tryz.underlying76 rfl zbJ rfl BK7.out Tryz.underlying51 rfl qC) rfl ?_;exact⟨_,_,[],[],jN,0,0,0,7,x.f0.f2,rfl,Kd.R_nil _ _ _ _ _,Kd.R_nil _ _ _ _ _,BL HB,fun h=>absurd h (by decide),HE.out⟩)
         obtain rfl:i=l.length:=by omega
         have dlt:decide (((l.length:Nat):Int)<(l.length:Int))=false:=decide_eq_false (by omega);go_upto_region 34 with (fail)
         have hke:k≤e:=by have:=znK l;rw[HBEG.out,←HEN.out] at this;exact this
         have HKE:=K_ hke;have hle:e≤l.length:=by rw[HEN.out];exact zor l
         have HLE:=K_ hle;clear hke hle dlt;go_wp2_with (fail)
         go_loopw [14,15,16,17] (fun v14 v15 s i wr=>∃ j:Nat,j≤l.length∧i=.int .i64 j∧s=.string (zaQ l k e j)∧Kd.R k71 71 wr w.heap.size (fun _=>True) v14 (uF l k j)∧Kd.R k71 71 wr w.heap.size (fun q=>some q≠v14.ownBlock) v15 (uE l e j)∧(j≤e→v15=.slice none 0 0)∧wr.heap[g10]?=some (.cells (qF (.slice none 0 0) (.slice none 0 0) jN at_ pad 0) 76 (0,0))∧wr.heap[g6]?=some (.cells Z76 76 (0,0))∧wr.heap[g7]?=some (.cells Z51 51 (0,0))∧Below w.heap.size w wr) (fun _ _ _ i _=>l.length-(intOf i).toNat)
         case atStart=>exact⟨0,by omega,rfl,by rw[zlk],by rw[zlt];exact Kd.R_nil _ _ _ _ _,by rw[ziW (Nat.zero_le _)];exact Kd.R_nil _ _ _ _ _,fun _=>rfl,BK BK10,BK BK6,BK BK7,BL HB⟩
         case round =>
          obtain⟨j,hj,rfl,rfl,hz14,hz15,hnil,hb10,hb6,hb7,hbw⟩:=hrel;replace BK10:=K_ hb10;replace BK6:=K_ hb6;replace BK7:=K_ hb7;replace HB:=K_ hbw;have HZ1:=K_ hz14;have HZ2:=K_ hz15;have HNIL:=K_ hnil;clear hz14 hz15 hnil hb10 hb6 hb7 hbw;have hcl:=HCC.out;have hll:=HL.out;by_cases hlt:j<l.length
          ·have dlt:decide (((j:Nat):Int)<(l.length:Int))=true:=decide_eq_true (by omega)
           obtain⟨x,hx⟩:∃ x,x=l[j]:=⟨_,rfl⟩
           obtain⟨ad2,ea,h0,h1,h2,h3⟩:=zaw (Kd.C_below HR.out HB.out) ((j:Nat):Int) (by omega) (by omega);rw[zcN hlt,←hx] at h0 h1 h2 h3;simp only[Int.toNat_natCast] at h0 h1 h2 h3
           have HX:=K_ hx;obtain rfl:=Option.some.inj ea;clear hx ea;have HP1:=K_ (znF (n:=k) hlt);have HS1:=K_ (znT (e:=e) hlt);have HT1:=K_ (zoo (n:=k) (e:=e) hlt);rw[←HX.out] at HP1 HS1 HT1;cases hp:x.f1
           ·rw[hp] at h3
            by_cases q1:j<k
            ·obtain rfl:=HNIL.out (Nat.le_of_lt (Nat.lt_of_lt_of_le q1 HKE.out))
             have d1:decide (((j:Nat):Int)<(k:Int))=true:=decide_eq_true (by omega);replace HP1:=K_ (show uF l k (j+1)=uF l k j++[x.f0] by rw[HP1.out,if_pos ⟨q1,hp⟩]);replace HS1:=K_ (show uE l e (j+1)=[] from ziW (Nat.le_trans q1 HKE.out));replace HT1:=K_ (show zaQ l k e (j+1)=zaQ l k e j by rw[HT1.out,if_neg (by omega)]);have HN6:=K_ (Kd.R_ne HZ1.out BK6.out (by decide));have HN7:=K_ (Kd.R_ne HZ1.out BK7.out (by decide));have HN10:=K_ (Kd.R_ne HZ1.out BK10.out (by decide));have HLN:=K_ (show ((uF l k j).length+1) * 16≤140737488355328 by have:=zfj l k j;omega);have HQ:=K_ (show j+1≤e from Nat.le_trans q1 HKE.out);obtain⟨A1,c1,rfl⟩:=Kd.R_slice HZ1.out;clear hp;go_wp2_with (((with_reducible refine jH (b:=.append) (xs:=#[.tmp 171,.tmp 177]) rfl ?_);at_builtin;(refine Kd.R_append k71 (w0:=w) w.heap.size rfl (.tmp 171) (.tmp 177) 66 71 (.agg #[(.int .i32 0),(.bool false),(.int .i64 0)]) 16 rfl Tryz.underlying66 zgm rfl (by decide) (by omega) (.slice A1 (uF l k j).length c1) (uF l k j) x.f0 [.int .i32 x.f0.f0,.bool x.f0.f1,.int .i64 x.f0.f2] (fun _=>True) (fun _=>False) rfl (by first|(go_simp;done)|(go_simp;rfl)) (zdU _ _ _ x.f0) (fun _ hk=>hk.elim) (fun _ _=>trivial) ?aO ?aB ?aS ?aL ?_;(case aO=>exact RB HZ1.out);(case aB=>exact BL HB);(case aS=>exact zS (BL HB));(case aL=>exact HLN.out);intro v1 w5 ho2 hb2 hg2 hat2;rw[←HP1.out] at ho2;have HO3:=K_ ho2;have BK6a:=K_ (yQ (BK BK6) hg2 HN6.out);have BK7a:=K_ (yQ (BK BK7) hg2 HN7.out);have BK10a:=K_ (yQ (BK BK10) hg2 HN10.out);replace HB:=K_ hb2;clear ho2 hb2 hg2 hat2)))
             go_roundw
             case rel=>exact⟨j+1,by omega,by go_num,by rw[HT1.out],RB HO3.out,by rw[HS1.out];exact Kd.R_nil _ _ _ _ _,fun _=>rfl,BK BK10a,BK BK6a,BK BK7a,BL HB⟩
             case measure=>simp[intOf];omega
            have d1:decide (((j:Nat):Int)<(k:Int))=false:=decide_eq_false (by omega);replace HP1:=K_ (show uF l k (j+1)=uF l k j by rw[HP1.out,if_neg (by omega)]);by_cases q2:j<e
            ·have d2:decide (((j:Nat):Int)<(e:Int))=true:=decide_eq_true (by omega)
             obtain⟨_,hr0,hr1⟩:=zjb (x:=x) (by rw[HX.out];exact zjm l j (by rw[HBEG.out];omega) (by rw[←HEN.out];exact q2) hlt);have HBY:=K_ (zeY hr0 hr1);replace HS1:=K_ (show uE l e (j+1)=uE l e j by rw[HS1.out,if_neg (by omega)]);replace HT1:=K_ (show zaQ l k e (j+1)=zaQ l k e j++strOfNums [x.f0.f0] by rw[HT1.out,if_pos ⟨by omega,q2⟩];rfl);have HNI:=K_ (HNIL.out (Nat.le_of_lt q2));have hts:=zkj l k e j;have hfb:¬ 9223372036854775807<(zaQ l k e j).size+(strOfNums [x.f0.f0]).size:=by
              have:(strOfNums [x.f0.f0]).size=1:=rfl
              omega
             clear hp hr0 hr1;go_wp2_with (go_at_call 88;refine (yX.calls x.f0.f0 [x.f0.f0] _ HBY.out).mono ?_;rintro e9 w' ⟨v0,rfl,ho0,hb⟩;obtain⟨A9,c9,rfl⟩:∃ A9 c9,v0=.slice A9 1 c9:=Kd.R_slice ho0;have hcv:=Kd.C_string (c:=c9) Tryz.underlying107 Tryz.underlying5 Tryz.underlying9 (show (Kd.int .u8).C w' A9 1 [x.f0.f0] from (Kd.R_reads' ho0).2.2);replace HZ1:=K_ (Kd.R_below (RB HZ1.out) hb);replace HZ2:=K_ (Kd.R_below (RB HZ2.out) hb);replace HB:=zF HB hb;replace BK6:=zC BK6 hb;replace BK7:=zC BK7 hb;replace BK10:=zC BK10 hb;clear hb ho0)
             go_roundw
             case rel=>exact⟨j+1,by omega,by go_num,by rw[HT1.out],by rw[HP1.out];exact RB HZ1.out,by rw[HS1.out];exact RB HZ2.out,fun _=>HNI.out,BK BK10,BK BK6,BK BK7,BL HB⟩
             case measure=>simp[intOf];omega
            have d2:decide (((j:Nat):Int)<(e:Int))=false:=decide_eq_false (by omega);replace HS1:=K_ (show uE l e (j+1)=uE l e j++[x.f0] by rw[HS1.out,if_pos ⟨by omega,hp⟩]);replace HT1:=K_ (show zaQ l k e (j+1)=zaQ l k e j by rw[HT1.out,if_neg (by omega)]);have HN6:=K_ (Kd.R_ne HZ2.out BK6.out (by decide));have HN7:=K_ (Kd.R_ne HZ2.out BK7.out (by decide));have HN10:=K_ (Kd.R_ne HZ2.out BK10.out (by decide));have HLN:=K_ (show ((uE l e j).length+1) * 16≤140737488355328 by have:=zfu l e j;omega);obtain⟨A1,c1,rfl⟩:=Kd.R_slice HZ1.out;obtain⟨A2,c2,rfl⟩:=Kd.R_slice HZ2.out;clear hp;go_wp2_with (((with_reducible refine jH (b:=.append) (xs:=#[.tmp 192,.tmp 198]) rfl ?_);at_builtin;(refine Kd.R_append k71 (w0:=w) w.heap.size rfl (.tmp 192) (.tmp 198) 66 71 (.agg #[(.int .i32 0),(.bool false),(.int .i64 0)]) 16 rfl Tryz.underlying66 zgm rfl (by decide) (by omega) (.slice A2 (uE l e j).length c2) (uE l e j) x.f0 [.int .i32 x.f0.f0,.bool x.f0.f1,.int .i64 x.f0.f2] (fun q=>some q≠(Value.slice A1 (uF l k j).length c1).ownBlock) (fun _=>False) rfl (by first|(go_simp;done)|(go_simp;rfl)) (zdU _ _ _ x.f0) (fun _ hk=>hk.elim) ?aF ?aO ?aB ?aS ?aL ?_;(case aF=>exact fun q hq he=>absurd hq (Nat.not_le.2 (Kd.R_lt (RB HZ1.out) q he.symm)));(case aO=>exact RB HZ2.out);(case aB=>exact BL HB);(case aS=>exact zS (BL HB));(case aL=>exact HLN.out);intro v1 w5 ho2 hb2 hg2 hat2;rw[←HS1.out] at ho2;have HO3:=K_ ho2;replace HZ1:=K_ (Kd.R_mono (ok':=fun _=>True) (Kd.R_grown (Kd.R_tight rfl (RB HZ1.out)) hg2 (fun q hq=>Kd.R_away HZ2.out (fun q2 hq2 he=>hq2 (by rw[he];exact hq)))) (fun _ _=>trivial));have BK6a:=K_ (yQ (BK BK6) hg2 HN6.out);have BK7a:=K_ (yQ (BK BK7) hg2 HN7.out);have BK10a:=K_ (yQ (BK BK10) hg2 HN10.out);replace HB:=K_ hb2;clear ho2 hb2 hg2 hat2)))
            go_roundw
            case rel=>exact⟨j+1,by omega,by go_num,by rw[HT1.out],by rw[HP1.out];exact RB HZ1.out,RB HO3.out,fun h=>absurd h (by omega),BK BK10a,BK BK6a,BK BK7a,BL HB⟩
            case measure=>simp[intOf];omega
           have hnt:¬ (k≤j∧j<e):=fun h=>by
            have:=(zjb (x:=x) (by rw[HX.out];exact zjm l j (by rw[HBEG.out];exact h.1) (by rw[←HEN.out];exact h.2) hlt)).1
            rw[hp] at this;cases this
           replace HP1:=K_ (show uF l k (j+1)=uF l k j by rw[HP1.out,if_neg (by rw[hp];simp)]);replace HS1:=K_ (show uE l e (j+1)=uE l e j by rw[HS1.out,if_neg (by rw[hp];simp)]);replace HT1:=K_ (show zaQ l k e (j+1)=zaQ l k e j by rw[HT1.out,if_neg hnt]);rw[hp] at h3;clear hp hnt;go_wp2
           go_roundw
           case rel=>exact⟨j+1,by omega,by go_num,by rw[HT1.out],by rw[HP1.out];exact RB HZ1.out,by rw[HS1.out];exact RB HZ2.out,fun h=>HNIL.out (by omega),BK BK10,BK BK6,BK BK7,BL HB⟩
           case measure=>simp[intOf];omega
          obtain rfl:j=l.length:=by omega
          have dlt:decide (((l.length:Nat):Int)<(l.length:Int))=false:=decide_eq_false (by omega);go_upto_region 45 with (fail)
          obtain⟨pr,hpr⟩:∃ pr,pr=uF l k l.length:=⟨_,rfl⟩
          obtain⟨sf,hsf⟩:∃ sf,sf=uE l e l.length:=⟨_,rfl⟩
          obtain⟨tx,htx⟩:∃ tx,tx=zaQ l k e l.length:=⟨_,rfl⟩
          have hpl:=zfj l k l.length;have hsl:=zfu l e l.length;have htl:=zkj l k e l.length;rw[←hpr] at HZ1 hpl;rw[←hsf] at HZ2 hsl;rw[←htx] at htl ⊢;have HPR:=K_ hpr;have HSF:=K_ hsf;have HTX:=K_ htx;have HPL:=K_ (show pr.length≤100000 by omega);have HSL:=K_ (show sf.length≤100000 by omega);have HTL:=K_ (show tx.size≤1048576 by omega);obtain⟨A1,c1,rfl⟩:=Kd.R_slice HZ1.out;obtain⟨A2,c2,rfl⟩:=Kd.R_slice HZ2.out;clear hpr hsf htx hpl hsl htl dlt hj hlt;go_upto_region 46 with (first
           | (go_at_call 89;refine (zgF A1 c1 pr _ (Kd.R_reads' (RB HZ1.out)).2.2 (Kd.R_reads' HZ1.out).2.1 HPL.out).mono ?_;rintro e9 w' ⟨v1,xs,E1,a1,rfl,ho1,hb,hpost⟩;have HO1:=K_ (Kd.R_lower ho1 (zS (BL HB)));have HPO:=K_ hpost;replace HZ2:=K_ (Kd.R_below (RB HZ2.out) hb);replace HB:=zF HB hb;replace BK6:=zC BK6 hb;replace BK7:=zC BK7 hb;replace BK10:=zC BK10 hb;clear hb ho1 hpost)
           | ((with_reducible refine zE (N:=19) rfl ?_);refine be_ 19 Z51 51 ?_;intro g19 hg w10 hbox hb;have BK19:=K_ hbox;have GE19:=ge_ hg HB;have N6L:=nb_ hg BK6;have N7L:=nb_ hg BK7;have N10L:=nb_ hg BK10;replace HO1:=K_ (Kd.R_below (RB HO1.out) hb);replace HZ2:=K_ (Kd.R_below (RB HZ2.out) hb);replace HB:=zF HB hb;replace BK6:=zC BK6 hb;replace BK7:=zC BK7 hb;replace BK10:=zC BK10 hb;clear hb hbox hg)
           | ((with_reducible refine zY (p:=19) rfl ?_);refine so_ (g:=g19) (cs:=Z51) #[.int .i64 E1,.int .i64 a1] ⟨BK BK19⟩ ?_ rfl rfl rfl rfl rfl qC rfl rfl;intro w9 hbk hfar hbel;replace HO1:=K_ (vY (RB HO1.out) (BK BK19) (by decide) hfar);replace HZ2:=K_ (vY (RB HZ2.out) (BK BK19) (by decide) hfar);replace BK6:=K_ (hfar g6 _ N6L.out (BK BK6));replace BK7:=K_ (hfar g7 _ N7L.out (BK BK7));replace BK10:=K_ (hfar g10 _ N10L.out (BK BK10));replace BK19:=K_ hbk;replace HB:=K_ (hbel _ _ GE19.out (BL HB));clear hbk hfar hbel))
          obtain⟨⟨q0,q1⟩,q2,q3⟩:=ce2 BK19;rcases HPO.out with ⟨hE,ha,hok,hxs⟩|⟨hE,hno⟩
          ·obtain rfl:=hE
           obtain rfl:=ha;have HOK1:=K_ hok;have HXS:=K_ hxs;clear hok hxs;go_upto_region 49 with (first
            | (go_at_call 90;refine (zjJ tx HTL.out _).mono ?_;rintro e9 w' ⟨PN,E2,rfl,hb,hpost⟩;have HNU:=K_ hpost;replace HO1:=K_ (Kd.R_below (RB HO1.out) hb);replace HZ2:=K_ (Kd.R_below (RB HZ2.out) hb);replace HB:=zF HB hb;replace BK6:=zC BK6 hb;replace BK7:=zC BK7 hb;replace BK10:=zC BK10 hb;replace BK19:=zC BK19 hb;clear hb hpost)
            | ((with_reducible refine zE (N:=20) rfl ?_);refine be_ 20 Z26 26 ?_;intro g20 hg w10 hbox hb;have BK20:=K_ hbox;have GE20:=ge_ hg HB;have N6M:=nb_ hg BK6;have N7M:=nb_ hg BK7;have N10M:=nb_ hg BK10;have N19M:=nb_ hg BK19;replace HO1:=K_ (Kd.R_below (RB HO1.out) hb);replace HZ2:=K_ (Kd.R_below (RB HZ2.out) hb);replace HB:=zF HB hb;replace BK6:=zC BK6 hb;replace BK7:=zC BK7 hb;replace BK10:=zC BK10 hb;replace BK19:=zC BK19 hb;clear hb hbox hg)
            | ((with_reducible refine zY (p:=20) rfl ?_);refine so_ (g:=g20) (cs:=Z26) PN.cs ⟨BK BK20⟩ ?_ rfl rfl rfl rfl rfl jR rfl rfl;intro w9 hbk hfar hbel;replace HO1:=K_ (vY (RB HO1.out) (BK BK20) (by decide) hfar);replace HZ2:=K_ (vY (RB HZ2.out) (BK BK20) (by decide) hfar);replace BK6:=K_ (hfar g6 _ N6M.out (BK BK6));replace BK7:=K_ (hfar g7 _ N7M.out (BK BK7));replace BK10:=K_ (hfar g10 _ N10M.out (BK BK10));replace BK19:=K_ (hfar g19 _ N19M.out (BK BK19));replace BK20:=K_ hbk;replace HB:=K_ (hbel _ _ GE20.out (BL HB));clear hbk hfar hbel))
           rcases HNU.out with ⟨hE,hnum⟩|⟨hE,hno⟩
           ·obtain rfl:=hE
            have HNUM:=K_ hnum;clear hnum q0 q1 q2 q3;go_upto_region 52 with (first
             | (go_at_call 89;refine (zgF A2 c2 sf _ (Kd.R_reads' (RB HZ2.out)).2.2 (Kd.R_reads' HZ2.out).2.1 HSL.out).mono ?_;rintro e9 w' ⟨v2,ys,E3,a3,rfl,ho2,hb,hpost⟩;have HO2:=K_ (Kd.R_lower ho2 (zS (BL HB)));have HPO2:=K_ hpost;replace HO1:=K_ (Kd.R_below (RB HO1.out) hb);replace HB:=zF HB hb;replace BK6:=zC BK6 hb;replace BK7:=zC BK7 hb;replace BK10:=zC BK10 hb;replace BK19:=zC BK19 hb;replace BK20:=zC BK20 hb;clear hb ho2 hpost)
             | ((with_reducible refine zY (p:=19) rfl ?_);refine so_ (g:=g19) (cs:=Z51) #[.int .i64 E3,.int .i64 a3] ⟨BK BK19⟩ ?_ rfl rfl rfl rfl rfl qC rfl rfl;intro w9 hbk hfar hbel;replace HO1:=K_ (vY (RB HO1.out) (BK BK19) (by decide) hfar);replace HO2:=K_ (vY (RB HO2.out) (BK BK19) (by decide) hfar);replace BK6:=K_ (hfar g6 _ N6L.out (BK BK6));replace BK7:=K_ (hfar g7 _ N7L.out (BK BK7));replace BK10:=K_ (hfar g10 _ N10L.out (BK BK10));replace BK20:=K_ (hfar g20 _ (Ne.symm N19M.out) (BK BK20));replace BK19:=K_ hbk;replace HB:=K_ (hbel _ _ GE19.out (BL HB));clear hbk hfar hbel))
            obtain⟨⟨q0,q1⟩,q2,q3⟩:=ce2 BK19;rcases HPO2.out with ⟨hE,ha,hok,hxs⟩|⟨hE,hno⟩
            ·obtain rfl:=hE
             obtain rfl:=ha;have HOK2:=K_ hok;have HYS:=K_ hxs;clear hok hxs;have HALL:=K_ (show xW l PN from ⟨by rw[HBEG.out];exact HKL.out,by rw[HBEG.out,←HPR.out];exact HOK1.out,by rw[HBEG.out,←HEN.out,←HTX.out];exact HNUM.out,by rw[←HEN.out,←HSF.out];exact HOK2.out⟩);obtain⟨B1,d1,rfl⟩:=Kd.R_slice HO1.out;obtain⟨B2,d2,rfl⟩:=Kd.R_slice HO2.out;go_upto_region 54 with (fail)
             clear q0 q1 q2 q3;refine yA (n:=13) (S:=fun w'=>w'.heap[g20]?=some (.cells PN.cs 26 (0,0))) (ds:=[]) #[false,false,false,false,false,false,false,false,false,false,false,false,false] (by kernel_rfl) rfl rfl (BK BK20) (fun _=>?_);refine jG (fun W=>W.heap[g20]?=some (.cells PN.cs 26 (0,0))∧Kd.R k80 80 W w.heap.size (fun _=>True) (.slice B1 xs.length d1) xs∧Kd.R k80 80 W w.heap.size (fun _=>True) (.slice B2 ys.length d2) ys∧W.heap[g6]?=some (.cells Z76 76 (0,0))∧W.heap[g7]?=some (.cells Z51 51 (0,0))∧W.heap[g10]?=some (.cells (qF (.slice none 0 0) (.slice none 0 0) jN at_ pad 0) 76 (0,0))∧Below w.heap.size w W) ⟨BK BK20,RB HO1.out,RB HO2.out,BK BK6,BK BK7,BK BK10,BL HB⟩ ?_;clear HO1 HO2 BK6 BK7 BK10 HB;rintro W ⟨hHeld,ho1,ho2,hb6,hb7,hb10,hbw⟩;have HO1:=K_ ho1;have HO2:=K_ ho2;have BK6:=K_ hb6;have BK7:=K_ hb7;have BK10:=K_ hb10;have HB:=K_ hbw;clear ho1 ho2 hb6 hb7 hb10 hbw;refine pw_ 0 236 (bb 13 1) ?_;refine pw_ 1 237 (bb 13 3) ?_;refine pw_ 3 239 (bb 13 11) ?_;refine pw_ 4 240 (bb 13 27) ?_;refine pw_ 5 241 (bb 13 59) ?_;refine tr_ 2 238 (bb 13 63) (PN.cs) (fun _ hs=>⟨hs⟩) Tryz.underlying26 jR hHeld ?_;refine on_ 6 none (bb 13 127) (fun K hK=>?_);have hs:W.cell? ⟨g10,0,none⟩=some (.slice none 0 0):=(zA BK10.out 0).trans rfl;have hf:=zL BK10.out 0;refine zaD (w1:=W.setCell ⟨g10,0,none⟩ (.slice B1 xs.length d1)) (by rfl) rfl (by go_simp;try rfl) ?_;refine hK.out _ _ (zR hHeld (Ne.symm N10M.out) _) (fun _=>?_);clear hK K hs hf;refine jG (fun W=>W.heap[g20]?=some (.cells PN.cs 26 (0,0))∧Kd.R k80 80 W w.heap.size (fun _=>True) (.slice B1 xs.length d1) xs∧Kd.R k80 80 W w.heap.size (fun _=>True) (.slice B2 ys.length d2) ys∧W.heap[g6]?=some (.cells Z76 76 (0,0))∧W.heap[g7]?=some (.cells Z51 51 (0,0))∧W.heap[g10]?=some (.cells (qF (.slice B1 xs.length d1) (.slice none 0 0) jN at_ pad 0) 76 (0,0))∧Below w.heap.size w W) ⟨zR hHeld (Ne.symm N10M.out) _,Kd.R_set HO1.out BK10.out (by decide) _ _,Kd.R_set HO2.out BK10.out (by decide) _ _,zR BK6.out N6.out _,zR BK7.out N7.out _,xB BK10.out rfl,BL HB⟩ ?_
             clear HO1 HO2 BK6 BK7 BK10 HB;rintro W ⟨hHeld,ho1,ho2,hb6,hb7,hb10,hbw⟩;have HO1:=K_ ho1;have HO2:=K_ ho2;have BK6:=K_ hb6;have BK7:=K_ hb7;have BK10:=K_ hb10;have HB:=K_ hbw;clear ho1 ho2 hb6 hb7 hb10 hbw;refine pw_ 7 242 (bb 13 255) ?_;refine on_ 8 none (bb 13 511) (fun K hK=>?_);have hs:W.cell? ⟨g10,1,none⟩=some (.slice none 0 0):=(zA BK10.out 1).trans rfl;have hf:=zL BK10.out 1;refine zaD (w1:=W.setCell ⟨g10,1,none⟩ (.slice B2 ys.length d2)) (by rfl) rfl (by go_simp;try rfl) ?_;refine hK.out _ _ (zR hHeld (Ne.symm N10M.out) _) (fun _=>?_);clear hK K hs hf;refine jG (fun W=>W.heap[g20]?=some (.cells PN.cs 26 (0,0))∧Kd.R k80 80 W w.heap.size (fun _=>True) (.slice B1 xs.length d1) xs∧Kd.R k80 80 W w.heap.size (fun _=>True) (.slice B2 ys.length d2) ys∧W.heap[g6]?=some (.cells Z76 76 (0,0))∧W.heap[g7]?=some (.cells Z51 51 (0,0))∧W.heap[g10]?=some (.cells (qF (.slice B1 xs.length d1) (.slice B2 ys.length d2) jN at_ pad 0) 76 (0,0))∧Below w.heap.size w W) ⟨zR hHeld (Ne.symm N10M.out) _,Kd.R_set HO1.out BK10.out (by decide) _ _,Kd.R_set HO2.out BK10.out (by decide) _ _,zR BK6.out N6.out _,zR BK7.out N7.out _,xB BK10.out rfl,BL HB⟩ ?_;clear HO1 HO2 BK6 BK7 BK10 HB;rintro W ⟨hHeld,ho1,ho2,hb6,hb7,hb10,hbw⟩;have HO1:=K_ ho1;have HO2:=K_ ho2;have BK6:=K_ hb6;have BK7:=K_ hb7;have BK10:=K_ hb10;have HB:=K_ hbw;clear ho1 ho2 hb6 hb7 hb10 hbw;refine pw_ 9 243 (bb 13 1023) ?_;refine on_ 10 none (bb 13 2047) (fun K hK=>?_);refine zoE (g:=g10) (cs':=qF (.slice B1 xs.length d1) (.slice B2 ys.length d2) PN at_ pad 0) 2 PN.cs BK10 ?_ rfl rfl rfl rfl rfl jR (by show 22≤25;decide) rfl rfl
             intro w8 hbk hfar hbel;refine hK.out _ _ (hfar g20 _ (Ne.symm N10M.out) hHeld) (fun _=>?_);clear hK K;refine jG (fun W=>W.heap[g20]?=some (.cells PN.cs 26 (0,0))∧Kd.R k80 80 W w.heap.size (fun _=>True) (.slice B1 xs.length d1) xs∧Kd.R k80 80 W w.heap.size (fun _=>True) (.slice B2 ys.length d2) ys∧W.heap[g6]?=some (.cells Z76 76 (0,0))∧W.heap[g7]?=some (.cells Z51 51 (0,0))∧W.heap[g10]?=some (.cells (qF (.slice B1 xs.length d1) (.slice B2 ys.length d2) PN at_ pad 0) 76 (0,0))∧Below w.heap.size w W) ⟨hfar g20 _ (Ne.symm N10M.out) hHeld,vY HO1.out BK10.out (by decide) hfar,vY HO2.out BK10.out (by decide) hfar,hfar g6 _ N6.out BK6.out,hfar g7 _ N7.out BK7.out,hbk,hbel _ _ GE10.out HB.out⟩ ?_;clear HO1 HO2 BK6 BK7 BK10 HB;rintro W ⟨hHeld,ho1,ho2,hb6,hb7,hb10,hbw⟩;have HO1:=K_ ho1;have HO2:=K_ ho2;have BK6:=K_ hb6;have BK7:=K_ hb7;have BK10:=K_ hb10;have HB:=K_ hbw;clear ho1 ho2 hb6 hb7 hb10 hbw;refine pw_ 11 244 (bb 13 4095) ?_;refine on_ 12 none (bb 13 8191) (fun K hK=>?_);have hs:W.cell? ⟨g10,24,none⟩=some (.int .i64 0):=(zA BK10.out 24).trans rfl;have hf:=zL BK10.out 24;refine zaD (w1:=W.setCell ⟨g10,24,none⟩ (.int .i64 (tx.size:Int))) (by rfl) rfl (by go_simp;try rfl) ?_;refine hK.out _ _ (zR hHeld (Ne.symm N10M.out) _) (fun _=>?_);clear hK K hs hf;refine jG (fun W=>W.heap[g20]?=some (.cells PN.cs 26 (0,0))∧Kd.R k80 80 W w.heap.size (fun _=>True) (.slice B1 xs.length d1) xs∧Kd.R k80 80 W w.heap.size (fun _=>True) (.slice B2 ys.length d2) ys∧W.heap[g6]?=some (.cells Z76 76 (0,0))∧W.heap[g7]?=some (.cells Z51 51 (0,0))∧W.heap[g10]?=some (.cells (qF (.slice B1 xs.length d1) (.slice B2 ys.length d2) PN at_ pad (tx.size:Int)) 76 (0,0))∧Below w.heap.size w W) ⟨zR hHeld (Ne.symm N10M.out) _,Kd.R_set HO1.out BK10.out (by decide) _ _,Kd.R_set HO2.out BK10.out (by decide) _ _,zR BK6.out N6.out _,zR BK7.out N7.out _,xB BK10.out rfl,BL HB⟩ ?_
             clear HO1 HO2 BK6 BK7 BK10 HB;rintro W ⟨hHeld,ho1,ho2,hb6,hb7,hb10,hbw⟩;have HO1:=K_ ho1;have HO2:=K_ ho2;have BK6:=K_ hb6;have BK7:=K_ hb7;have BK10:=K_ hb10;have HB:=K_ hbw;clear ho1 ho2 hb6 hb7 hb10 hbw;refine yN (by kernel_rfl) ?_;go_wp2_with (first
              | ((with_reducible refine zE (N:=245) rfl ?_);refine lo_ (g:=g10) (cs:=qF (.slice B1 xs.length d1) (.slice B2 ys.length d2) PN at_ pad (tx.size:Int)) _ ⟨BK BK10⟩ ?_ rfl rfl rfl Tryz.underlying76 rfl zbJ)
              | ((with_reducible refine zY (p:=6) rfl ?_);refine so_ (g:=g6) (cs:=Z76) (qF (.slice B1 xs.length d1) (.slice B2 ys.length d2) PN at_ pad (tx.size:Int)) ⟨BK BK6⟩ ?_ rfl rfl rfl rfl rfl zbJ rfl rfl;intro w9 hbk hfar hbel;replace HO1:=K_ (vY (RB HO1.out) (BK BK6) (by decide) hfar);replace HO2:=K_ (vY (RB HO2.out) (BK BK6) (by decide) hfar);replace BK7:=K_ (hfar g7 _ (Ne.symm NB.out) (BK BK7));replace BK6:=K_ hbk;replace HB:=K_ (hbel _ _ GE6.out (BL HB));clear hbk hfar hbel)
              | ((with_reducible refine zY (p:=7) rfl ?_);refine so_ (g:=g7) (cs:=Z51) Z51 ⟨BK BK7⟩ ?_ rfl rfl rfl rfl rfl qC rfl rfl;intro w9 hbk hfar hbel;replace HO1:=K_ (vY (RB HO1.out) (BK BK7) (by decide) hfar);replace HO2:=K_ (vY (RB HO2.out) (BK BK7) (by decide) hfar);replace BK6:=K_ (hfar g6 _ NB.out (BK BK6));replace BK7:=K_ hbk;replace HB:=K_ (hbel _ _ GE7.out (BL HB));clear hbk hfar hbel))
             refine bodyPost_ret (qZ rfl _ _ g6 g7 76 51 (qF (.slice B1 xs.length d1) (.slice B2 ys.length d2) PN at_ pad (tx.size:Int)) Z51 (0,0) (0,0) _ _ rfl BK6.out Tryz.underlying76 rfl zbJ rfl BK7.out Tryz.underlying51 rfl qC) rfl ?_;exact⟨_,_,xs,ys,PN,at_,pad,(tx.size:Int),0,0,rfl,HO1.out,HO2.out,BL HB,fun _=>⟨HALL.out,by rw[HBEG.out,←HPR.out];exact HXS.out,by rw[←HEN.out,←HSF.out];exact HYS.out⟩,fun _ _=>rfl⟩
            have dE:(E3 !=0)=true:=by simpa using hE
            have HEV:=K_ hE;have HE:=K_ (show (∀ x∈l,x.f1=false)→(∃ P,xW l P)→E3=0 by
             rintro _ ⟨P,h⟩;have:=h.2.2.2;rw[←HEN.out,←HSF.out,hno] at this;cases this)
            clear hE hno;go_upto_region 53 with (fail)
            clear q0 q1 q2 q3;refine yA (n:=4) (S:=fun w'=>w'.heap[g19]?=some (.cells #[.int .i64 E3,.int .i64 a3] 51 (0,0))) (ds:=[]) #[false,false,false,false] (by kernel_rfl) rfl rfl (BK BK19) (fun hHeld=>?_);refine jG (fun W=>W.heap[g19]?=some (.cells #[.int .i64 E3,.int .i64 a3] 51 (0,0))∧W.heap[g6]?=some (.cells Z76 76 (0,0))∧W.heap[g7]?=some (.cells Z51 51 (0,0))∧Below w.heap.size w W) ⟨BK BK19,BK BK6,BK BK7,BL HB⟩ ?_;clear hHeld;rintro W ⟨hHeld,hb6,hb7,hbw⟩;replace BK6:=K_ hb6;replace BK7:=K_ hb7;replace HB:=K_ hbw;clear hb6 hb7 hbw;refine pw_ 0 234 (bb 4 1) ?_;refine tr_ 1 235 (bb 4 3) (#[.int .i64 E3,.int .i64 a3]) (fun _ hs=>⟨hs⟩) Tryz.underlying51 qC hHeld ?_;refine on_ 2 none (bb 4 7) (fun K hK=>?_);refine yL (g:=g6) (cs:=Z76) Z76 BK6 ?_ rfl rfl rfl rfl rfl zbJ rfl rfl;intro w8 hbk hfar hbel;have hHeld2:=hfar g19 _ (Ne.symm N6L.out) hHeld;replace BK7:=K_ (hfar g7 _ (Ne.symm NB.out) BK7.out);replace BK6:=K_ hbk;replace HB:=K_ (hbel _ _ GE6.out HB.out);refine hK.out _ _ hHeld2 (fun _=>?_);clear hK K hbk hfar hbel;refine on_ 3 none (bb 4 15) (fun K hK=>?_);refine yL (g:=g7) (cs:=Z51) #[.int .i64 E3,.int .i64 a3] BK7 ?_ rfl rfl rfl rfl rfl qC rfl rfl;intro w9 hbk hfar hbel;have hHeld3:=hfar g19 _ (Ne.symm N7L.out) hHeld2;replace BK6:=K_ (hfar g6 _ NB.out BK6.out);replace BK7:=K_ hbk;replace HB:=K_ (hbel _ _ GE7.out HB.out);refine hK.out _ _ hHeld3 (fun _=>?_);clear hK K hbk hfar hbel;refine yN (by kernel_rfl) ?_;go_wp2_with (fail)
            (
             refine bodyPost_ret (qZ rfl _ _ g6 g7 76 51 Z76 #[.int .i64 E3,.int .i64 a3] (0,0) (0,0) _ _ rfl BK6.out Tryz.underlying76 rfl zbJ rfl BK7.out Tryz.underlying51 rfl qC) rfl ?_;exact⟨_,_,[],[],jN,0,0,0,E3,a3,rfl,Kd.R_nil _ _ _ _ _,Kd.R_nil _ _ _ _ _,BL HB,fun h=>absurd h HEV.out,HE.out⟩)
           have dE:(E2 !=0)=true:=by simpa using hE
           have HEV:=K_ hE;have HE:=K_ (show (∀ x∈l,x.f1=false)→(∃ P,xW l P)→E2=0 by
            rintro _ ⟨P,h⟩;have:=h.2.2.1;rw[HBEG.out,←HEN.out,←HTX.out,hno] at this;cases this)
           clear hE hno;have hkl:=HKL.out;obtain⟨x9,hx9⟩:∃ x9,x9=l[k]:=⟨_,rfl⟩
           obtain⟨ad2,ea,h0,h1,h2,h3⟩:=zaw (Kd.C_below HR.out HB.out) ((k:Nat):Int) (by omega) (by omega);rw[zcN hkl,←hx9] at h0 h1 h2 h3;simp only[Int.toNat_natCast] at h0 h1 h2 h3
           obtain rfl:=Option.some.inj ea;clear hx9 ea;have hbw:(ad.add (k * 4)).block<w.heap.size:=by
            obtain⟨ad3,ea3,h03,_⟩:=zaw HR.out ((k:Nat):Int) (by omega) (by omega);obtain rfl:=Option.some.inj ea3;simp only[Int.toNat_natCast] at h03
            exact World.block_lt_of_cell? _ _ h03
           have hi0:(0:Int)≤(k:Int):=by omega
           have hi1:(k:Int)<(l.length:Int):=by omega
           clear q0 q1 q2 q3;go_upto_region 50 with (fail)
           have hb6:(ad.add (k * 4)).block≠g6:=Nat.ne_of_lt (Nat.lt_of_lt_of_le hbw GE6.out);have hb7:(ad.add (k * 4)).block≠g7:=Nat.ne_of_lt (Nat.lt_of_lt_of_le hbw GE7.out);go_upto_region 50 with (fail)
           refine yA (n:=11) (S:=fun w'=>w'.cell? ⟨(ad.add (k * 4)).block,(ad.add (k * 4)).off+2,none⟩=some (.int .i64 x9.f0.f2)) (ds:=[]) #[false,false,false,false,false,false,false,false,false,false,false] (by kernel_rfl) rfl rfl h2 (fun hHeld=>?_);obtain⟨W,hW⟩:∃ W,W=World.drew w9:=⟨_,rfl⟩
           rw[←hW] at hHeld ⊢;replace BK6:=K_ (show W.heap[g6]?=some (.cells Z76 76 (0,0)) by rw[hW];exact BK BK6);replace BK7:=K_ (show W.heap[g7]?=some (.cells Z51 51 (0,0)) by rw[hW];exact BK BK7);replace HB:=K_ (show Below w.heap.size w W by rw[hW];exact BL HB);clear hW h0 h1 h2 h3;refine pw_ 0 217 (bb 11 1) ?_;refine pw_ 1 218 (bb 11 3) ?_;refine pw_ 2 219 (bb 11 7) ?_;refine pw_ 3 220 (bb 11 15) ?_;refine pw_ 4 221 (bb 11 31) ?_;refine pw_ 5 222 (bb 11 63) ?_;refine pw_ 6 223 (bb 11 127) ?_;refine tw_ 7 224 (bb 11 255) hHeld ?_;refine pw_ 8 225 (bb 11 511) ?_;refine on_ 9 none (bb 11 1023) (fun K hK=>?_);refine yL (g:=g6) (cs:=Z76) Z76 BK6 ?_ rfl rfl rfl rfl rfl zbJ rfl rfl;intro w8 hbk hfar hbel;have hHeld2:=zau hfar (p:=⟨(ad.add (k * 4)).block,(ad.add (k * 4)).off+2,none⟩) hb6 hHeld;replace BK7:=K_ (hfar g7 _ (Ne.symm NB.out) BK7.out);replace BK6:=K_ hbk;replace HB:=K_ (hbel _ _ GE6.out HB.out);refine hK.out _ _ hHeld2 (fun _=>?_);clear hK K hbk hfar hbel;refine on_ 10 none (bb 11 2047) (fun K hK=>?_);refine yL (g:=g7) (cs:=Z51) #[.int .i64 E2,.int .i64 x9.f0.f2] BK7 ?_ rfl rfl rfl rfl rfl qC rfl rfl;intro w9 hbk hfar hbel;have hHeld3:=zau hfar (p:=⟨(ad.add (k * 4)).block,(ad.add (k * 4)).off+2,none⟩) hb7 hHeld2;replace BK6:=K_ (hfar g6 _ NB.out BK6.out);replace BK7:=K_ hbk;replace HB:=K_ (hbel _ _ GE7.out HB.out);refine hK.out _ _ hHeld3 (fun _=>?_);clear hK K hbk hfar hbel;refine yN (by kernel_rfl) ?_;go_wp2_with (fail)
           (
            refine bodyPost_ret (qZ rfl _ _ g6 g7 76 51 Z76 #[.int .i64 E2,.int .i64 x9.f0.f2] (0,0) (0,0) _ _ rfl BK6.out Tryz.underlying76 rfl zbJ rfl BK7.out Tryz.underlying51 rfl qC) rfl ?_;exact⟨_,_,[],[],jN,0,0,0,E2,x9.f0.f2,rfl,Kd.R_nil _ _ _ _ _,Kd.R_nil _ _ _ _ _,BL HB,fun h=>absurd h HEV.out,HE.out⟩)
          have dE:(E1 !=0)=true:=by simpa using hE
          have HEV:=K_ hE;have HE:=K_ (show (∀ x∈l,x.f1=false)→(∃ P,xW l P)→E1=0 by
           rintro _ ⟨P,h⟩;have:=h.2.1;rw[HBEG.out,←HPR.out,hno] at this;cases this)
          clear hE hno;go_upto_region 47 with (fail)
          clear q0 q1 q2 q3;refine yA (n:=4) (S:=fun w'=>w'.heap[g19]?=some (.cells #[.int .i64 E1,.int .i64 a1] 51 (0,0))) (ds:=[]) #[false,false,false,false] (by kernel_rfl) rfl rfl (BK BK19) (fun hHeld=>?_);refine jG (fun W=>W.heap[g19]?=some (.cells #[.int .i64 E1,.int .i64 a1] 51 (0,0))∧W.heap[g6]?=some (.cells Z76 76 (0,0))∧W.heap[g7]?=some (.cells Z51 51 (0,0))∧Below w.heap.size w W) ⟨BK BK19,BK BK6,BK BK7,BL HB⟩ ?_;clear hHeld;rintro W ⟨hHeld,hb6,hb7,hbw⟩;replace BK6:=K_ hb6;replace BK7:=K_ hb7;replace HB:=K_ hbw;clear hb6 hb7 hbw;refine pw_ 0 208 (bb 4 1) ?_;refine tr_ 1 209 (bb 4 3) (#[.int .i64 E1,.int .i64 a1]) (fun _ hs=>⟨hs⟩) Tryz.underlying51 qC hHeld ?_;refine on_ 2 none (bb 4 7) (fun K hK=>?_);refine yL (g:=g6) (cs:=Z76) Z76 BK6 ?_ rfl rfl rfl rfl rfl zbJ rfl rfl;intro w8 hbk hfar hbel;have hHeld2:=hfar g19 _ (Ne.symm N6L.out) hHeld;replace BK7:=K_ (hfar g7 _ (Ne.symm NB.out) BK7.out);replace BK6:=K_ hbk;replace HB:=K_ (hbel _ _ GE6.out HB.out);refine hK.out _ _ hHeld2 (fun _=>?_);clear hK K hbk hfar hbel;refine on_ 3 none (bb 4 15) (fun K hK=>?_);refine yL (g:=g7) (cs:=Z51) #[.int .i64 E1,.int .i64 a1] BK7 ?_ rfl rfl rfl rfl rfl qC rfl rfl;intro w9 hbk hfar hbel;have hHeld3:=hfar g19 _ (Ne.symm N7L.out) hHeld2;replace BK6:=K_ (hfar g6 _ NB.out BK6.out);replace BK7:=K_ hbk;replace HB:=K_ (hbel _ _ GE7.out HB.out);refine hK.out _ _ hHeld3 (fun _=>?_);clear hK K hbk hfar hbel;refine yN (by kernel_rfl) ?_;go_wp2_with (fail)
          (
           refine bodyPost_ret (qZ rfl _ _ g6 g7 76 51 Z76 #[.int .i64 E1,.int .i64 a1] (0,0) (0,0) _ _ rfl BK6.out Tryz.underlying76 rfl zbJ rfl BK7.out Tryz.underlying51 rfl qC) rfl ?_;exact⟨_,_,[],[],jN,0,0,0,E1,a1,rfl,Kd.R_nil _ _ _ _ _,Kd.R_nil _ _ _ _ _,BL HB,fun h=>absurd h HEV.out,HE.out⟩)
     have hjl:=zfd hb;have HR2:=K_ (show qR vK l (j+1)=qR vK l k by rw[←zjP hb];exact HRun.out);clear hb;go_wp2
     go_roundw
     case rel=>exact⟨j+1,by omega,by omega,by go_num,HR2.out,BK BK6,BK BK7,BL HB⟩
     case measure=>simp[intOf];omega
  obtain rfl:k=l.length:=by omega
  have dlt:decide ((l.length:Int)<(l.length:Int))=false:=decide_eq_false (by omega);have HE:=K_ (show (∀ x∈l,x.f1=false)→(∃ P,xW l P)→(4:Int)=0 by
   rintro _ ⟨P,h⟩;have:=h.1;rw[←HRun.out,zip (Nat.le_refl _)] at this;omega)
  go_upto_if 40 with (fail)
  (
   go_wp2_with (first
    | ((with_reducible refine zY (p:=6) rfl ?_);refine so_ (g:=g6) (cs:=Z76) Z76 ⟨BK BK6⟩ ?_ rfl rfl rfl rfl rfl zbJ rfl rfl;intro w9 hbk hfar hbel;replace BK7:=K_ (hfar g7 _ (Ne.symm (Aside0.out NB)) (BK BK7));replace BK6:=K_ hbk;replace HB:=K_ (hbel _ _ GE6.out (BL HB));clear hbk hfar hbel)
    | ((with_reducible refine zY (p:=7) rfl ?_);refine so_ (g:=g7) (cs:=Z51) #[.int .i64 4,.int .i64 b0] ⟨BK BK7⟩ ?_ rfl rfl rfl rfl rfl qC rfl rfl;intro w9 hbk hfar hbel;replace BK6:=K_ (hfar g6 _ (Aside0.out NB) (BK BK6));replace BK7:=K_ hbk;replace HB:=K_ (hbel _ _ GE7.out (BL HB));clear hbk hfar hbel))
   refine bodyPost_ret (qZ rfl _ _ g6 g7 76 51 Z76 #[.int .i64 4,.int .i64 b0] (0,0) (0,0) _ _ rfl BK6.out Tryz.underlying76 rfl zbJ rfl BK7.out Tryz.underlying51 rfl qC) rfl ?_;exact⟨_,_,[],[],jN,0,0,0,4,b0,rfl,Kd.R_nil _ _ _ _ _,Kd.R_nil _ _ _ _ _,BL HB,fun h=>absurd h (by decide),HE.out⟩)
section
section
variable {P:Program} {ops:Array Oper} {rest:List Oper} {o:Oper} {a:Act} {Q:Exit→Act→World→Prop}
theorem zpP {W:World} (N:Tmp) (n:Nat) (cs:Array Value) (t:TypeId) (h:∀ g,g=W.heap.size→∀ w1,w1.heap[g]?=some (.cells cs t (0,0))→Below W.heap.size W w1→wpList P ops Q rest (a.put o.dst (.slice (some ⟨g,0,none⟩) n n)) w1)
  (hd:o.dst=some N:=by with_reducible rfl) (hgd:o.guard=none:=by rfl) (hrun:(execOp a.eval o).run P W=.ok (.value (.slice (some ⟨W.heap.size,0,none⟩) n n)) (W.alloc (.cells cs t (0,0))):=by (first|(go_simp;done)|(go_simp;rfl))):wpList P ops Q (o :: rest) a W:=
 Kd.event_run hgd hrun (h _ rfl _ (zbU W _) (yD (Below.refl _ _) _))
end
theorem zpr {l:List S80} {k:Nat} (h:k<l.length):qL l (k:Int)=l[k]:=by unfold qL;rw[Int.toNat_natCast,List.getD_eq_getElem?_getD,List.getElem?_eq_getElem h];rfl
theorem zln {a:Int} {l:List S80} {j:Nat} (h:j<l.length):zaW a (l.take (j+1))=zaW a (l.take j)+if l[j].f0=a then 1 else 0:=by
 unfold zaW;rw[List.take_succ_eq_append_getElem h,List.countP_append,List.countP_cons,List.countP_nil,Nat.zero_add];congr 1
 by_cases e:l[j].f0=a
 ·rw[if_pos e,if_pos (by simpa using e)]
 rw[if_neg e,if_neg (by simpa using e)]
theorem zjO (a:Int) (l:List S80):zaW a l≤l.length:=List.countP_le_length
def zcI (a:Int) (L:List PL) (k:Nat):Nat:=((L.take k).map fun x=>zaW a x.l).sum
theorem zhJ {a:Int} {L:List PL} {k:Nat} (h:k<L.length):zcI a L (k+1)=zcI a L k+zaW a (yJ L k).l:=by
 unfold zcI;rw[zfb h];simp
theorem zkl {a:Int} {L:List PL} (hl:∀ k,k<L.length→(yJ L k).l.length≤1000):∀ k,k≤L.length→zcI a L k≤1000 * k
 | 0,_=>by simp[zcI]
 | k+1,h=>by have:=zkl (a:=a) hl k (by omega);have:=hl k (by omega);have:=zjO a (yJ L k).l;rw[zhJ (by omega)];omega
set_option maxHeartbeats 4000000 in
set_option maxRecDepth 100000 in
theorem zei (q:Pat) (kd:Int) (w:World) (h0:Kd.C k80 w q.A0 q.l0.length q.l0) (h1:Kd.C k80 w q.A1 q.l1.length q.l1) (h3:Kd.C k80 w q.A3 q.l3.length q.l3) (h4:Kd.C k80 w q.A4 q.l4.length q.l4)
  (s0:q.l0.length≤1000) (s1:q.l1.length≤1000) (s3:q.l3.length≤1000) (s4:q.l4.length≤1000) :
  Calls Tryz.prog 53 #[.agg q.cs,.int .i64 kd] w fun e w'=>e=.returned (.int .i64 ((sgn kd q.l0 q.l1 q.l3 q.l4:Nat):Int))∧Below w.heap.size w w':=by
 have HB:=K_ (Below.refl w.heap.size w);obtain⟨L,hL⟩:∃ L:List PL,L=[⟨q.A0,q.c0,q.l0⟩,⟨q.A1,q.c1,q.l1⟩,⟨q.A3,q.c3,q.l3⟩,⟨q.A4,q.c4,q.l4⟩]:=⟨_,rfl⟩
 have hk:∀ k,k<4→(k=0∧yJ L k=⟨q.A0,q.c0,q.l0⟩)∨(k=1∧yJ L k=⟨q.A1,q.c1,q.l1⟩)∨(k=2∧yJ L k=⟨q.A3,q.c3,q.l3⟩)∨(k=3∧yJ L k=⟨q.A4,q.c4,q.l4⟩):=by
  intro k hk;rw[hL]
  match k,hk with
  | 0,_=>exact .inl ⟨rfl,rfl⟩
  | 1,_=>exact .inr (.inl ⟨rfl,rfl⟩)
  | 2,_=>exact .inr (.inr (.inl ⟨rfl,rfl⟩))
  | 3,_=>exact .inr (.inr (.inr ⟨rfl,rfl⟩))
 have hlen:∀ k,k<L.length→(yJ L k).l.length≤1000:=by
  intro k h;rcases hk k (by rw[hL] at h;exact h) with ⟨_,e⟩|⟨_,e⟩|⟨_,e⟩|⟨_,e⟩ <;> rw[e] <;> assumption
 have HR:=K_ (show ∀ k,k<4→Kd.C k80 w (yJ L k).A (yJ L k).l.length (yJ L k).l∧(yJ L k).l.length≤1000∧zcI kd L (k+1)=zcI kd L k+zaW kd (yJ L k).l∧zcI kd L k≤4000 from fun k h=>by
  have hl:L.length=4:=by rw[hL];rfl
  refine⟨?_,hlen k (by omega),zhJ (by omega),by have:=zkl (a:=kd) hlen k (by omega);omega⟩;rcases hk k h with ⟨_,e⟩|⟨_,e⟩|⟨_,e⟩|⟨_,e⟩ <;> rw[e] <;> assumption)
 have HT:=K_ (show zcI kd L 4=sgn kd q.l0 q.l1 q.l3 q.l4 by rw[hL];unfold zcI sgn;simp;omega);have HK:=K_ hk;clear hL hk hlen h0 h1 h3 h4;go_enter Tryz.func53,Tryz.ntmps53
 go_upto_region 2 with ((with_reducible refine zE (N:=2) rfl ?_);refine bx_ 2 q.cs 26 ?_ rfl rfl rfl rfl rfl;intro g2 hg w2 hbox hb;have BK2:=K_ hbox;replace HB:=zF HB hb;clear hb hbox hg)
 have e0:w2.cell? ⟨g2,0,none⟩=some (.slice q.A0 q.l0.length q.c0):=(zA BK2.out 0).trans rfl;have e1:w2.cell? ⟨g2,1,none⟩=some (.slice q.A1 q.l1.length q.c1):=(zA BK2.out 1).trans rfl;have e3:w2.cell? ⟨g2,3,none⟩=some (.slice q.A3 q.l3.length q.c3):=(zA BK2.out 3).trans rfl;have e4:w2.cell? ⟨g2,4,none⟩=some (.slice q.A4 q.l4.length q.c4):=(zA BK2.out 4).trans rfl;go_wp2_with ((with_reducible refine zE (N:=17) rfl ?_);refine zpP 17 4 #[.slice q.A0 q.l0.length q.c0,.slice q.A1 q.l1.length q.c1,.slice q.A3 q.l3.length q.c3,.slice q.A4 q.l4.length q.c4] 24 ?_;intro g17 hg w3 hbox hb;have BK17:=K_ hbox;replace HB:=zF HB hb;clear hb hbox hg)
 clear e0 e1 e3 e4;have HC:=K_ (show ∀ k,k<4→w3.cell? ⟨g17,k,none⟩=some (.slice (yJ L k).A (yJ L k).l.length (yJ L k).c) from fun k h=>by
  rcases HK.out k h with ⟨rfl,e⟩|⟨rfl,e⟩|⟨rfl,e⟩|⟨rfl,e⟩ <;> rw[e] <;> exact (zA BK17.out _).trans rfl)
 go_loop [5,19] (fun n i=>∃ j:Nat,j≤4∧i=.int .i64 j∧n=.int .i64 (zcI kd L j)) (fun _ i=>4-(intOf i).toNat)
 case atStart=>exact⟨0,by omega,rfl,rfl⟩
 case round =>
  obtain⟨j,hj,rfl,rfl⟩:=hrel;by_cases hlt:j<4
  ·have hc:=HC.out j hlt
   obtain⟨hq,hql,hqs,hqt⟩:=HR.out j hlt;have HQS:=K_ hqs;have HQ:=K_ (Kd.C_below hq HB.out);have dlt:decide ((j:Int)<4)=true:=decide_eq_true (by omega);clear hq hqs;go_wp2
   go_loop [5,8] (fun n i=>∃ t:Nat,t≤(yJ L j).l.length∧i=.int .i64 t∧n=.int .i64 ((zcI kd L j+zaW kd ((yJ L j).l.take t):Nat):Int)) (fun _ i=>(yJ L j).l.length-(intOf i).toNat)
   case atStart=>exact⟨0,by omega,rfl,by rw[List.take_zero];rfl⟩
   case round =>
    obtain⟨t,ht,rfl,rfl⟩:=hrel;by_cases htl:t<(yJ L j).l.length
    ·obtain⟨x,hx⟩:∃ x,x=(yJ L j).l[t]:=⟨_,rfl⟩
     obtain⟨ad,ea,hx0,hx1⟩:=zjg HQ.out (t:Int) (by omega) (by omega);rw[zpr htl,←hx] at hx0 hx1;simp only[Int.toNat_natCast] at hx0 hx1
     have HA:=K_ ea;have hs:=zln (a:=kd) htl;rw[←hx] at hs;have HS:=K_ hs;have hb:zaW kd ((yJ L j).l.take t)≤1000:=Nat.le_trans (zjO _ _) (by rw[List.length_take];omega);have dt:decide ((t:Int)<((yJ L j).l.length:Int))=true:=decide_eq_true (by omega);clear hs hx;rw[ea] at hc;rw[HA.out];by_cases hk:x.f0=kd
     ·have dk:(x.f0==kd)=true:=beq_iff_eq.2 hk
      have HS2:=K_ (show zaW kd ((yJ L j).l.take (t+1))=zaW kd ((yJ L j).l.take t)+1 by rw[HS.out,if_pos hk]);clear hk;go_wp2
      go_round
      case rel=>exact⟨t+1,by omega,by go_num,by rw[HS2.out];go_num⟩
      case measure=>simp[intOf];omega
     have dk:(x.f0==kd)=false:=beq_eq_false_iff_ne.2 hk;have HS2:=K_ (show zaW kd ((yJ L j).l.take (t+1))=zaW kd ((yJ L j).l.take t) by rw[HS.out,if_neg hk,Nat.add_zero]);clear hk;go_wp2
     go_round
     case rel=>exact⟨t+1,by omega,by go_num,by rw[HS2.out]⟩
     case measure=>simp[intOf];omega
    obtain rfl:t=(yJ L j).l.length:=by omega
    have dt:decide (((yJ L j).l.length:Int)<((yJ L j).l.length:Int))=false:=decide_eq_false (by omega);go_wp2
    go_round
    case rel=>exact⟨j+1,by omega,by go_num,by rw[HQS.out,List.take_length]⟩
    case measure=>simp[intOf];omega
  obtain rfl:j=4:=by omega
  go_wp2
  go_ret
  exact⟨by rw[HT.out];rfl,HB.out⟩
theorem zet (A0 A1 A3 A4:Option Addr) (c0 c1 c3 c4:Nat) (a b c d:List S80) (hn:Bool) (P:jY) (at_ pad wd kd:Int) (w:World) {b0:Nat} {ok:Nat→Prop}
  (h0:Kd.R k80 80 w b0 ok (.slice A0 a.length c0) a) (h1:Kd.R k80 80 w b0 ok (.slice A1 b.length c1) b) (h3:Kd.R k80 80 w b0 ok (.slice A3 c.length c3) c) (h4:Kd.R k80 80 w b0 ok (.slice A4 d.length c4) d)
  (ha:a.length≤1000) (hb:b.length≤1000) (hc:c.length≤1000) (hd:d.length≤1000) :
  Calls Tryz.prog 53 #[.agg (xY (.slice A0 a.length c0) (.slice A1 b.length c1) hn (.slice A3 c.length c3) (.slice A4 d.length c4) P at_ pad wd),.int .i64 kd] w fun e w'=>e=.returned (.int .i64 ((sgn kd a b c d:Nat):Int))∧Below w.heap.size w w':=
 zei ⟨A0,A1,A3,A4,c0,c1,c3,c4,a,b,c,d,hn,P,at_,pad,wd⟩ kd w (Kd.R_reads' h0).2.2 (Kd.R_reads' h1).2.2 (Kd.R_reads' h3).2.2 (Kd.R_reads' h4).2.2 ha hb hc hd
end
end Go.Proofs.YtcmgdjnjmobkoaaGreatDoor.Px
