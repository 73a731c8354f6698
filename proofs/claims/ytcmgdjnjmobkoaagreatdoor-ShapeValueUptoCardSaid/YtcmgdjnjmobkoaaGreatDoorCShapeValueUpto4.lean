/- The functions that the law ShapeValueUpto reaches, told as plain functions, with what is proved of them, and the words they need (part 4). -/
import Derived.Test.YtcmgdjnjmobkoaaGreatDoorCShapeValueUpto0
import Derived.Test.YtcmgdjnjmobkoaaGreatDoorCShapeValueUpto1
import Derived.Test.YtcmgdjnjmobkoaaGreatDoorCShapeValueUpto3
import Derived.Test.YtcmgdjnjmobkoaaGreatDoorCShapeValueUpto2
set_option linter.unusedVariables false
set_option linter.unusedSimpArgs false
namespace Go.Proofs.YtcmgdjnjmobkoaaGreatDoor.Px
set_option linter.all false
open Fig Go.RowKit Go.Proofs.YtcmgdjnjmobkoaaGreatDoorW.PrintWords Go.Proofs.YtcmgdjnjmobkoaaGreatDoorW.PrintLast Go.Proofs.YtcmgdjnjmobkoaaGreatDoorW.PrintMore
attribute [local go_sem] yS yR vN vM yF yE yU yT
set_option maxHeartbeats 16000000 in
set_option maxRecDepth 100000 in
theorem zlx (s:ByteArray) (hs:s.size≤1048576) (w:World):Calls Tryz.prog 31 #[.string s] w (zmr s w):=by
 obtain⟨⟨l,E1,a1⟩,hEv,h4⟩:=zmz s hs;obtain⟨K0,hK0⟩:=Ev.rounds hEv;have HK:=K_ hK0;have HEV1:=K_ hEv;have H4:=K_ (show E1=0→l.length≤400 from h4);have HB:=K_ (Below.refl w.heap.size w);clear hs hEv hK0 h4;go_enter Tryz.func31,Tryz.ntmps31
 go_upto_region 2 with (first
  | ((with_reducible refine zE (N:=2) rfl ?_);refine be_ 2 Z26 26 ?_;intro g2 hg w2 hbox hb;have BK2:=K_ hbox;have GE2:=ge_ hg HB;replace HB:=zF HB hb;clear hb hbox hg)
  | ((with_reducible refine zE (N:=3) rfl ?_);refine be_ 3 Z51 51 ?_;intro g3 hg w4 hbox hb;have BK3:=K_ hbox;have GE3:=ge_ hg HB;have NB:=nb_ hg BK2;replace BK2:=zC BK2 hb;replace HB:=zF HB hb;clear hb hbox hg)
  | (go_at_call 55;refine (zG.calls K0 s l E1 a1 _ HK.out).mono ?_;rintro e9 w' ⟨v0,rfl,ho,hb⟩;have HO:=K_ (Kd.R_lower ho (zS (BL HB)));replace HB:=zF HB hb;replace BK2:=zC BK2 hb;replace BK3:=zC BK3 hb;clear hb ho)
  | ((with_reducible refine zE (N:=5) rfl ?_);refine be_ 5 Z51 51 ?_;intro g5 hg w10 hbox hb;have BK5:=K_ hbox;have GE5:=ge_ hg HB;have N2F:=nb_ hg BK2;have N3F:=nb_ hg BK3;replace HO:=K_ (Kd.R_below (RB HO.out) hb);replace HB:=zF HB hb;replace BK2:=zC BK2 hb;replace BK3:=zC BK3 hb;clear hb hbox hg)
  | ((with_reducible refine zY (p:=5) rfl ?_);refine so_ (g:=g5) (cs:=Z51) #[.int .i64 E1,.int .i64 a1] ⟨BK BK5⟩ ?_ rfl rfl rfl rfl rfl qC rfl rfl;intro w9 hbk hfar hbel;replace HO:=K_ (vY (RB HO.out) (BK BK5) (by decide) hfar);replace BK2:=K_ (hfar g2 _ N2F.out (BK BK2));replace BK3:=K_ (hfar g3 _ N3F.out (BK BK3));replace BK5:=K_ hbk;replace HB:=K_ (hbel _ _ GE5.out (BL HB));clear hbk hfar hbel))
 obtain⟨⟨q0,q1⟩,q2,q3⟩:=ce2 BK5;by_cases hE:E1=0
 ·subst hE
  have HL:=K_ (H4.out rfl);clear H4;go_upto_region 4 with (fail)
  clear q0 q1 q2 q3;obtain⟨A1,c1,rfl⟩:=Kd.R_slice HO.out;go_wp2_with (fail)
  go_loopw [6,7] (fun v i wr=>∃ (k:Nat) (xs:List S73),k≤l.length∧i=.int .i64 k∧xs.length≤k∧Kd.R k71 71 wr w.heap.size (fun _=>True) (.slice A1 l.length c1) l∧Kd.R k73 73 wr w.heap.size (fun _=>True) v xs∧(xO l→xs=(l.take k).map mk73)∧wr.heap[g5]?=some (.cells #[.int .i64 0,.int .i64 a1] 51 (0,0))∧wr.heap[g2]?=some (.cells Z26 26 (0,0))∧wr.heap[g3]?=some (.cells Z51 51 (0,0))∧Below w.heap.size w wr) (fun _ i _=>l.length-(intOf i).toNat)
  case atStart=>exact⟨0,[],by omega,rfl,Nat.le_refl _,RB HO.out,Kd.R_nil _ _ _ _ _,fun _=>rfl,BK BK5,BK BK2,BK BK3,BL HB⟩
  case round =>
   obtain⟨k,xs,hk,rfl,hxl,ho,hz,hst,hb5,hb2,hb3,hbw⟩:=hrel;replace HO:=K_ ho;have HZ:=K_ hz;have HST:=K_ hst;replace BK5:=K_ hb5;replace BK2:=K_ hb2;replace BK3:=K_ hb3;replace HB:=K_ hbw;clear ho hz hst hb5 hb2 hb3 hbw;have hll:=HL.out;have hcl:=(Kd.R_reads' HO.out).2.1;by_cases hlt:k<l.length
   ·obtain⟨x,hx⟩:∃ x,x=l[k]:=⟨_,rfl⟩
    obtain⟨ad,ea,h0,h1,h2⟩:=ziu (Kd.R_reads' HO.out).2.2 (k:Int) (by omega) (by omega);rw[znp hlt,←hx] at h0 h1 h2;simp only[Int.toNat_natCast] at h0 h1 h2
    subst ea;have HX:=K_ hx;clear hx;have dlt:decide (((k:Nat):Int)<(l.length:Int))=true:=decide_eq_true (by omega);go_upto_region 9 with (first
     | ((with_reducible refine zE (N:=8) rfl ?_);refine be_ 8 #[.int .i32 0,.bool false,.int .i64 0,.bool false] 73 ?_;intro g8 hg w10 hbox hb;have BK8:=K_ hbox;have GE8:=ge_ hg HB;have N5E:=nb_ hg BK5;have N2E:=nb_ hg BK2;have N3E:=nb_ hg BK3;replace HZ:=K_ (Kd.R_below (Kd.R_elderB (RB HZ.out) g8 (Nat.le_of_eq hg.symm)) hb);replace HO:=K_ (Kd.R_below (RB HO.out) hb);replace HB:=zF HB hb;replace BK2:=zC BK2 hb;replace BK3:=zC BK3 hb;replace BK5:=zC BK5 hb;clear hb hbox hg)
     | ((with_reducible refine zY (p:=8) rfl ?_);refine so_ (g:=g8) (cs:=#[.int .i32 0,.bool false,.int .i64 0,.bool false]) #[.int .i32 x.f0,.bool x.f1,.int .i64 x.f2,.bool false] ⟨BK BK8⟩ ?_ rfl rfl rfl rfl rfl ziz rfl rfl;intro w9 hbk hfar hbel;replace BK5:=K_ (hfar g5 _ N5E.out (BK BK5));replace BK2:=K_ (hfar g2 _ N2E.out (BK BK2));replace BK3:=K_ (hfar g3 _ N3E.out (BK BK3));replace HO:=K_ (vY (RB HO.out) (BK BK8) (by decide) hfar);replace HZ:=K_ (znA (ok:=fun q=>True∧q≠g8) (RB HZ.out) (fun q hq=>hq.2) hfar);replace BK8:=K_ hbk;replace HB:=K_ (hbel _ _ GE8.out (BL HB));clear hbk hfar hbel))
    obtain⟨A3,c3,rfl⟩:=Kd.R_slice HZ.out;cases hstar:zan (mk73 x) 42
    ·have HC:∀ W,Aside0 (Calls Tryz.prog 56 #[.agg #[.int .i32 x.f0,.bool x.f1,.int .i64 x.f2,.bool false],.int .i32 42] W fun e w'=>e=.returned (.bool false)∧Below W.heap.size W w'):=fun W=>⟨by have h:=zbD (mk73 x) 42 W;rw[hstar] at h;exact h⟩
     have HST2:=K_ (show xO l→xs++[mk73 x]=(l.take (k+1)).map mk73 from fun h=>by rw[znN hlt,←HX.out,HST.out h]);have HN5:=K_ (Kd.R_ne HZ.out BK5.out (by decide));have HN2:=K_ (Kd.R_ne HZ.out BK2.out (by decide));have HN3:=K_ (Kd.R_ne HZ.out BK3.out (by decide));have HLN:=K_ (show (xs.length+1) * 24≤140737488355328 by omega);clear hstar h0 h1 h2;go_wp2_with (first
      | ((with_reducible refine zE (N:=37) rfl ?_);refine lo_ (g:=g8) (cs:=#[.int .i32 x.f0,.bool x.f1,.int .i64 x.f2,.bool false]) _ ⟨BK BK8⟩ ?_ rfl rfl rfl Tryz.underlying73 rfl ziz)
      | ((with_reducible refine zE (N:=61) rfl ?_);refine lo_ (g:=g8) (cs:=#[.int .i32 x.f0,.bool x.f1,.int .i64 x.f2,.bool false]) _ ⟨BK BK8⟩ ?_ rfl rfl rfl Tryz.underlying73 rfl ziz)
      | (go_at_call 56;refine ((HC _).out).mono ?_;rintro e w' ⟨rfl,hb⟩;replace HO:=K_ (Kd.R_below (RB HO.out) hb);replace HZ:=K_ (Kd.R_below (RB HZ.out) hb);replace HB:=zF HB hb;replace BK2:=zC BK2 hb;replace BK3:=zC BK3 hb;replace BK5:=zC BK5 hb;replace BK8:=zC BK8 hb;clear hb)
      | ((with_reducible refine jH (b:=.append) (xs:=#[.tmp 60,.tmp 62]) rfl ?_);at_builtin;(refine Kd.R_append k73 (w0:=w) w.heap.size rfl (.tmp 60) (.tmp 62) 69 73 (.agg #[(.int .i32 0),(.bool false),(.int .i64 0),(.bool false)]) 24 rfl Tryz.underlying69 zjs rfl (by decide) (by omega) (.slice A3 xs.length c3) xs (mk73 x) [.int .i32 x.f0,.bool x.f1,.int .i64 x.f2,.bool false] (fun q=>True∧q≠g8) (fun _=>False) rfl (by first|(go_simp;done)|(go_simp;rfl)) (zke _ _ _ (mk73 x)) (fun _ hk=>hk.elim) ?aF ?aO ?aB ?aS ?aL ?_;(case aF=>exact fun q hq=>⟨trivial,fun he=>absurd (zcG (BK BK8)) (Nat.not_lt.2 (he ▸ hq))⟩);(case aO=>exact RB HZ.out);(case aB=>exact BL HB);(case aS=>exact zS (BL HB));(case aL=>exact HLN.out);intro v1 w5 ho2 hb2 hg2 hat2;have HO3:=K_ (Kd.R_mono (ok':=fun _=>True) ho2 (fun _ _=>trivial));replace HO:=K_ (Kd.R_over (RB HO.out) (RB HZ.out) (by decide) hg2);have BK5a:=K_ (yQ (BK BK5) hg2 HN5.out);have BK2a:=K_ (yQ (BK BK2) hg2 HN2.out);have BK3a:=K_ (yQ (BK BK3) hg2 HN3.out);replace HB:=K_ hb2;clear ho2 hb2 hg2 hat2)))
     go_roundw
     case rel=>exact⟨k+1,xs++[mk73 x],by omega,by go_num,by rw[List.length_append];simp;omega,RB HO.out,RB HO3.out,HST2.out,BK BK5a,BK BK2a,BK BK3a,BL HB⟩
     case measure=>simp[intOf];omega
    have HC:∀ W,Aside0 (Calls Tryz.prog 56 #[.agg #[.int .i32 x.f0,.bool x.f1,.int .i64 x.f2,.bool false],.int .i32 42] W fun e w'=>e=.returned (.bool true)∧Below W.heap.size W w'):=fun W=>⟨by have h:=zbD (mk73 x) 42 W;rw[hstar] at h;exact h⟩
    have HNS:=K_ (show xO l→False from fun h=>by have:=h l[k] (List.getElem_mem hlt);rw[←HX.out,hstar] at this;cases this);clear hstar h0 h1 h2;go_upto_region 10 with (first
     | ((with_reducible refine zE (N:=37) rfl ?_);refine lo_ (g:=g8) (cs:=#[.int .i32 x.f0,.bool x.f1,.int .i64 x.f2,.bool false]) _ ⟨BK BK8⟩ ?_ rfl rfl rfl Tryz.underlying73 rfl ziz)
     | (go_at_call 56;refine ((HC _).out).mono ?_;rintro e w' ⟨rfl,hb⟩;replace HO:=K_ (Kd.R_below (RB HO.out) hb);replace HZ:=K_ (Kd.R_below (RB HZ.out) hb);replace HB:=zF HB hb;replace BK2:=zC BK2 hb;replace BK3:=zC BK3 hb;replace BK5:=zC BK5 hb;replace BK8:=zC BK8 hb;clear hb))
    have hwk:IntKind.i64.wrap ((k:Int)+1)=(k:Int)+1:=by rw[IntKind.wrap_i64];omega
    by_cases hl1:k+1=l.length
    ·have de:((k:Int)+1==(l.length:Int))=true:=beq_iff_eq.2 (by omega)
     go_upto_region 11 with (fail)
     have HEV:=K_ (show (7:Int)≠0 by decide);have HE:=K_ (show ∀ l',Ev (fun k=>zG.f k s) (l',0,0)→xO l'→zav l'→∀ P0,xW (l'.map mk73) P0→¬ mixed (jJ (uF (l'.map mk73) (qK (l'.map mk73)) l'.length)) (jJ (uE (l'.map mk73) (qE (l'.map mk73)) l'.length)) (⟨2,0⟩ :: jJ (uF (l'.map mk73) (qK (l'.map mk73)) l'.length)) (jJ (uE (l'.map mk73) (qE (l'.map mk73)) l'.length))→False from fun l' h1 hns _ _ _ _=>(HNS.out (by have e:=zdN h1 HEV1.out;have e2:l'=l:=congrArg (fun r=>r.1) e;rw[←e2];exact hns)));refine yA (n:=7) (S:=fun w'=>w'.cell? ⟨g8,2,none⟩=some (.int .i64 x.f2)) (ds:=[]) #[false,false,false,false,false,false,false] (by kernel_rfl) rfl rfl ((zA (BK BK8) 2).trans rfl) (fun hHeld=>?_);refine jG (fun W=>W.cell? ⟨g8,2,none⟩=some (.int .i64 x.f2)∧W.heap[g2]?=some (.cells Z26 26 (0,0))∧W.heap[g3]?=some (.cells Z51 51 (0,0))∧Below w.heap.size w W) ⟨((zA (BK BK8) 2).trans rfl),BK BK2,BK BK3,BL HB⟩ ?_;clear hHeld;rintro W ⟨hHeld,hb2,hb3,hbw⟩;replace BK2:=K_ hb2;replace BK3:=K_ hb3;replace HB:=K_ hbw;clear hb2 hb3 hbw;refine pw_ 0 44 (bb 7 1) ?_;refine pw_ 1 45 (bb 7 3) ?_;refine pw_ 2 46 (bb 7 7) ?_;refine tw_ 3 47 (bb 7 15) hHeld ?_;refine pw_ 4 48 (bb 7 31) ?_;refine on_ 5 none (bb 7 63) (fun K hK=>?_);refine yL (g:=g2) (cs:=Z26) Z26 BK2 ?_ rfl rfl rfl rfl rfl jR rfl rfl;intro w8 hbk hfar hbel;have hHeld2:=zau hfar (p:=⟨g8,2,none⟩) (Ne.symm N2E.out) hHeld;replace BK3:=K_ (hfar g3 _ (Ne.symm NB.out) BK3.out);replace BK2:=K_ hbk;replace HB:=K_ (hbel _ _ GE2.out HB.out);refine hK.out _ _ hHeld2 (fun _=>?_)
     clear hK K hbk hfar hbel;refine on_ 6 none (bb 7 127) (fun K hK=>?_);refine yL (g:=g3) (cs:=Z51) #[.int .i64 7,.int .i64 x.f2] BK3 ?_ rfl rfl rfl rfl rfl qC rfl rfl;intro w9 hbk hfar hbel;have hHeld3:=zau hfar (p:=⟨g8,2,none⟩) (Ne.symm N3E.out) hHeld2;replace BK2:=K_ (hfar g2 _ NB.out BK2.out);replace BK3:=K_ hbk;replace HB:=K_ (hbel _ _ GE3.out HB.out);refine hK.out _ _ hHeld3 (fun _=>?_);clear hK K hbk hfar hbel;refine yN (by kernel_rfl) ?_;go_wp2_with (fail)
     (
      refine bodyPost_ret (qZ rfl _ _ g2 g3 26 51 Z26 #[.int .i64 7,.int .i64 x.f2] (0,0) (0,0) _ _ rfl BK2.out Tryz.underlying26 rfl jR rfl BK3.out Tryz.underlying51 rfl qC) rfl ?_;exact⟨_,_,_,_,[],[],[],[],jN,false,0,0,0,7,x.f2,rfl,Kd.R_nil _ _ _ _ _,Kd.R_nil _ _ _ _ _,Kd.R_nil _ _ _ _ _,Kd.R_nil _ _ _ _ _,BL HB,fun h=>absurd h HEV.out,fun l' h1 h2 h3 P0 h4 h5=>(HE.out l' h1 h2 h3 P0 h4 h5).elim⟩)
    have de:((k:Int)+1==(l.length:Int))=false:=beq_eq_false_iff_ne.2 (by omega);obtain⟨⟨c0,c1',c2,c3'⟩,f0,f1,f2,f3⟩:=ce4 BK8;have hlt2:k+1<l.length:=by omega
    obtain⟨ad2,ea,h0,h1,h2⟩:=ziu (Kd.R_reads' HO.out).2.2 ((k+1:Nat):Int) (by omega) (by omega);obtain⟨y,hy⟩:∃ y,y=l[k+1]:=⟨_,rfl⟩
    rw[znp hlt2,←hy] at h0 h1 h2;simp only[Int.toNat_natCast] at h0 h1 h2
    obtain rfl:=Option.some.inj ea;have hn1:((k:Int)+1).toNat=k+1:=by omega
    have H8:=K_ (Kd.R_ne HO.out BK8.out (by decide));have hbn:(ad.add ((k+1) * 3)).block≠g8:=by
     rw[zdx];intro e;exact H8.out (by simp[Value.ownBlock,e])
    have hfar2:∀ (W:World) j v,(W.setCell ⟨g8,j,none⟩ v).cell? (ad.add ((k+1) * 3))=W.cell? (ad.add ((k+1) * 3)):=fun W j v=>yK hbn v
    have hi0:(0:Int)≤(k:Int)+1:=by omega
    have hi1:(k:Int)+1<(l.length:Int):=by omega
    clear hy ea h1 h2;go_upto_region 14 with (fail)
    have hfar:∀ k o,k≠g8→w'.heap[k]?=some o→((w'.setCell ⟨g8,3,none⟩ (.bool true)).setCell ⟨g8,0,none⟩ (.int .i32 y.f0)).heap[k]?=some o:=fun k o hk e=>(Below.heap_setCell _ _ _ _ hk).trans ((Below.heap_setCell _ _ _ _ hk).trans e)
    refine zbs (fun W=>Kd.R k71 71 W w.heap.size (fun _=>True) (.slice (some ad) l.length c1) l∧Kd.R k73 73 W w.heap.size (fun q=>True∧q≠g8) (.slice A3 xs.length c3) xs∧W.heap[g5]?=some (.cells #[.int .i64 0,.int .i64 a1] 51 (0,0))∧W.heap[g2]?=some (.cells Z26 26 (0,0))∧W.heap[g3]?=some (.cells Z51 51 (0,0))∧W.heap[g8]?=some (.cells #[.int .i32 y.f0,.bool x.f1,.int .i64 x.f2,.bool true] 73 (0,0))∧Below w.heap.size w W) ⟨vY (RB HO.out) (BK BK8) (by decide) hfar,znA (ok:=fun q=>True∧q≠g8) (RB HZ.out) (fun q hq=>hq.2) hfar,hfar g5 _ N5E.out (BK BK5),hfar g2 _ N2E.out (BK BK2),hfar g3 _ N3E.out (BK BK3),BP BK8,BL HB⟩ ?_;clear hfar HO HZ BK5 BK2 BK3 BK8 HB f0 f1 f2 f3 c0 c1' c2 c3' H8 hbn hfar2 h0;rintro W ⟨ho,hz,hb5,hb2,hb3,hb8,hbw⟩;have HO:=K_ ho;have HZ:=K_ hz;have BK5:=K_ hb5;have BK2:=K_ hb2;have BK3:=K_ hb3;have BK8:=K_ hb8;have HB:=K_ hbw;clear ho hz hb5 hb2 hb3 hb8 hbw;have HN5:=K_ (Kd.R_ne HZ.out BK5.out (by decide));have HN2:=K_ (Kd.R_ne HZ.out BK2.out (by decide));have HN3:=K_ (Kd.R_ne HZ.out BK3.out (by decide));have HLN:=K_ (show (xs.length+1) * 24≤140737488355328 by omega);go_wp2_with (first
     | ((with_reducible refine zE (N:=61) rfl ?_);refine lo_ (g:=g8) (cs:=#[.int .i32 y.f0,.bool x.f1,.int .i64 x.f2,.bool true]) _ ⟨BK BK8⟩ ?_ rfl rfl rfl Tryz.underlying73 rfl ziz)
     | ((with_reducible refine jH (b:=.append) (xs:=#[.tmp 60,.tmp 62]) rfl ?_);at_builtin;(refine Kd.R_append k73 (w0:=w) w.heap.size rfl (.tmp 60) (.tmp 62) 69 73 (.agg #[(.int .i32 0),(.bool false),(.int .i64 0),(.bool false)]) 24 rfl Tryz.underlying69 zjs rfl (by decide) (by omega) (.slice A3 xs.length c3) xs (⟨⟨y.f0,x.f1,x.f2⟩,true⟩:S73) [.int .i32 y.f0,.bool x.f1,.int .i64 x.f2,.bool true] (fun q=>True∧q≠g8) (fun _=>False) rfl (by first|(go_simp;done)|(go_simp;rfl)) (zke _ _ _ (⟨⟨y.f0,x.f1,x.f2⟩,true⟩:S73)) (fun _ hk=>hk.elim) ?aF ?aO ?aB ?aS ?aL ?_;(case aF=>exact fun q hq=>⟨trivial,fun he=>absurd (zcG (BK BK8)) (Nat.not_lt.2 (he ▸ hq))⟩);(case aO=>exact RB HZ.out);(case aB=>exact BL HB);(case aS=>exact zS (BL HB));(case aL=>exact HLN.out);intro v1 w5 ho2 hb2 hg2 hat2;have HO3:=K_ (Kd.R_mono (ok':=fun _=>True) ho2 (fun _ _=>trivial));replace HO:=K_ (Kd.R_over (RB HO.out) (RB HZ.out) (by decide) hg2);have BK5a:=K_ (yQ (BK BK5) hg2 HN5.out);have BK2a:=K_ (yQ (BK BK2) hg2 HN2.out);have BK3a:=K_ (yQ (BK BK3) hg2 HN3.out);replace HB:=K_ hb2;clear ho2 hb2 hg2 hat2)))
    go_roundw
    case rel=>exact⟨k+2,xs++[(⟨⟨y.f0,x.f1,x.f2⟩,true⟩:S73)],by omega,by go_num,by rw[List.length_append];simp;omega,RB HO.out,RB HO3.out,fun h=>(HNS.out h).elim,BK BK5a,BK BK2a,BK BK3a,BL HB⟩
    case measure=>simp[intOf];omega
   obtain rfl:k=l.length:=by omega
   have dlt:decide ((l.length:Int)<(l.length:Int))=false:=decide_eq_false (by omega);have HXS:=K_ (show xO l→xs=l.map mk73 from fun h=>by have:=HST.out h;rw[List.take_length] at this;exact this);have hxl2:xs.length≤400:=by omega
   obtain⟨A3,c3,rfl⟩:=Kd.R_slice HZ.out;clear hll hcl HST HL;go_wp2_with (fail)
   clear HO;go_loopw [9,10] (fun m i wr=>∃ (j:Nat) (sm:Int),j≤xs.length∧i=.int .i64 j∧m=.int .i64 sm∧(sm=-1∨(0≤sm∧sm<j))∧(xO l→zav l→sm=-1)∧Kd.R k73 73 wr w.heap.size (fun _=>True) (.slice A3 xs.length c3) xs∧wr.heap[g5]?=some (.cells #[.int .i64 0,.int .i64 a1] 51 (0,0))∧wr.heap[g2]?=some (.cells Z26 26 (0,0))∧wr.heap[g3]?=some (.cells Z51 51 (0,0))∧Below w.heap.size w wr) (fun _ i _=>xs.length-(intOf i).toNat)
   case atStart=>exact⟨0,-1,Nat.zero_le _,rfl,rfl,.inl rfl,fun _ _=>rfl,RB HZ.out,BK BK5,BK BK2,BK BK3,BL HB⟩
   case round =>
    obtain⟨j,sm,hj,rfl,rfl,hsm,hns,hz,hb5,hb2,hb3,hbw⟩:=hrel;replace HZ:=K_ hz;have HNS:=K_ hns;have HSM:=K_ hsm;replace BK5:=K_ hb5;replace BK2:=K_ hb2;replace BK3:=K_ hb3;replace HB:=K_ hbw;clear hz hns hsm hb5 hb2 hb3 hbw;have hcl:=(Kd.R_reads' HZ.out).2.1;by_cases hlt:j<xs.length
    ·obtain⟨x,hx⟩:∃ x,x=xs[j]:=⟨_,rfl⟩
     obtain⟨ad,ea,h0,h1,h2,h3⟩:=zaw (Kd.R_reads' HZ.out).2.2 (j:Int) (by omega) (by omega);rw[zcN hlt,←hx] at h0 h1 h2 h3;simp only[Int.toNat_natCast] at h0 h1 h2 h3
     have HX:=K_ hx;obtain rfl:=ea;clear hx;have dlt:decide (((j:Nat):Int)<(xs.length:Int))=true:=decide_eq_true (by omega);cases hst:zan x 59
     ·have HC:∀ W,Aside0 (Calls Tryz.prog 56 #[.agg #[.int .i32 x.f0.f0,.bool x.f0.f1,.int .i64 x.f0.f2,.bool x.f1],.int .i32 59] W fun e w'=>e=.returned (.bool false)∧Below W.heap.size W w'):=fun W=>⟨by have h:=zbD x 59 W;rw[hst] at h;exact h⟩
      clear hst;go_wp2_with (go_at_call 56;refine ((HC _).out).mono ?_;rintro e w' ⟨rfl,hb⟩;replace HZ:=K_ (Kd.R_below (RB HZ.out) hb);replace HB:=zF HB hb;replace BK2:=zC BK2 hb;replace BK3:=zC BK3 hb;replace BK5:=zC BK5 hb;clear hb)
      go_roundw
      case rel=>exact⟨j+1,sm,by omega,by go_num,rfl,by have:=HSM.out;omega,HNS.out,RB HZ.out,BK BK5,BK BK2,BK BK3,BL HB⟩
      case measure=>simp[intOf];omega
     have HC:∀ W,Aside0 (Calls Tryz.prog 56 #[.agg #[.int .i32 x.f0.f0,.bool x.f0.f1,.int .i64 x.f0.f2,.bool x.f1],.int .i32 59] W fun e w'=>e=.returned (.bool true)∧Below W.heap.size W w'):=fun W=>⟨by have h:=zbD x 59 W;rw[hst] at h;exact h⟩
     have HNT:=K_ (show xO l→zav l→False from fun q1 q2=>by
      have e:=HXS.out q1;have hm:x∈l.map mk73:=by rw[←e,HX.out];exact List.getElem_mem hlt
      obtain⟨t,ht,rfl⟩:=List.mem_map.1 hm;rw[q2 t ht] at hst;cases hst)
     clear hst;by_cases hs0:0≤sm
     ·have dsm:decide (0≤sm)=true:=decide_eq_true hs0
      have hlt2:=hlt;go_upto_region 22 with (go_at_call 56;refine ((HC _).out).mono ?_;rintro e w' ⟨rfl,hb⟩;replace HZ:=K_ (Kd.R_below (RB HZ.out) hb);replace HB:=zF HB hb;replace BK2:=zC BK2 hb;replace BK3:=zC BK3 hb;replace BK5:=zC BK5 hb;clear hb)
      clear h0 h1 h2 h3;obtain⟨ad2,ea,h0,h1,h2,h3⟩:=zaw (Kd.R_reads' HZ.out).2.2 (j:Int) (by omega) (by omega);obtain rfl:=Option.some.inj ea;rw[zcN hlt,←HX.out] at h0 h1 h2 h3;simp only[Int.toNat_natCast] at h0 h1 h2 h3
      have H2:=K_ (Kd.R_ne HZ.out BK2.out (by decide));have H3:=K_ (Kd.R_ne HZ.out BK3.out (by decide));have hb2:(ad.add (j * 4)).block≠g2:=by
       rw[zdx];intro e;exact H2.out (by simp[Value.ownBlock,e])
      have hb3:(ad.add (j * 4)).block≠g3:=by
       rw[zdx];intro e;exact H3.out (by simp[Value.ownBlock,e])
      have HEV:=K_ (show (4:Int)≠0 by decide);have HE:=K_ (show ∀ l',Ev (fun k=>zG.f k s) (l',0,0)→xO l'→zav l'→∀ P0,xW (l'.map mk73) P0→¬ mixed (jJ (uF (l'.map mk73) (qK (l'.map mk73)) l'.length)) (jJ (uE (l'.map mk73) (qE (l'.map mk73)) l'.length)) (⟨2,0⟩ :: jJ (uF (l'.map mk73) (qK (l'.map mk73)) l'.length)) (jJ (uE (l'.map mk73) (qE (l'.map mk73)) l'.length))→False from fun l' h1 hns hsm _ _ _=>(by have e:=zdN h1 HEV1.out;have e2:l'=l:=congrArg (fun r=>r.1) e;rw[e2] at hns hsm;exact HNT.out hns hsm));refine yA (n:=10) (S:=fun w'=>w'.cell? ⟨(ad.add (j * 4)).block,(ad.add (j * 4)).off+2,none⟩=some (.int .i64 x.f0.f2)) (ds:=[]) #[false,false,false,false,false,false,false,false,false,false] (by kernel_rfl) rfl rfl h2 (fun hHeld=>?_);refine jG (fun W=>W.cell? ⟨(ad.add (j * 4)).block,(ad.add (j * 4)).off+2,none⟩=some (.int .i64 x.f0.f2)∧W.heap[g2]?=some (.cells Z26 26 (0,0))∧W.heap[g3]?=some (.cells Z51 51 (0,0))∧Below w.heap.size w W) ⟨h2,BK BK2,BK BK3,BL HB⟩ ?_;clear hHeld;rintro W ⟨hHeld,hb2,hb3,hbw⟩;replace BK2:=K_ hb2;replace BK3:=K_ hb3;replace HB:=K_ hbw;clear hb2 hb3 hbw;refine pw_ 0 77 (bb 10 1) ?_;refine pw_ 1 78 (bb 10 3) ?_;refine pw_ 2 79 (bb 10 7) ?_;refine pw_ 3 80 (bb 10 15) ?_;refine pw_ 4 81 (bb 10 31) ?_;refine pw_ 5 82 (bb 10 63) ?_;refine tw_ 6 83 (bb 10 127) hHeld ?_;refine pw_ 7 84 (bb 10 255) ?_;refine on_ 8 none (bb 10 511) (fun K hK=>?_);refine yL (g:=g2) (cs:=Z26) Z26 BK2 ?_ rfl rfl rfl rfl rfl jR rfl rfl;intro w8 hbk hfar hbel;have hHeld2:=zau hfar (p:=⟨(ad.add (j * 4)).block,(ad.add (j * 4)).off+2,none⟩) hb2 hHeld
      replace BK3:=K_ (hfar g3 _ (Ne.symm NB.out) BK3.out);replace BK2:=K_ hbk;replace HB:=K_ (hbel _ _ GE2.out HB.out);refine hK.out _ _ hHeld2 (fun _=>?_);clear hK K hbk hfar hbel;refine on_ 9 none (bb 10 1023) (fun K hK=>?_);refine yL (g:=g3) (cs:=Z51) #[.int .i64 4,.int .i64 x.f0.f2] BK3 ?_ rfl rfl rfl rfl rfl qC rfl rfl;intro w9 hbk hfar hbel;have hHeld3:=zau hfar (p:=⟨(ad.add (j * 4)).block,(ad.add (j * 4)).off+2,none⟩) hb3 hHeld2;replace BK2:=K_ (hfar g2 _ NB.out BK2.out);replace BK3:=K_ hbk;replace HB:=K_ (hbel _ _ GE3.out HB.out);refine hK.out _ _ hHeld3 (fun _=>?_);clear hK K hbk hfar hbel;refine yN (by kernel_rfl) ?_;go_wp2_with (fail)
      (
       refine bodyPost_ret (qZ rfl _ _ g2 g3 26 51 Z26 #[.int .i64 4,.int .i64 x.f0.f2] (0,0) (0,0) _ _ rfl BK2.out Tryz.underlying26 rfl jR rfl BK3.out Tryz.underlying51 rfl qC) rfl ?_;exact⟨_,_,_,_,[],[],[],[],jN,false,0,0,0,4,x.f0.f2,rfl,Kd.R_nil _ _ _ _ _,Kd.R_nil _ _ _ _ _,Kd.R_nil _ _ _ _ _,Kd.R_nil _ _ _ _ _,BL HB,fun h=>absurd h HEV.out,fun l' h1 h2 h3 P0 h4 h5=>(HE.out l' h1 h2 h3 P0 h4 h5).elim⟩)
     have dsm:decide (0≤sm)=false:=decide_eq_false hs0;go_wp2_with (go_at_call 56;refine ((HC _).out).mono ?_;rintro e w' ⟨rfl,hb⟩;replace HZ:=K_ (Kd.R_below (RB HZ.out) hb);replace HB:=zF HB hb;replace BK2:=zC BK2 hb;replace BK3:=zC BK3 hb;replace BK5:=zC BK5 hb;clear hb)
     go_roundw
     case rel=>exact⟨j+1,(j:Int),by omega,by go_num,rfl,by omega,fun h1 h2=>(HNT.out h1 h2).elim,RB HZ.out,BK BK5,BK BK2,BK BK3,BL HB⟩
     case measure=>simp[intOf];omega
    obtain rfl:j=xs.length:=by omega
    have dlt:decide ((xs.length:Int)<(xs.length:Int))=false:=decide_eq_false (by omega);have hcl:=(Kd.R_reads' HZ.out).2.1;go_upto_if 88 with (fail)
    go_cut [11] from 87 to 91 (fun v wx=>(∃ n:Nat,n≤xs.length∧(sm=-1→n=xs.length)∧v=.slice A3 n c3)∧Kd.R k73 73 wx w.heap.size (fun _=>True) (.slice A3 xs.length c3) xs∧wx.heap[g5]?=some (.cells #[.int .i64 0,.int .i64 a1] 51 (0,0))∧wx.heap[g2]?=some (.cells Z26 26 (0,0))∧wx.heap[g3]?=some (.cells Z51 51 (0,0))∧Below w.heap.size w wx)
    case first =>
     by_cases hs0:0≤sm
     ·have dsm:decide (0≤sm)=true:=decide_eq_true hs0
      obtain⟨m,hm⟩:=Int.eq_ofNat_of_zero_le hs0;have hml:m<xs.length:=by have:=HSM.out;omega
      subst hm;have q1:(0:Int)≤(m:Int):=by omega
      have q2:(m:Int)≤(c3:Int):=by omega
      have q3:m≤c3:=by omega
      have q4:((m:Int)).toNat=m:=Int.toNat_natCast _;go_wp2
      go_meet
      case rel=>exact⟨⟨m,by omega,by omega,rfl⟩,RB HZ.out,BK BK5,BK BK2,BK BK3,BL HB⟩
     have dsm:decide (0≤sm)=false:=decide_eq_false hs0;go_wp2
     go_meet
     case rel=>exact⟨⟨xs.length,Nat.le_refl _,fun _=>rfl,rfl⟩,RB HZ.out,BK BK5,BK BK2,BK BK3,BL HB⟩
    case rest =>
     obtain⟨⟨n,hn,hnx,rfl⟩,hz,hb5,hb2,hb3,hbw⟩:=hcut;replace HZ:=K_ hz;replace BK5:=K_ hb5;replace BK2:=K_ hb2;replace BK3:=K_ hb3;replace HB:=K_ hbw;have hy:=Kd.R_take hz hn;clear hz hb5 hb2 hb3 hbw;obtain⟨ys,hys⟩:∃ ys,ys=xs.take n:=⟨_,rfl⟩
     rw[←hys] at hy;obtain rfl:n=ys.length:=by rw[hys,List.length_take];omega
     have HY:=K_ hy;have EQL:=K_ (show ∀ l',Ev (fun k=>zG.f k s) (l',0,0)→l'=l from fun l' h1=>congrArg (fun r=>r.1) (zdN h1 HEV1.out));have HEQ:=K_ (show xO l→zav l→ys=l.map mk73 from fun h1 h2=>by
      have h3:=hnx (HNS.out h1 h2);rw[hys,h3,List.take_length];exact HXS.out h1)
     clear hy hys hnx;go_upto_region 28 with (first
      | (go_at_call 57;refine (zcb A3 c3 ys 0 true _ (Kd.R_reads' (RB HY.out)).2.2 (Kd.R_reads' HY.out).2.1 (by omega)).mono ?_;rintro e9 w' ⟨v1,v2,px,sx,PN,at_,pad,long,E2,a2,rfl,ho1,ho2,hb,hpost,hex⟩;obtain⟨B1,d1,rfl⟩:=Kd.R_slice ho1;obtain⟨B2,d2,rfl⟩:=Kd.R_slice ho2;have HO1:=K_ (Kd.R_lower ho1 (zS (BL HB)));have HO2:=K_ (Kd.R_lower ho2 (zS (BL HB)));have HPO:=K_ hpost;have HEX:=K_ hex;replace HZ:=K_ (Kd.R_below (RB HZ.out) hb);replace HB:=zF HB hb;replace BK2:=zC BK2 hb;replace BK3:=zC BK3 hb;replace BK5:=zC BK5 hb;clear hb ho1 ho2 hpost hex)
      | ((with_reducible refine zE (N:=12) rfl ?_);refine be_ 12 Z76 76 ?_;intro g12 hg w2 hbox hb;have BK12:=K_ hbox;have GE12:=ge_ hg HB;have N2L:=nb_ hg BK2;have N3L:=nb_ hg BK3;have N5L:=nb_ hg BK5;replace HZ:=K_ (Kd.R_below (RB HZ.out) hb);replace HO1:=K_ (Kd.R_below (RB HO1.out) hb);replace HO2:=K_ (Kd.R_below (RB HO2.out) hb);replace HB:=zF HB hb;replace BK2:=zC BK2 hb;replace BK3:=zC BK3 hb;replace BK5:=zC BK5 hb;clear hb hbox hg)
      | ((with_reducible refine zY (p:=12) rfl ?_);refine so_ (g:=g12) (cs:=Z76) (qF (.slice B1 px.length d1) (.slice B2 sx.length d2) PN at_ pad long) ⟨BK BK12⟩ ?_ rfl rfl rfl rfl rfl zbJ rfl rfl;intro w9 hbk hfar hbel;replace HZ:=K_ (vY (RB HZ.out) (BK BK12) (by decide) hfar);replace HO1:=K_ (vY (RB HO1.out) (BK BK12) (by decide) hfar);replace HO2:=K_ (vY (RB HO2.out) (BK BK12) (by decide) hfar);replace BK2:=K_ (hfar _ _ N2L.out (BK BK2));replace BK3:=K_ (hfar _ _ N3L.out (BK BK3));replace BK5:=K_ (hfar _ _ N5L.out (BK BK5));replace BK12:=K_ hbk;replace HB:=K_ (hbel _ _ GE12.out (BL HB));clear hbk hfar hbel)
      | ((with_reducible refine zY (p:=5) rfl ?_);refine so_ (g:=g5) (cs:=#[.int .i64 0,.int .i64 a1]) (#[.int .i64 E2,.int .i64 a2]) ⟨BK BK5⟩ ?_ rfl rfl rfl rfl rfl qC rfl rfl;intro w9 hbk hfar hbel;replace HZ:=K_ (vY (RB HZ.out) (BK BK5) (by decide) hfar);replace HO1:=K_ (vY (RB HO1.out) (BK BK5) (by decide) hfar);replace HO2:=K_ (vY (RB HO2.out) (BK BK5) (by decide) hfar);replace BK2:=K_ (hfar _ _ N2F.out (BK BK2));replace BK3:=K_ (hfar _ _ N3F.out (BK BK3));replace BK12:=K_ (hfar _ _ (Ne.symm N5L.out) (BK BK12));replace BK5:=K_ hbk;replace HB:=K_ (hbel _ _ GE5.out (BL HB));clear hbk hfar hbel))
     obtain⟨⟨q0,q1⟩,q2,q3⟩:=ce2 BK5;by_cases hE:E2=0
     ·subst hE
      have HPOK:=K_ (HPO.out rfl);clear HPO HEX;have hp1:px.length≤400:=by
       rw[HPOK.out.2.1];refine Nat.le_trans (zdo _) (Nat.le_trans (zfj _ _ _) (by omega))
      have hp2:sx.length≤400:=by
       rw[HPOK.out.2.2];refine Nat.le_trans (zdo _) (Nat.le_trans (zfu _ _ _) (by omega))
      go_upto_region 31 with (first
       | ((with_reducible refine zE (N:=103) rfl ?_);refine lm_ (g:=g12) (cs:=qF (.slice B1 px.length d1) (.slice B2 sx.length d2) PN at_ pad long) 2 PN.cs _ ⟨BK BK12⟩ ?_ rfl rfl rfl Tryz.underlying26 rfl jR (zmX _ _ _ _ _ _))
       | ((with_reducible refine zE (N:=13) rfl ?_);refine be_ 13 Z26 26 ?_;intro g13 hg w3 hbox hb;have BK13:=K_ hbox;have GE13:=ge_ hg HB;have N2P:=nb_ hg BK2;have N3P:=nb_ hg BK3;have N12P:=nb_ hg BK12;replace HZ:=K_ (Kd.R_below (RB HZ.out) hb);replace HO1:=K_ (Kd.R_below (RB HO1.out) hb);replace HO2:=K_ (Kd.R_below (RB HO2.out) hb);replace HB:=zF HB hb;replace BK2:=zC BK2 hb;replace BK3:=zC BK3 hb;replace BK12:=zC BK12 hb;clear hb hbox hg)
       | ((with_reducible refine zY (p:=13) rfl ?_);refine so_ (g:=g13) (cs:=Z26) (PN.cs) ⟨BK BK13⟩ ?_ rfl rfl rfl rfl rfl jR rfl rfl;intro w9 hbk hfar hbel;replace HZ:=K_ (vY (RB HZ.out) (BK BK13) (by decide) hfar);replace HO1:=K_ (vY (RB HO1.out) (BK BK13) (by decide) hfar);replace HO2:=K_ (vY (RB HO2.out) (BK BK13) (by decide) hfar);replace BK2:=K_ (hfar _ _ N2P.out (BK BK2));replace BK3:=K_ (hfar _ _ N3P.out (BK BK3));replace BK12:=K_ (hfar _ _ N12P.out (BK BK12));replace BK13:=K_ hbk;replace HB:=K_ (hbel _ _ GE13.out (BL HB));clear hbk hfar hbel))
      clear q0 q1 q2 q3;have HEX2:=K_ True.intro;refine yA (n:=16) (S:=fun W=>W.cell? ⟨g12,0,none⟩=some (.slice B1 px.length d1)∧W.cell? ⟨g12,1,none⟩=some (.slice B2 sx.length d2)∧W.cell? ⟨g12,22,none⟩=some (.int .i64 at_)∧W.cell? ⟨g12,23,none⟩=some (.int .i32 pad)) (ds:=[]) #[false,false,false,false,false,false,false,false,false,false,false,false,false,false,false,false] (by kernel_rfl) rfl rfl ⟨(zA (BK BK12) 0).trans rfl,(zA (BK BK12) 1).trans rfl,(zA (BK BK12) 22).trans rfl,(zA (BK BK12) 23).trans rfl⟩ (fun hHeld=>?_);refine jG (fun W=>W.heap[g12]?=some (.cells (qF (.slice B1 px.length d1) (.slice B2 sx.length d2) PN at_ pad long) 76 (0,0))∧W.heap[g13]?=some (.cells (PN.cs) 26 (0,0))∧Kd.R k73 73 W w.heap.size (fun _=>True) (.slice A3 xs.length c3) xs∧Kd.R k80 80 W w.heap.size (fun _=>True) (.slice B1 px.length d1) px∧Kd.R k80 80 W w.heap.size (fun _=>True) (.slice B2 sx.length d2) sx∧W.heap[g2]?=some (.cells Z26 26 (0,0))∧W.heap[g3]?=some (.cells Z51 51 (0,0))∧Below w.heap.size w W) ⟨BK BK12,BK BK13,RB HZ.out,RB HO1.out,RB HO2.out,BK BK2,BK BK3,BL HB⟩ ?_;clear hHeld;rintro W ⟨hb12,hb13,hz,ho1,ho2,hb2,hb3,hbw⟩;replace BK12:=K_ hb12;replace BK13:=K_ hb13;replace HZ:=K_ hz;replace HO1:=K_ ho1;replace HO2:=K_ ho2;replace BK2:=K_ hb2;replace BK3:=K_ hb3;replace HB:=K_ hbw;clear hb12 hb13 hz ho1 ho2 hb2 hb3 hbw;have hHeld:=(show W.cell? ⟨g12,0,none⟩=some (.slice B1 px.length d1)∧W.cell? ⟨g12,1,none⟩=some (.slice B2 sx.length d2)∧W.cell? ⟨g12,22,none⟩=some (.int .i64 at_)∧W.cell? ⟨g12,23,none⟩=some (.int .i32 pad) from ⟨(zA BK12.out 0).trans rfl,(zA BK12.out 1).trans rfl,(zA BK12.out 22).trans rfl,(zA BK12.out 23).trans rfl⟩)
      refine pw_ 0 104 (bb 16 1) ?_;refine pw_ 2 106 (bb 16 5) ?_;refine pw_ 4 108 (bb 16 21) ?_;refine pw_ 6 110 (bb 16 85) ?_;refine tw_ 1 105 (bb 16 87) hHeld ?_;refine tw_ 3 107 (bb 16 95) hHeld ?_;refine tw_ 5 109 (bb 16 127) hHeld ?_;refine tw_ 7 111 (bb 16 255) hHeld ?_;refine pw_ 8 112 (bb 16 511) ?_;refine on_ 9 none (bb 16 1023) (fun K hK=>?_);have hs:W.cell? ⟨g13,0,none⟩=some (.slice none 0 0):=(zA BK13.out 0).trans rfl;have hf:=zL BK13.out 0;refine zaD (w1:=W.setCell ⟨g13,0,none⟩ (.slice B1 px.length d1)) (by rfl) rfl (by go_simp;try rfl) ?_;refine hK.out _ _ (show (W.setCell ⟨g13,0,none⟩ (.slice B1 px.length d1)).cell? ⟨g12,0,none⟩=some (.slice B1 px.length d1)∧(W.setCell ⟨g13,0,none⟩ (.slice B1 px.length d1)).cell? ⟨g12,1,none⟩=some (.slice B2 sx.length d2)∧(W.setCell ⟨g13,0,none⟩ (.slice B1 px.length d1)).cell? ⟨g12,22,none⟩=some (.int .i64 at_)∧(W.setCell ⟨g13,0,none⟩ (.slice B1 px.length d1)).cell? ⟨g12,23,none⟩=some (.int .i32 pad) from ⟨(zA (zR BK12.out N12P.out _) 0).trans rfl,(zA (zR BK12.out N12P.out _) 1).trans rfl,(zA (zR BK12.out N12P.out _) 22).trans rfl,(zA (zR BK12.out N12P.out _) 23).trans rfl⟩) (fun _=>?_);clear hK K hs hf hHeld;refine jG (fun W=>W.heap[g12]?=some (.cells (qF (.slice B1 px.length d1) (.slice B2 sx.length d2) PN at_ pad long) 76 (0,0))∧W.heap[g13]?=some (.cells (xY (.slice B1 px.length d1) (.slice none 0 0) false (.slice none 0 0) (.slice none 0 0) PN 0 0 0) 26 (0,0))∧Kd.R k73 73 W w.heap.size (fun _=>True) (.slice A3 xs.length c3) xs∧Kd.R k80 80 W w.heap.size (fun _=>True) (.slice B1 px.length d1) px∧Kd.R k80 80 W w.heap.size (fun _=>True) (.slice B2 sx.length d2) sx∧W.heap[g2]?=some (.cells Z26 26 (0,0))∧W.heap[g3]?=some (.cells Z51 51 (0,0))∧Below w.heap.size w W) ⟨zR BK12.out N12P.out _,xB BK13.out rfl,Kd.R_set HZ.out BK13.out (by decide) _ _,Kd.R_set HO1.out BK13.out (by decide) _ _,Kd.R_set HO2.out BK13.out (by decide) _ _,zR BK2.out N2P.out _,zR BK3.out N3P.out _,BL HB⟩ ?_
      clear BK12 BK13 HZ HO1 HO2 BK2 BK3 HB;rintro W ⟨hb12,hb13,hz,ho1,ho2,hb2,hb3,hbw⟩;have BK12:=K_ hb12;have BK13:=K_ hb13;have HZ:=K_ hz;have HO1:=K_ ho1;have HO2:=K_ ho2;have BK2:=K_ hb2;have BK3:=K_ hb3;have HB:=K_ hbw;clear hb12 hb13 hz ho1 ho2 hb2 hb3 hbw;have hHeld:=(show W.cell? ⟨g12,0,none⟩=some (.slice B1 px.length d1)∧W.cell? ⟨g12,1,none⟩=some (.slice B2 sx.length d2)∧W.cell? ⟨g12,22,none⟩=some (.int .i64 at_)∧W.cell? ⟨g12,23,none⟩=some (.int .i32 pad) from ⟨(zA BK12.out 0).trans rfl,(zA BK12.out 1).trans rfl,(zA BK12.out 22).trans rfl,(zA BK12.out 23).trans rfl⟩)
      refine pw_ 10 113 (bb 16 2047) ?_;refine on_ 11 none (bb 16 4095) (fun K hK=>?_);have hs:W.cell? ⟨g13,1,none⟩=some (.slice none 0 0):=(zA BK13.out 1).trans rfl;have hf:=zL BK13.out 1;refine zaD (w1:=W.setCell ⟨g13,1,none⟩ (.slice B2 sx.length d2)) (by rfl) rfl (by go_simp;try rfl) ?_;refine hK.out _ _ (show (W.setCell ⟨g13,1,none⟩ (.slice B2 sx.length d2)).cell? ⟨g12,0,none⟩=some (.slice B1 px.length d1)∧(W.setCell ⟨g13,1,none⟩ (.slice B2 sx.length d2)).cell? ⟨g12,1,none⟩=some (.slice B2 sx.length d2)∧(W.setCell ⟨g13,1,none⟩ (.slice B2 sx.length d2)).cell? ⟨g12,22,none⟩=some (.int .i64 at_)∧(W.setCell ⟨g13,1,none⟩ (.slice B2 sx.length d2)).cell? ⟨g12,23,none⟩=some (.int .i32 pad) from ⟨(zA (zR BK12.out N12P.out _) 0).trans rfl,(zA (zR BK12.out N12P.out _) 1).trans rfl,(zA (zR BK12.out N12P.out _) 22).trans rfl,(zA (zR BK12.out N12P.out _) 23).trans rfl⟩) (fun _=>?_);clear hK K hs hf hHeld;refine jG (fun W=>W.heap[g12]?=some (.cells (qF (.slice B1 px.length d1) (.slice B2 sx.length d2) PN at_ pad long) 76 (0,0))∧W.heap[g13]?=some (.cells (xY (.slice B1 px.length d1) (.slice B2 sx.length d2) false (.slice none 0 0) (.slice none 0 0) PN 0 0 0) 26 (0,0))∧Kd.R k73 73 W w.heap.size (fun _=>True) (.slice A3 xs.length c3) xs∧Kd.R k80 80 W w.heap.size (fun _=>True) (.slice B1 px.length d1) px∧Kd.R k80 80 W w.heap.size (fun _=>True) (.slice B2 sx.length d2) sx∧W.heap[g2]?=some (.cells Z26 26 (0,0))∧W.heap[g3]?=some (.cells Z51 51 (0,0))∧Below w.heap.size w W) ⟨zR BK12.out N12P.out _,xB BK13.out rfl,Kd.R_set HZ.out BK13.out (by decide) _ _,Kd.R_set HO1.out BK13.out (by decide) _ _,Kd.R_set HO2.out BK13.out (by decide) _ _,zR BK2.out N2P.out _,zR BK3.out N3P.out _,BL HB⟩ ?_
      clear BK12 BK13 HZ HO1 HO2 BK2 BK3 HB;rintro W ⟨hb12,hb13,hz,ho1,ho2,hb2,hb3,hbw⟩;have BK12:=K_ hb12;have BK13:=K_ hb13;have HZ:=K_ hz;have HO1:=K_ ho1;have HO2:=K_ ho2;have BK2:=K_ hb2;have BK3:=K_ hb3;have HB:=K_ hbw;clear hb12 hb13 hz ho1 ho2 hb2 hb3 hbw;have hHeld:=(show W.cell? ⟨g12,0,none⟩=some (.slice B1 px.length d1)∧W.cell? ⟨g12,1,none⟩=some (.slice B2 sx.length d2)∧W.cell? ⟨g12,22,none⟩=some (.int .i64 at_)∧W.cell? ⟨g12,23,none⟩=some (.int .i32 pad) from ⟨(zA BK12.out 0).trans rfl,(zA BK12.out 1).trans rfl,(zA BK12.out 22).trans rfl,(zA BK12.out 23).trans rfl⟩)
      refine pw_ 12 114 (bb 16 8191) ?_;refine on_ 13 none (bb 16 16383) (fun K hK=>?_);have hs:W.cell? ⟨g13,17,none⟩=some (.int .i64 0):=(zA BK13.out 17).trans rfl;have hf:=zL BK13.out 17;refine zaD (w1:=W.setCell ⟨g13,17,none⟩ (.int .i64 at_)) (by rfl) rfl (by go_simp;try rfl) ?_;refine hK.out _ _ (show (W.setCell ⟨g13,17,none⟩ (.int .i64 at_)).cell? ⟨g12,0,none⟩=some (.slice B1 px.length d1)∧(W.setCell ⟨g13,17,none⟩ (.int .i64 at_)).cell? ⟨g12,1,none⟩=some (.slice B2 sx.length d2)∧(W.setCell ⟨g13,17,none⟩ (.int .i64 at_)).cell? ⟨g12,22,none⟩=some (.int .i64 at_)∧(W.setCell ⟨g13,17,none⟩ (.int .i64 at_)).cell? ⟨g12,23,none⟩=some (.int .i32 pad) from ⟨(zA (zR BK12.out N12P.out _) 0).trans rfl,(zA (zR BK12.out N12P.out _) 1).trans rfl,(zA (zR BK12.out N12P.out _) 22).trans rfl,(zA (zR BK12.out N12P.out _) 23).trans rfl⟩) (fun _=>?_);clear hK K hs hf hHeld;refine jG (fun W=>W.heap[g12]?=some (.cells (qF (.slice B1 px.length d1) (.slice B2 sx.length d2) PN at_ pad long) 76 (0,0))∧W.heap[g13]?=some (.cells (xY (.slice B1 px.length d1) (.slice B2 sx.length d2) false (.slice none 0 0) (.slice none 0 0) PN at_ 0 0) 26 (0,0))∧Kd.R k73 73 W w.heap.size (fun _=>True) (.slice A3 xs.length c3) xs∧Kd.R k80 80 W w.heap.size (fun _=>True) (.slice B1 px.length d1) px∧Kd.R k80 80 W w.heap.size (fun _=>True) (.slice B2 sx.length d2) sx∧W.heap[g2]?=some (.cells Z26 26 (0,0))∧W.heap[g3]?=some (.cells Z51 51 (0,0))∧Below w.heap.size w W) ⟨zR BK12.out N12P.out _,xB BK13.out rfl,Kd.R_set HZ.out BK13.out (by decide) _ _,Kd.R_set HO1.out BK13.out (by decide) _ _,Kd.R_set HO2.out BK13.out (by decide) _ _,zR BK2.out N2P.out _,zR BK3.out N3P.out _,BL HB⟩ ?_
      clear BK12 BK13 HZ HO1 HO2 BK2 BK3 HB;rintro W ⟨hb12,hb13,hz,ho1,ho2,hb2,hb3,hbw⟩;have BK12:=K_ hb12;have BK13:=K_ hb13;have HZ:=K_ hz;have HO1:=K_ ho1;have HO2:=K_ ho2;have BK2:=K_ hb2;have BK3:=K_ hb3;have HB:=K_ hbw;clear hb12 hb13 hz ho1 ho2 hb2 hb3 hbw;have hHeld:=(show W.cell? ⟨g12,0,none⟩=some (.slice B1 px.length d1)∧W.cell? ⟨g12,1,none⟩=some (.slice B2 sx.length d2)∧W.cell? ⟨g12,22,none⟩=some (.int .i64 at_)∧W.cell? ⟨g12,23,none⟩=some (.int .i32 pad) from ⟨(zA BK12.out 0).trans rfl,(zA BK12.out 1).trans rfl,(zA BK12.out 22).trans rfl,(zA BK12.out 23).trans rfl⟩)
      refine pw_ 14 115 (bb 16 32767) ?_;refine on_ 15 none (bb 16 65535) (fun K hK=>?_);have hs:W.cell? ⟨g13,18,none⟩=some (.int .i32 0):=(zA BK13.out 18).trans rfl;have hf:=zL BK13.out 18;refine zaD (w1:=W.setCell ⟨g13,18,none⟩ (.int .i32 pad)) (by rfl) rfl (by go_simp;try rfl) ?_;refine hK.out _ _ (show (W.setCell ⟨g13,18,none⟩ (.int .i32 pad)).cell? ⟨g12,0,none⟩=some (.slice B1 px.length d1)∧(W.setCell ⟨g13,18,none⟩ (.int .i32 pad)).cell? ⟨g12,1,none⟩=some (.slice B2 sx.length d2)∧(W.setCell ⟨g13,18,none⟩ (.int .i32 pad)).cell? ⟨g12,22,none⟩=some (.int .i64 at_)∧(W.setCell ⟨g13,18,none⟩ (.int .i32 pad)).cell? ⟨g12,23,none⟩=some (.int .i32 pad) from ⟨(zA (zR BK12.out N12P.out _) 0).trans rfl,(zA (zR BK12.out N12P.out _) 1).trans rfl,(zA (zR BK12.out N12P.out _) 22).trans rfl,(zA (zR BK12.out N12P.out _) 23).trans rfl⟩) (fun _=>?_);clear hK K hs hf hHeld;refine jG (fun W=>W.heap[g12]?=some (.cells (qF (.slice B1 px.length d1) (.slice B2 sx.length d2) PN at_ pad long) 76 (0,0))∧W.heap[g13]?=some (.cells (xY (.slice B1 px.length d1) (.slice B2 sx.length d2) false (.slice none 0 0) (.slice none 0 0) PN at_ pad 0) 26 (0,0))∧Kd.R k73 73 W w.heap.size (fun _=>True) (.slice A3 xs.length c3) xs∧Kd.R k80 80 W w.heap.size (fun _=>True) (.slice B1 px.length d1) px∧Kd.R k80 80 W w.heap.size (fun _=>True) (.slice B2 sx.length d2) sx∧W.heap[g2]?=some (.cells Z26 26 (0,0))∧W.heap[g3]?=some (.cells Z51 51 (0,0))∧Below w.heap.size w W) ⟨zR BK12.out N12P.out _,xB BK13.out rfl,Kd.R_set HZ.out BK13.out (by decide) _ _,Kd.R_set HO1.out BK13.out (by decide) _ _,Kd.R_set HO2.out BK13.out (by decide) _ _,zR BK2.out N2P.out _,zR BK3.out N3P.out _,BL HB⟩ ?_
      clear BK12 BK13 HZ HO1 HO2 BK2 BK3 HB;rintro W ⟨hb12,hb13,hz,ho1,ho2,hb2,hb3,hbw⟩;have BK12:=K_ hb12;have BK13:=K_ hb13;have HZ:=K_ hz;have HO1:=K_ ho1;have HO2:=K_ ho2;have BK2:=K_ hb2;have BK3:=K_ hb3;have HB:=K_ hbw;clear hb12 hb13 hz ho1 ho2 hb2 hb3 hbw;have hHeld:=(show W.cell? ⟨g12,0,none⟩=some (.slice B1 px.length d1)∧W.cell? ⟨g12,1,none⟩=some (.slice B2 sx.length d2)∧W.cell? ⟨g12,22,none⟩=some (.int .i64 at_)∧W.cell? ⟨g12,23,none⟩=some (.int .i32 pad) from ⟨(zA BK12.out 0).trans rfl,(zA BK12.out 1).trans rfl,(zA BK12.out 22).trans rfl,(zA BK12.out 23).trans rfl⟩)
      refine yN (by kernel_rfl) ?_;clear hHeld;have e0:W.cell? ⟨g12,0,none⟩=some (.slice B1 px.length d1):=(zA BK12.out 0).trans rfl;have e1:W.cell? ⟨g12,1,none⟩=some (.slice B2 sx.length d2):=(zA BK12.out 1).trans rfl;have e22:W.cell? ⟨g12,22,none⟩=some (.int .i64 at_):=(zA BK12.out 22).trans rfl;have e24:W.cell? ⟨g12,24,none⟩=some (.int .i64 long):=(zA BK12.out 24).trans rfl;have s19:W.cell? ⟨g13,19,none⟩=some (.int .i64 0):=(zA BK13.out 19).trans rfl;have f19:=zL BK13.out 19;go_upto_if 118 with (fail)
      go_cut [] from 116 to 129 (fun wx=>∃ wd:Int,wx.heap[g12]?=some (.cells (qF (.slice B1 px.length d1) (.slice B2 sx.length d2) PN at_ pad long) 76 (0,0))∧wx.heap[g13]?=some (.cells (xY (.slice B1 px.length d1) (.slice B2 sx.length d2) false (.slice none 0 0) (.slice none 0 0) PN at_ pad wd) 26 (0,0))∧Kd.R k73 73 wx w.heap.size (fun _=>True) (.slice A3 xs.length c3) xs∧Kd.R k80 80 wx w.heap.size (fun _=>True) (.slice B1 px.length d1) px∧Kd.R k80 80 wx w.heap.size (fun _=>True) (.slice B2 sx.length d2) sx∧wx.heap[g2]?=some (.cells Z26 26 (0,0))∧wx.heap[g3]?=some (.cells Z51 51 (0,0))∧Below w.heap.size w wx)
      case first =>
       by_cases ha:0<at_
       ·have da:decide (0<at_)=true:=decide_eq_true ha
        go_wp2
        go_meet
        case rel=>exact⟨_,zR BK12.out N12P.out _,xB BK13.out rfl,Kd.R_set HZ.out BK13.out (by decide) _ _,Kd.R_set HO1.out BK13.out (by decide) _ _,Kd.R_set HO2.out BK13.out (by decide) _ _,zR BK2.out N2P.out _,zR BK3.out N3P.out _,BL HB⟩
       have da:decide (0<at_)=false:=decide_eq_false ha;go_wp2
       go_meet
       case rel=>exact⟨0,BK BK12,BK BK13,RB HZ.out,RB HO1.out,RB HO2.out,BK BK2,BK BK3,BL HB⟩
      case rest =>
       obtain⟨wd,hb12,hb13,hz,ho1,ho2,hb2,hb3,hbw⟩:=hcut;clear e0 e1 e22 e24 s19 f19;replace BK12:=K_ hb12;replace BK13:=K_ hb13;replace HZ:=K_ hz;replace HO1:=K_ ho1;replace HO2:=K_ ho2;replace BK2:=K_ hb2;replace BK3:=K_ hb3;replace HB:=K_ hbw;clear hb12 hb13 hz ho1 ho2 hb2 hb3 hbw;have e0:=(show wc.cell? ⟨g12,0,none⟩=some (.slice B1 px.length d1) from (zA BK12.out 0).trans rfl)
       have HLEN:=K_ (show (([⟨2,0⟩]:List S80).length+px.length) * 16≤140737488355328 by simp;omega);go_upto_region 35 with (first
        | ((with_reducible refine zE (N:=131) rfl ?_);refine Kd.R_lit k80 (w0:=w) w.heap.size 80 ?hg (N:=131) ?hd (xs:=([⟨2,0⟩]:List S80)) (inner:=[.int .i64 2,.int .i32 0]) (ok:=fun _=>True) (okp:=fun _=>True) ?hr ?hp (fun _ hk=>hk) trivial (BL HB) (zS (BL HB)) (by simp) ?_;(case hd=>rfl);(case hg=>rfl);(case hr=>first|(go_simp;done)|(go_simp;rfl));(case hp=>exact zoU _ _ _ (⟨2,0⟩:S80));intro v5 w6 ho5 hb5 hg5 hnew;obtain⟨b5,hv5,hb5s⟩:=hnew;have hbl:=Below.grown (Below.refl _ _) hg5 (Nat.le_refl _) (fun _ h=>by cases h);replace HO1:=K_ (Kd.R_elder' (RB HO1.out) (fun k hk=>by rw[hv5] at hk;cases hk;exact hb5s) hbl);replace HO2:=K_ (Kd.R_elder' (RB HO2.out) (fun k hk=>by rw[hv5] at hk;cases hk;exact hb5s) hbl);replace HZ:=K_ (Kd.R_below (RB HZ.out) hbl);replace BK12:=zC BK12 hbl;replace BK13:=zC BK13 hbl;replace BK2:=zC BK2 hbl;replace BK3:=zC BK3 hbl;replace HB:=K_ hb5;have HO5:=K_ ho5;clear ho5 hb5 hg5 hv5 hb5s hbl e0;have e0:=(show w6.cell? ⟨g12,0,none⟩=some (.slice B1 px.length d1) from (zA BK12.out 0).trans rfl))
        | ((with_reducible refine jH (b:=.append) (xs:=#[.tmp 131,.tmp 133]) rfl ?_);at_builtin;(refine Kd.R_append_rows k80 (w0:=w) w.heap.size rfl (.tmp 131) (.tmp 133) 24 80 (.agg #[(.int .i64 0),(.int .i32 0)]) 16 rfl Tryz.underlying24 zpu rfl (by decide) (by omega) v5 ([⟨2,0⟩]:List S80) px B1 px.length d1 (fun _=>True) (fun _=>False) rfl rfl ?aO ?aR (fun _ _ h=>h) (fun _ h=>h.elim) (fun _ _=>trivial) ?aB ?aS ?aL ?_;(case aO=>exact RB HO5.out);(case aR=>exact (Kd.R_reads' HO1.out).2.2);(case aB=>exact BL HB);(case aS=>exact zS (BL HB));(case aL=>exact HLEN.out);intro v6 w7 ho6 hb6 hg6 hat6;obtain⟨A6,c6,rfl⟩:=Kd.R_slice ho6;have HO6:=K_ ho6;replace HO1:=K_ (Kd.R_mono (ok':=fun _=>True) (Kd.R_grown HO1.out hg6 (fun k hk=>hk.2)) (fun _ _=>trivial));replace HO2:=K_ (Kd.R_mono (ok':=fun _=>True) (Kd.R_grown HO2.out hg6 (fun k hk=>hk.2)) (fun _ _=>trivial));replace HZ:=K_ (Kd.R_over HZ.out HO5.out (by decide) hg6);replace BK12:=K_ (yQ BK12.out hg6 (Kd.R_ne HO5.out BK12.out (by decide)));replace BK13:=K_ (yQ BK13.out hg6 (Kd.R_ne HO5.out BK13.out (by decide)));replace BK2:=K_ (yQ BK2.out hg6 (Kd.R_ne HO5.out BK2.out (by decide)));replace BK3:=K_ (yQ BK3.out hg6 (Kd.R_ne HO5.out BK3.out (by decide)));replace HB:=K_ hb6;clear ho6 hb6 hg6 hat6 HO5;have s3:=(show w7.cell? ⟨g13,3,none⟩=some (.slice none 0 0) from (zA BK13.out 3).trans rfl);have f3:=zL BK13.out 3)))
       refine zbs (fun W=>Kd.R k80 80 W w.heap.size (fun _=>True) (.slice A6 ([(⟨2,0⟩:S80)]++px).length c6) ([⟨2,0⟩]++px)∧W.heap[g12]?=some (.cells (qF (.slice B1 px.length d1) (.slice B2 sx.length d2) PN at_ pad long) 76 (0,0))∧W.heap[g13]?=some (.cells (xY (.slice B1 px.length d1) (.slice B2 sx.length d2) false (.slice A6 ([(⟨2,0⟩:S80)]++px).length c6) (.slice none 0 0) PN at_ pad wd) 26 (0,0))∧Kd.R k73 73 W w.heap.size (fun _=>True) (.slice A3 xs.length c3) xs∧Kd.R k80 80 W w.heap.size (fun _=>True) (.slice B1 px.length d1) px∧Kd.R k80 80 W w.heap.size (fun _=>True) (.slice B2 sx.length d2) sx∧W.heap[g2]?=some (.cells Z26 26 (0,0))∧W.heap[g3]?=some (.cells Z51 51 (0,0))∧Below w.heap.size w W) ⟨Kd.R_set HO6.out BK13.out (by decide) _ _,zR BK12.out N12P.out _,xB BK13.out rfl,Kd.R_set HZ.out BK13.out (by decide) _ _,Kd.R_set HO1.out BK13.out (by decide) _ _,Kd.R_set HO2.out BK13.out (by decide) _ _,zR BK2.out N2P.out _,zR BK3.out N3P.out _,BL HB⟩ ?_;clear e0 s3 f3 HO6 BK12 BK13 HZ HO1 HO2 BK2 BK3 HB;rintro W5 ⟨ho6,hb12,hb13,hz,ho1,ho2,hb2,hb3,hbw⟩;have HO6:=K_ ho6;have BK12:=K_ hb12;have BK13:=K_ hb13;have HZ:=K_ hz;have HO1:=K_ ho1;have HO2:=K_ ho2;have BK2:=K_ hb2;have BK3:=K_ hb3;have HB:=K_ hbw;clear hb12 hb13 hz ho1 ho2 hb2 hb3 hbw;clear ho6;have e1:=(show W5.cell? ⟨g12,1,none⟩=some (.slice B2 sx.length d2) from (zA BK12.out 1).trans rfl)
       have s4:=(show W5.cell? ⟨g13,4,none⟩=some (.slice none 0 0) from (zA BK13.out 4).trans rfl)
       have f4:=zL BK13.out 4;go_upto_if 140 with (fail)
       refine zbs (fun W=>Kd.R k80 80 W w.heap.size (fun _=>True) (.slice A6 ([(⟨2,0⟩:S80)]++px).length c6) ([⟨2,0⟩]++px)∧W.heap[g12]?=some (.cells (qF (.slice B1 px.length d1) (.slice B2 sx.length d2) PN at_ pad long) 76 (0,0))∧W.heap[g13]?=some (.cells (xY (.slice B1 px.length d1) (.slice B2 sx.length d2) false (.slice A6 ([(⟨2,0⟩:S80)]++px).length c6) (.slice B2 sx.length d2) PN at_ pad wd) 26 (0,0))∧Kd.R k73 73 W w.heap.size (fun _=>True) (.slice A3 xs.length c3) xs∧Kd.R k80 80 W w.heap.size (fun _=>True) (.slice B1 px.length d1) px∧Kd.R k80 80 W w.heap.size (fun _=>True) (.slice B2 sx.length d2) sx∧W.heap[g2]?=some (.cells Z26 26 (0,0))∧W.heap[g3]?=some (.cells Z51 51 (0,0))∧Below w.heap.size w W) ⟨Kd.R_set HO6.out BK13.out (by decide) _ _,zR BK12.out N12P.out _,xB BK13.out rfl,Kd.R_set HZ.out BK13.out (by decide) _ _,Kd.R_set HO1.out BK13.out (by decide) _ _,Kd.R_set HO2.out BK13.out (by decide) _ _,zR BK2.out N2P.out _,zR BK3.out N3P.out _,BL HB⟩ ?_;clear e1 s4 f4 HO6 BK12 BK13 HZ HO1 HO2 BK2 BK3 HB;rintro W6 ⟨ho6,hb12,hb13,hz,ho1,ho2,hb2,hb3,hbw⟩;have HO6:=K_ ho6;have BK12:=K_ hb12;have BK13:=K_ hb13;have HZ:=K_ hz;have HO1:=K_ ho1;have HO2:=K_ ho2;have BK2:=K_ hb2;have BK3:=K_ hb3;have HB:=K_ hbw;clear hb12 hb13 hz ho1 ho2 hb2 hb3 hbw;clear ho6;have HG1:=K_ (show vS px by rw[HPOK.out.2.1];exact zcy _);have HG2:=K_ (show vS sx by rw[HPOK.out.2.2];exact zcy _);go_cut [14,15] from 139 to 167 (fun _ _ wx=>∃ (hn:Bool) (v3 v4:Value) (nx ny:List S80),Kd.R k80 80 wx w.heap.size (fun _=>True) v3 nx∧Kd.R k80 80 wx w.heap.size (fun _=>True) v4 ny∧(vS nx∧vS ny)∧nx.length≤1000∧ny.length≤1000∧(xO l→zav l→nx=⟨2,0⟩ :: px∧ny=sx)∧wx.heap[g13]?=some (.cells (xY (.slice B1 px.length d1) (.slice B2 sx.length d2) hn v3 v4 PN at_ pad wd) 26 (0,0))∧Kd.R k80 80 wx w.heap.size (fun _=>True) (.slice B1 px.length d1) px∧Kd.R k80 80 wx w.heap.size (fun _=>True) (.slice B2 sx.length d2) sx∧wx.heap[g2]?=some (.cells Z26 26 (0,0))∧wx.heap[g3]?=some (.cells Z51 51 (0,0))∧Below w.heap.size w wx)
       case first =>
        by_cases hs0:0≤sm
        ·have dsm:decide (0≤sm)=true:=decide_eq_true hs0
         obtain⟨m,hm⟩:=Int.eq_ofNat_of_zero_le hs0;have hml:m<xs.length:=by have:=HSM.out;omega
         subst hm;have HNT:=K_ (show xO l→zav l→False from fun q1 q2=>by have:=HNS.out q1 q2;omega);go_upto_region 37 with (fail)
         obtain⟨x,hx⟩:∃ x,x=xs[m]:=⟨_,rfl⟩
         have hcx:=(Kd.R_reads' HZ.out).2.1;obtain⟨ad,ea,h0,h1,h2,h3⟩:=zaw (Kd.R_reads' HZ.out).2.2 (m:Int) (by omega) (by omega);obtain rfl:=ea;rw[zcN hml,←hx] at h0 h1 h2 h3;simp only[Int.toNat_natCast] at h0 h1 h2 h3
         clear hx h0 h1 h3;obtain⟨m1,hm1⟩:∃ m1,m1=m+1:=⟨_,rfl⟩
         have hm1l:m1≤xs.length:=by omega
         have hwm:IntKind.i64.wrap ((m:Int)+1)=((m1:Nat):Int):=by rw[IntKind.wrap_i64];omega
         have hww:wrap64 ((m:Int)+1)=((m1:Nat):Int):=by unfold wrap64;omega
         obtain⟨zs,hzs⟩:∃ zs,zs=xs.drop m1:=⟨_,rfl⟩
         obtain⟨A4,hA4⟩:∃ A4:Option Addr,(if c3=m1 then some ad else (some ad).map (·.add (m1 * 4)))=A4:=⟨_,rfl⟩
         have hzl:xs.length-m1=zs.length:=by rw[hzs,List.length_drop]
         have hzl4:zs.length≤400:=by omega
         have hc4:=Kd.C_drop (Kd.R_reads' HZ.out).2.2 hm1l hcx;rw[←hzs,show k73.sz=4 from rfl,hA4] at hc4;have HC4:=K_ hc4;obtain⟨cz,hcz⟩:∃ cz,c3-m1=cz:=⟨_,rfl⟩
         have hczl:zs.length≤cz:=by omega
         have hi0:(0:Int)≤(m:Int):=by omega
         have hi1:(m:Int)<(xs.length:Int):=by omega
         obtain⟨i73,hi73,hsz73⟩:=zoA;have HBX:=K_ (Below.refl W6.heap.size W6);clear hc4 hzs hm1;refine yA (n:=19) (S:=fun W=>W.cell? ⟨(ad.add (m * 4)).block,(ad.add (m * 4)).off+2,none⟩=some (.int .i64 x.f0.f2)) (ds:=[]) #[false,false,false,false,false,false,false,false,false,false,false,false,false,false,false,false,false,false,false] (by kernel_rfl) rfl rfl h2 (fun hHeld=>?_);refine jG (fun W=>W.cell? ⟨(ad.add (m * 4)).block,(ad.add (m * 4)).off+2,none⟩=some (.int .i64 x.f0.f2)∧Kd.C k73 W A4 zs.length zs∧W.heap[g13]?=some (.cells (xY (.slice B1 px.length d1) (.slice B2 sx.length d2) false (.slice A6 ([(⟨2,0⟩:S80)]++px).length c6) (.slice B2 sx.length d2) PN at_ pad wd) 26 (0,0))∧Kd.R k80 80 W w.heap.size (fun _=>True) (.slice B1 px.length d1) px∧Kd.R k80 80 W w.heap.size (fun _=>True) (.slice B2 sx.length d2) sx∧W.heap[g2]?=some (.cells Z26 26 (0,0))∧W.heap[g3]?=some (.cells Z51 51 (0,0))∧Below w.heap.size w W) ⟨h2,Kd.C_below HC4.out (BL HBX),BK BK13,RB HO1.out,RB HO2.out,BK BK2,BK BK3,BL HB⟩ ?_;clear hHeld h2 HC4 BK12 HZ HO6 HBX BK13 HO1 HO2 BK2 BK3 HB;rintro W ⟨hHeld,hc4,hb13,ho1,ho2,hb2,hb3,hbw⟩;have HC4:=K_ hc4;have BK13:=K_ hb13;have HO1:=K_ ho1;have HO2:=K_ ho2;have BK2:=K_ hb2;have BK3:=K_ hb3;have HB:=K_ hbw;clear hc4 hb13 ho1 ho2 hb2 hb3 hbw;refine pw_ 0 142 (bb 19 1) ?_;refine pw_ 1 143 (bb 19 3) ?_;refine pw_ 2 144 (bb 19 7) ?_;refine jI (i:=3) (N:=some 145) (bb 19 15) rfl rfl (by kernel_rfl) (fun _ _ _ h=>h) (v:=.slice A4 zs.length cz) (Or.inl ⟨by rfl,zpp rfl rfl rfl Tryz.underlying69 hi73 hsz73 hm1l hA4 hzl hcz⟩) (by simp only[Act.put,List.setIfInBounds_toArray,List.set_cons_zero,List.set_cons_succ];rfl) ?_
         refine pw_ 4 146 (bb 19 31) ?_;refine pw_ 5 147 (bb 19 63) ?_;refine pw_ 6 148 (bb 19 127) ?_;refine pw_ 7 149 (bb 19 255) ?_;refine pw_ 8 150 (bb 19 511) ?_;refine tw_ 9 151 (bb 19 1023) hHeld ?_;refine pw_ 10 152 (bb 19 2047) ?_;clear hwm hww hi0 hi1 hi73 hsz73;refine zaC (σ:=Value×Int×Int×Nat×Nat) 2 (bb 19 131071) (fun s:Value×Int×Int×Nat×Nat=>[(153,.tuple #[s.1,.agg #[.int .i64 s.2.1,.int .i64 s.2.2.1]]),(141,.tuple #[s.1,.agg #[.int .i64 s.2.1,.int .i64 s.2.2.1]]),(154,s.1),(155,.agg #[.int .i64 s.2.1,.int .i64 s.2.2.1]),(14,.pointer (some ⟨s.2.2.2.1,0,none⟩)),(15,.pointer (some ⟨s.2.2.2.2,0,none⟩))]) (fun s W=>(∃ (B5:Option Addr) (e5:Nat) (B6:Option Addr) (e6:Nat) (px2 sx2:List S80) (P2:jY) (at2 pad2 long2:Int),s.1=.agg (qF (.slice B5 px2.length e5) (.slice B6 sx2.length e6) P2 at2 pad2 long2)∧Kd.R k80 80 W w.heap.size (fun _=>True) (.slice B5 px2.length e5) px2∧Kd.R k80 80 W w.heap.size (fun _=>True) (.slice B6 sx2.length e6) sx2∧(s.2.1=0→xW zs P2∧px2=jJ (uF zs (qK zs) zs.length)∧sx2=jJ (uE zs (qE zs) zs.length)))∧W.heap[s.2.2.2.1]?=some (.cells Z76 76 (0,0))∧W.heap[s.2.2.2.2]?=some (.cells Z51 51 (0,0))∧s.2.2.2.1≠s.2.2.2.2∧g2≠s.2.2.2.1∧g2≠s.2.2.2.2∧g3≠s.2.2.2.1∧g3≠s.2.2.2.2∧g13≠s.2.2.2.1∧g13≠s.2.2.2.2∧w.heap.size≤s.2.2.2.1∧w.heap.size≤s.2.2.2.2∧(ad.add (m * 4)).block≠s.2.2.2.1∧(ad.add (m * 4)).block≠s.2.2.2.2∧W.cell? ⟨(ad.add (m * 4)).block,(ad.add (m * 4)).off+2,none⟩=some (.int .i64 x.f0.f2)∧W.heap[g13]?=some (.cells (xY (.slice B1 px.length d1) (.slice B2 sx.length d2) false (.slice A6 ([(⟨2,0⟩:S80)]++px).length c6) (.slice B2 sx.length d2) PN at_ pad wd) 26 (0,0))∧Kd.R k80 80 W w.heap.size (fun _=>True) (.slice B1 px.length d1) px∧Kd.R k80 80 W w.heap.size (fun _=>True) (.slice B2 sx.length d2) sx∧W.heap[g2]?=some (.cells Z26 26 (0,0))∧W.heap[g3]?=some (.cells Z51 51 (0,0))∧Below w.heap.size w W) ?hc37 ?hr37
         case hr37 =>
          intro hCont;refine zoV (i:=11) (j:=15) (k:=16) (Ni:=some 153) (Nj:=some 14) (Nk:=some 15) (bb 19 4095) (bb 19 34815) (bb 19 67583) rfl rfl rfl rfl rfl rfl (by kernel_rfl) (by decide) (by decide) (by decide) (fun K hK=>?_) (fun K hK=>?_) (fun K hK=>?_)
          ·skip
           refine gq_ Tryz.func57 #[.slice A4 zs.length cz,.int .i64 _,.bool false] ?_;refine (zcb A4 cz zs _ false _ HC4.out hczl (by omega)).mono ?_;rintro e9 w20 ⟨v1,v2,px2,sx2,P2,at2,pad2,long2,E3,a3,rfl,hq1,hq2,hb,hpost,-⟩;obtain⟨B5,e5,rfl⟩:=Kd.R_slice hq1;obtain⟨B6,e6,rfl⟩:=Kd.R_slice hq2;refine⟨_,rfl,?_⟩;have HPQ:=K_ hpost;have HQ1:=K_ (Kd.R_lower hq1 (zS HB.out));have HQ2:=K_ (Kd.R_lower hq2 (zS HB.out));have hh20:=(Below.cell hb (World.block_lt_of_cell? _ _ hHeld)).trans hHeld;replace HC4:=K_ (Kd.C_below HC4.out hb);replace HO1:=K_ (Kd.R_below HO1.out hb);replace HO2:=K_ (Kd.R_below HO2.out hb);replace BK13:=zC BK13 hb;replace BK2:=zC BK2 hb;replace BK3:=zC BK3 hb;replace HB:=zF HB hb;clear hb hpost hq1 hq2 hHeld;have hHeld:=hh20;clear hh20;refine hK.out _ _ hHeld (fun _=>?_);clear hK K;refine no_ (some 153) ?_;refine pw_ 12 141 (bb 19 8191) ?_;refine pw_ 13 154 (bb 19 16383) ?_;refine pw_ 14 155 (bb 19 32767) ?_;refine zcJ (i:=15) (j:=16) (Ni:=some 14) (Nj:=some 15) (bb 19 65535) (bb 19 98303) rfl rfl rfl rfl (by kernel_rfl) (by decide) (by decide) (fun K hK=>?_) (fun K hK=>?_)
           ·skip
            refine bs_ 14 (Z76) 76 ?_;intro g14 hg w21 hbox hb;have BK14:=K_ hbox;have GE14:=ge_ hg HB;have N2x14:=nb_ hg BK2;have N3x14:=nb_ hg BK3;have N13x14:=nb_ hg BK13;have NCx14:=zdH hHeld hg;have hh21:=(Below.cell hb (World.block_lt_of_cell? _ _ hHeld)).trans hHeld;replace HC4:=K_ (Kd.C_below HC4.out hb);replace HO1:=K_ (Kd.R_below HO1.out hb);replace HO2:=K_ (Kd.R_below HO2.out hb);replace HQ1:=K_ (Kd.R_below HQ1.out hb);replace HQ2:=K_ (Kd.R_below HQ2.out hb);replace BK13:=zC BK13 hb;replace BK2:=zC BK2 hb;replace BK3:=zC BK3 hb;replace HB:=zF HB hb;clear hb hbox hg hHeld;have hHeld:=hh21;clear hh21;refine hK.out _ _ hHeld (fun _=>?_);clear hK K;refine no_ (some 14) ?_;refine on_ 16 (some 15) (bb 19 131071) (fun K hK=>?_);refine bs_ 15 (Z51) 51 ?_;intro g15 hg w22 hbox hb;have BK15:=K_ hbox;have GE15:=ge_ hg HB;have N2x15:=nb_ hg BK2;have N3x15:=nb_ hg BK3;have N13x15:=nb_ hg BK13;have NCx15:=zdH hHeld hg;have N1415:=nb_ hg BK14;have hh22:=(Below.cell hb (World.block_lt_of_cell? _ _ hHeld)).trans hHeld;replace HC4:=K_ (Kd.C_below HC4.out hb);replace HO1:=K_ (Kd.R_below HO1.out hb);replace HO2:=K_ (Kd.R_below HO2.out hb);replace HQ1:=K_ (Kd.R_below HQ1.out hb);replace HQ2:=K_ (Kd.R_below HQ2.out hb);replace BK13:=zC BK13 hb;replace BK2:=zC BK2 hb;replace BK3:=zC BK3 hb;replace BK14:=zC BK14 hb;replace HB:=zF HB hb;clear hb hbox hg hHeld;have hHeld:=hh22;clear hh22;refine hK.out _ _ hHeld (fun _=>?_);clear hK K;refine no_ (some 15) ?_;exact nj_ (hCont (.agg (qF (.slice B5 px2.length e5) (.slice B6 sx2.length e6) P2 at2 pad2 long2),E3,a3,g14,g15) _ ⟨⟨B5,e5,B6,e6,px2,sx2,P2,at2,pad2,long2,rfl,HQ1.out,HQ2.out,HPQ.out⟩,BK14.out,BK15.out,N1415.out,N2x14.out,N2x15.out,N3x14.out,N3x15.out,N13x14.out,N13x15.out,GE14.out,GE15.out,NCx14,NCx15,hHeld,BK13.out,HO1.out,HO2.out,BK2.out,BK3.out,HB.out⟩)
           skip
           refine bs_ 15 (Z51) 51 ?_;intro g15 hg w21 hbox hb;have BK15:=K_ hbox;have GE15:=ge_ hg HB;have N2x15:=nb_ hg BK2;have N3x15:=nb_ hg BK3;have N13x15:=nb_ hg BK13;have NCx15:=zdH hHeld hg;have hh21:=(Below.cell hb (World.block_lt_of_cell? _ _ hHeld)).trans hHeld;replace HC4:=K_ (Kd.C_below HC4.out hb);replace HO1:=K_ (Kd.R_below HO1.out hb);replace HO2:=K_ (Kd.R_below HO2.out hb);replace HQ1:=K_ (Kd.R_below HQ1.out hb);replace HQ2:=K_ (Kd.R_below HQ2.out hb);replace BK13:=zC BK13 hb;replace BK2:=zC BK2 hb;replace BK3:=zC BK3 hb;replace HB:=zF HB hb;clear hb hbox hg hHeld;have hHeld:=hh21;clear hh21;refine hK.out _ _ hHeld (fun _=>?_);clear hK K;refine no_ (some 15) ?_;refine on_ 15 (some 14) (bb 19 131071) (fun K hK=>?_);refine bs_ 14 (Z76) 76 ?_;intro g14 hg w22 hbox hb;have BK14:=K_ hbox;have GE14:=ge_ hg HB;have N2x14:=nb_ hg BK2;have N3x14:=nb_ hg BK3;have N13x14:=nb_ hg BK13;have NCx14:=zdH hHeld hg;have NX:=nb_ hg BK15;have N1415:=K_ (Ne.symm NX.out);clear NX;have hh22:=(Below.cell hb (World.block_lt_of_cell? _ _ hHeld)).trans hHeld;replace HC4:=K_ (Kd.C_below HC4.out hb);replace HO1:=K_ (Kd.R_below HO1.out hb);replace HO2:=K_ (Kd.R_below HO2.out hb);replace HQ1:=K_ (Kd.R_below HQ1.out hb);replace HQ2:=K_ (Kd.R_below HQ2.out hb);replace BK13:=zC BK13 hb;replace BK2:=zC BK2 hb;replace BK3:=zC BK3 hb;replace BK15:=zC BK15 hb;replace HB:=zF HB hb;clear hb hbox hg hHeld;have hHeld:=hh22;clear hh22;refine hK.out _ _ hHeld (fun _=>?_);clear hK K;refine no_ (some 14) ?_
           exact nj_ (hCont (.agg (qF (.slice B5 px2.length e5) (.slice B6 sx2.length e6) P2 at2 pad2 long2),E3,a3,g14,g15) _ ⟨⟨B5,e5,B6,e6,px2,sx2,P2,at2,pad2,long2,rfl,HQ1.out,HQ2.out,HPQ.out⟩,BK14.out,BK15.out,N1415.out,N2x14.out,N2x15.out,N3x14.out,N3x15.out,N13x14.out,N13x15.out,GE14.out,GE15.out,NCx14,NCx15,hHeld,BK13.out,HO1.out,HO2.out,BK2.out,BK3.out,HB.out⟩)
          ·skip
           refine bs_ 14 (Z76) 76 ?_;intro g14 hg w20 hbox hb;have BK14:=K_ hbox;have GE14:=ge_ hg HB;have N2x14:=nb_ hg BK2;have N3x14:=nb_ hg BK3;have N13x14:=nb_ hg BK13;have NCx14:=zdH hHeld hg;have hh20:=(Below.cell hb (World.block_lt_of_cell? _ _ hHeld)).trans hHeld;replace HC4:=K_ (Kd.C_below HC4.out hb);replace HO1:=K_ (Kd.R_below HO1.out hb);replace HO2:=K_ (Kd.R_below HO2.out hb);replace BK13:=zC BK13 hb;replace BK2:=zC BK2 hb;replace BK3:=zC BK3 hb;replace HB:=zF HB hb;clear hb hbox hg hHeld;have hHeld:=hh20;clear hh20;refine hK.out _ _ hHeld (fun _=>?_);clear hK K;refine no_ (some 14) ?_;refine zcJ (i:=11) (j:=16) (Ni:=some 153) (Nj:=some 15) (bb 19 36863) (bb 19 100351) rfl rfl rfl rfl (by kernel_rfl) (by decide) (by decide) (fun K hK=>?_) (fun K hK=>?_)
           ·skip
            refine gq_ Tryz.func57 #[.slice A4 zs.length cz,.int .i64 _,.bool false] ?_;refine (zcb A4 cz zs _ false _ HC4.out hczl (by omega)).mono ?_;rintro e9 w21 ⟨v1,v2,px2,sx2,P2,at2,pad2,long2,E3,a3,rfl,hq1,hq2,hb,hpost,-⟩;obtain⟨B5,e5,rfl⟩:=Kd.R_slice hq1;obtain⟨B6,e6,rfl⟩:=Kd.R_slice hq2;refine⟨_,rfl,?_⟩;have HPQ:=K_ hpost;have HQ1:=K_ (Kd.R_lower hq1 (zS HB.out));have HQ2:=K_ (Kd.R_lower hq2 (zS HB.out));have hh21:=(Below.cell hb (World.block_lt_of_cell? _ _ hHeld)).trans hHeld;replace HC4:=K_ (Kd.C_below HC4.out hb);replace HO1:=K_ (Kd.R_below HO1.out hb);replace HO2:=K_ (Kd.R_below HO2.out hb);replace BK13:=zC BK13 hb;replace BK2:=zC BK2 hb;replace BK3:=zC BK3 hb;replace BK14:=zC BK14 hb;replace HB:=zF HB hb;clear hb hpost hq1 hq2 hHeld;have hHeld:=hh21;clear hh21;refine hK.out _ _ hHeld (fun _=>?_);clear hK K;refine no_ (some 153) ?_;refine pw_ 12 141 (bb 19 40959) ?_;refine pw_ 13 154 (bb 19 49151) ?_;refine pw_ 14 155 (bb 19 65535) ?_;refine on_ 16 (some 15) (bb 19 131071) (fun K hK=>?_);refine bs_ 15 (Z51) 51 ?_;intro g15 hg w22 hbox hb;have BK15:=K_ hbox;have GE15:=ge_ hg HB;have N2x15:=nb_ hg BK2;have N3x15:=nb_ hg BK3;have N13x15:=nb_ hg BK13;have NCx15:=zdH hHeld hg;have N1415:=nb_ hg BK14;have hh22:=(Below.cell hb (World.block_lt_of_cell? _ _ hHeld)).trans hHeld;replace HC4:=K_ (Kd.C_below HC4.out hb);replace HO1:=K_ (Kd.R_below HO1.out hb);replace HO2:=K_ (Kd.R_below HO2.out hb);replace HQ1:=K_ (Kd.R_below HQ1.out hb);replace HQ2:=K_ (Kd.R_below HQ2.out hb)
            replace BK13:=zC BK13 hb;replace BK2:=zC BK2 hb;replace BK3:=zC BK3 hb;replace BK14:=zC BK14 hb;replace HB:=zF HB hb;clear hb hbox hg hHeld;have hHeld:=hh22;clear hh22;refine hK.out _ _ hHeld (fun _=>?_);clear hK K;refine no_ (some 15) ?_;exact nj_ (hCont (.agg (qF (.slice B5 px2.length e5) (.slice B6 sx2.length e6) P2 at2 pad2 long2),E3,a3,g14,g15) _ ⟨⟨B5,e5,B6,e6,px2,sx2,P2,at2,pad2,long2,rfl,HQ1.out,HQ2.out,HPQ.out⟩,BK14.out,BK15.out,N1415.out,N2x14.out,N2x15.out,N3x14.out,N3x15.out,N13x14.out,N13x15.out,GE14.out,GE15.out,NCx14,NCx15,hHeld,BK13.out,HO1.out,HO2.out,BK2.out,BK3.out,HB.out⟩)
           skip
           refine bs_ 15 (Z51) 51 ?_;intro g15 hg w21 hbox hb;have BK15:=K_ hbox;have GE15:=ge_ hg HB;have N2x15:=nb_ hg BK2;have N3x15:=nb_ hg BK3;have N13x15:=nb_ hg BK13;have NCx15:=zdH hHeld hg;have N1415:=nb_ hg BK14;have hh21:=(Below.cell hb (World.block_lt_of_cell? _ _ hHeld)).trans hHeld;replace HC4:=K_ (Kd.C_below HC4.out hb);replace HO1:=K_ (Kd.R_below HO1.out hb);replace HO2:=K_ (Kd.R_below HO2.out hb);replace BK13:=zC BK13 hb;replace BK2:=zC BK2 hb;replace BK3:=zC BK3 hb;replace BK14:=zC BK14 hb;replace HB:=zF HB hb;clear hb hbox hg hHeld;have hHeld:=hh21;clear hh21;refine hK.out _ _ hHeld (fun _=>?_);clear hK K;refine no_ (some 15) ?_;refine on_ 11 (some 153) (bb 19 102399) (fun K hK=>?_);refine gq_ Tryz.func57 #[.slice A4 zs.length cz,.int .i64 _,.bool false] ?_;refine (zcb A4 cz zs _ false _ HC4.out hczl (by omega)).mono ?_;rintro e9 w22 ⟨v1,v2,px2,sx2,P2,at2,pad2,long2,E3,a3,rfl,hq1,hq2,hb,hpost,-⟩;obtain⟨B5,e5,rfl⟩:=Kd.R_slice hq1;obtain⟨B6,e6,rfl⟩:=Kd.R_slice hq2;refine⟨_,rfl,?_⟩;have HPQ:=K_ hpost;have HQ1:=K_ (Kd.R_lower hq1 (zS HB.out));have HQ2:=K_ (Kd.R_lower hq2 (zS HB.out));have hh22:=(Below.cell hb (World.block_lt_of_cell? _ _ hHeld)).trans hHeld;replace HC4:=K_ (Kd.C_below HC4.out hb);replace HO1:=K_ (Kd.R_below HO1.out hb);replace HO2:=K_ (Kd.R_below HO2.out hb);replace BK13:=zC BK13 hb;replace BK2:=zC BK2 hb;replace BK3:=zC BK3 hb;replace BK14:=zC BK14 hb;replace BK15:=zC BK15 hb;replace HB:=zF HB hb;clear hb hpost hq1 hq2 hHeld;have hHeld:=hh22;clear hh22
           refine hK.out _ _ hHeld (fun _=>?_);clear hK K;refine no_ (some 153) ?_;refine pw_ 12 141 (bb 19 106495) ?_;refine pw_ 13 154 (bb 19 114687) ?_;refine pw_ 14 155 (bb 19 131071) ?_;exact nj_ (hCont (.agg (qF (.slice B5 px2.length e5) (.slice B6 sx2.length e6) P2 at2 pad2 long2),E3,a3,g14,g15) _ ⟨⟨B5,e5,B6,e6,px2,sx2,P2,at2,pad2,long2,rfl,HQ1.out,HQ2.out,HPQ.out⟩,BK14.out,BK15.out,N1415.out,N2x14.out,N2x15.out,N3x14.out,N3x15.out,N13x14.out,N13x15.out,GE14.out,GE15.out,NCx14,NCx15,hHeld,BK13.out,HO1.out,HO2.out,BK2.out,BK3.out,HB.out⟩)
          skip
          refine bs_ 15 (Z51) 51 ?_;intro g15 hg w20 hbox hb;have BK15:=K_ hbox;have GE15:=ge_ hg HB;have N2x15:=nb_ hg BK2;have N3x15:=nb_ hg BK3;have N13x15:=nb_ hg BK13;have NCx15:=zdH hHeld hg;have hh20:=(Below.cell hb (World.block_lt_of_cell? _ _ hHeld)).trans hHeld;replace HC4:=K_ (Kd.C_below HC4.out hb);replace HO1:=K_ (Kd.R_below HO1.out hb);replace HO2:=K_ (Kd.R_below HO2.out hb);replace BK13:=zC BK13 hb;replace BK2:=zC BK2 hb;replace BK3:=zC BK3 hb;replace HB:=zF HB hb;clear hb hbox hg hHeld;have hHeld:=hh20;clear hh20;refine hK.out _ _ hHeld (fun _=>?_);clear hK K;refine no_ (some 15) ?_;refine zcJ (i:=11) (j:=15) (Ni:=some 153) (Nj:=some 14) (bb 19 69631) (bb 19 100351) rfl rfl rfl rfl (by kernel_rfl) (by decide) (by decide) (fun K hK=>?_) (fun K hK=>?_)
          ·skip
           refine gq_ Tryz.func57 #[.slice A4 zs.length cz,.int .i64 _,.bool false] ?_;refine (zcb A4 cz zs _ false _ HC4.out hczl (by omega)).mono ?_;rintro e9 w21 ⟨v1,v2,px2,sx2,P2,at2,pad2,long2,E3,a3,rfl,hq1,hq2,hb,hpost,-⟩;obtain⟨B5,e5,rfl⟩:=Kd.R_slice hq1;obtain⟨B6,e6,rfl⟩:=Kd.R_slice hq2;refine⟨_,rfl,?_⟩;have HPQ:=K_ hpost;have HQ1:=K_ (Kd.R_lower hq1 (zS HB.out));have HQ2:=K_ (Kd.R_lower hq2 (zS HB.out));have hh21:=(Below.cell hb (World.block_lt_of_cell? _ _ hHeld)).trans hHeld;replace HC4:=K_ (Kd.C_below HC4.out hb);replace HO1:=K_ (Kd.R_below HO1.out hb);replace HO2:=K_ (Kd.R_below HO2.out hb);replace BK13:=zC BK13 hb;replace BK2:=zC BK2 hb;replace BK3:=zC BK3 hb;replace BK15:=zC BK15 hb;replace HB:=zF HB hb;clear hb hpost hq1 hq2 hHeld;have hHeld:=hh21;clear hh21;refine hK.out _ _ hHeld (fun _=>?_);clear hK K;refine no_ (some 153) ?_;refine pw_ 12 141 (bb 19 73727) ?_;refine pw_ 13 154 (bb 19 81919) ?_;refine pw_ 14 155 (bb 19 98303) ?_;refine on_ 15 (some 14) (bb 19 131071) (fun K hK=>?_);refine bs_ 14 (Z76) 76 ?_;intro g14 hg w22 hbox hb;have BK14:=K_ hbox;have GE14:=ge_ hg HB;have N2x14:=nb_ hg BK2;have N3x14:=nb_ hg BK3;have N13x14:=nb_ hg BK13;have NCx14:=zdH hHeld hg;have NX:=nb_ hg BK15;have N1415:=K_ (Ne.symm NX.out);clear NX;have hh22:=(Below.cell hb (World.block_lt_of_cell? _ _ hHeld)).trans hHeld;replace HC4:=K_ (Kd.C_below HC4.out hb);replace HO1:=K_ (Kd.R_below HO1.out hb);replace HO2:=K_ (Kd.R_below HO2.out hb);replace HQ1:=K_ (Kd.R_below HQ1.out hb);replace HQ2:=K_ (Kd.R_below HQ2.out hb)
           replace BK13:=zC BK13 hb;replace BK2:=zC BK2 hb;replace BK3:=zC BK3 hb;replace BK15:=zC BK15 hb;replace HB:=zF HB hb;clear hb hbox hg hHeld;have hHeld:=hh22;clear hh22;refine hK.out _ _ hHeld (fun _=>?_);clear hK K;refine no_ (some 14) ?_;exact nj_ (hCont (.agg (qF (.slice B5 px2.length e5) (.slice B6 sx2.length e6) P2 at2 pad2 long2),E3,a3,g14,g15) _ ⟨⟨B5,e5,B6,e6,px2,sx2,P2,at2,pad2,long2,rfl,HQ1.out,HQ2.out,HPQ.out⟩,BK14.out,BK15.out,N1415.out,N2x14.out,N2x15.out,N3x14.out,N3x15.out,N13x14.out,N13x15.out,GE14.out,GE15.out,NCx14,NCx15,hHeld,BK13.out,HO1.out,HO2.out,BK2.out,BK3.out,HB.out⟩)
          skip
          refine bs_ 14 (Z76) 76 ?_;intro g14 hg w21 hbox hb;have BK14:=K_ hbox;have GE14:=ge_ hg HB;have N2x14:=nb_ hg BK2;have N3x14:=nb_ hg BK3;have N13x14:=nb_ hg BK13;have NCx14:=zdH hHeld hg;have NX:=nb_ hg BK15;have N1415:=K_ (Ne.symm NX.out);clear NX;have hh21:=(Below.cell hb (World.block_lt_of_cell? _ _ hHeld)).trans hHeld;replace HC4:=K_ (Kd.C_below HC4.out hb);replace HO1:=K_ (Kd.R_below HO1.out hb);replace HO2:=K_ (Kd.R_below HO2.out hb);replace BK13:=zC BK13 hb;replace BK2:=zC BK2 hb;replace BK3:=zC BK3 hb;replace BK15:=zC BK15 hb;replace HB:=zF HB hb;clear hb hbox hg hHeld;have hHeld:=hh21;clear hh21;refine hK.out _ _ hHeld (fun _=>?_);clear hK K;refine no_ (some 14) ?_;refine on_ 11 (some 153) (bb 19 102399) (fun K hK=>?_);refine gq_ Tryz.func57 #[.slice A4 zs.length cz,.int .i64 _,.bool false] ?_;refine (zcb A4 cz zs _ false _ HC4.out hczl (by omega)).mono ?_;rintro e9 w22 ⟨v1,v2,px2,sx2,P2,at2,pad2,long2,E3,a3,rfl,hq1,hq2,hb,hpost,-⟩;obtain⟨B5,e5,rfl⟩:=Kd.R_slice hq1;obtain⟨B6,e6,rfl⟩:=Kd.R_slice hq2;refine⟨_,rfl,?_⟩;have HPQ:=K_ hpost;have HQ1:=K_ (Kd.R_lower hq1 (zS HB.out));have HQ2:=K_ (Kd.R_lower hq2 (zS HB.out));have hh22:=(Below.cell hb (World.block_lt_of_cell? _ _ hHeld)).trans hHeld;replace HC4:=K_ (Kd.C_below HC4.out hb);replace HO1:=K_ (Kd.R_below HO1.out hb);replace HO2:=K_ (Kd.R_below HO2.out hb);replace BK13:=zC BK13 hb;replace BK2:=zC BK2 hb;replace BK3:=zC BK3 hb;replace BK14:=zC BK14 hb;replace BK15:=zC BK15 hb;replace HB:=zF HB hb;clear hb hpost hq1 hq2 hHeld
          have hHeld:=hh22;clear hh22;refine hK.out _ _ hHeld (fun _=>?_);clear hK K;refine no_ (some 153) ?_;refine pw_ 12 141 (bb 19 106495) ?_;refine pw_ 13 154 (bb 19 114687) ?_;refine pw_ 14 155 (bb 19 131071) ?_;exact nj_ (hCont (.agg (qF (.slice B5 px2.length e5) (.slice B6 sx2.length e6) P2 at2 pad2 long2),E3,a3,g14,g15) _ ⟨⟨B5,e5,B6,e6,px2,sx2,P2,at2,pad2,long2,rfl,HQ1.out,HQ2.out,HPQ.out⟩,BK14.out,BK15.out,N1415.out,N2x14.out,N2x15.out,N3x14.out,N3x15.out,N13x14.out,N13x15.out,GE14.out,GE15.out,NCx14,NCx15,hHeld,BK13.out,HO1.out,HO2.out,BK2.out,BK3.out,HB.out⟩)
         case hc37 =>
          rintro⟨V,E3,a3,g14,g15⟩ W7 ⟨⟨B5,e5,B6,e6,px2,sx2,P2,at2,pad2,long2,hV,hq1,hq2,hpq⟩,hb14,hb15,n1415,n2x14,n2x15,n3x14,n3x15,n13x14,n13x15,ge14,ge15,ncx14,ncx15,hHeld,hb13,ho1,ho2,hb2,hb3,hbw⟩;dsimp only at hV hq1 hq2 hpq hb14 hb15 n1415 n2x14 n2x15 n3x14 n3x15 n13x14 n13x15 ge14 ge15 ncx14 ncx15;subst hV;have BK14:=K_ hb14;have BK15:=K_ hb15;have N1415:=K_ n1415;have N2x14:=K_ n2x14;have N2x15:=K_ n2x15;have N3x14:=K_ n3x14;have N3x15:=K_ n3x15;have N13x14:=K_ n13x14;have N13x15:=K_ n13x15;have HQ1:=K_ hq1;have HQ2:=K_ hq2;have HPQ:=K_ hpq;have BK13:=K_ hb13;have HO1:=K_ ho1;have HO2:=K_ ho2;have BK2:=K_ hb2;have BK3:=K_ hb3;have HB:=K_ hbw;clear hb14 hb15 n1415 n2x14 n2x15 n3x14 n3x15 n13x14 n13x15 hq1 hq2 hpq hb13 ho1 ho2 hb2 hb3 hbw;refine np_ ?_;refine on_ 17 none (bb 19 262143) (fun K hK=>?_);refine yL (g:=g14) (cs:=Z76) (qF (.slice B5 px2.length e5) (.slice B6 sx2.length e6) P2 at2 pad2 long2) BK14 ?_ rfl rfl rfl rfl rfl zbJ rfl rfl;intro w17 hbk hfar hbel;have hh:=zau hfar (p:=⟨(ad.add (m * 4)).block,(ad.add (m * 4)).off+2,none⟩) ncx14 hHeld;replace HQ1:=K_ (vY HQ1.out BK14.out (by decide) hfar);replace HQ2:=K_ (vY HQ2.out BK14.out (by decide) hfar);replace HO1:=K_ (vY HO1.out BK14.out (by decide) hfar);replace HO2:=K_ (vY HO2.out BK14.out (by decide) hfar);replace BK13:=K_ (hfar _ _ N13x14.out BK13.out);replace BK2:=K_ (hfar _ _ N2x14.out BK2.out);replace BK3:=K_ (hfar _ _ N3x14.out BK3.out);replace BK15:=K_ (hfar _ _ (Ne.symm N1415.out) BK15.out);replace BK14:=K_ hbk
          replace HB:=K_ (hbel _ _ ge14 HB.out);clear hHeld;have hHeld:=hh;refine hK.out _ _ hHeld (fun _=>?_);clear hK K hbk hfar hbel hh;refine on_ 18 none (bb 19 524287) (fun K hK=>?_);refine yL (g:=g15) (cs:=Z51) (#[.int .i64 E3,.int .i64 a3]) BK15 ?_ rfl rfl rfl rfl rfl qC rfl rfl;intro w18 hbk hfar hbel;have hh:=zau hfar (p:=⟨(ad.add (m * 4)).block,(ad.add (m * 4)).off+2,none⟩) ncx15 hHeld;replace HQ1:=K_ (vY HQ1.out BK15.out (by decide) hfar);replace HQ2:=K_ (vY HQ2.out BK15.out (by decide) hfar);replace HO1:=K_ (vY HO1.out BK15.out (by decide) hfar);replace HO2:=K_ (vY HO2.out BK15.out (by decide) hfar);replace BK13:=K_ (hfar _ _ N13x15.out BK13.out);replace BK2:=K_ (hfar _ _ N2x15.out BK2.out);replace BK3:=K_ (hfar _ _ N3x15.out BK3.out);replace BK14:=K_ (hfar _ _ N1415.out BK14.out);replace BK15:=K_ hbk;replace HB:=K_ (hbel _ _ ge15 HB.out);clear hHeld;have hHeld:=hh;refine hK.out _ _ hHeld (fun _=>?_);clear hK K hbk hfar hbel hh;refine yN (by kernel_rfl) ?_;clear hHeld ncx14 ncx15 ge14 ge15;obtain⟨⟨q0,q1⟩,q2,q3⟩:=ce2 BK15;by_cases hE:E3=0
          ·subst hE
           have HQK:=K_ (HPQ.out rfl);have hq1l:px2.length≤1000:=by
            rw[HQK.out.2.1];refine Nat.le_trans (zdo _) (Nat.le_trans (zfj _ _ _) (by omega))
           have hq2l:sx2.length≤1000:=by
            rw[HQK.out.2.2];refine Nat.le_trans (zdo _) (Nat.le_trans (zfu _ _ _) (by omega))
           have HGQ:=K_ (show vS px2∧vS sx2 by rw[HQK.out.2.1,HQK.out.2.2];exact⟨zcy _,zcy _⟩);go_upto_region 40 with (fail)
           clear q0 q1 q2 q3;refine yA (n:=10) (S:=fun W=>W.cell? ⟨g14,0,none⟩=some (.slice B5 px2.length e5)∧W.cell? ⟨g14,1,none⟩=some (.slice B6 sx2.length e6)) (ds:=[]) #[false,false,false,false,false,false,false,false,false,false] (by kernel_rfl) rfl rfl ⟨(zA (BK BK14) 0).trans rfl,(zA (BK BK14) 1).trans rfl⟩ (fun hHeld=>?_);refine jG (fun W=>W.heap[g14]?=some (.cells (qF (.slice B5 px2.length e5) (.slice B6 sx2.length e6) P2 at2 pad2 long2) 76 (0,0))∧Kd.R k80 80 W w.heap.size (fun _=>True) (.slice B5 px2.length e5) px2∧Kd.R k80 80 W w.heap.size (fun _=>True) (.slice B6 sx2.length e6) sx2∧W.heap[g13]?=some (.cells (xY (.slice B1 px.length d1) (.slice B2 sx.length d2) false (.slice A6 ([(⟨2,0⟩:S80)]++px).length c6) (.slice B2 sx.length d2) PN at_ pad wd) 26 (0,0))∧Kd.R k80 80 W w.heap.size (fun _=>True) (.slice B1 px.length d1) px∧Kd.R k80 80 W w.heap.size (fun _=>True) (.slice B2 sx.length d2) sx∧W.heap[g2]?=some (.cells Z26 26 (0,0))∧W.heap[g3]?=some (.cells Z51 51 (0,0))∧Below w.heap.size w W) ⟨BK BK14,RB HQ1.out,RB HQ2.out,BK BK13,RB HO1.out,RB HO2.out,BK BK2,BK BK3,BL HB⟩ ?_;clear hHeld;clear BK14 HQ1 HQ2 BK13 HO1 HO2 BK2 BK3 HB;rintro W ⟨hb14,hq1,hq2,hb13,ho1,ho2,hb2,hb3,hbw⟩;have BK14:=K_ hb14;have HQ1:=K_ hq1;have HQ2:=K_ hq2;have BK13:=K_ hb13;have HO1:=K_ ho1;have HO2:=K_ ho2;have BK2:=K_ hb2;have BK3:=K_ hb3;have HB:=K_ hbw;clear hb14 hq1 hq2 hb13 ho1 ho2 hb2 hb3 hbw;have hHeld:=(show W.cell? ⟨g14,0,none⟩=some (.slice B5 px2.length e5)∧W.cell? ⟨g14,1,none⟩=some (.slice B6 sx2.length e6) from ⟨(zA BK14.out 0).trans rfl,(zA BK14.out 1).trans rfl⟩)
           refine pw_ 0 161 (bb 10 1) ?_;refine pw_ 2 163 (bb 10 5) ?_;refine tw_ 1 162 (bb 10 7) hHeld ?_;refine tw_ 3 164 (bb 10 15) hHeld ?_;refine pw_ 4 165 (bb 10 31) ?_;refine on_ 5 none (bb 10 63) (fun K hK=>?_);have hs:W.cell? ⟨g13,2,none⟩=some (.bool false):=(zA BK13.out 2).trans rfl;have hf:=zL BK13.out 2;refine zaD (w1:=W.setCell ⟨g13,2,none⟩ (.bool true)) (by rfl) rfl (by go_simp;try rfl) ?_;refine hK.out _ _ (show (W.setCell ⟨g13,2,none⟩ (.bool true)).cell? ⟨g14,0,none⟩=some (.slice B5 px2.length e5)∧(W.setCell ⟨g13,2,none⟩ (.bool true)).cell? ⟨g14,1,none⟩=some (.slice B6 sx2.length e6) from ⟨(zA (zR BK14.out (Ne.symm N13x14.out) _) 0).trans rfl,(zA (zR BK14.out (Ne.symm N13x14.out) _) 1).trans rfl⟩) (fun _=>?_);clear hK K hs hf hHeld;refine jG (fun W=>W.heap[g14]?=some (.cells (qF (.slice B5 px2.length e5) (.slice B6 sx2.length e6) P2 at2 pad2 long2) 76 (0,0))∧Kd.R k80 80 W w.heap.size (fun _=>True) (.slice B5 px2.length e5) px2∧Kd.R k80 80 W w.heap.size (fun _=>True) (.slice B6 sx2.length e6) sx2∧W.heap[g13]?=some (.cells (xY (.slice B1 px.length d1) (.slice B2 sx.length d2) true (.slice A6 ([(⟨2,0⟩:S80)]++px).length c6) (.slice B2 sx.length d2) PN at_ pad wd) 26 (0,0))∧Kd.R k80 80 W w.heap.size (fun _=>True) (.slice B1 px.length d1) px∧Kd.R k80 80 W w.heap.size (fun _=>True) (.slice B2 sx.length d2) sx∧W.heap[g2]?=some (.cells Z26 26 (0,0))∧W.heap[g3]?=some (.cells Z51 51 (0,0))∧Below w.heap.size w W) ⟨zR BK14.out (Ne.symm N13x14.out) _,Kd.R_set HQ1.out BK13.out (by decide) _ _,Kd.R_set HQ2.out BK13.out (by decide) _ _,xB BK13.out rfl,Kd.R_set HO1.out BK13.out (by decide) _ _,Kd.R_set HO2.out BK13.out (by decide) _ _,zR BK2.out N2P.out _,zR BK3.out N3P.out _,BL HB⟩ ?_
           clear BK14 HQ1 HQ2 BK13 HO1 HO2 BK2 BK3 HB;rintro W ⟨hb14,hq1,hq2,hb13,ho1,ho2,hb2,hb3,hbw⟩;have BK14:=K_ hb14;have HQ1:=K_ hq1;have HQ2:=K_ hq2;have BK13:=K_ hb13;have HO1:=K_ ho1;have HO2:=K_ ho2;have BK2:=K_ hb2;have BK3:=K_ hb3;have HB:=K_ hbw;clear hb14 hq1 hq2 hb13 ho1 ho2 hb2 hb3 hbw;have hHeld:=(show W.cell? ⟨g14,0,none⟩=some (.slice B5 px2.length e5)∧W.cell? ⟨g14,1,none⟩=some (.slice B6 sx2.length e6) from ⟨(zA BK14.out 0).trans rfl,(zA BK14.out 1).trans rfl⟩)
           refine pw_ 6 166 (bb 10 127) ?_;refine on_ 7 none (bb 10 255) (fun K hK=>?_);have hs:W.cell? ⟨g13,3,none⟩=some (.slice A6 ([(⟨2,0⟩:S80)]++px).length c6):=(zA BK13.out 3).trans rfl;have hf:=zL BK13.out 3;refine zaD (w1:=W.setCell ⟨g13,3,none⟩ (.slice B5 px2.length e5)) (by rfl) rfl (by go_simp;try rfl) ?_;refine hK.out _ _ (show (W.setCell ⟨g13,3,none⟩ (.slice B5 px2.length e5)).cell? ⟨g14,0,none⟩=some (.slice B5 px2.length e5)∧(W.setCell ⟨g13,3,none⟩ (.slice B5 px2.length e5)).cell? ⟨g14,1,none⟩=some (.slice B6 sx2.length e6) from ⟨(zA (zR BK14.out (Ne.symm N13x14.out) _) 0).trans rfl,(zA (zR BK14.out (Ne.symm N13x14.out) _) 1).trans rfl⟩) (fun _=>?_);clear hK K hs hf hHeld;refine jG (fun W=>W.heap[g14]?=some (.cells (qF (.slice B5 px2.length e5) (.slice B6 sx2.length e6) P2 at2 pad2 long2) 76 (0,0))∧Kd.R k80 80 W w.heap.size (fun _=>True) (.slice B5 px2.length e5) px2∧Kd.R k80 80 W w.heap.size (fun _=>True) (.slice B6 sx2.length e6) sx2∧W.heap[g13]?=some (.cells (xY (.slice B1 px.length d1) (.slice B2 sx.length d2) true (.slice B5 px2.length e5) (.slice B2 sx.length d2) PN at_ pad wd) 26 (0,0))∧Kd.R k80 80 W w.heap.size (fun _=>True) (.slice B1 px.length d1) px∧Kd.R k80 80 W w.heap.size (fun _=>True) (.slice B2 sx.length d2) sx∧W.heap[g2]?=some (.cells Z26 26 (0,0))∧W.heap[g3]?=some (.cells Z51 51 (0,0))∧Below w.heap.size w W) ⟨zR BK14.out (Ne.symm N13x14.out) _,Kd.R_set HQ1.out BK13.out (by decide) _ _,Kd.R_set HQ2.out BK13.out (by decide) _ _,xB BK13.out rfl,Kd.R_set HO1.out BK13.out (by decide) _ _,Kd.R_set HO2.out BK13.out (by decide) _ _,zR BK2.out N2P.out _,zR BK3.out N3P.out _,BL HB⟩ ?_
           clear BK14 HQ1 HQ2 BK13 HO1 HO2 BK2 BK3 HB;rintro W ⟨hb14,hq1,hq2,hb13,ho1,ho2,hb2,hb3,hbw⟩;have BK14:=K_ hb14;have HQ1:=K_ hq1;have HQ2:=K_ hq2;have BK13:=K_ hb13;have HO1:=K_ ho1;have HO2:=K_ ho2;have BK2:=K_ hb2;have BK3:=K_ hb3;have HB:=K_ hbw;clear hb14 hq1 hq2 hb13 ho1 ho2 hb2 hb3 hbw;have hHeld:=(show W.cell? ⟨g14,0,none⟩=some (.slice B5 px2.length e5)∧W.cell? ⟨g14,1,none⟩=some (.slice B6 sx2.length e6) from ⟨(zA BK14.out 0).trans rfl,(zA BK14.out 1).trans rfl⟩)
           refine pw_ 8 167 (bb 10 511) ?_;refine on_ 9 none (bb 10 1023) (fun K hK=>?_);have hs:W.cell? ⟨g13,4,none⟩=some (.slice B2 sx.length d2):=(zA BK13.out 4).trans rfl;have hf:=zL BK13.out 4;refine zaD (w1:=W.setCell ⟨g13,4,none⟩ (.slice B6 sx2.length e6)) (by rfl) rfl (by go_simp;try rfl) ?_;refine hK.out _ _ (show (W.setCell ⟨g13,4,none⟩ (.slice B6 sx2.length e6)).cell? ⟨g14,0,none⟩=some (.slice B5 px2.length e5)∧(W.setCell ⟨g13,4,none⟩ (.slice B6 sx2.length e6)).cell? ⟨g14,1,none⟩=some (.slice B6 sx2.length e6) from ⟨(zA (zR BK14.out (Ne.symm N13x14.out) _) 0).trans rfl,(zA (zR BK14.out (Ne.symm N13x14.out) _) 1).trans rfl⟩) (fun _=>?_);clear hK K hs hf hHeld;refine jG (fun W=>W.heap[g14]?=some (.cells (qF (.slice B5 px2.length e5) (.slice B6 sx2.length e6) P2 at2 pad2 long2) 76 (0,0))∧Kd.R k80 80 W w.heap.size (fun _=>True) (.slice B5 px2.length e5) px2∧Kd.R k80 80 W w.heap.size (fun _=>True) (.slice B6 sx2.length e6) sx2∧W.heap[g13]?=some (.cells (xY (.slice B1 px.length d1) (.slice B2 sx.length d2) true (.slice B5 px2.length e5) (.slice B6 sx2.length e6) PN at_ pad wd) 26 (0,0))∧Kd.R k80 80 W w.heap.size (fun _=>True) (.slice B1 px.length d1) px∧Kd.R k80 80 W w.heap.size (fun _=>True) (.slice B2 sx.length d2) sx∧W.heap[g2]?=some (.cells Z26 26 (0,0))∧W.heap[g3]?=some (.cells Z51 51 (0,0))∧Below w.heap.size w W) ⟨zR BK14.out (Ne.symm N13x14.out) _,Kd.R_set HQ1.out BK13.out (by decide) _ _,Kd.R_set HQ2.out BK13.out (by decide) _ _,xB BK13.out rfl,Kd.R_set HO1.out BK13.out (by decide) _ _,Kd.R_set HO2.out BK13.out (by decide) _ _,zR BK2.out N2P.out _,zR BK3.out N3P.out _,BL HB⟩ ?_
           clear BK14 HQ1 HQ2 BK13 HO1 HO2 BK2 BK3 HB;rintro W ⟨hb14,hq1,hq2,hb13,ho1,ho2,hb2,hb3,hbw⟩;have BK14:=K_ hb14;have HQ1:=K_ hq1;have HQ2:=K_ hq2;have BK13:=K_ hb13;have HO1:=K_ ho1;have HO2:=K_ ho2;have BK2:=K_ hb2;have BK3:=K_ hb3;have HB:=K_ hbw;clear hb14 hq1 hq2 hb13 ho1 ho2 hb2 hb3 hbw;have hHeld:=(show W.cell? ⟨g14,0,none⟩=some (.slice B5 px2.length e5)∧W.cell? ⟨g14,1,none⟩=some (.slice B6 sx2.length e6) from ⟨(zA BK14.out 0).trans rfl,(zA BK14.out 1).trans rfl⟩)
           refine yN (by kernel_rfl) ?_;clear hHeld;go_wp2_with (fail)
           go_meet
           case rel=>exact⟨true,_,_,px2,sx2,RB HQ1.out,RB HQ2.out,HGQ.out,hq1l,hq2l,fun q1 q2=>(HNT.out q1 q2).elim,BK BK13,RB HO1.out,RB HO2.out,BK BK2,BK BK3,BL HB⟩
          have dE3:(E3 !=0)=true:=by simpa using hE
          have HEV:=K_ hE;have HE:=K_ (show ∀ l',Ev (fun k=>zG.f k s) (l',0,0)→xO l'→zav l'→∀ P0,xW (l'.map mk73) P0→¬ mixed (jJ (uF (l'.map mk73) (qK (l'.map mk73)) l'.length)) (jJ (uE (l'.map mk73) (qE (l'.map mk73)) l'.length)) (⟨2,0⟩ :: jJ (uF (l'.map mk73) (qK (l'.map mk73)) l'.length)) (jJ (uE (l'.map mk73) (qE (l'.map mk73)) l'.length))→False from fun l' h1 hns hsm _ _ _=>HNT.out (EQL.out l' h1 ▸ hns) (EQL.out l' h1 ▸ hsm));clear hE;go_upto_region 39 with (fail)
          clear q0 q1 q2 q3;refine yA (n:=4) (S:=fun w'=>w'.heap[g15]?=some (.cells #[.int .i64 E3,.int .i64 a3] 51 (0,0))) (ds:=[]) #[false,false,false,false] (by kernel_rfl) rfl rfl (BK BK15) (fun hHeld=>?_);refine jG (fun W=>W.heap[g15]?=some (.cells #[.int .i64 E3,.int .i64 a3] 51 (0,0))∧W.heap[g2]?=some (.cells Z26 26 (0,0))∧W.heap[g3]?=some (.cells Z51 51 (0,0))∧Below w.heap.size w W) ⟨BK BK15,BK BK2,BK BK3,BL HB⟩ ?_;clear hHeld;rintro W ⟨hHeld,hb2,hb3,hbw⟩;replace BK2:=K_ hb2;replace BK3:=K_ hb3;replace HB:=K_ hbw;clear hb2 hb3 hbw;refine pw_ 0 159 (bb 4 1) ?_;refine tr_ 1 160 (bb 4 3) (#[.int .i64 E3,.int .i64 a3]) (fun _ hs=>⟨hs⟩) Tryz.underlying51 qC hHeld ?_;refine on_ 2 none (bb 4 7) (fun K hK=>?_);refine yL (g:=g2) (cs:=Z26) Z26 BK2 ?_ rfl rfl rfl rfl rfl jR rfl rfl;intro w8 hbk hfar hbel;have hHeld2:=hfar g15 _ (Ne.symm N2x15.out) hHeld;replace BK3:=K_ (hfar g3 _ (Ne.symm NB.out) BK3.out);replace BK2:=K_ hbk;replace HB:=K_ (hbel _ _ GE2.out HB.out);refine hK.out _ _ hHeld2 (fun _=>?_);clear hK K hbk hfar hbel;refine on_ 3 none (bb 4 15) (fun K hK=>?_);refine yL (g:=g3) (cs:=Z51) #[.int .i64 E3,.int .i64 a3] BK3 ?_ rfl rfl rfl rfl rfl qC rfl rfl;intro w9 hbk hfar hbel;have hHeld3:=hfar g15 _ (Ne.symm N3x15.out) hHeld2;replace BK2:=K_ (hfar g2 _ NB.out BK2.out);replace BK3:=K_ hbk;replace HB:=K_ (hbel _ _ GE3.out HB.out);refine hK.out _ _ hHeld3 (fun _=>?_);clear hK K hbk hfar hbel;refine yN (by kernel_rfl) ?_;go_wp2_with (fail)
          (
           refine bodyPost_ret (qZ rfl _ _ g2 g3 26 51 Z26 #[.int .i64 E3,.int .i64 a3] (0,0) (0,0) _ _ rfl BK2.out Tryz.underlying26 rfl jR rfl BK3.out Tryz.underlying51 rfl qC) rfl ?_;exact⟨_,_,_,_,[],[],[],[],jN,false,0,0,0,E3,a3,rfl,Kd.R_nil _ _ _ _ _,Kd.R_nil _ _ _ _ _,Kd.R_nil _ _ _ _ _,Kd.R_nil _ _ _ _ _,BL HB,fun h=>absurd h HEV.out,fun l' h1 h2 h3 P0 h4 h5=>(HE.out l' h1 h2 h3 P0 h4 h5).elim⟩)
        have dsm:decide (0≤sm)=false:=decide_eq_false hs0;go_wp2
        go_meet
        case rel=>exact⟨false,_,_,[⟨2,0⟩]++px,sx,RB HO6.out,RB HO2.out,⟨fun x hx=>by rcases List.mem_cons.1 hx with rfl|hx;exact⟨by decide,by decide,fun _=>rfl⟩;exact HG1.out x hx,HG2.out⟩,by simp;omega,by omega,fun _ _=>⟨rfl,rfl⟩,BK BK13,RB HO1.out,RB HO2.out,BK BK2,BK BK3,BL HB⟩
       case rest =>
        obtain⟨hn,v3,v4,nx,ny,ho3,ho4,hgood,hnl,hyl,hex,hb13,ho1,ho2,hb2,hb3,hbw⟩:=hcut;have HO3:=K_ ho3;have HO4:=K_ ho4;have HG:=K_ hgood;have HEN:=K_ hex;replace BK13:=K_ hb13;replace HO1:=K_ ho1;replace HO2:=K_ ho2;replace BK2:=K_ hb2;replace BK3:=K_ hb3;replace HB:=K_ hbw;clear hb13 ho1 ho2 hb2 hb3 hbw;clear ho3 ho4 hgood hex;obtain⟨B3,d3,rfl⟩:=Kd.R_slice HO3.out;obtain⟨B4,d4,rfl⟩:=Kd.R_slice HO4.out;clear HZ BK12;go_upto_region 41 with (fail)
        go_cut [175] from 168 to 175 (fun c wx=>c=.bool (decide (0<sgn 4 px sx nx ny)&&decide (0<sgn 5 px sx nx ny))∧Kd.R k80 80 wx w.heap.size (fun _=>True) (.slice B1 px.length d1) px∧Kd.R k80 80 wx w.heap.size (fun _=>True) (.slice B2 sx.length d2) sx∧Kd.R k80 80 wx w.heap.size (fun _=>True) (.slice B3 nx.length d3) nx∧Kd.R k80 80 wx w.heap.size (fun _=>True) (.slice B4 ny.length d4) ny∧wx.heap[g13]?=some (.cells (xY (.slice B1 px.length d1) (.slice B2 sx.length d2) hn (.slice B3 nx.length d3) (.slice B4 ny.length d4) PN at_ pad wd) 26 (0,0))∧wx.heap[g2]?=some (.cells Z26 26 (0,0))∧wx.heap[g3]?=some (.cells Z51 51 (0,0))∧Below w.heap.size w wx)
        case first =>
         by_cases h4:0<sgn 4 px sx nx ny
         ·have p4:decide (0<sgn 4 px sx nx ny)=true:=decide_eq_true h4
          have r4:decide ((0:Int)<((sgn 4 px sx nx ny:Nat):Int))=true:=decide_eq_true (by omega);have z4:¬ sgn 4 px sx nx ny=0:=by omega
          by_cases h5:0<sgn 5 px sx nx ny
          ·have p5:decide (0<sgn 5 px sx nx ny)=true:=decide_eq_true h5
           have r5:decide ((0:Int)<((sgn 5 px sx nx ny:Nat):Int))=true:=decide_eq_true (by omega);have z5:¬ sgn 5 px sx nx ny=0:=by omega
           go_wp2_with (first|((with_reducible refine zE (N:=168) rfl ?_);refine lo_ (g:=g13) (cs:=xY (.slice B1 px.length d1) (.slice B2 sx.length d2) hn (.slice B3 nx.length d3) (.slice B4 ny.length d4) PN at_ pad wd) _ ⟨BK BK13⟩ ?_ rfl rfl rfl Tryz.underlying26 rfl jR)|((with_reducible refine zE (N:=172) rfl ?_);refine zbK (g:=g13) (cs:=xY (.slice B1 px.length d1) (.slice B2 sx.length d2) hn (.slice B3 nx.length d3) (.slice B4 ny.length d4) PN at_ pad wd) _ ⟨BK BK13⟩ ?_ (by rfl) rfl rfl Tryz.underlying26 rfl jR)|(go_at_call 53;refine (zet B1 B2 B3 B4 d1 d2 d3 d4 px sx nx ny hn PN at_ pad wd _ _ HO1.out HO2.out HO3.out HO4.out (by omega) (by omega) hnl hyl).mono ?_;rintro e9 w' ⟨rfl,hb⟩;replace HO1:=K_ (Kd.R_below (RB HO1.out) hb);replace HO2:=K_ (Kd.R_below (RB HO2.out) hb);replace HO3:=K_ (Kd.R_below (RB HO3.out) hb);replace HO4:=K_ (Kd.R_below (RB HO4.out) hb);replace HB:=zF HB hb;replace BK2:=zC BK2 hb;replace BK3:=zC BK3 hb;replace BK13:=zC BK13 hb;clear hb))
           go_meet
           case rel=>exact⟨by rw[p4,p5];rfl,RB HO1.out,RB HO2.out,RB HO3.out,RB HO4.out,BK BK13,BK BK2,BK BK3,BL HB⟩
          have p5:decide (0<sgn 5 px sx nx ny)=false:=decide_eq_false h5;have r5:decide ((0:Int)<((sgn 5 px sx nx ny:Nat):Int))=false:=decide_eq_false (by omega);have z5:sgn 5 px sx nx ny=0:=by omega
          go_wp2_with (first|((with_reducible refine zE (N:=168) rfl ?_);refine lo_ (g:=g13) (cs:=xY (.slice B1 px.length d1) (.slice B2 sx.length d2) hn (.slice B3 nx.length d3) (.slice B4 ny.length d4) PN at_ pad wd) _ ⟨BK BK13⟩ ?_ rfl rfl rfl Tryz.underlying26 rfl jR)|((with_reducible refine zE (N:=172) rfl ?_);refine zbK (g:=g13) (cs:=xY (.slice B1 px.length d1) (.slice B2 sx.length d2) hn (.slice B3 nx.length d3) (.slice B4 ny.length d4) PN at_ pad wd) _ ⟨BK BK13⟩ ?_ (by rfl) rfl rfl Tryz.underlying26 rfl jR)|(go_at_call 53;refine (zet B1 B2 B3 B4 d1 d2 d3 d4 px sx nx ny hn PN at_ pad wd _ _ HO1.out HO2.out HO3.out HO4.out (by omega) (by omega) hnl hyl).mono ?_;rintro e9 w' ⟨rfl,hb⟩;replace HO1:=K_ (Kd.R_below (RB HO1.out) hb);replace HO2:=K_ (Kd.R_below (RB HO2.out) hb);replace HO3:=K_ (Kd.R_below (RB HO3.out) hb);replace HO4:=K_ (Kd.R_below (RB HO4.out) hb);replace HB:=zF HB hb;replace BK2:=zC BK2 hb;replace BK3:=zC BK3 hb;replace BK13:=zC BK13 hb;clear hb))
          go_meet
          case rel=>exact⟨by rw[p4,p5];rfl,RB HO1.out,RB HO2.out,RB HO3.out,RB HO4.out,BK BK13,BK BK2,BK BK3,BL HB⟩
         have p4:decide (0<sgn 4 px sx nx ny)=false:=decide_eq_false h4;have r4:decide ((0:Int)<((sgn 4 px sx nx ny:Nat):Int))=false:=decide_eq_false (by omega);have z4:sgn 4 px sx nx ny=0:=by omega
         go_wp2_with (first|((with_reducible refine zE (N:=168) rfl ?_);refine lo_ (g:=g13) (cs:=xY (.slice B1 px.length d1) (.slice B2 sx.length d2) hn (.slice B3 nx.length d3) (.slice B4 ny.length d4) PN at_ pad wd) _ ⟨BK BK13⟩ ?_ rfl rfl rfl Tryz.underlying26 rfl jR)|((with_reducible refine zE (N:=172) rfl ?_);refine zbK (g:=g13) (cs:=xY (.slice B1 px.length d1) (.slice B2 sx.length d2) hn (.slice B3 nx.length d3) (.slice B4 ny.length d4) PN at_ pad wd) _ ⟨BK BK13⟩ ?_ (by rfl) rfl rfl Tryz.underlying26 rfl jR)|(go_at_call 53;refine (zet B1 B2 B3 B4 d1 d2 d3 d4 px sx nx ny hn PN at_ pad wd _ _ HO1.out HO2.out HO3.out HO4.out (by omega) (by omega) hnl hyl).mono ?_;rintro e9 w' ⟨rfl,hb⟩;replace HO1:=K_ (Kd.R_below (RB HO1.out) hb);replace HO2:=K_ (Kd.R_below (RB HO2.out) hb);replace HO3:=K_ (Kd.R_below (RB HO3.out) hb);replace HO4:=K_ (Kd.R_below (RB HO4.out) hb);replace HB:=zF HB hb;replace BK2:=zC BK2 hb;replace BK3:=zC BK3 hb;replace BK13:=zC BK13 hb;clear hb))
         go_meet
         case rel=>exact⟨by rw[p4];rfl,RB HO1.out,RB HO2.out,RB HO3.out,RB HO4.out,BK BK13,BK BK2,BK BK3,BL HB⟩
        case rest =>
         obtain⟨rfl,ho1,ho2,ho3,ho4,hb13,hb2,hb3,hbw⟩:=hcut;replace HO1:=K_ ho1;replace HO2:=K_ ho2;replace HO3:=K_ ho3;replace HO4:=K_ ho4;replace BK13:=K_ hb13;replace BK2:=K_ hb2;replace BK3:=K_ hb3;replace HB:=K_ hbw;clear ho1 ho2 ho3 ho4 hb13 hb2 hb3 hbw;by_cases hm:mixed px sx nx ny
         ·have et:(decide (0<sgn 4 px sx nx ny)&&decide (0<sgn 5 px sx nx ny))=true:=by rw[decide_eq_true hm.1,decide_eq_true hm.2];rfl
          rw[et];have HEV:=K_ (show (6:Int)≠0 by decide);have HE:=K_ (show ∀ l',Ev (fun k=>zG.f k s) (l',0,0)→xO l'→zav l'→∀ P0,xW (l'.map mk73) P0→¬ mixed (jJ (uF (l'.map mk73) (qK (l'.map mk73)) l'.length)) (jJ (uE (l'.map mk73) (qE (l'.map mk73)) l'.length)) (⟨2,0⟩ :: jJ (uF (l'.map mk73) (qK (l'.map mk73)) l'.length)) (jJ (uE (l'.map mk73) (qE (l'.map mk73)) l'.length))→False from fun l' h1 hns hsm P0 hok hnm=>by
           have e:=EQL.out l' h1;subst e;have e2:=HEQ.out hns hsm;obtain⟨e3,e4⟩:=HEN.out hns hsm;have e5:=HPOK.out.2;rw[e2] at e5;simp only[List.length_map] at e5
           rw[←e5.1,←e5.2] at hnm;rw[e3,e4] at hm;exact hnm hm)
          clear et hm;go_wp2_with (first
           | ((with_reducible refine zY (p:=2) rfl ?_);refine so_ (g:=g2) (cs:=Z26) (Z26) ⟨BK BK2⟩ ?_ rfl rfl rfl rfl rfl jR rfl rfl;intro w9 hbk hfar hbel;replace BK3:=K_ (hfar _ _ (Ne.symm NB.out) (BK BK3));replace BK2:=K_ hbk;replace HB:=K_ (hbel _ _ GE2.out (BL HB));clear hbk hfar hbel)
           | ((with_reducible refine zY (p:=3) rfl ?_);refine so_ (g:=g3) (cs:=Z51) (#[.int .i64 6,.int .i64 0]) ⟨BK BK3⟩ ?_ rfl rfl rfl rfl rfl qC rfl rfl;intro w9 hbk hfar hbel;replace BK2:=K_ (hfar _ _ NB.out (BK BK2));replace BK3:=K_ hbk;replace HB:=K_ (hbel _ _ GE3.out (BL HB));clear hbk hfar hbel))
          (
           refine bodyPost_ret (qZ rfl _ _ g2 g3 26 51 Z26 #[.int .i64 6,.int .i64 0] (0,0) (0,0) _ _ rfl BK2.out Tryz.underlying26 rfl jR rfl BK3.out Tryz.underlying51 rfl qC) rfl ?_;exact⟨_,_,_,_,[],[],[],[],jN,false,0,0,0,6,0,rfl,Kd.R_nil _ _ _ _ _,Kd.R_nil _ _ _ _ _,Kd.R_nil _ _ _ _ _,Kd.R_nil _ _ _ _ _,BL HB,fun h=>absurd h HEV.out,fun l' h1 h2 h3 P0 h4 h5=>(HE.out l' h1 h2 h3 P0 h4 h5).elim⟩)
         have et:(decide (0<sgn 4 px sx nx ny)&&decide (0<sgn 5 px sx nx ny))=false:=by
          cases h:(decide (0<sgn 4 px sx nx ny)&&decide (0<sgn 5 px sx nx ny))
          ·rfl
          rw[Bool.and_eq_true,decide_eq_true_eq,decide_eq_true_eq] at h;exact (hm h).elim
         rw[et];have HM:=K_ hm;clear et hm;go_wp2_with (first
          | ((with_reducible refine zE (N:=178) rfl ?_);refine lo_ (g:=g13) (cs:=xY (.slice B1 px.length d1) (.slice B2 sx.length d2) hn (.slice B3 nx.length d3) (.slice B4 ny.length d4) PN at_ pad wd) _ ⟨BK BK13⟩ ?_ rfl rfl rfl Tryz.underlying26 rfl jR)
          | ((with_reducible refine zY (p:=2) rfl ?_);refine so_ (g:=g2) (cs:=Z26) (xY (.slice B1 px.length d1) (.slice B2 sx.length d2) hn (.slice B3 nx.length d3) (.slice B4 ny.length d4) PN at_ pad wd) ⟨BK BK2⟩ ?_ rfl rfl rfl rfl rfl jR rfl rfl;intro w9 hbk hfar hbel;replace HO1:=K_ (vY (RB HO1.out) (BK BK2) (by decide) hfar);replace HO2:=K_ (vY (RB HO2.out) (BK BK2) (by decide) hfar);replace HO3:=K_ (vY (RB HO3.out) (BK BK2) (by decide) hfar);replace HO4:=K_ (vY (RB HO4.out) (BK BK2) (by decide) hfar);replace BK3:=K_ (hfar _ _ (Ne.symm NB.out) (BK BK3));replace BK2:=K_ hbk;replace HB:=K_ (hbel _ _ GE2.out (BL HB));clear hbk hfar hbel)
          | ((with_reducible refine zY (p:=3) rfl ?_);refine so_ (g:=g3) (cs:=Z51) (Z51) ⟨BK BK3⟩ ?_ rfl rfl rfl rfl rfl qC rfl rfl;intro w9 hbk hfar hbel;replace HO1:=K_ (vY (RB HO1.out) (BK BK3) (by decide) hfar);replace HO2:=K_ (vY (RB HO2.out) (BK BK3) (by decide) hfar);replace HO3:=K_ (vY (RB HO3.out) (BK BK3) (by decide) hfar);replace HO4:=K_ (vY (RB HO4.out) (BK BK3) (by decide) hfar);replace BK2:=K_ (hfar _ _ NB.out (BK BK2));replace BK3:=K_ hbk;replace HB:=K_ (hbel _ _ GE3.out (BL HB));clear hbk hfar hbel))
         refine bodyPost_ret (qZ rfl _ _ g2 g3 26 51 (xY (.slice B1 px.length d1) (.slice B2 sx.length d2) hn (.slice B3 nx.length d3) (.slice B4 ny.length d4) PN at_ pad wd) Z51 (0,0) (0,0) _ _ rfl BK2.out Tryz.underlying26 rfl jR rfl BK3.out Tryz.underlying51 rfl qC) rfl ?_;refine⟨_,_,_,_,px,sx,nx,ny,PN,hn,at_,pad,wd,0,0,rfl,HO1.out,HO2.out,HO3.out,HO4.out,BL HB,fun _=>⟨⟨_,HPOK.out.1.2.2.1⟩,HG1.out,HG2.out,HG.out.1,HG.out.2,HM.out,by omega,by omega,hnl,hyl⟩,fun l' h1 hns hsm P0 hok hnm=>?_⟩;have e:=EQL.out l' h1;subst e;have e2:=HEQ.out hns hsm;obtain⟨e3,e4⟩:=HEN.out hns hsm;have e5:=HPOK.out;rw[e2] at e5;simp only[List.length_map] at e5
         refine⟨rfl,Option.some.inj (e5.1.2.2.1.symm.trans hok.2.2.1),e5.2.1,e5.2.2,?_,?_⟩
         ·rw[e3]
         rw[e4]
     have dE2:(E2 !=0)=true:=by simpa using hE
     have HEV:=K_ hE;have HE:=K_ (show ∀ l',Ev (fun k=>zG.f k s) (l',0,0)→xO l'→zav l'→∀ P0,xW (l'.map mk73) P0→¬ mixed (jJ (uF (l'.map mk73) (qK (l'.map mk73)) l'.length)) (jJ (uE (l'.map mk73) (qE (l'.map mk73)) l'.length)) (⟨2,0⟩ :: jJ (uF (l'.map mk73) (qK (l'.map mk73)) l'.length)) (jJ (uE (l'.map mk73) (qE (l'.map mk73)) l'.length))→False from fun l' h1 hns hsm P0 hok _=>HEV.out (HEX.out (by rw[HEQ.out (EQL.out l' h1 ▸ hns) (EQL.out l' h1 ▸ hsm)];intro x hx;obtain⟨t,_,rfl⟩:=List.mem_map.1 hx;rfl) ⟨P0,by rw[HEQ.out (EQL.out l' h1 ▸ hns) (EQL.out l' h1 ▸ hsm),←EQL.out l' h1];exact hok⟩));clear hE;go_upto_region 29 with (fail)
     clear q0 q1 q2 q3;refine yA (n:=4) (S:=fun w'=>w'.heap[g5]?=some (.cells #[.int .i64 E2,.int .i64 a2] 51 (0,0))) (ds:=[]) #[false,false,false,false] (by kernel_rfl) rfl rfl (BK BK5) (fun hHeld=>?_);refine jG (fun W=>W.heap[g5]?=some (.cells #[.int .i64 E2,.int .i64 a2] 51 (0,0))∧W.heap[g2]?=some (.cells Z26 26 (0,0))∧W.heap[g3]?=some (.cells Z51 51 (0,0))∧Below w.heap.size w W) ⟨BK BK5,BK BK2,BK BK3,BL HB⟩ ?_;clear hHeld;rintro W ⟨hHeld,hb2,hb3,hbw⟩;replace BK2:=K_ hb2;replace BK3:=K_ hb3;replace HB:=K_ hbw;clear hb2 hb3 hbw;refine pw_ 0 100 (bb 4 1) ?_;refine tr_ 1 101 (bb 4 3) (#[.int .i64 E2,.int .i64 a2]) (fun _ hs=>⟨hs⟩) Tryz.underlying51 qC hHeld ?_;refine on_ 2 none (bb 4 7) (fun K hK=>?_);refine yL (g:=g2) (cs:=Z26) Z26 BK2 ?_ rfl rfl rfl rfl rfl jR rfl rfl;intro w8 hbk hfar hbel;have hHeld2:=hfar g5 _ (Ne.symm N2F.out) hHeld;replace BK3:=K_ (hfar g3 _ (Ne.symm NB.out) BK3.out);replace BK2:=K_ hbk;replace HB:=K_ (hbel _ _ GE2.out HB.out);refine hK.out _ _ hHeld2 (fun _=>?_);clear hK K hbk hfar hbel;refine on_ 3 none (bb 4 15) (fun K hK=>?_);refine yL (g:=g3) (cs:=Z51) #[.int .i64 E2,.int .i64 a2] BK3 ?_ rfl rfl rfl rfl rfl qC rfl rfl;intro w9 hbk hfar hbel;have hHeld3:=hfar g5 _ (Ne.symm N3F.out) hHeld2;replace BK2:=K_ (hfar g2 _ NB.out BK2.out);replace BK3:=K_ hbk;replace HB:=K_ (hbel _ _ GE3.out HB.out);refine hK.out _ _ hHeld3 (fun _=>?_);clear hK K hbk hfar hbel;refine yN (by kernel_rfl) ?_;go_wp2_with (fail)
     (
      refine bodyPost_ret (qZ rfl _ _ g2 g3 26 51 Z26 #[.int .i64 E2,.int .i64 a2] (0,0) (0,0) _ _ rfl BK2.out Tryz.underlying26 rfl jR rfl BK3.out Tryz.underlying51 rfl qC) rfl ?_;exact⟨_,_,_,_,[],[],[],[],jN,false,0,0,0,E2,a2,rfl,Kd.R_nil _ _ _ _ _,Kd.R_nil _ _ _ _ _,Kd.R_nil _ _ _ _ _,Kd.R_nil _ _ _ _ _,BL HB,fun h=>absurd h HEV.out,fun l' h1 h2 h3 P0 h4 h5=>(HE.out l' h1 h2 h3 P0 h4 h5).elim⟩)
 have dE:(E1 !=0)=true:=by simpa using hE
 have HEV:=K_ hE;have HE:=K_ (show ∀ l',Ev (fun k=>zG.f k s) (l',0,0)→xO l'→zav l'→∀ P0,xW (l'.map mk73) P0→¬ mixed (jJ (uF (l'.map mk73) (qK (l'.map mk73)) l'.length)) (jJ (uE (l'.map mk73) (qE (l'.map mk73)) l'.length)) (⟨2,0⟩ :: jJ (uF (l'.map mk73) (qK (l'.map mk73)) l'.length)) (jJ (uE (l'.map mk73) (qE (l'.map mk73)) l'.length))→False from fun l' h1 _ _ _ _ _=>hE (by have e:=zdN h1 HEV1.out;have e2:=congrArg (fun r=>r.2.1) e;exact e2.symm));clear hE;go_upto_region 3 with (fail)
 clear q0 q1 q2 q3;refine yA (n:=4) (S:=fun w'=>w'.heap[g5]?=some (.cells #[.int .i64 E1,.int .i64 a1] 51 (0,0))) (ds:=[]) #[false,false,false,false] (by kernel_rfl) rfl rfl (BK BK5) (fun hHeld=>?_);refine jG (fun W=>W.heap[g5]?=some (.cells #[.int .i64 E1,.int .i64 a1] 51 (0,0))∧W.heap[g2]?=some (.cells Z26 26 (0,0))∧W.heap[g3]?=some (.cells Z51 51 (0,0))∧Below w.heap.size w W) ⟨BK BK5,BK BK2,BK BK3,BL HB⟩ ?_;clear hHeld;rintro W ⟨hHeld,hb2,hb3,hbw⟩;replace BK2:=K_ hb2;replace BK3:=K_ hb3;replace HB:=K_ hbw;clear hb2 hb3 hbw;refine pw_ 0 24 (bb 4 1) ?_;refine tr_ 1 25 (bb 4 3) (#[.int .i64 E1,.int .i64 a1]) (fun _ hs=>⟨hs⟩) Tryz.underlying51 qC hHeld ?_;refine on_ 2 none (bb 4 7) (fun K hK=>?_);refine yL (g:=g2) (cs:=Z26) Z26 BK2 ?_ rfl rfl rfl rfl rfl jR rfl rfl;intro w8 hbk hfar hbel;have hHeld2:=hfar g5 _ (Ne.symm N2F.out) hHeld;replace BK3:=K_ (hfar g3 _ (Ne.symm NB.out) BK3.out);replace BK2:=K_ hbk;replace HB:=K_ (hbel _ _ GE2.out HB.out);refine hK.out _ _ hHeld2 (fun _=>?_);clear hK K hbk hfar hbel;refine on_ 3 none (bb 4 15) (fun K hK=>?_);refine yL (g:=g3) (cs:=Z51) #[.int .i64 E1,.int .i64 a1] BK3 ?_ rfl rfl rfl rfl rfl qC rfl rfl;intro w9 hbk hfar hbel;have hHeld3:=hfar g5 _ (Ne.symm N3F.out) hHeld2;replace BK2:=K_ (hfar g2 _ NB.out BK2.out);replace BK3:=K_ hbk;replace HB:=K_ (hbel _ _ GE3.out HB.out);refine hK.out _ _ hHeld3 (fun _=>?_);clear hK K hbk hfar hbel;refine yN (by kernel_rfl) ?_;go_wp2_with (fail)
 (
  refine bodyPost_ret (qZ rfl _ _ g2 g3 26 51 Z26 #[.int .i64 E1,.int .i64 a1] (0,0) (0,0) _ _ rfl BK2.out Tryz.underlying26 rfl jR rfl BK3.out Tryz.underlying51 rfl qC) rfl ?_;exact⟨_,_,_,_,[],[],[],[],jN,false,0,0,0,E1,a1,rfl,Kd.R_nil _ _ _ _ _,Kd.R_nil _ _ _ _ _,Kd.R_nil _ _ _ _ _,Kd.R_nil _ _ _ _ _,BL HB,fun h=>absurd h HEV.out,fun l' h1 h2 h3 P0 h4 h5=>(HE.out l' h1 h2 h3 P0 h4 h5).elim⟩)
end Go.Proofs.YtcmgdjnjmobkoaaGreatDoor.Px
namespace Go.Proofs.YtcmgdjnjmobkoaaGreatDoor.Px
open Fig Go.RowKit Go.Proofs.YtcmgdjnjmobkoaaGreatDoorW.PrintWords Go.Proofs.YtcmgdjnjmobkoaaGreatDoorW.PrintLast Go.Proofs.YtcmgdjnjmobkoaaGreatDoorW.PrintMore
attribute [local go_sem] yS yR vN vM yF yE yU yT
attribute [local go_sem] uX uQ uP uU uV uO qA uR uZ uM uT uN uY uW
def jB.l0:Nat→ByteArray→Int→Option (Bool)
 | 0,_,_=>none
 | k+1,x0,x3=>if x3<(x0.size:Int) then (if 0≤x3 then (if (bt x0 x3)<48 then (some false) else (if (bt x0 x3)>57 then (some false) else (jB.l0 k x0 (wrap64 (x3+1))))) else (none)) else (some (x0.toList !=([]:List UInt8)))
def jB.f (k:Nat) (a0:ByteArray):Option (Bool):=jB.l0 k a0 0
set_option maxHeartbeats 8000000 in
set_option maxRecDepth 100000 in
theorem jB.calls (k:Nat) (a0:ByteArray) (r:Bool) (w:World) (h:jB.f k a0=some r) :
  Calls Tryz.prog 68 #[.string a0] w fun e w'=>e=.returned (.bool r)∧zJ w w':=by
 have H:(jB.l0 k a0 0)=some r:=h;clear h;have H':=K_ H;clear H;go_enter Tryz.func68,Tryz.ntmps68
 go_wp2
 go_loopg [3] k (fun kq v3 w'=>∃ (x3_1:Int),v3=.int .i64 x3_1∧Aside0 (jB.l0 kq a0 x3_1=some r)∧Aside0 (kq≤k)∧zJ w w')
 case atStart=>exact⟨(0),SR,H',⟨Nat.le_refl _⟩,by repeat (first|exact zJ.refl _|apply zJ.step)⟩
 case round =>
  clear H';obtain⟨x3_1,rfl,HA,HK1,⟨m1,rfl⟩⟩:=hrel;obtain _|k1:=gk
  ·exact absurd HA.out (by simp[jB.l0])
  have H:=HA.out;clear HA;simp only[jB.l0] at H
  by_cases c2:x3_1<(a0.size:Int)
  ·rw[if_pos c2] at H
   have c2b0:decide (x3_1<(a0.size:Int))=true:=decide_eq_true c2;clear c2;by_cases c3:0≤x3_1
   ·rw[if_pos c3] at H
    have c3b0:decide (0≤x3_1)=true:=decide_eq_true c3;clear c3;by_cases c5:(bt a0 x3_1)<48
    ·rw[if_pos c5] at H
     have c5b0:decide ((bt a0 x3_1)<48)=true:=decide_eq_true c5;clear c5;obtain rfl:=Option.some.inj H;have p4:0≤(x3_1:Int):=of_decide_eq_true (by first|(with_reducible assumption)|assumption);have q4:x3_1<(a0.size:Int):=of_decide_eq_true (by first|(with_reducible assumption)|assumption);have hx4:=xV a0 x3_1;replace p4:=eq_true p4;replace q4:=eq_true q4;go_wp2
     go_ret
     exact⟨by first|rfl|(simp;done)|(simp[*];done)|(simp[*,Fig.bne_nil];done),by repeat (first|exact zJ.refl _|apply zJ.step)⟩
    rw[if_neg c5] at H;have c5b0:decide ((bt a0 x3_1)<48)=false:=decide_eq_false c5;clear c5;by_cases c7:(bt a0 x3_1)>57
    ·rw[if_pos c7] at H
     have c7b0:decide (57<(bt a0 x3_1))=true:=decide_eq_true c7;clear c7;obtain rfl:=Option.some.inj H;have p4:0≤(x3_1:Int):=of_decide_eq_true (by first|(with_reducible assumption)|assumption);have q4:x3_1<(a0.size:Int):=of_decide_eq_true (by first|(with_reducible assumption)|assumption);have hx4:=xV a0 x3_1;replace p4:=eq_true p4;replace q4:=eq_true q4;have p6:0≤(x3_1:Int):=of_decide_eq_true (by first|(with_reducible assumption)|assumption);have q6:x3_1<(a0.size:Int):=of_decide_eq_true (by first|(with_reducible assumption)|assumption);have hx6:=xV a0 x3_1;replace p6:=eq_true p6;replace q6:=eq_true q6;go_wp2
     go_ret
     exact⟨by first|rfl|(simp;done)|(simp[*];done)|(simp[*,Fig.bne_nil];done),by repeat (first|exact zJ.refl _|apply zJ.step)⟩
    rw[if_neg c7] at H;have c7b0:decide (57<(bt a0 x3_1))=false:=decide_eq_false c7;clear c7;have H':=K_ H;clear H;have p4:0≤(x3_1:Int):=of_decide_eq_true (by first|(with_reducible assumption)|assumption);have q4:x3_1<(a0.size:Int):=of_decide_eq_true (by first|(with_reducible assumption)|assumption);have hx4:=xV a0 x3_1;replace p4:=eq_true p4;replace q4:=eq_true q4;have p6:0≤(x3_1:Int):=of_decide_eq_true (by first|(with_reducible assumption)|assumption);have q6:x3_1<(a0.size:Int):=of_decide_eq_true (by first|(with_reducible assumption)|assumption);have hx6:=xV a0 x3_1;replace p6:=eq_true p6;replace q6:=eq_true q6;go_wp2
    go_roundg k1
    case measure=>have:=HK1.out;omega
    case rel=>exact⟨(wrap64 (x3_1+1)),SR,H',⟨by have:=HK1.out;omega⟩,by repeat (first|exact zJ.refl _|apply zJ.step)⟩
   rw[if_neg c3] at H;exact absurd H (by simp)
  rw[if_neg c2] at H;have c2b0:decide (x3_1<(a0.size:Int))=false:=decide_eq_false c2;clear c2;obtain rfl:=Option.some.inj H;go_wp2
  go_ret
  exact⟨by first|rfl|(simp;done)|(simp[*];done)|(simp[*,Fig.bne_nil];done),by repeat (first|exact zJ.refl _|apply zJ.step)⟩
theorem zfy (s:ByteArray) (hs:s.size≤4611686018427387904):∀ (d n:Nat),s.size-n=d→n≤s.size→Ev (fun k=>jB.l0 k s (n:Int)) (yB (s.data.toList.drop n)&&decide (s.size≠0))
 | 0,n,hd,hn=>by
  refine zaP (r':=(s.toList !=([]:List UInt8))) (fun k=>?_) ?_
  ·simp only[jB.l0];rw[if_neg (by omega)]
  rw[List.drop_of_length_le (by rw[←zQ];omega),bne_nil,ByteArray.toList_eq,zQ]
  cases s.data.toList <;> simp[yB]
 | d+1,n,hd,hn=>by
  have hlt:n<s.size:=by omega
  have hbt:=zcD hlt;have hc:=List.drop_eq_getElem_cons (l:=s.data.toList) (i:=n) (by rw[←zQ];exact hlt);rw[hc];generalize hx:s.data.toList[n]'(by rw[←zQ];exact hlt)=c at hbt
  by_cases h1:c.toNat<48
  ·refine zaP (r':=false) (fun k=>?_) ?_
   ·simp only[jB.l0];rw[if_pos (by omega),if_pos (by omega),hbt,if_pos (by omega)]
   have:isD c=false:=by unfold isD;simp;omega
   simp[yB,this]
  by_cases h2:c.toNat>57
  ·refine zaP (r':=false) (fun k=>?_) ?_
   ·simp only[jB.l0];rw[if_pos (by omega),if_pos (by omega),hbt,if_neg (by omega),if_pos (by omega)]
   have:isD c=false:=by unfold isD;simp;omega
   simp[yB,this]
  have hd1:isD c=true:=uD.2 ⟨by omega,by omega⟩;refine zak (Ev.step (f:=fun k=>jB.l0 k s ((n+1:Nat):Int)) (fun k=>?_) (zfy s hs d (n+1) (by omega) (by omega))) ?_
  ·simp only[jB.l0];rw[if_pos (by omega),if_pos (by omega),hbt,if_neg (by omega),if_neg (by omega),zam _ (by omega)]
  simp[yB,hd1]
theorem zjx {s:ByteArray} (hs:s.size≤4611686018427387904):Ev (fun k=>jB.f k s) (dB s&&decide (s.size≠0)):=by
 have:=zfy s hs s.size 0 (by omega) (by omega)
 rw[List.drop_zero] at this;exact this
def uL.f (k:Nat) (a0_0:Bool) (a0_1:ByteArray) (a0_2:Int):Option (Bool):=(jB.f k a0_1).bind fun t590=>(if t590=true then (if (a0_1.size:Int)≤1000 then (if a0_2 ≥ (-1000) then (some (decide (a0_2≤1000))) else (some false)) else (some false)) else (some false))
set_option maxHeartbeats 8000000 in
set_option maxRecDepth 100000 in
theorem uL.calls (k:Nat) (a0_0:Bool) (a0_1:ByteArray) (a0_2:Int) (r:Bool) (w:World) (h:uL.f k a0_0 a0_1 a0_2=some r) :
  Calls Tryz.prog 40 #[.agg #[.bool a0_0,.string a0_1,.int .i64 a0_2]] w fun e w'=>e=.returned (.bool r)∧Below w.heap.size w w':=by
 have hu23:=Tryz.underlying23;have HB:=K_ (Below.refl w.heap.size w);have H:((jB.f k a0_1).bind fun t590=>(if t590=true then (if (a0_1.size:Int)≤1000 then (if a0_2 ≥ (-1000) then (some (decide (a0_2≤1000))) else (some false)) else (some false)) else (some false)))=some r:=h;clear h;obtain⟨t590,A20,H⟩:=Option.bind_eq_some_iff.mp H
 (try dsimp -simprocs only at H)
 have A2:=K_ A20;clear A20;by_cases c3:t590=true
 ·subst c3
  rw[if_pos rfl] at H;by_cases c4:(a0_1.size:Int)≤1000
  ·rw[if_pos c4] at H
   have c4b0:decide ((a0_1.size:Int)≤1000)=true:=decide_eq_true c4;have c4b1:decide (a0_1.size≤1000)=true:=decide_eq_true (by omega);clear c4;by_cases c5:a0_2 ≥ (-1000)
   ·rw[if_pos c5] at H
    have c5b0:decide ((-1000)≤a0_2)=true:=decide_eq_true c5;clear c5;obtain rfl:=Option.some.inj H;go_enter Tryz.func40,Tryz.ntmps40
    go_wp2_with (first|((with_reducible refine zE (N:=1) rfl ?_);(try (refine vG (by rfl) ?_;dsimp only));refine be_ 1 #[.bool a0_0,.string a0_1,.int .i64 a0_2] 23 ?_;intro gb589 hg w6 hbox hb;have BK589:=K_ (hbox);have GW589:=ge_ hg HB;have GE589:=ge_ hg HB;replace HB:=zF HB hb;clear hb hbox hg;obtain⟨⟨hcz7_0,hcz7_1,hcz7_2⟩,hfz7_0,hfz7_1,hfz7_2⟩:=ce3 BK589)|((with_reducible refine zK (f:=68) rfl ?_);refine zW (some 5) rfl rfl Tryz.func68 (by kernel_rfl) rfl #[.string a0_1] rfl MP ?_;(with_reducible refine (jB.calls k a0_1 true _ A2.out).mono ?_);rintro e w' ⟨rfl,⟨nd,rfl⟩⟩;refine⟨_,rfl,?_⟩))
    go_ret
    exact⟨ER,BL HB⟩
   rw[if_neg c5] at H;have c5b0:decide ((-1000)≤a0_2)=false:=decide_eq_false c5;clear c5;obtain rfl:=Option.some.inj H;go_enter Tryz.func40,Tryz.ntmps40
   go_wp2_with (first|((with_reducible refine zE (N:=1) rfl ?_);(try (refine vG (by rfl) ?_;dsimp only));refine be_ 1 #[.bool a0_0,.string a0_1,.int .i64 a0_2] 23 ?_;intro gb589 hg w8 hbox hb;have BK589:=K_ (hbox);have GW589:=ge_ hg HB;have GE589:=ge_ hg HB;replace HB:=zF HB hb;clear hb hbox hg;obtain⟨⟨hcz9_0,hcz9_1,hcz9_2⟩,hfz9_0,hfz9_1,hfz9_2⟩:=ce3 BK589)|((with_reducible refine zK (f:=68) rfl ?_);refine zW (some 5) rfl rfl Tryz.func68 (by kernel_rfl) rfl #[.string a0_1] rfl MP ?_;(with_reducible refine (jB.calls k a0_1 true _ A2.out).mono ?_);rintro e w' ⟨rfl,⟨nd,rfl⟩⟩;refine⟨_,rfl,?_⟩))
   go_ret
   exact⟨ER,BL HB⟩
  rw[if_neg c4] at H;have c4b0:decide ((a0_1.size:Int)≤1000)=false:=decide_eq_false c4;have c4b1:decide (a0_1.size≤1000)=false:=decide_eq_false (by omega);clear c4;obtain rfl:=Option.some.inj H;go_enter Tryz.func40,Tryz.ntmps40
  go_wp2_with (first|((with_reducible refine zE (N:=1) rfl ?_);(try (refine vG (by rfl) ?_;dsimp only));refine be_ 1 #[.bool a0_0,.string a0_1,.int .i64 a0_2] 23 ?_;intro gb589 hg w10 hbox hb;have BK589:=K_ (hbox);have GW589:=ge_ hg HB;have GE589:=ge_ hg HB;replace HB:=zF HB hb;clear hb hbox hg;obtain⟨⟨hcz11_0,hcz11_1,hcz11_2⟩,hfz11_0,hfz11_1,hfz11_2⟩:=ce3 BK589)|((with_reducible refine zK (f:=68) rfl ?_);refine zW (some 5) rfl rfl Tryz.func68 (by kernel_rfl) rfl #[.string a0_1] rfl MP ?_;(with_reducible refine (jB.calls k a0_1 true _ A2.out).mono ?_);rintro e w' ⟨rfl,⟨nd,rfl⟩⟩;refine⟨_,rfl,?_⟩))
  go_ret
  exact⟨ER,BL HB⟩
 replace c3:=Bool.eq_false_iff.mpr c3;subst c3;rw[if_neg (show ¬ (false=true) by decide)] at H;obtain rfl:=Option.some.inj H;go_enter Tryz.func40,Tryz.ntmps40
 go_wp2_with (first|((with_reducible refine zE (N:=1) rfl ?_);(try (refine vG (by rfl) ?_;dsimp only));refine be_ 1 #[.bool a0_0,.string a0_1,.int .i64 a0_2] 23 ?_;intro gb589 hg w12 hbox hb;have BK589:=K_ (hbox);have GW589:=ge_ hg HB;have GE589:=ge_ hg HB;replace HB:=zF HB hb;clear hb hbox hg;obtain⟨⟨hcz13_0,hcz13_1,hcz13_2⟩,hfz13_0,hfz13_1,hfz13_2⟩:=ce3 BK589)|((with_reducible refine zK (f:=68) rfl ?_);refine zW (some 5) rfl rfl Tryz.func68 (by kernel_rfl) rfl #[.string a0_1] rfl MP ?_;(with_reducible refine (jB.calls k a0_1 false _ A2.out).mono ?_);rintro e w' ⟨rfl,⟨nd,rfl⟩⟩;refine⟨_,rfl,?_⟩))
 go_ret
 exact⟨ER,BL HB⟩
theorem zmc {b:Bool} {s:ByteArray} {e:Int} (hs:s.size≤4611686018427387904):Ev (fun k=>uL.f k b s e) (zaU s e):=by
 unfold uL.f;refine Ev.bind (zjx hs) ?_;unfold zaU;cases hd:(dB s&&decide (s.size≠0))
 ·simp only[Bool.false_eq_true,if_false,Bool.false_and]
  exact Ev.now _
 simp only[if_true,Bool.true_and]
 by_cases h1:s.size≤1000
 ·have h1':(s.size:Int)≤1000:=by omega
  simp only[h1',h1,if_true,decide_true,Bool.true_and]
  by_cases h2:e ≥ -1000
  ·have h2':-1000≤e:=h2
   simp only[h2,h2',if_true,decide_true,Bool.true_and]
   exact Ev.now _
  have h2':¬ -1000≤e:=h2;simp only[h2,h2',if_false,decide_false,Bool.false_and]
  exact Ev.now _
 have h1':¬ (s.size:Int)≤1000:=by omega
 simp only[h1',h1,if_false,decide_false,Bool.false_and]
 exact Ev.now _
def zX.l0:Nat→ByteArray→Int→Bool→ByteArray→Int→Option (Bool×ByteArray×Int)
 | 0,_,_,_,_,_=>none
 | k+1,x3,x4,x592000,x592001,x592002=>if 0≤(wrap64 ((x3.size:Int)-1)) then (if (wrap64 ((x3.size:Int)-1))<(x3.size:Int) then (if (bt x3 (wrap64 ((x3.size:Int)-1)))=48 then (if (wrap64 ((x3.size:Int)-1))≤(x3.size:Int) then (zX.l0 k (x3.extract 0 ((wrap64 ((x3.size:Int)-1)):Int).toNat) (wrap64 (x4+1)) x592000 x592001 x592002) else (none)) else (some (x592000,x3,x4))) else (none)) else (none)
def zX.f (k:Nat) (a0_0:Bool) (a0_1:ByteArray) (a0_2:Int):Option (Bool×ByteArray×Int):=(zM.f k a0_1).bind fun t593=>(if t593.toList=([]:List UInt8) then (some (a0_0,(⟨#[48]⟩:ByteArray),0)) else (zX.l0 k t593 a0_2 a0_0 a0_1 a0_2))
set_option maxHeartbeats 8000000 in
set_option maxRecDepth 100000 in
theorem zX.calls (k:Nat) (a0_0:Bool) (a0_1:ByteArray) (a0_2:Int) (r1:Bool) (r2:ByteArray) (r3:Int) (w:World) (h:zX.f k a0_0 a0_1 a0_2=some (r1,r2,r3)) :
  Calls Tryz.prog 50 #[.agg #[.bool a0_0,.string a0_1,.int .i64 a0_2]] w fun e w'=>e=.returned (.agg #[.bool r1,.string r2,.int .i64 r3])∧Below w.heap.size w w':=by
 have hu23:=Tryz.underlying23;have HB:=K_ (Below.refl w.heap.size w);have H:((zM.f k a0_1).bind fun t593=>(if t593.toList=([]:List UInt8) then (some (a0_0,(⟨#[48]⟩:ByteArray),0)) else (zX.l0 k t593 a0_2 a0_0 a0_1 a0_2)))=some (r1,r2,r3):=h;clear h;obtain⟨t593,A20,H⟩:=Option.bind_eq_some_iff.mp H
 (try dsimp -simprocs only at H)
 have A2:=K_ A20;clear A20;by_cases c3:t593.toList=([]:List UInt8)
 ·rw[if_pos c3] at H
  have c3b0:(t593.toList==([]:List UInt8))=true:=beq_iff_eq.mpr c3;have c3b1:(t593.toList !=([]:List UInt8))=false:=bne_eq_false_iff_eq.mpr c3;clear c3;simp only[Option.some.injEq,Prod.mk.injEq] at H
  obtain⟨rfl,rfl,rfl⟩:=H;go_enter Tryz.func50,Tryz.ntmps50
  go_wp2_with (first|(refine be_ 1 #[.bool a0_0,.string a0_1,.int .i64 a0_2] 23 ?_;intro gb591 hg w4 hbox hb;have BK591:=K_ (hbox);have GW591:=ge_ hg HB;have GE591:=ge_ hg HB;replace HB:=zF HB hb;clear hb hbox hg)|(refine be_ 2 #[.bool false,.string (⟨#[]⟩:ByteArray),.int .i64 0] 23 ?_;intro gb592 hg w5 hbox hb;have BK592:=K_ (hbox);have GW592:=ge_ hg HB;have GE592:=ge_ hg HB;replace HB:=zF HB hb;have NB591_592:=nb_ hg BK591;have NB592_591:=nc_ hg BK591;replace BK591:=zC BK591 hb;clear hb hbox hg;have hnb6:=NB591_592.out;have hnc6:=NB592_591.out;obtain⟨⟨hcz7_0,hcz7_1,hcz7_2⟩,hfz7_0,hfz7_1,hfz7_2⟩:=ce3 BK591)|((with_reducible refine zK (f:=69) rfl ?_);refine zW (some 7) rfl rfl Tryz.func69 (by kernel_rfl) rfl #[.string a0_1] rfl MP ?_;(with_reducible refine (zM.calls k a0_1 t593 _ A2.out).mono ?_);rintro e w' ⟨rfl,⟨nd,rfl⟩⟩;refine⟨_,rfl,?_⟩;(try (rw[xQ w5];generalize hq_:World.drewN w5 _=w5;replace BK591:=zbt BK591 hq_;replace BK592:=zbt BK592 hq_;replace HB:=zde HB hq_;clear hq_));(try (obtain⟨⟨hcz9066_0,hcz9066_1,hcz9066_2⟩,hfz9066_0,hfz9066_1,hfz9066_2⟩:=ce3 BK591));(try (obtain⟨⟨hcz9067_0,hcz9067_1,hcz9067_2⟩,hfz9067_0,hfz9067_1,hfz9067_2⟩:=ce3 BK592));obtain⟨⟨hcz8_0,hcz8_1,hcz8_2⟩,hfz8_0,hfz8_1,hfz8_2⟩:=ce3 BK592))
  refine bodyPost_ret (results_cell_row rfl _ _ gb592 23 #[.bool a0_0,.string (⟨#[48]⟩:ByteArray),.int .i64 0] (0,0) _ rfl (BP BK592) Tryz.underlying23 rfl (by kernel_rfl)) rfl ?_;exact⟨ER,BL HB⟩
 rw[if_neg c3] at H;have c3b0:(t593.toList==([]:List UInt8))=false:=beq_eq_false_iff_ne.mpr c3;have c3b1:(t593.toList !=([]:List UInt8))=true:=bne_iff_ne.mpr c3;have H':=K_ H;clear H;go_enter Tryz.func50,Tryz.ntmps50
 go_wp2_with (first|(refine be_ 1 #[.bool a0_0,.string a0_1,.int .i64 a0_2] 23 ?_;intro gb591 hg w9 hbox hb;have BK591:=K_ (hbox);have GW591:=ge_ hg HB;have GE591:=ge_ hg HB;replace HB:=zF HB hb;clear hb hbox hg)|(refine be_ 2 #[.bool false,.string (⟨#[]⟩:ByteArray),.int .i64 0] 23 ?_;intro gb592 hg w10 hbox hb;have BK592:=K_ (hbox);have GW592:=ge_ hg HB;have GE592:=ge_ hg HB;replace HB:=zF HB hb;have NB591_592:=nb_ hg BK591;have NB592_591:=nc_ hg BK591;replace BK591:=zC BK591 hb;clear hb hbox hg;have hnb11:=NB591_592.out;have hnc11:=NB592_591.out;obtain⟨⟨hcz12_0,hcz12_1,hcz12_2⟩,hfz12_0,hfz12_1,hfz12_2⟩:=ce3 BK591)|((with_reducible refine zK (f:=69) rfl ?_);refine zW (some 7) rfl rfl Tryz.func69 (by kernel_rfl) rfl #[.string a0_1] rfl MP ?_;(with_reducible refine (zM.calls k a0_1 t593 _ A2.out).mono ?_);rintro e w' ⟨rfl,⟨nd,rfl⟩⟩;refine⟨_,rfl,?_⟩))
 go_loopg [3,4] k (fun kq v3 v4 w'=>∃ (x3_1:ByteArray) (x4_1:Int),v3=.string x3_1∧v4=.int .i64 x4_1∧Aside0 (zX.l0 kq x3_1 x4_1 a0_0 a0_1 a0_2=some (r1,r2,r3))∧Aside0 (kq≤k)∧Aside0 (w'.heap[gb591]?=some (.cells #[.bool a0_0,.string a0_1,.int .i64 a0_2] 23 (0,0)))∧Aside0 (w'.heap[gb592]?=some (.cells #[.bool false,.string (⟨#[]⟩:ByteArray),.int .i64 0] 23 (0,0)))∧Aside0 (Below w.heap.size w w'))
 case atStart=>exact⟨(t593),(a0_2),SR,SR,H',⟨Nat.le_refl _⟩,⟨BK BK591⟩,⟨BK BK592⟩,⟨BL HB⟩⟩
 case round =>
  clear H';try clear c3
  try clear c3b0
  try clear c3b1
  try clear hcz12_0
  try clear hcz12_1
  try clear hcz12_2
  try clear hfz12_0
  try clear hfz12_1
  try clear hfz12_2
  obtain⟨x3_1,x4_1,rfl,rfl,HA,HK1,BK591,BK592,HB⟩:=hrel;obtain _|k1:=gk
  ·exact absurd HA.out (by simp[zX.l0])
  have H:=HA.out;clear HA;simp only[zX.l0] at H
  obtain⟨ji13,hji13⟩:∃ j_:Int,(wrap64 ((x3_1.size:Int)-1))=j_:=⟨_,rfl⟩
  replace H:(if 0≤(ji13) then (if (ji13)<(x3_1.size:Int) then (if (bt x3_1 (ji13))=48 then (if (ji13)≤(x3_1.size:Int) then (zX.l0 k1 (x3_1.extract 0 ((ji13):Int).toNat) (wrap64 (x4_1+1)) a0_0 a0_1 a0_2) else (none)) else (some (a0_0,x3_1,x4_1))) else (none)) else (none))=some (r1,r2,r3):=by first|(rw[hji13] at H;exact H)|(simp only[hji13] at H ⊢;exact H)
  have hji13w:(IntKind.i64.wrap ((x3_1.size:Int)-1))=ji13:=(yY _).trans hji13;by_cases c14:0≤(ji13)
  ·rw[if_pos c14] at H
   have c14b0:decide (0≤(ji13))=true:=decide_eq_true c14;clear c14;by_cases c15:(ji13)<(x3_1.size:Int)
   ·rw[if_pos c15] at H
    have c15b0:decide ((ji13)<(x3_1.size:Int))=true:=decide_eq_true c15;clear c15;by_cases c17:(bt x3_1 (ji13))=48
    ·rw[if_pos c17] at H
     have c17b0:((bt x3_1 (ji13))==48)=true:=beq_iff_eq.mpr c17;have c17b1:((bt x3_1 (ji13)) !=48)=false:=bne_eq_false_iff_eq.mpr c17;clear c17;have c18b0:=eq_true (of_decide_eq_true (by first|(with_reducible assumption)|assumption):0≤(ji13));by_cases c19:(ji13)≤(x3_1.size:Int)
     ·rw[if_pos c19] at H
      have c19b0:=eq_true c19;have c19b1:decide ((ji13)≤(x3_1.size:Int))=true:=decide_eq_true c19;clear c19;have H':=K_ H;clear H;have p16:0≤((ji13):Int):=of_decide_eq_true (by first|(with_reducible assumption)|assumption);have q16:(ji13)<(x3_1.size:Int):=of_decide_eq_true (by first|(with_reducible assumption)|assumption);have hx16:=xV x3_1 (ji13);replace p16:=eq_true p16;replace q16:=eq_true q16;go_wp2
      go_roundg k1
      case measure=>have:=HK1.out;omega
      case rel=>exact⟨(x3_1.extract 0 ((ji13):Int).toNat),(wrap64 (x4_1+1)),(by first|rfl|(simp;done)|(simp only[←hji13] <;> (first|rfl|simp))|(simp[*];done)|(simp[*,Fig.bne_nil];done)),SR,H',⟨by have:=HK1.out;omega⟩,⟨BK BK591⟩,⟨BK BK592⟩,⟨BL HB⟩⟩
     rw[if_neg c19] at H;exact absurd H (by simp)
    rw[if_neg c17] at H;have c17b0:((bt x3_1 (ji13))==48)=false:=beq_eq_false_iff_ne.mpr c17;have c17b1:((bt x3_1 (ji13)) !=48)=true:=bne_iff_ne.mpr c17;simp only[Option.some.injEq,Prod.mk.injEq] at H
    obtain⟨rfl,rfl,rfl⟩:=H;have p16:0≤((ji13):Int):=of_decide_eq_true (by first|(with_reducible assumption)|assumption);have q16:(ji13)<(x3_1.size:Int):=of_decide_eq_true (by first|(with_reducible assumption)|assumption);have hx16:=xV x3_1 (ji13);replace p16:=eq_true p16;replace q16:=eq_true q16;have hnb20:=NB591_592.out;have hnc20:=NB592_591.out;obtain⟨⟨hcz21_0,hcz21_1,hcz21_2⟩,hfz21_0,hfz21_1,hfz21_2⟩:=ce3 BK591;obtain⟨⟨hcz22_0,hcz22_1,hcz22_2⟩,hfz22_0,hfz22_1,hfz22_2⟩:=ce3 BK592;go_wp2
    refine bodyPost_ret (results_cell_row rfl _ _ gb592 23 #[.bool a0_0,.string x3_1,.int .i64 x4_1] (0,0) _ rfl (BP BK592) Tryz.underlying23 rfl (by kernel_rfl)) rfl ?_;exact⟨by first|rfl|(simp[vA,vC] <;> rfl)|(simp only[←hji13];first|rfl|(simp[vA,vC] <;> rfl))|(simp[*,vA,vC] <;> rfl),BL HB⟩
   rw[if_neg c15] at H;exact absurd H (by simp)
  rw[if_neg c14] at H;exact absurd H (by simp)
theorem zkp {n:Nat} (h:n≠0):bt (zU n) (((zU n).size:Int)-1)=((48+n % 10:Nat):Int):=by
 have hs:=zcM h;have hl:=zie h;have hlt:(zU (n / 10)).size<(zU n).size:=by omega
 rw[show ((zU n).size:Int)-1=((zU (n / 10)).size:Int) by omega,zcD hlt];have hg:=List.getElem?_eq_getElem (l:=(zU n).data.toList) (i:=(zU (n / 10)).size) (by rw[←zQ];exact hlt);rw[hl] at hg;rw[←Option.some.inj hg,zaS]
theorem zfI (b b2:Bool) (s2:ByteArray) (e2:Int):∀ (d n:Nat) (e:Int),n≠0→n<d→(zU n).size≤1000000→-1000000≤e→e+((zU n).size:Int)≤2000000→Ev (fun k=>zX.l0 k (zU n) e b s2 e2) (b,nD n,nE n e)
 | 0,n,e,h0,hd,hz,h1,h2=>absurd hd (by omega)
 | d+1,n,e,h0,hd,hz,h1,h2=>by
  have hs:=zcM h0;have hb:=zkp h0;have hw:wrap64 (((zU n).size:Int)-1)=((zU n).size:Int)-1:=w64 (by omega) (by omega);by_cases hm:n % 10=0
  ·have h3:n / 10≠0:=by omega
   have h4:n / 10<d:=by have:=zfX h0;omega
   have e1:nD n=nD (n / 10):=by
    conv=>lhs;rw[show n=n / 10 * 10 ^ 1 by omega]
    exact zmj _ _
   have e2':nE n e=nE (n / 10) (e+1):=by
    conv=>lhs;rw[show n=n / 10 * 10 ^ 1 by omega]
    exact zlm _ _ _
   rw[e1,e2'];refine Ev.step (f:=fun k=>zX.l0 k (zU (n / 10)) (e+1) b s2 e2) (fun k=>?_) (zfI b b2 s2 e2 d (n / 10) (e+1) h3 h4 (by omega) (by omega) (by omega));simp only[zX.l0]
   rw[hw,if_pos (by omega),if_pos (by omega),hb,if_pos (by omega),if_pos (by omega),w64 (x:=e+1) (by omega) (by omega)];rw[show (((zU n).size:Int)-1).toNat=(zU (n / 10)).size by omega,zid h0]
  rw[zpy hm,zpI hm];refine zaP (r':=(b,zU n,e)) (fun k=>?_) rfl;simp only[zX.l0]
  rw[hw,if_pos (by omega),if_pos (by omega),hb,if_neg (by omega)]
theorem zgq {b:Bool} {s:ByteArray} {e:Int} (hd:dB s=true) (hz:s.size≤1000000) (h1:-1000000≤e) (h2:e≤1000000):Ev (fun k=>zX.f k b s e) (b,nD (vB s),nE (vB s) e):=by
 have hv:(zU (vB s)).size≤s.size:=zae (zeh hd);unfold zX.f;refine Ev.bind (zby (by omega) hd) ?_;by_cases h0:vB s=0
 ·simp only[uH.2 h0,if_true]
  rw[h0];exact Ev.now _
 have h3:¬ (zU (vB s)).toList=([]:List UInt8):=fun hh=>h0 (uH.1 hh)
 simp only[h3,if_false]
 exact zfI b b s e (vB s+1) (vB s) e h0 (by omega) (by omega) (by omega) (by omega)
theorem zeP {b:Bool} {s:ByteArray} {e:Int} (h:OkD s e):Ev (fun k=>zX.f k b s e) (b,nD (vB s),nE (vB s) e):=by
 have h1:=h.sz;have h2:=h.lo;have h3:=h.hi;exact zgq h.d (by omega) (by omega) (by omega)
def vF.f (k:Nat) (a0_0:Bool) (a0_1:ByteArray) (a0_2:Int):Option (Bool):=(zX.f k a0_0 a0_1 a0_2).bind fun bt595=>(if bt595.2.1.toList=([48]:List UInt8) then (some true) else (if bt595.2.2 ≥ (-300) then (some (decide ((wrap64 (bt595.2.2+(bt595.2.1.size:Int)))≤300))) else (some false)))
set_option maxHeartbeats 8000000 in
set_option maxRecDepth 100000 in
theorem vF.calls (k:Nat) (a0_0:Bool) (a0_1:ByteArray) (a0_2:Int) (r:Bool) (w:World) (h:vF.f k a0_0 a0_1 a0_2=some r) :
  Calls Tryz.prog 41 #[.agg #[.bool a0_0,.string a0_1,.int .i64 a0_2]] w fun e w'=>e=.returned (.bool r)∧Below w.heap.size w w':=by
 have hu23:=Tryz.underlying23;have HB:=K_ (Below.refl w.heap.size w);have H:((zX.f k a0_0 a0_1 a0_2).bind fun bt595=>(if bt595.2.1.toList=([48]:List UInt8) then (some true) else (if bt595.2.2 ≥ (-300) then (some (decide ((wrap64 (bt595.2.2+(bt595.2.1.size:Int)))≤300))) else (some false))))=some r:=h;clear h;obtain⟨⟨t595,t596,t597⟩,A20,H⟩:=Option.bind_eq_some_iff.mp H
 (try dsimp -simprocs only at H)
 have A2:=K_ A20;clear A20;by_cases c3:t596.toList=([48]:List UInt8)
 ·rw[if_pos c3] at H
  have c3b0:(t596.toList==([48]:List UInt8))=true:=beq_iff_eq.mpr c3;have c3b1:(t596.toList !=([48]:List UInt8))=false:=bne_eq_false_iff_eq.mpr c3;clear c3;obtain rfl:=Option.some.inj H;go_enter Tryz.func41,Tryz.ntmps41
  go_wp2_with (first|((with_reducible refine zE (N:=1) rfl ?_);(try (refine vG (by rfl) ?_;dsimp only));refine be_ 1 #[.bool a0_0,.string a0_1,.int .i64 a0_2] 23 ?_;intro gb594 hg w4 hbox hb;have BK594:=K_ (hbox);have GW594:=ge_ hg HB;have GE594:=ge_ hg HB;replace HB:=zF HB hb;clear hb hbox hg;obtain⟨⟨hcz5_0,hcz5_1,hcz5_2⟩,hfz5_0,hfz5_1,hfz5_2⟩:=ce3 BK594)|((with_reducible refine zK (f:=50) rfl ?_);refine zW (some 5) rfl rfl Tryz.func50 (by kernel_rfl) rfl #[.agg #[.bool a0_0,.string a0_1,.int .i64 a0_2]] rfl MP ?_;(with_reducible refine (zX.calls k a0_0 a0_1 a0_2 t595 t596 t597 _ A2.out).mono ?_);rintro e w6 ⟨rfl,hb⟩;refine⟨_,rfl,?_⟩;replace BK594:=zC BK594 hb;replace HB:=zF HB hb;(try clear hb);(try clear hb2);(try clear hk);(try clear hi))|((with_reducible refine zE (N:=3) rfl ?_);(try (refine vG (by rfl) ?_;dsimp only));refine be_ 3 #[.bool false,.string (⟨#[]⟩:ByteArray),.int .i64 0] 23 ?_;intro gb598 hg w7 hbox hb;have BK598:=K_ (hbox);have GW598:=ge_ hg HB;have GE598:=ge_ hg HB;replace HB:=zF HB hb;have NB594_598:=nb_ hg BK594;have NB598_594:=nc_ hg BK594;replace BK594:=zC BK594 hb;clear hb hbox hg;have hnb8:=NB598_594.out;have hnc8:=NB594_598.out;obtain⟨⟨hcz9_0,hcz9_1,hcz9_2⟩,hfz9_0,hfz9_1,hfz9_2⟩:=ce3 BK598))
  go_ret
  exact⟨ER,BL HB⟩
 rw[if_neg c3] at H;have c3b0:(t596.toList==([48]:List UInt8))=false:=beq_eq_false_iff_ne.mpr c3;have c3b1:(t596.toList !=([48]:List UInt8))=true:=bne_iff_ne.mpr c3;by_cases c10:t597 ≥ (-300)
 ·rw[if_pos c10] at H
  have c10b0:decide ((-300)≤t597)=true:=decide_eq_true c10;clear c10;obtain rfl:=Option.some.inj H;go_enter Tryz.func41,Tryz.ntmps41
  go_wp2_with (first|((with_reducible refine zE (N:=1) rfl ?_);(try (refine vG (by rfl) ?_;dsimp only));refine be_ 1 #[.bool a0_0,.string a0_1,.int .i64 a0_2] 23 ?_;intro gb594 hg w11 hbox hb;have BK594:=K_ (hbox);have GW594:=ge_ hg HB;have GE594:=ge_ hg HB;replace HB:=zF HB hb;clear hb hbox hg;obtain⟨⟨hcz12_0,hcz12_1,hcz12_2⟩,hfz12_0,hfz12_1,hfz12_2⟩:=ce3 BK594)|((with_reducible refine zK (f:=50) rfl ?_);refine zW (some 5) rfl rfl Tryz.func50 (by kernel_rfl) rfl #[.agg #[.bool a0_0,.string a0_1,.int .i64 a0_2]] rfl MP ?_;(with_reducible refine (zX.calls k a0_0 a0_1 a0_2 t595 t596 t597 _ A2.out).mono ?_);rintro e w13 ⟨rfl,hb⟩;refine⟨_,rfl,?_⟩;replace BK594:=zC BK594 hb;replace HB:=zF HB hb;(try clear hb);(try clear hb2);(try clear hk);(try clear hi))|((with_reducible refine zE (N:=3) rfl ?_);(try (refine vG (by rfl) ?_;dsimp only));refine be_ 3 #[.bool false,.string (⟨#[]⟩:ByteArray),.int .i64 0] 23 ?_;intro gb598 hg w14 hbox hb;have BK598:=K_ (hbox);have GW598:=ge_ hg HB;have GE598:=ge_ hg HB;replace HB:=zF HB hb;have NB594_598:=nb_ hg BK594;have NB598_594:=nc_ hg BK594;replace BK594:=zC BK594 hb;clear hb hbox hg;have hnb15:=NB598_594.out;have hnc15:=NB594_598.out;obtain⟨⟨hcz16_0,hcz16_1,hcz16_2⟩,hfz16_0,hfz16_1,hfz16_2⟩:=ce3 BK598))
  go_ret
  exact⟨ER,BL HB⟩
 rw[if_neg c10] at H;have c10b0:decide ((-300)≤t597)=false:=decide_eq_false c10;clear c10;obtain rfl:=Option.some.inj H;go_enter Tryz.func41,Tryz.ntmps41
 go_wp2_with (first|((with_reducible refine zE (N:=1) rfl ?_);(try (refine vG (by rfl) ?_;dsimp only));refine be_ 1 #[.bool a0_0,.string a0_1,.int .i64 a0_2] 23 ?_;intro gb594 hg w17 hbox hb;have BK594:=K_ (hbox);have GW594:=ge_ hg HB;have GE594:=ge_ hg HB;replace HB:=zF HB hb;clear hb hbox hg;obtain⟨⟨hcz18_0,hcz18_1,hcz18_2⟩,hfz18_0,hfz18_1,hfz18_2⟩:=ce3 BK594)|((with_reducible refine zK (f:=50) rfl ?_);refine zW (some 5) rfl rfl Tryz.func50 (by kernel_rfl) rfl #[.agg #[.bool a0_0,.string a0_1,.int .i64 a0_2]] rfl MP ?_;(with_reducible refine (zX.calls k a0_0 a0_1 a0_2 t595 t596 t597 _ A2.out).mono ?_);rintro e w19 ⟨rfl,hb⟩;refine⟨_,rfl,?_⟩;replace BK594:=zC BK594 hb;replace HB:=zF HB hb;(try clear hb);(try clear hb2);(try clear hk);(try clear hi))|((with_reducible refine zE (N:=3) rfl ?_);(try (refine vG (by rfl) ?_;dsimp only));refine be_ 3 #[.bool false,.string (⟨#[]⟩:ByteArray),.int .i64 0] 23 ?_;intro gb598 hg w20 hbox hb;have BK598:=K_ (hbox);have GW598:=ge_ hg HB;have GE598:=ge_ hg HB;replace HB:=zF HB hb;have NB594_598:=nb_ hg BK594;have NB598_594:=nc_ hg BK594;replace BK594:=zC BK594 hb;clear hb hbox hg;have hnb21:=NB598_594.out;have hnc21:=NB594_598.out;obtain⟨⟨hcz22_0,hcz22_1,hcz22_2⟩,hfz22_0,hfz22_1,hfz22_2⟩:=ce3 BK598))
 go_ret
 exact⟨ER,BL HB⟩
theorem zfB {b:Bool} {s:ByteArray} {e:Int} (h:OkD s e):Ev (fun k=>vF.f k b s e) (zaO (vB s) e):=by
 have h1:=h.sz;have h2:=h.lo;have h3:=h.hi;have hz:=h.val;unfold vF.f;refine Ev.bind (zeP h) ?_;unfold zaO;have hn:(nD (vB s)).toList=([48]:List UInt8) ↔ vB s=0:=by
  rw[←zcL];constructor
  ·intro h;apply qM;rw[←ByteArray.toList_eq,h];rfl
  intro h;rw[h,ByteArray.toList_eq];rfl
 by_cases h0:vB s=0
 ·simp only[hn.2 h0,if_true]
  refine zak (Ev.now _) ?_;simp[h0]
 have hn2:¬ (nD (vB s)).toList=([48]:List UInt8):=fun hh=>h0 (hn.1 hh)
 simp only[hn2,if_false]
 by_cases hr:nE (vB s) e ≥ -300
 ·have hl:=zbf h0
  have hnd:nD (vB s)=zU (yC (vB s)):=by unfold nD;rw[if_neg h0]
  have hne:nE (vB s) e=e+(tz (vB s):Int):=by unfold nE;rw[if_neg h0]
  have hw:wrap64 (nE (vB s) e+((nD (vB s)).size:Int))=nE (vB s) e+((nD (vB s)).size:Int):=by
   rw[hnd,hne,w64 (by omega) (by omega)]
  simp only[hr,if_true,hw]
  refine zak (Ev.now _) ?_;rw[decide_eq_decide];have hr':-300≤nE (vB s) e:=hr;unfold jZ;rw[if_neg h0,hnd];simp only[h0,hr',false_or,true_and]
  rw[hne];omega
 have hr':¬ -300≤nE (vB s) e:=hr;simp only[hr,if_false]
 refine zak (Ev.now _) ?_;simp[h0,hr']
end Go.Proofs.YtcmgdjnjmobkoaaGreatDoor.Px
namespace Go.Proofs.YtcmgdjnjmobkoaaGreatDoor.Px
set_option linter.all false
open Fig Go.RowKit Go.Proofs.YtcmgdjnjmobkoaaGreatDoorW.PrintWords Go.Proofs.YtcmgdjnjmobkoaaGreatDoorW.PrintLast Go.Proofs.YtcmgdjnjmobkoaaGreatDoorW.PrintMore
attribute [local go_sem] yS yR vN vM yF yE yU yT
structure vQ (q:Pat) (W:World) (b:Nat):Prop where
 r0:Kd.R k80 80 W b (fun _=>True) (.slice q.A0 q.l0.length q.c0) q.l0
 r1:Kd.R k80 80 W b (fun _=>True) (.slice q.A1 q.l1.length q.c1) q.l1
 r3:Kd.R k80 80 W b (fun _=>True) (.slice q.A3 q.l3.length q.c3) q.l3
 r4:Kd.R k80 80 W b (fun _=>True) (.slice q.A4 q.l4.length q.c4) q.l4
theorem vQ.below {q:Pat} {W W':World} {b:Nat} (h:vQ q W b) (hb:Below W.heap.size W W'):vQ q W' b:=⟨Kd.R_below h.r0 hb,Kd.R_below h.r1 hb,Kd.R_below h.r3 hb,Kd.R_below h.r4 hb⟩
theorem vQ.lower {q:Pat} {W:World} {b b':Nat} (h:vQ q W b) (hb:b'≤b):vQ q W b':=⟨Kd.R_lower h.r0 hb,Kd.R_lower h.r1 hb,Kd.R_lower h.r3 hb,Kd.R_lower h.r4 hb⟩
theorem zgP {t:TypeId} (ht:(80:Nat)≠t):∀ q,q∈80 :: k80.E→q≠t:=by
 intro q hq;have h8:(80 :: k80.E)=[80]:=rfl;rw[h8] at hq;have:q=80:=by simpa using hq
 rw[this];exact ht
theorem vQ.so {q:Pat} {W w1:World} {b g t:Nat} {cs:Array Value} (h:vQ q W b) (hb:W.heap[g]?=some (.cells cs t (0,0))) (ht:(80:Nat)≠t) (hfar:∀ k o,k≠g→W.heap[k]?=some o→w1.heap[k]?=some o):vQ q w1 b:=
 ⟨vY h.r0 hb (zgP ht) hfar,vY h.r1 hb (zgP ht) hfar,vY h.r3 hb (zgP ht) hfar,vY h.r4 hb (zgP ht) hfar⟩
structure zaJ (q:Pat):Prop where
 num:∃ t,vD t=some q.P
 g0:vS q.l0
 g1:vS q.l1
 g3:vS q.l3
 g4:vS q.l4
 nmix:¬ mixed q.l0 q.l1 q.l3 q.l4
 s0:q.l0.length≤1000
 s1:q.l1.length≤1000
 s3:q.l3.length≤1000
 s4:q.l4.length≤1000
theorem zaJ.good {q:Pat} (h:zaJ q):uC q.P:=by obtain⟨t,ht⟩:=h.num;exact zlV ht
theorem zaJ.more {q:Pat} (h:zaJ q):zdJ q.P:=by obtain⟨t,ht⟩:=h.num;exact zle ht
theorem vQ.ok {q:Pat} {W:World} {b:Nat} (h:vQ q W b) (g:zaJ q):xX q W:=
 ⟨(Kd.R_reads' h.r0).2.2,(Kd.R_reads' h.r1).2.2,(Kd.R_reads' h.r3).2.2,(Kd.R_reads' h.r4).2.2,(Kd.R_reads' h.r0).2.1,(Kd.R_reads' h.r1).2.1,(Kd.R_reads' h.r3).2.1,(Kd.R_reads' h.r4).2.1,g.s0,g.s1,g.s3,g.s4,g.g0,g.g1,g.g3,g.g4⟩
def zkY (s:ByteArray) (q:Pat) (E:Int):Prop:=∀ l,Ev (fun k=>zG.f k s) (l,0,0)→xO l→zav l→∀ P0,xW (l.map mk73) P0 →
   ¬ mixed (jJ (uF (l.map mk73) (qK (l.map mk73)) l.length)) (jJ (uE (l.map mk73) (qE (l.map mk73)) l.length)) (⟨2,0⟩ :: jJ (uF (l.map mk73) (qK (l.map mk73)) l.length)) (jJ (uE (l.map mk73) (qE (l.map mk73)) l.length)) →
   E=0∧q.P=P0∧q.l0=jJ (uF (l.map mk73) (qK (l.map mk73)) l.length)∧q.l1=jJ (uE (l.map mk73) (qE (l.map mk73)) l.length)∧q.l3=⟨2,0⟩ :: q.l0∧q.l4=q.l1
theorem ziK (s:ByteArray) (hs:s.size≤1048576) (w:World):Calls Tryz.prog 31 #[.string s] w fun e w'=>∃ (q:Pat) (E a:Int),e=.returned (.tuple #[.agg q.cs,.agg #[.int .i64 E,.int .i64 a]])∧vQ q w' w.heap.size∧Below w.heap.size w w'∧(E=0→zaJ q)∧zkY s q E:=by
 refine (zlx s hs w).mono ?_;rintro e w' ⟨v1,v2,v3,v4,px,sx,nx,ny,P,hn,at_,pad,wd,E,a,rfl,h1,h2,h3,h4,hb,hg,hex⟩;obtain⟨A0,c0,rfl⟩:=Kd.R_slice h1;obtain⟨A1,c1,rfl⟩:=Kd.R_slice h2;obtain⟨A3,c3,rfl⟩:=Kd.R_slice h3;obtain⟨A4,c4,rfl⟩:=Kd.R_slice h4;refine⟨⟨A0,A1,A3,A4,c0,c1,c3,c4,px,sx,nx,ny,hn,P,at_,pad,wd⟩,E,a,rfl,⟨h1,h2,h3,h4⟩,hb,fun hE=>?_,hex⟩;obtain⟨i1,i2,i3,i4,i5,i6,i7,i8,i9,i10⟩:=hg hE;exact⟨i1,i2,i3,i4,i5,i6,i7,i8,i9,i10⟩
abbrev zoG:=Bool×ByteArray×Int
def zjh (W:World) (ad:Addr) (L:List zoG):Prop:=∀ i (h:i<L.length),W.cell? (ad.add (i * 3))=some (.bool L[i].1)∧W.cell? ⟨(ad.add (i * 3)).block,(ad.add (i * 3)).off+1,none⟩=some (.string L[i].2.1)∧W.cell? ⟨(ad.add (i * 3)).block,(ad.add (i * 3)).off+2,none⟩=some (.int .i64 L[i].2.2)
theorem zjh.below {W W':World} {ad:Addr} {L:List zoG} (h:zjh W ad L) (hb:Below W.heap.size W W'):zjh W' ad L:=fun i hi=>by
 obtain⟨h1,h2,h3⟩:=h i hi;exact⟨(hb.cell (World.block_lt_of_cell? _ _ h1)).trans h1,(hb.cell (World.block_lt_of_cell? _ _ h2)).trans h2,(hb.cell (World.block_lt_of_cell? _ _ h3)).trans h3⟩
theorem a24:vV.f false ⟨#[49]⟩ (-2) (-2)=some (false,⟨#[49]⟩,-4):=by kernel_rfl
theorem c24:vV.f false ⟨#[49,50,51,52]⟩ (-4) 2=some (false,⟨#[49,50,51,52]⟩,-2):=by kernel_rfl
theorem e24:zbd.f false ⟨#[49,50,51,52]⟩ (-2) (-2)=some true:=by kernel_rfl
end Go.Proofs.YtcmgdjnjmobkoaaGreatDoor.Px
namespace Go.Proofs.YtcmgdjnjmobkoaaGreatDoor.Px
open Fig Go.RowKit Go.Proofs.YtcmgdjnjmobkoaaGreatDoorW.PrintWords Go.Proofs.YtcmgdjnjmobkoaaGreatDoorW.PrintLast Go.Proofs.YtcmgdjnjmobkoaaGreatDoorW.PrintMore
attribute [local go_sem] yS yR vN vM yF yE yU yT
attribute [local go_sem] uX uQ uP uU uV uO qA uR uZ uM uT uN uY uW

theorem zpv (e:Int) (p:Nat) (h1:-1000000≤e) (h2:e≤1000000) (hp:p≤1000000):wrap64 (e+(p:Int))=e+(p:Int):=w64 (by omega) (by omega)
theorem zpf (e:Int) (p q:Nat) (h1:-1000000≤e) (h2:e≤1000000) (hp:p≤1000000) (hq:q≤1000000):wrap64 (wrap64 (e+(p:Int))-(q:Int))=e+(p:Int)-(q:Int):=by rw[zpv e p h1 h2 hp,w64 (by omega) (by omega)]
theorem zih {b:Bool} {s:ByteArray} {e:Int} (h:OkD s e):vH.f b s e=some (b,nD (vB s),nE (vB s) e):=by
 have hz:=h.val;have h1:=h.sz;have h2:=h.lo;have h3:=h.hi;unfold vH.f;rw[show qB.f s (⟨#[48]⟩:ByteArray)=some (zU (vB s)) by unfold qB.f;rw[if_pos rfl,zhr h.d]];simp only[Option.bind_some]
 by_cases h0:vB s=0
 ·rw[if_pos (uH.2 h0),h0];rfl
 rw[if_neg (fun hh=>h0 (uH.1 hh))];have hl:=zbf h0;have ht:qG.f (zU (vB s)) (⟨#[48]⟩:ByteArray)=some (zU (yC (vB s))):=by
  unfold qG.f;rw[if_pos ⟨rfl,by omega⟩];show some (⟨(Lib.trimRightB (vL (vB s)) 48).toArray⟩:ByteArray)=_
  unfold Lib.trimRightB;rw[zkL h0];rfl
 rw[ht];simp only[Option.bind_some]
 rw[zpf e _ _ (by omega) (by omega) (by omega) (by omega)];unfold nD nE;rw[if_neg h0,if_neg h0,show e+((zU (vB s)).size:Int)-((zU (yC (vB s))).size:Int)=e+(tz (vB s):Int) by omega]






theorem zgn (n:Nat):(nD n).toList=([48]:List UInt8) ↔ n=0:=by
 rw[←zcL];constructor
 ·intro h;apply qM;rw[←ByteArray.toList_eq,h];rfl
 intro h;rw[h,ByteArray.toList_eq];rfl
theorem zpE (e:Int) (p:Nat) (h1:-1000000≤e) (h2:e≤1000000) (hp:p≤1000000):wrap64 (wrap64 (e+(p:Int))-1)=e+(p:Int)-1:=by
 rw[w64 (x:=e+(p:Int)) (by omega) (by omega),w64 (by omega) (by omega)]
theorem zoL {b:Bool} {s:ByteArray} {e:Int} (h:OkD s e):zaE.f b s e=some (jZ (vB s) e):=by
 have hz:=h.val;have h1:=h.sz;have h2:=h.lo;have h3:=h.hi;unfold zaE.f;rw[zih h];simp only[Option.bind_some]
 by_cases h0:vB s=0
 ·rw[if_pos ((zgn _).2 h0),h0];rfl
 rw[if_neg (fun hh=>h0 ((zgn _).1 hh))];have hl:=zbf h0;have hnd:nD (vB s)=zU (yC (vB s)):=by unfold nD;rw[if_neg h0]
 have hne:nE (vB s) e=e+(tz (vB s):Int):=by unfold nE;rw[if_neg h0]
 rw[hnd,hne,zpE _ _ (by omega) (by omega) (by omega)];unfold jZ;rw[if_neg h0];congr 1;omega






theorem zpi {b:Bool} {s:ByteArray} {e n:Int} (h:OkD s (e+n)) (h1:-1000000≤e) (h2:e≤1000000) (h3:-1000000≤n) (h4:n≤1000000):vV.f b s e n=some (b,nD (vB s),nE (vB s) (e+n)):=by
 unfold vV.f;rw[w64 (x:=e+n) (by omega) (by omega),zih h];rfl
def xZ.f (a0_0:Bool) (a0_1:ByteArray) (a0_2:Int):Option (Bool):=(vH.f a0_0 a0_1 a0_2).bind fun bt552=>(some (bt552.2.1.toList==([48]:List UInt8)))
set_option maxHeartbeats 8000000 in
set_option maxRecDepth 100000 in
theorem xZ.calls (a0_0:Bool) (a0_1:ByteArray) (a0_2:Int) (r:Bool) (w:World) (h:xZ.f a0_0 a0_1 a0_2=some r) :
  Calls Tryz.prog 65 #[.agg #[.bool a0_0,.string a0_1,.int .i64 a0_2]] w fun e w'=>e=.returned (.bool r)∧Below w.heap.size w w':=by
 have hu23:=Tryz.underlying23;have HB:=K_ (Below.refl w.heap.size w);have H:((vH.f a0_0 a0_1 a0_2).bind fun bt552=>(some (bt552.2.1.toList==([48]:List UInt8))))=some r:=h;clear h;replace H:=Option.bind_eq_some_iff.mp H;obtain⟨⟨t552,t553,t554⟩,A20,H⟩:=H;replace H:(some (t553.toList==([48]:List UInt8)))=some r:=H;have A2:=K_ A20;clear A20;obtain rfl:=Option.some.inj H;go_enter Tryz.func65,Tryz.ntmps65
 go_wp2_with (first|(refine be_ 1 #[.bool a0_0,.string a0_1,.int .i64 a0_2] 23 ?_;intro gb551 hg w3 hbox hb;have n0_:=zF HB hb;have n1_:=K_ (hbox);have n2_:=ge_ hg HB;have n3_:=ge_ hg HB;clear HB;have HB:=n0_;have BK551:=n1_;have GW551:=n2_;have GE551:=n3_;clear n0_ n1_ n2_ n3_;clear hb hbox hg;have hcz4_0:w3.cell? ⟨gb551,0,none⟩=some (.bool a0_0):=(zA BK551.out 0).trans rfl;have hcz4_1:w3.cell? ⟨gb551,1,none⟩=some (.string a0_1):=(zA BK551.out 1).trans rfl;have hcz4_2:w3.cell? ⟨gb551,2,none⟩=some (.int .i64 a0_2):=(zA BK551.out 2).trans rfl;have hfz4_0:=zL BK551.out 0;have hfz4_1:=zL BK551.out 1;have hfz4_2:=zL BK551.out 2)|((with_reducible refine zK (f:=59) rfl ?_);refine zW (some 4) rfl rfl Tryz.func59 (by kernel_rfl) rfl #[.agg #[.bool a0_0,.string a0_1,.int .i64 a0_2]] rfl MP ?_;(with_reducible refine (vH.calls a0_0 a0_1 a0_2 t552 t553 t554 _ A2.out).mono ?_);rintro e w5 ⟨rfl,hb⟩;refine⟨_,rfl,?_⟩;have n0_:=zC BK551 hb;have n1_:=zF HB hb;clear BK551;clear HB;have BK551:=n0_;have HB:=n1_;clear n0_ n1_;(try clear hb);(try clear hb2);(try clear hk);(try clear hi)))
 go_ret
 exact⟨ER,BL HB⟩
theorem zlg (n:Nat):(nD n).toList=([48]:List UInt8) ↔ n=0:=by
 rw[←zcL];constructor
 ·intro h;apply qM;rw[←ByteArray.toList_eq,h];rfl
 intro h;rw[h,ByteArray.toList_eq];rfl
theorem zkO {b:Bool} {s:ByteArray} {e:Int} (h:OkD s e):xZ.f b s e=some (decide (vB s=0)):=by
 unfold xZ.f;rw[zih h];simp only[Option.bind_some,Option.some.injEq]
 rw[Bool.eq_iff_iff,beq_iff_eq,decide_eq_true_eq];exact zlg _


theorem countP {b:Bool} {s:ByteArray} {e:Int} (h:OkD s e):zhH.f b s e=some ((nD (vB s)).size:Int):=by
 unfold zhH.f;rw[zih h];rfl
end Go.Proofs.YtcmgdjnjmobkoaaGreatDoor.Px
namespace Go.Proofs.YtcmgdjnjmobkoaaGreatDoor.Px
set_option linter.all false
open Fig Go.RowKit Go.Proofs.YtcmgdjnjmobkoaaGreatDoorW.PrintWords Go.Proofs.YtcmgdjnjmobkoaaGreatDoorW.PrintLast Go.Proofs.YtcmgdjnjmobkoaaGreatDoorW.PrintMore
attribute [local go_sem] yS yR vN vM yF yE yU yT
theorem zlj {m:Int} {neg:Bool} {n st x y:Nat} {e p k:Int} (hn:(zU n).size≤x) (hs:(zU st).size≤y) (hs0:st≠0) (h1:k≤e) (h2:k≤p):(zU (rv0 m neg n e st p k)).size≤max (x+(e-k).toNat) (y+(p-k).toNat)+1:=by
 have a:=zgW neg (n:=n) (p:=x) e k hn;have b:=zgW neg (n:=st) (p:=y) p k hs;rw[zeA] at a b;have hB:=zjW hs0 p k;have h3:=(zod (m:=m) (neg:=neg) (N:=atE n e k) hB).1;refine zaI (n:=atE n e k+atE st p k) (by unfold rv0;omega) ?_;exact zfL (zaI (Nat.le_refl _) (by omega)) (zaI (Nat.le_refl _) (by omega))
def cS (P:jY):Nat:=(zax P).2.toNat
theorem zny {P:jY} (hg:uC P):1≤cS P∧cS P≤80∧(zax P).2=(cS P:Int):=by
 have:=hg.mi0;have:=hg.mi4;have:=hg.mf0;have:=hg.mfx;have:=hg.xf4;have:=hg.ms0;have:=hg.msx;have:=hg.xs4
 unfold cS zax;split
 ·refine⟨by omega,by omega,by omega⟩
 have h:=zaT hg;have h1:1≤jV P+P.xf:=by
  unfold jV;split
  ·omega
  rename_i hn
  by_cases h0:P.mi+P.xf=0
  ·exact absurd (.inr (.inr h0)) hn
  omega
 refine⟨by show 1≤(jV P+P.xf).toNat;omega,by show (jV P+P.xf).toNat≤80;omega,by show jV P+P.xf=((jV P+P.xf).toNat:Int);omega⟩
def stP (P:jY) (t:Int):Nat×Int:=if P.sci=true∨0<P.ms then (1,t-(cS P:Int)+1) else if P.inc.size≠0 then (vB P.inc,-P.xf) else (1,-P.xf)
theorem zpt {P:jY} (hg:uC P) (hm:zdJ P) (t:Int):(stP P t).1≠0∧(zU (stP P t).1).size≤40∧t-80≤max (stP P t).2 (t-80)∧((stP P t).2=t-(cS P:Int)+1∨(-40≤(stP P t).2∧(stP P t).2≤0)):=by
 have:=hg.mf0;have:=hg.mfx;have:=hg.xf4
 unfold stP;split
 ·exact⟨by show (1:Nat)≠0;decide,by show (zU 1).size≤40;rw[zcP];decide,by omega,.inl rfl⟩
 split
 ·rename_i hi
  obtain⟨h1,h2⟩:=hm.dig hi;exact⟨h2,Nat.le_trans (zae (zeh h1)) hg.inc4,by omega,.inr ⟨by show -40≤-P.xf;omega,by show -P.xf≤0;omega⟩⟩
 exact⟨by show (1:Nat)≠0;decide,by show (zU 1).size≤40;rw[zcP];decide,by omega,.inr ⟨by show -40≤-P.xf;omega,by show -P.xf≤0;omega⟩⟩
theorem zfm (q:Pat):0≤q.mult∧q.mult≤3:=by unfold Pat.mult;split;omega;split <;> omega
def zhc (b:Bool) (N:Nat) (X:Int):Bool×ByteArray×Int×Int:=if zaO (yC N) X=true then (b,nD N,X,0) else (false,⟨#[]⟩,0,10)
theorem zkX {n:Nat} {e:Int} (h:(zU n).size≤1000) (h1:-1010≤e) (h2:e≤1010):-1010≤jZ n e∧jZ n e≤2010:=by
 unfold jZ;split
 ·omega
 rename_i h0
 have:(zU n).size≠0:=fun hh=>h0 (qX.1 hh)
 omega
def rN (q:Pat) (m:Int) (b:Bool) (n:Nat) (e:Int):Nat:=rv0 m b (yC n) (nE n (e+q.mult)) (stP q.P (jZ n (e+q.mult))).1 (stP q.P (jZ n (e+q.mult))).2 (min (nE n (e+q.mult)) (stP q.P (jZ n (e+q.mult))).2)
def rK (q:Pat) (n:Nat) (e:Int):Int:=min (nE n (e+q.mult)) (stP q.P (jZ n (e+q.mult))).2
def rX (q:Pat) (m:Int) (b:Bool) (n:Nat) (e:Int):Int:=nE (yC (rN q m b n e)) (nE (rN q m b n e) (rK q n e) + -q.mult)
end Go.Proofs.YtcmgdjnjmobkoaaGreatDoor.Px
namespace Go.Proofs.YtcmgdjnjmobkoaaGreatDoor.Px
open Fig Go.RowKit Go.Proofs.YtcmgdjnjmobkoaaGreatDoorW.PrintWords Go.Proofs.YtcmgdjnjmobkoaaGreatDoorW.PrintLast Go.Proofs.YtcmgdjnjmobkoaaGreatDoorW.PrintMore
attribute [local go_sem] yS yR vN vM yF yE yU yT
attribute [local go_sem] uX uQ uP uU uV uO qA uR uZ uM uT uN uY uW
def zaV.f (a0_0:Bool) (a0_1:ByteArray) (a0_2:Int) (a1:Int):Option (Int):=(xZ.f a0_0 a0_1 a0_2).bind fun t556=>(if t556=true then (some 0) else (some (mx 0 (wrap64 (a1-a0_2)))))
set_option maxHeartbeats 8000000 in
set_option maxRecDepth 100000 in
theorem zaV.calls (a0_0:Bool) (a0_1:ByteArray) (a0_2:Int) (a1:Int) (r:Int) (w:World) (h:zaV.f a0_0 a0_1 a0_2 a1=some r) :
  Calls Tryz.prog 64 #[.agg #[.bool a0_0,.string a0_1,.int .i64 a0_2],.int .i64 a1] w fun e w'=>e=.returned (.int .i64 r)∧Below w.heap.size w w':=by
 have hu23:=Tryz.underlying23;have HB:=K_ (Below.refl w.heap.size w);have H:((xZ.f a0_0 a0_1 a0_2).bind fun t556=>(if t556=true then (some 0) else (some (mx 0 (wrap64 (a1-a0_2))))))=some r:=h;clear h;obtain⟨t556,A30,H⟩:=Option.bind_eq_some_iff.mp H
 (try dsimp -simprocs only at H)
 have A3:=K_ A30;clear A30;by_cases c4:t556=true
 ·subst c4
  rw[if_pos rfl] at H;obtain rfl:=Option.some.inj H;go_enter Tryz.func64,Tryz.ntmps64
  go_wp2_with (first|(refine be_ 2 #[.bool a0_0,.string a0_1,.int .i64 a0_2] 23 ?_;intro gb555 hg w5 hbox hb;have BK555:=K_ (hbox);have GW555:=ge_ hg HB;have GE555:=ge_ hg HB;replace HB:=zF HB hb;clear hb hbox hg;obtain⟨⟨hcz6_0,hcz6_1,hcz6_2⟩,hfz6_0,hfz6_1,hfz6_2⟩:=ce3 BK555)|((with_reducible refine zK (f:=65) rfl ?_);refine zW (some 6) rfl rfl Tryz.func65 (by kernel_rfl) rfl #[.agg #[.bool a0_0,.string a0_1,.int .i64 a0_2]] rfl MP ?_;(with_reducible refine (xZ.calls a0_0 a0_1 a0_2 true _ A3.out).mono ?_);rintro e w7 ⟨rfl,hb⟩;refine⟨_,rfl,?_⟩;replace BK555:=zC BK555 hb;replace HB:=zF HB hb;(try clear hb);(try clear hb2);(try clear hk);(try clear hi)))
  go_ret
  exact⟨ER,BL HB⟩
 replace c4:=Bool.eq_false_iff.mpr c4;subst c4;rw[if_neg (show ¬ (false=true) by decide)] at H;obtain⟨ji8,hji8⟩:∃ j_:Int,(mx 0 (wrap64 (a1-a0_2)))=j_:=⟨_,rfl⟩
 replace H:(some ji8)=some r:=by first|(rw[hji8] at H;exact H)|(simp only[hji8] at H ⊢;exact H)
 (try rw[hji8] at A3)
 (try (have hji8l:0≤ji8:=by (rw[←hji8];unfold mx;(repeat' split) <;> omega)))
 (try (have hji8m:0≤ji8:=by omega))
 have hji8_:(if 0<(wrap64 (a1-a0_2)) then (wrap64 (a1-a0_2)) else 0)=ji8:=hji8;obtain rfl:=Option.some.inj H;go_enter Tryz.func64,Tryz.ntmps64
 go_wp2_with (first|(refine be_ 2 #[.bool a0_0,.string a0_1,.int .i64 a0_2] 23 ?_;intro gb555 hg w9 hbox hb;have BK555:=K_ (hbox);have GW555:=ge_ hg HB;have GE555:=ge_ hg HB;replace HB:=zF HB hb;clear hb hbox hg;obtain⟨⟨hcz10_0,hcz10_1,hcz10_2⟩,hfz10_0,hfz10_1,hfz10_2⟩:=ce3 BK555)|((with_reducible refine zK (f:=65) rfl ?_);refine zW (some 6) rfl rfl Tryz.func65 (by kernel_rfl) rfl #[.agg #[.bool a0_0,.string a0_1,.int .i64 a0_2]] rfl MP ?_;(with_reducible refine (xZ.calls a0_0 a0_1 a0_2 false _ A3.out).mono ?_);rintro e w11 ⟨rfl,hb⟩;refine⟨_,rfl,?_⟩;replace BK555:=zC BK555 hb;replace HB:=zF HB hb;(try clear hb);(try clear hb2);(try clear hk);(try clear hi);obtain⟨⟨hcz12_0,hcz12_1,hcz12_2⟩,hfz12_0,hfz12_1,hfz12_2⟩:=ce3 BK555))
 go_ret
 exact⟨by first|rfl|(simp[vA,vC] <;> rfl)|(simp only[←hji8];first|rfl|(simp[vA,vC] <;> rfl))|(simp[*,vA,vC] <;> rfl),BL HB⟩
end Go.Proofs.YtcmgdjnjmobkoaaGreatDoor.Px
namespace Go.Proofs.YtcmgdjnjmobkoaaGreatDoor.Px
set_option linter.all false
open Fig Go.RowKit Go.Proofs.YtcmgdjnjmobkoaaGreatDoorW.PrintWords Go.Proofs.YtcmgdjnjmobkoaaGreatDoorW.PrintLast Go.Proofs.YtcmgdjnjmobkoaaGreatDoorW.PrintMore
attribute [local go_sem] yS yR vN vM yF yE yU yT
theorem xP:(Tryz.prog.info? 36).map (·.size)=some 4:=by kernel_rfl
def zbl (n:Nat) (e p:Int):Int:=if n=0 then 0 else max 0 (p-e)
def zci (P:jY) (n:Nat) (e:Int):Int:=if n=0 then (if 0<P.ms then 1 else P.mi) else max (if 0<P.ms then 1 else P.mi) (jZ n e+1)
def zcj (P:jY) (n:Nat) (e:Int):Int:=max (if 0<P.ms then P.ms-1-jZ n e else P.mf) (zbl n e 0)
def zag (P:jY) (n:Nat) (e:Int):ByteArray×ByteArray×Int:=(jQ n e (zci P n e-1) 0,jQ n e (-1) (-zcj P n e),0)
def zcq (P:jY) (n:Nat) (e:Int):Int:=if qJ P=true then jZ n e-jZ n e % P.xi else jZ n e-jV P+1
def zco (P:jY) (n:Nat) (e:Int):Int:=if qJ P=true then jZ n e-(jZ n e-jZ n e % P.xi)+1 else jV P
def zaA (P:jY) (n:Nat) (e:Int):Int:=if n=0 then 0 else zcq P n e
def zga (P:jY) (n:Nat) (e:Int):Int:=max ((zax P).1-zco P n e) (zbl n e (zaA P n e))
def zbr (P:jY) (n:Nat) (e:Int):ByteArray×ByteArray×Int:=(jQ n e (zaA P n e+zco P n e-1) (zaA P n e),jQ n e (zaA P n e-1) (zaA P n e-zga P n e),zaA P n e)
def zdG (r:ByteArray×ByteArray×Int):ByteArray×ByteArray×Int:=if r.1++r.2.1=⟨#[]⟩ then (⟨#[48]⟩,r.2.1,r.2.2) else r
def xE (P:jY) (n:Nat) (e:Int):ByteArray×ByteArray×Int:=zdG (if P.sci=true then zbr P n e else zag P n e)
theorem zaa (b:Bool) (s:ByteArray) (e:Int) (ok:OkD s e) (hi lo:Int) (h1:-200000≤lo) (h2:hi≤200000) (h3:lo≤200000) (h4:-200000≤hi) {x y:Int} (hx:x=hi) (hy:y=lo) (w:World) :
  Calls Tryz.prog 66 #[.agg #[.bool b,.string s,.int .i64 e],.int .i64 x,.int .i64 y] w fun e' w'=>e'=.returned (.string (jQ (vB s) e hi lo))∧Below w.heap.size w w':=by
 subst hx;subst hy;exact zlU b s e ok x y h1 h2 h3 h4 w
theorem znB {b:Bool} {s:ByteArray} {e p:Int} (ok:OkS s e) (h1:-100000≤p) (h2:p≤100000):zaV.f b s e p=some (zbl (vB s) e p):=by
 have:=ok.lo;have:=ok.hi
 unfold zaV.f zbl;rw[zkO ok.ok];simp only[Option.bind_some,decide_eq_true_eq]
 split
 ·rfl
 rw[w64 (by omega) (by omega)];unfold mx;congr 1;split <;> omega
theorem zea {s:ByteArray} {e p:Int} (ok:OkS s e) (h1:-100000≤p) (h2:p≤100000):0≤zbl (vB s) e p∧zbl (vB s) e p≤110000:=by
 have:=ok.lo
 unfold zbl;split <;> omega
theorem zdL {s:ByteArray} {e:Int} (ok:OkS s e):-10000≤jZ (vB s) e∧jZ (vB s) e≤20000:=by
 have h1:=ok.lo;have h2:=ok.hi;have h3:=ok.ok.val;have h4:=ok.sz;unfold jZ;split
 ·omega
 rename_i h0
 have:(zU (vB s)).size≠0:=fun hh=>h0 (qX.1 hh)
 omega
set_option maxHeartbeats 8000000 in
set_option maxRecDepth 100000 in
theorem zik (q:Pat) (hg:uC q.P) (b:Bool) (s:ByteArray) (e:Int) (ok:OkS s e) (w:World) :
  Calls Tryz.prog 38 #[.agg q.cs,.agg #[.bool b,.string s,.int .i64 e]] w fun e' w'=>e'=.returned (.agg #[.bool b,.string (zag q.P (vB s) e).1,.string (zag q.P (vB s) e).2.1,.int .i64 (zag q.P (vB s) e).2.2])∧Below w.heap.size w w':=by
 have HB:=K_ (Below.refl w.heap.size w);have HOK:=K_ ok;have HT:=K_ (zoL (b:=b) ok.ok);have HZ:=K_ (zkO (b:=b) ok.ok);have HF:=K_ (znB (b:=b) (p:=0) ok (by decide) (by decide));have hf:=zea (p:=0) ok (by decide) (by decide);have ht:=zdL ok;have hmi:=And.intro hg.mi0 hg.mi4;have hmf:=And.intro hg.mf0 (And.intro hg.mfx hg.xf4);have hms:=And.intro hg.ms0 (And.intro hg.msx hg.xs4);obtain⟨fn,hfn⟩:∃ fn,fn=zbl (vB s) e 0:=⟨_,rfl⟩
 obtain⟨tp,htp⟩:∃ tp,tp=jZ (vB s) e:=⟨_,rfl⟩
 obtain⟨nn,hnn⟩:∃ nn,nn=zci q.P (vB s) e:=⟨_,rfl⟩
 obtain⟨blw,hbb⟩:∃ blw,blw=zcj q.P (vB s) e:=⟨_,rfl⟩
 have HRES:=K_ (show Ending.returned (Value.agg #[.bool b,.string (jQ (vB s) e (nn-1) 0),.string (jQ (vB s) e (-1) (-blw)),.int .i64 0])=.returned (.agg #[.bool b,.string (zag q.P (vB s) e).1,.string (zag q.P (vB s) e).2.1,.int .i64 (zag q.P (vB s) e).2.2]) by rw[hnn,hbb];rfl);unfold zci at hnn;unfold zcj at hbb;rw[←hfn] at HF hf hbb;rw[←htp] at HT ht hnn hbb;have h1:-20000≤nn∧nn≤30000:=by rw[hnn];split <;> (try split) <;> omega
 have h2:0≤blw∧blw≤120000:=by rw[hbb];split <;> omega
 have HNN:=K_ hnn;have HBBE:=K_ hbb;clear hnn hbb hfn htp;go_enter Tryz.func38,Tryz.ntmps38
 go_upto_region 2 with (first|((with_reducible refine zE (N:=2) rfl ?_);refine bx_ 2 (q.cs) 26 ?_ rfl rfl rfl rfl rfl;intro g2 hg w2 hbox hb;have BK2:=K_ hbox;have GE2:=ge_ hg HB;replace HB:=zF HB hb;clear hb hbox hg)|((with_reducible refine zE (N:=3) rfl ?_);refine bx_ 3 (#[.bool b,.string s,.int .i64 e]) 23 ?_ rfl rfl rfl rfl rfl;intro g3 hg w2 hbox hb;have BK3:=K_ hbox;have GE3:=ge_ hg HB;have NB2_3:=nb_ hg BK2;replace BK2:=zC BK2 hb;replace HB:=zF HB hb;clear hb hbox hg)|((with_reducible refine zE (N:=4) rfl ?_);refine be_ 4 (#[.bool false,.string (⟨#[]⟩:ByteArray),.string (⟨#[]⟩:ByteArray),.int .i64 0]) 36 ?_;intro g4 hg w2 hbox hb;have BK4:=K_ hbox;have GE4:=ge_ hg HB;have NB2_4:=nb_ hg BK2;replace BK2:=zC BK2 hb;have NB3_4:=nb_ hg BK3;replace BK3:=zC BK3 hb;replace HB:=zF HB hb;clear hb hbox hg)|((with_reducible refine zE (N:=8) rfl ?_);refine lo_ (g:=g3) (cs:=#[.bool b,.string s,.int .i64 e]) _ ⟨BK BK3⟩ ?_ rfl rfl rfl Tryz.underlying23 rfl jL)|(go_at_call 60;refine (zaE.calls b s e tp _ HT.out).mono ?_;rintro e9 w' ⟨rfl,hb⟩;replace HB:=zF HB hb;replace BK2:=zC BK2 hb;replace BK3:=zC BK3 hb;replace BK4:=zC BK4 hb;clear hb))
 have e5:=(show w'.cell? ⟨g2,5,none⟩=some (.int .i64 q.P.mi) from (zA BK2.out 5).trans rfl)
 have e7:=(show w'.cell? ⟨g2,7,none⟩=some (.int .i64 q.P.mf) from (zA BK2.out 7).trans rfl)
 have e9:=(show w'.cell? ⟨g2,9,none⟩=some (.int .i64 q.P.ms) from (zA BK2.out 9).trans rfl)
 go_region
 have hw9:wrap64 (tp+1)=tp+1:=w64 (by omega) (by omega);by_cases h9:0<q.P.ms
 ·have d9:decide (0<q.P.ms)=true:=decide_eq_true h9
  rw[if_pos h9] at HNN HBBE;have hw1:wrap64 (wrap64 (q.P.ms-1)-tp)=q.P.ms-1-tp:=by rw[w64 (x:=q.P.ms-1) (by omega) (by omega),w64 (by omega) (by omega)]
  have hm1:(if q.P.ms-1-tp<fn then fn else q.P.ms-1-tp)=blw:=by rw[HBBE.out];split <;> omega
  go_upto_region 4 with (fail)
  go_region
  go_upto_region 6 with (first|((with_reducible refine zE (N:=23) rfl ?_);refine lo_ (g:=g3) (cs:=#[.bool b,.string s,.int .i64 e]) _ ⟨BK BK3⟩ ?_ rfl rfl rfl Tryz.underlying23 rfl jL)|(go_at_call 64;refine (zaV.calls b s e 0 fn _ HF.out).mono ?_;rintro e9 w' ⟨rfl,hb⟩;replace HB:=zF HB hb;replace BK2:=zC BK2 hb;replace BK3:=zC BK3 hb;replace BK4:=zC BK4 hb;clear hb))
  cases hz:decide (vB s=0)
  ·rw[hz] at HZ
   have h0:vB s≠0:=of_decide_eq_false hz;rw[if_neg h0] at HNN;have hm2:(if 1<tp+1 then tp+1 else 1)=nn:=by rw[HNN.out];split <;> omega
   go_upto_region 8 with (first|((with_reducible refine zE (N:=26) rfl ?_);refine lo_ (g:=g3) (cs:=#[.bool b,.string s,.int .i64 e]) _ ⟨BK BK3⟩ ?_ rfl rfl rfl Tryz.underlying23 rfl jL)|(go_at_call 65;refine (xZ.calls b s e false _ HZ.out).mono ?_;rintro e9 w' ⟨rfl,hb⟩;replace HB:=zF HB hb;replace BK2:=zC BK2 hb;replace BK3:=zC BK3 hb;replace BK4:=zC BK4 hb;clear hb))
   clear e5 e7 e9;have hwn:wrap64 (nn-1)=nn-1:=w64 (by omega) (by omega);have hwb:wrap64 (-blw)=-blw:=w64 (by omega) (by omega);refine yA (n:=12) (S:=fun W=>W.heap[g3]?=some (.cells #[.bool b,.string s,.int .i64 e] 23 (0,0))∧W.cell? ⟨g3,0,none⟩=some (.bool b)) (ds:=[]) #[false,false,false,false,false,false,false,false,false,false,false,false] (by kernel_rfl) rfl rfl ⟨(BK BK3),(zA (BK BK3) 0).trans rfl⟩ (fun hHeld=>?_);refine jG (fun W=>W.heap[g3]?=some (.cells #[.bool b,.string s,.int .i64 e] 23 (0,0))∧W.heap[g4]?=some (.cells #[.bool false,.string (⟨#[]⟩:ByteArray),.string (⟨#[]⟩:ByteArray),.int .i64 0] 36 (0,0))∧Below w.heap.size w W) ⟨BK BK3,BK BK4,BL HB⟩ ?_;clear hHeld BK2 BK3 BK4 HB;rintro W ⟨hb3,hb4,hbw⟩;have BK3:=K_ hb3;have BK4:=K_ hb4;have HB:=K_ hbw;have hHeld:=(show W.heap[g3]?=some (.cells #[.bool b,.string s,.int .i64 e] 23 (0,0))∧W.cell? ⟨g3,0,none⟩=some (.bool b) from ⟨hb3,(zA hb3 0).trans rfl⟩)
   clear hb3 hb4 hbw;refine pw_ 0 33 (bb 12 1) ?_;refine tw_ 1 34 (bb 12 3) hHeld ?_;refine tr_ 2 35 (bb 12 7) (#[.bool b,.string s,.int .i64 e]) (fun _ hs=>⟨hs.1⟩) Tryz.underlying23 jL hHeld ?_;refine pw_ 3 36 (bb 12 15) ?_;refine pw_ 4 37 (bb 12 31) ?_;refine tr_ 6 39 (bb 12 95) (#[.bool b,.string s,.int .i64 e]) (fun _ hs=>⟨hs.1⟩) Tryz.underlying23 jL hHeld ?_;refine pw_ 7 40 (bb 12 223) ?_;refine pw_ 8 41 (bb 12 479) ?_;refine on_ 5 (some 38) (bb 12 511) (fun K hK=>?_);refine gq_ Tryz.func66 #[.agg #[.bool b,.string s,.int .i64 e],.int .i64 (wrap64 (nn-1)),.int .i64 0] ?_;refine (zaa b s e HOK.out.ok (nn-1) 0 (by decide) (by omega) (by decide) (by omega) (hwn) rfl _).mono ?_;rintro e9 w' ⟨rfl,hb⟩;refine⟨_,rfl,?_⟩;replace HB:=zF HB hb;replace BK3:=zC BK3 hb;replace BK4:=zC BK4 hb;clear hb;clear hHeld;refine hK.out _ _ ⟨BK3.out,(zA BK3.out 0).trans rfl⟩ (fun hHeld=>?_);clear hK K;refine no_ (some 38) ?_;refine on_ 9 (some 42) (bb 12 1023) (fun K hK=>?_);refine gq_ Tryz.func66 #[.agg #[.bool b,.string s,.int .i64 e],.int .i64 (-1),.int .i64 (wrap64 (-blw))] ?_;refine (zaa b s e HOK.out.ok (-1) (-blw) (by omega) (by decide) (by omega) (by decide) rfl hwb _).mono ?_;rintro e9 w' ⟨rfl,hb⟩;refine⟨_,rfl,?_⟩;replace HB:=zF HB hb;replace BK3:=zC BK3 hb;replace BK4:=zC BK4 hb;clear hb;clear hHeld;refine hK.out _ _ ⟨BK3.out,(zA BK3.out 0).trans rfl⟩ (fun hHeld=>?_);clear hK K;refine no_ (some 42) ?_;refine pw_ 10 43 (bb 12 2047) ?_;refine on_ 11 none (bb 12 4095) (fun K hK=>?_);refine yL (g:=g4) (cs:=#[.bool false,.string (⟨#[]⟩:ByteArray),.string (⟨#[]⟩:ByteArray),.int .i64 0]) (#[.bool b,.string (jQ (vB s) e (nn-1) 0),.string (jQ (vB s) e (-1) (-blw)),.int .i64 0]) BK4 ?_ rfl rfl rfl rfl rfl xP rfl rfl
   intro w9 hbk hfar hbel;have BK9:=K_ (hfar _ _ NB3_4.out BK3.out);replace BK4:=K_ hbk;replace HB:=K_ (hbel _ _ GE4.out HB.out);refine hK.out _ _ ⟨BK9.out,(zA BK9.out 0).trans rfl⟩ (fun _=>?_);clear hK K hbk hfar hbel;refine yN (by kernel_rfl) ?_;go_wp2_with (fail)
   refine bodyPost_ret (results_cell_row rfl _ _ g4 36 (#[.bool b,.string (jQ (vB s) e (nn-1) 0),.string (jQ (vB s) e (-1) (-blw)),.int .i64 0]) (0,0) _ rfl BK4.out Tryz.underlying36 rfl xP) rfl ?_;exact⟨HRES.out,BL HB⟩
  rw[hz] at HZ;have h0:vB s=0:=of_decide_eq_true hz;rw[if_pos h0] at HNN;clear h0 hz;go_upto_region 8 with (first|((with_reducible refine zE (N:=26) rfl ?_);refine lo_ (g:=g3) (cs:=#[.bool b,.string s,.int .i64 e]) _ ⟨BK BK3⟩ ?_ rfl rfl rfl Tryz.underlying23 rfl jL)|(go_at_call 65;refine (xZ.calls b s e true _ HZ.out).mono ?_;rintro e9 w' ⟨rfl,hb⟩;replace HB:=zF HB hb;replace BK2:=zC BK2 hb;replace BK3:=zC BK3 hb;replace BK4:=zC BK4 hb;clear hb))
  clear e5 e7 e9;have hwn:wrap64 (nn-1)=nn-1:=w64 (by omega) (by omega);have hwb:wrap64 (-blw)=-blw:=w64 (by omega) (by omega);refine yA (n:=12) (S:=fun W=>W.heap[g3]?=some (.cells #[.bool b,.string s,.int .i64 e] 23 (0,0))∧W.cell? ⟨g3,0,none⟩=some (.bool b)) (ds:=[]) #[false,false,false,false,false,false,false,false,false,false,false,false] (by kernel_rfl) rfl rfl ⟨(BK BK3),(zA (BK BK3) 0).trans rfl⟩ (fun hHeld=>?_);refine jG (fun W=>W.heap[g3]?=some (.cells #[.bool b,.string s,.int .i64 e] 23 (0,0))∧W.heap[g4]?=some (.cells #[.bool false,.string (⟨#[]⟩:ByteArray),.string (⟨#[]⟩:ByteArray),.int .i64 0] 36 (0,0))∧Below w.heap.size w W) ⟨BK BK3,BK BK4,BL HB⟩ ?_;clear hHeld BK2 BK3 BK4 HB;rintro W ⟨hb3,hb4,hbw⟩;have BK3:=K_ hb3;have BK4:=K_ hb4;have HB:=K_ hbw;have hHeld:=(show W.heap[g3]?=some (.cells #[.bool b,.string s,.int .i64 e] 23 (0,0))∧W.cell? ⟨g3,0,none⟩=some (.bool b) from ⟨hb3,(zA hb3 0).trans rfl⟩)
  clear hb3 hb4 hbw;refine pw_ 0 33 (bb 12 1) ?_;refine tw_ 1 34 (bb 12 3) hHeld ?_;refine tr_ 2 35 (bb 12 7) (#[.bool b,.string s,.int .i64 e]) (fun _ hs=>⟨hs.1⟩) Tryz.underlying23 jL hHeld ?_;refine pw_ 3 36 (bb 12 15) ?_;refine pw_ 4 37 (bb 12 31) ?_;refine tr_ 6 39 (bb 12 95) (#[.bool b,.string s,.int .i64 e]) (fun _ hs=>⟨hs.1⟩) Tryz.underlying23 jL hHeld ?_;refine pw_ 7 40 (bb 12 223) ?_;refine pw_ 8 41 (bb 12 479) ?_;refine on_ 5 (some 38) (bb 12 511) (fun K hK=>?_);refine gq_ Tryz.func66 #[.agg #[.bool b,.string s,.int .i64 e],.int .i64 (wrap64 (1-1)),.int .i64 0] ?_;refine (zaa b s e HOK.out.ok (nn-1) 0 (by decide) (by omega) (by decide) (by omega) (by rw[HNN.out];exact w64 (by omega) (by omega)) rfl _).mono ?_;rintro e9 w' ⟨rfl,hb⟩;refine⟨_,rfl,?_⟩;replace HB:=zF HB hb;replace BK3:=zC BK3 hb;replace BK4:=zC BK4 hb;clear hb;clear hHeld;refine hK.out _ _ ⟨BK3.out,(zA BK3.out 0).trans rfl⟩ (fun hHeld=>?_);clear hK K;refine no_ (some 38) ?_;refine on_ 9 (some 42) (bb 12 1023) (fun K hK=>?_);refine gq_ Tryz.func66 #[.agg #[.bool b,.string s,.int .i64 e],.int .i64 (-1),.int .i64 (wrap64 (-blw))] ?_;refine (zaa b s e HOK.out.ok (-1) (-blw) (by omega) (by decide) (by omega) (by decide) rfl hwb _).mono ?_;rintro e9 w' ⟨rfl,hb⟩;refine⟨_,rfl,?_⟩;replace HB:=zF HB hb;replace BK3:=zC BK3 hb;replace BK4:=zC BK4 hb;clear hb;clear hHeld;refine hK.out _ _ ⟨BK3.out,(zA BK3.out 0).trans rfl⟩ (fun hHeld=>?_);clear hK K;refine no_ (some 42) ?_;refine pw_ 10 43 (bb 12 2047) ?_;refine on_ 11 none (bb 12 4095) (fun K hK=>?_)
  refine yL (g:=g4) (cs:=#[.bool false,.string (⟨#[]⟩:ByteArray),.string (⟨#[]⟩:ByteArray),.int .i64 0]) (#[.bool b,.string (jQ (vB s) e (nn-1) 0),.string (jQ (vB s) e (-1) (-blw)),.int .i64 0]) BK4 ?_ rfl rfl rfl rfl rfl xP rfl rfl;intro w9 hbk hfar hbel;have BK9:=K_ (hfar _ _ NB3_4.out BK3.out);replace BK4:=K_ hbk;replace HB:=K_ (hbel _ _ GE4.out HB.out);refine hK.out _ _ ⟨BK9.out,(zA BK9.out 0).trans rfl⟩ (fun _=>?_);clear hK K hbk hfar hbel;refine yN (by kernel_rfl) ?_;go_wp2_with (fail)
  refine bodyPost_ret (results_cell_row rfl _ _ g4 36 (#[.bool b,.string (jQ (vB s) e (nn-1) 0),.string (jQ (vB s) e (-1) (-blw)),.int .i64 0]) (0,0) _ rfl BK4.out Tryz.underlying36 rfl xP) rfl ?_;exact⟨HRES.out,BL HB⟩
 have d9:decide (0<q.P.ms)=false:=decide_eq_false h9;rw[if_neg h9] at HNN HBBE;have hm1:(if q.P.mf<fn then fn else q.P.mf)=blw:=by rw[HBBE.out];split <;> omega
 go_upto_region 6 with (first|((with_reducible refine zE (N:=23) rfl ?_);refine lo_ (g:=g3) (cs:=#[.bool b,.string s,.int .i64 e]) _ ⟨BK BK3⟩ ?_ rfl rfl rfl Tryz.underlying23 rfl jL)|(go_at_call 64;refine (zaV.calls b s e 0 fn _ HF.out).mono ?_;rintro e9 w' ⟨rfl,hb⟩;replace HB:=zF HB hb;replace BK2:=zC BK2 hb;replace BK3:=zC BK3 hb;replace BK4:=zC BK4 hb;clear hb))
 cases hz:decide (vB s=0)
 ·rw[hz] at HZ
  have h0:vB s≠0:=of_decide_eq_false hz;rw[if_neg h0] at HNN;have hm2:(if q.P.mi<tp+1 then tp+1 else q.P.mi)=nn:=by rw[HNN.out];split <;> omega
  go_upto_region 8 with (first|((with_reducible refine zE (N:=26) rfl ?_);refine lo_ (g:=g3) (cs:=#[.bool b,.string s,.int .i64 e]) _ ⟨BK BK3⟩ ?_ rfl rfl rfl Tryz.underlying23 rfl jL)|(go_at_call 65;refine (xZ.calls b s e false _ HZ.out).mono ?_;rintro e9 w' ⟨rfl,hb⟩;replace HB:=zF HB hb;replace BK2:=zC BK2 hb;replace BK3:=zC BK3 hb;replace BK4:=zC BK4 hb;clear hb))
  clear e5 e7 e9;have hwn:wrap64 (nn-1)=nn-1:=w64 (by omega) (by omega);have hwb:wrap64 (-blw)=-blw:=w64 (by omega) (by omega);refine yA (n:=12) (S:=fun W=>W.heap[g3]?=some (.cells #[.bool b,.string s,.int .i64 e] 23 (0,0))∧W.cell? ⟨g3,0,none⟩=some (.bool b)) (ds:=[]) #[false,false,false,false,false,false,false,false,false,false,false,false] (by kernel_rfl) rfl rfl ⟨(BK BK3),(zA (BK BK3) 0).trans rfl⟩ (fun hHeld=>?_);refine jG (fun W=>W.heap[g3]?=some (.cells #[.bool b,.string s,.int .i64 e] 23 (0,0))∧W.heap[g4]?=some (.cells #[.bool false,.string (⟨#[]⟩:ByteArray),.string (⟨#[]⟩:ByteArray),.int .i64 0] 36 (0,0))∧Below w.heap.size w W) ⟨BK BK3,BK BK4,BL HB⟩ ?_;clear hHeld BK2 BK3 BK4 HB;rintro W ⟨hb3,hb4,hbw⟩;have BK3:=K_ hb3;have BK4:=K_ hb4;have HB:=K_ hbw;have hHeld:=(show W.heap[g3]?=some (.cells #[.bool b,.string s,.int .i64 e] 23 (0,0))∧W.cell? ⟨g3,0,none⟩=some (.bool b) from ⟨hb3,(zA hb3 0).trans rfl⟩)
  clear hb3 hb4 hbw;refine pw_ 0 33 (bb 12 1) ?_;refine tw_ 1 34 (bb 12 3) hHeld ?_;refine tr_ 2 35 (bb 12 7) (#[.bool b,.string s,.int .i64 e]) (fun _ hs=>⟨hs.1⟩) Tryz.underlying23 jL hHeld ?_;refine pw_ 3 36 (bb 12 15) ?_;refine pw_ 4 37 (bb 12 31) ?_;refine tr_ 6 39 (bb 12 95) (#[.bool b,.string s,.int .i64 e]) (fun _ hs=>⟨hs.1⟩) Tryz.underlying23 jL hHeld ?_;refine pw_ 7 40 (bb 12 223) ?_;refine pw_ 8 41 (bb 12 479) ?_;refine on_ 5 (some 38) (bb 12 511) (fun K hK=>?_);refine gq_ Tryz.func66 #[.agg #[.bool b,.string s,.int .i64 e],.int .i64 (wrap64 (nn-1)),.int .i64 0] ?_;refine (zaa b s e HOK.out.ok (nn-1) 0 (by decide) (by omega) (by decide) (by omega) (hwn) rfl _).mono ?_;rintro e9 w' ⟨rfl,hb⟩;refine⟨_,rfl,?_⟩;replace HB:=zF HB hb;replace BK3:=zC BK3 hb;replace BK4:=zC BK4 hb;clear hb;clear hHeld;refine hK.out _ _ ⟨BK3.out,(zA BK3.out 0).trans rfl⟩ (fun hHeld=>?_);clear hK K;refine no_ (some 38) ?_;refine on_ 9 (some 42) (bb 12 1023) (fun K hK=>?_);refine gq_ Tryz.func66 #[.agg #[.bool b,.string s,.int .i64 e],.int .i64 (-1),.int .i64 (wrap64 (-blw))] ?_;refine (zaa b s e HOK.out.ok (-1) (-blw) (by omega) (by decide) (by omega) (by decide) rfl hwb _).mono ?_;rintro e9 w' ⟨rfl,hb⟩;refine⟨_,rfl,?_⟩;replace HB:=zF HB hb;replace BK3:=zC BK3 hb;replace BK4:=zC BK4 hb;clear hb;clear hHeld;refine hK.out _ _ ⟨BK3.out,(zA BK3.out 0).trans rfl⟩ (fun hHeld=>?_);clear hK K;refine no_ (some 42) ?_;refine pw_ 10 43 (bb 12 2047) ?_;refine on_ 11 none (bb 12 4095) (fun K hK=>?_);refine yL (g:=g4) (cs:=#[.bool false,.string (⟨#[]⟩:ByteArray),.string (⟨#[]⟩:ByteArray),.int .i64 0]) (#[.bool b,.string (jQ (vB s) e (nn-1) 0),.string (jQ (vB s) e (-1) (-blw)),.int .i64 0]) BK4 ?_ rfl rfl rfl rfl rfl xP rfl rfl
  intro w9 hbk hfar hbel;have BK9:=K_ (hfar _ _ NB3_4.out BK3.out);replace BK4:=K_ hbk;replace HB:=K_ (hbel _ _ GE4.out HB.out);refine hK.out _ _ ⟨BK9.out,(zA BK9.out 0).trans rfl⟩ (fun _=>?_);clear hK K hbk hfar hbel;refine yN (by kernel_rfl) ?_;go_wp2_with (fail)
  refine bodyPost_ret (results_cell_row rfl _ _ g4 36 (#[.bool b,.string (jQ (vB s) e (nn-1) 0),.string (jQ (vB s) e (-1) (-blw)),.int .i64 0]) (0,0) _ rfl BK4.out Tryz.underlying36 rfl xP) rfl ?_;exact⟨HRES.out,BL HB⟩
 rw[hz] at HZ;have h0:vB s=0:=of_decide_eq_true hz;rw[if_pos h0] at HNN;clear h0 hz;go_upto_region 8 with (first|((with_reducible refine zE (N:=26) rfl ?_);refine lo_ (g:=g3) (cs:=#[.bool b,.string s,.int .i64 e]) _ ⟨BK BK3⟩ ?_ rfl rfl rfl Tryz.underlying23 rfl jL)|(go_at_call 65;refine (xZ.calls b s e true _ HZ.out).mono ?_;rintro e9 w' ⟨rfl,hb⟩;replace HB:=zF HB hb;replace BK2:=zC BK2 hb;replace BK3:=zC BK3 hb;replace BK4:=zC BK4 hb;clear hb))
 clear e5 e7 e9;have hwn:wrap64 (nn-1)=nn-1:=w64 (by omega) (by omega);have hwb:wrap64 (-blw)=-blw:=w64 (by omega) (by omega);refine yA (n:=12) (S:=fun W=>W.heap[g3]?=some (.cells #[.bool b,.string s,.int .i64 e] 23 (0,0))∧W.cell? ⟨g3,0,none⟩=some (.bool b)) (ds:=[]) #[false,false,false,false,false,false,false,false,false,false,false,false] (by kernel_rfl) rfl rfl ⟨(BK BK3),(zA (BK BK3) 0).trans rfl⟩ (fun hHeld=>?_);refine jG (fun W=>W.heap[g3]?=some (.cells #[.bool b,.string s,.int .i64 e] 23 (0,0))∧W.heap[g4]?=some (.cells #[.bool false,.string (⟨#[]⟩:ByteArray),.string (⟨#[]⟩:ByteArray),.int .i64 0] 36 (0,0))∧Below w.heap.size w W) ⟨BK BK3,BK BK4,BL HB⟩ ?_;clear hHeld BK2 BK3 BK4 HB;rintro W ⟨hb3,hb4,hbw⟩;have BK3:=K_ hb3;have BK4:=K_ hb4;have HB:=K_ hbw;have hHeld:=(show W.heap[g3]?=some (.cells #[.bool b,.string s,.int .i64 e] 23 (0,0))∧W.cell? ⟨g3,0,none⟩=some (.bool b) from ⟨hb3,(zA hb3 0).trans rfl⟩)
 clear hb3 hb4 hbw;refine pw_ 0 33 (bb 12 1) ?_;refine tw_ 1 34 (bb 12 3) hHeld ?_;refine tr_ 2 35 (bb 12 7) (#[.bool b,.string s,.int .i64 e]) (fun _ hs=>⟨hs.1⟩) Tryz.underlying23 jL hHeld ?_;refine pw_ 3 36 (bb 12 15) ?_;refine pw_ 4 37 (bb 12 31) ?_;refine tr_ 6 39 (bb 12 95) (#[.bool b,.string s,.int .i64 e]) (fun _ hs=>⟨hs.1⟩) Tryz.underlying23 jL hHeld ?_;refine pw_ 7 40 (bb 12 223) ?_;refine pw_ 8 41 (bb 12 479) ?_;refine on_ 5 (some 38) (bb 12 511) (fun K hK=>?_);refine gq_ Tryz.func66 #[.agg #[.bool b,.string s,.int .i64 e],.int .i64 (wrap64 (q.P.mi-1)),.int .i64 0] ?_;refine (zaa b s e HOK.out.ok (nn-1) 0 (by decide) (by omega) (by decide) (by omega) (by rw[HNN.out];exact w64 (by omega) (by omega)) rfl _).mono ?_;rintro e9 w' ⟨rfl,hb⟩;refine⟨_,rfl,?_⟩;replace HB:=zF HB hb;replace BK3:=zC BK3 hb;replace BK4:=zC BK4 hb;clear hb;clear hHeld;refine hK.out _ _ ⟨BK3.out,(zA BK3.out 0).trans rfl⟩ (fun hHeld=>?_);clear hK K;refine no_ (some 38) ?_;refine on_ 9 (some 42) (bb 12 1023) (fun K hK=>?_);refine gq_ Tryz.func66 #[.agg #[.bool b,.string s,.int .i64 e],.int .i64 (-1),.int .i64 (wrap64 (-blw))] ?_;refine (zaa b s e HOK.out.ok (-1) (-blw) (by omega) (by decide) (by omega) (by decide) rfl hwb _).mono ?_;rintro e9 w' ⟨rfl,hb⟩;refine⟨_,rfl,?_⟩;replace HB:=zF HB hb;replace BK3:=zC BK3 hb;replace BK4:=zC BK4 hb;clear hb;clear hHeld;refine hK.out _ _ ⟨BK3.out,(zA BK3.out 0).trans rfl⟩ (fun hHeld=>?_);clear hK K;refine no_ (some 42) ?_;refine pw_ 10 43 (bb 12 2047) ?_;refine on_ 11 none (bb 12 4095) (fun K hK=>?_)
 refine yL (g:=g4) (cs:=#[.bool false,.string (⟨#[]⟩:ByteArray),.string (⟨#[]⟩:ByteArray),.int .i64 0]) (#[.bool b,.string (jQ (vB s) e (nn-1) 0),.string (jQ (vB s) e (-1) (-blw)),.int .i64 0]) BK4 ?_ rfl rfl rfl rfl rfl xP rfl rfl;intro w9 hbk hfar hbel;have BK9:=K_ (hfar _ _ NB3_4.out BK3.out);replace BK4:=K_ hbk;replace HB:=K_ (hbel _ _ GE4.out HB.out);refine hK.out _ _ ⟨BK9.out,(zA BK9.out 0).trans rfl⟩ (fun _=>?_);clear hK K hbk hfar hbel;refine yN (by kernel_rfl) ?_;go_wp2_with (fail)
 refine bodyPost_ret (results_cell_row rfl _ _ g4 36 (#[.bool b,.string (jQ (vB s) e (nn-1) 0),.string (jQ (vB s) e (-1) (-blw)),.int .i64 0]) (0,0) _ rfl BK4.out Tryz.underlying36 rfl xP) rfl ?_;exact⟨HRES.out,BL HB⟩
end Go.Proofs.YtcmgdjnjmobkoaaGreatDoor.Px
namespace Go.Proofs.YtcmgdjnjmobkoaaGreatDoor.Px
open Fig Go.RowKit Go.Proofs.YtcmgdjnjmobkoaaGreatDoorW.PrintWords Go.Proofs.YtcmgdjnjmobkoaaGreatDoorW.PrintLast Go.Proofs.YtcmgdjnjmobkoaaGreatDoorW.PrintMore
attribute [local go_sem] yS yR vN vM yF yE yU yT
attribute [local go_sem] uX uQ uP uU uV uO qA uR uZ uM uT uN uY uW
def zbM.f (a0:Int) (a1:Int):Option (Int):=if a1=0 then (none) else (if (Int.tmod a0 a1)<0 then (some (wrap64 ((wrap64 ((wrap64 (Int.tdiv a0 a1))-1)) * a1))) else (some (wrap64 ((wrap64 (Int.tdiv a0 a1)) * a1))))
set_option maxHeartbeats 8000000 in
set_option maxRecDepth 100000 in
theorem zbM.calls (a0:Int) (a1:Int) (r:Int) (w:World) (h:zbM.f a0 a1=some r) :
  Calls Tryz.prog 67 #[.int .i64 a0,.int .i64 a1] w fun e w'=>e=.returned (.int .i64 r)∧zJ w w':=by
 have H:(if a1=0 then (none) else (if (Int.tmod a0 a1)<0 then (some (wrap64 ((wrap64 ((wrap64 (Int.tdiv a0 a1))-1)) * a1))) else (some (wrap64 ((wrap64 (Int.tdiv a0 a1)) * a1)))))=some r:=h;clear h;by_cases c3:a1=0
 ·rw[if_pos c3] at H
  exact absurd H (by simp)
 rw[if_neg c3] at H;have c3b0:(a1==0)=false:=beq_eq_false_iff_ne.mpr c3;have c3b1:(a1 !=0)=true:=bne_iff_ne.mpr c3;by_cases c4:(Int.tmod a0 a1)<0
 ·rw[if_pos c4] at H
  have c4b0:decide ((Int.tmod a0 a1)<0)=true:=decide_eq_true c4;clear c4;obtain rfl:=Option.some.inj H;go_enter Tryz.func67,Tryz.ntmps67
  go_wp2
  go_ret
  exact⟨by first|rfl|(simp;done)|(simp[*];done)|(simp[*,Fig.bne_nil];done),by repeat (first|exact zJ.refl _|apply zJ.step)⟩
 rw[if_neg c4] at H;have c4b0:decide ((Int.tmod a0 a1)<0)=false:=decide_eq_false c4;clear c4;obtain rfl:=Option.some.inj H;go_enter Tryz.func67,Tryz.ntmps67
 go_wp2
 go_ret
 exact⟨by first|rfl|(simp;done)|(simp[*];done)|(simp[*,Fig.bne_nil];done),by repeat (first|exact zJ.refl _|apply zJ.step)⟩
end Go.Proofs.YtcmgdjnjmobkoaaGreatDoor.Px
namespace Go.Proofs.YtcmgdjnjmobkoaaGreatDoor.Px
set_option linter.all false
open Fig Go.RowKit Go.Proofs.YtcmgdjnjmobkoaaGreatDoorW.PrintWords Go.Proofs.YtcmgdjnjmobkoaaGreatDoorW.PrintLast Go.Proofs.YtcmgdjnjmobkoaaGreatDoorW.PrintMore
attribute [local go_sem] yS yR vN vM yF yE yU yT
theorem zcU {P:jY} (h:qJ P=true):1<P.xi:=by
 unfold qJ at h;simp only[Bool.and_eq_true,decide_eq_true_eq] at h;exact h.2.2
theorem zgU {P:jY} (h:uC P):0≤(zax P).1∧(zax P).1≤80:=by
 have:=h.mi0;have:=h.mi4;have:=h.ms0;have:=h.msx;have:=h.xs4;have:=h.mf0;have:=h.mfx;have:=h.xf4;have:=zaT h
 unfold zax;split
 ·show 0≤P.ms∧P.ms≤80;omega
 show 0≤jV P+P.mf∧jV P+P.mf≤80;omega
theorem zoT {t k:Int} (h1:-100000≤t) (h2:t≤100000) (h3:1<k) (h4:k≤1000):zbM.f t k=some (t-t % k):=by
 have hd:=Int.mul_tdiv_add_tmod t k;have he:=Int.mul_ediv_add_emod t k;have hm1:=Int.emod_nonneg t (show k≠0 by omega);have hm2:=Int.emod_lt_of_pos t (show 0<k by omega);unfold zbM.f;rw[if_neg (by omega)];by_cases ht:0≤t
 ·have e1:t.tmod k=t % k:=Int.tmod_eq_emod_of_nonneg ht
  have e2:t.tdiv k=t / k:=Int.tdiv_eq_ediv_of_nonneg ht;rw[if_neg (by omega),e2];have b1:0≤t / k:=Int.ediv_nonneg ht (by omega);have b2:t / k≤t:=Int.ediv_le_self k ht;rw[w64 (x:=t / k) (by omega) (by omega),Int.mul_comm (t / k) k,w64 (by omega) (by omega)];congr 1;omega
 have e1:t.tmod k=-((-t) % k):=by
  have:=Int.neg_tmod (-t) k
  rw[Int.neg_neg] at this;rw[this,Int.tmod_eq_emod_of_nonneg (by omega)]
 have e2:t.tdiv k=-((-t) / k):=by
  have:=Int.neg_tdiv (-t) k
  rw[Int.neg_neg] at this;rw[this,Int.tdiv_eq_ediv_of_nonneg (by omega)]
 have b1:0≤(-t) / k:=Int.ediv_nonneg (by omega) (by omega);have b2:(-t) / k≤-t:=Int.ediv_le_self k (by omega);have n1:=Int.emod_nonneg (-t) (show k≠0 by omega);have n2:=Int.emod_lt_of_pos (-t) (show 0<k by omega);have n3:=Int.mul_ediv_add_emod (-t) k;obtain⟨z,hz⟩:∃ z,z=(-t) / k:=⟨_,rfl⟩
 obtain⟨r,hr⟩:∃ r,r=(-t) % k:=⟨_,rfl⟩
 rw[←hz] at n3 b1 b2 e2;rw[←hr] at n1 n2 n3 e1;obtain⟨y,hy⟩:∃ y,y=k * z:=⟨_,rfl⟩
 rw[←hy] at n3;have hyz:k * z=y:=hy.symm;by_cases hr0:r=0
 ·have em:t % k=0:=Int.emod_eq_zero_of_dvd ⟨-z,by rw[Int.mul_neg];omega⟩
  rw[if_neg (by omega),e2,w64 (x:=-z) (by omega) (by omega),Int.neg_mul,Int.mul_comm z k,hyz,w64 (by omega) (by omega),em];congr 1;omega
 have em:t % k=k-r:=by
  have h5:t=(k-r)+k * (-z-1):=by rw[Int.mul_sub,Int.mul_neg,Int.mul_one];omega
  rw[h5,Int.add_mul_emod_self_left];exact Int.emod_eq_of_lt (by omega) (by omega)
 rw[if_pos (by omega),e2,w64 (x:=-z) (by omega) (by omega),w64 (x:=-z-1) (by omega) (by omega),Int.sub_mul,Int.neg_mul,Int.mul_comm z k,hyz,Int.one_mul,w64 (by omega) (by omega),em];congr 1;omega
set_option maxHeartbeats 8000000 in
set_option maxRecDepth 100000 in
theorem zim (q:Pat) (hg:uC q.P) (b:Bool) (s:ByteArray) (e:Int) (ok:OkS s e) (w:World) :
  Calls Tryz.prog 39 #[.agg q.cs,.agg #[.bool b,.string s,.int .i64 e]] w fun e' w'=>e'=.returned (.agg #[.bool b,.string (zbr q.P (vB s) e).1,.string (zbr q.P (vB s) e).2.1,.int .i64 (zbr q.P (vB s) e).2.2])∧Below w.heap.size w w':=by
 have HB:=K_ (Below.refl w.heap.size w);have HOK:=K_ ok;have HGD:=K_ hg;have HT:=K_ (zoL (b:=b) ok.ok);have HZ:=K_ (zkO (b:=b) ok.ok);have ht:=zdL ok;have hwb:=zaT hg;have hxi:=And.intro hg.xi0 hg.xi4;have hsb:=zgU hg;obtain⟨tp,htp⟩:∃ tp,tp=jZ (vB s) e:=⟨_,rfl⟩
 obtain⟨wh,hwh⟩:∃ wh,wh=jV q.P:=⟨_,rfl⟩
 obtain⟨x0,hx0⟩:∃ x0,x0=zcq q.P (vB s) e:=⟨_,rfl⟩
 obtain⟨nn,hnn⟩:∃ nn,nn=zco q.P (vB s) e:=⟨_,rfl⟩
 obtain⟨xx,hxx⟩:∃ xx,xx=zaA q.P (vB s) e:=⟨_,rfl⟩
 obtain⟨sg,hsg⟩:∃ sg,sg=(zax q.P).1:=⟨_,rfl⟩
 obtain⟨fn,hfn⟩:∃ fn,fn=zbl (vB s) e xx:=⟨_,rfl⟩
 obtain⟨blw,hbb⟩:∃ blw,blw=zga q.P (vB s) e:=⟨_,rfl⟩
 have HRES:=K_ (show Ending.returned (Value.agg #[.bool b,.string (jQ (vB s) e (xx+nn-1) xx:ByteArray),.string (jQ (vB s) e (xx-1) (xx-blw):ByteArray),.int .i64 (xx)])=.returned (.agg #[.bool b,.string (zbr q.P (vB s) e).1,.string (zbr q.P (vB s) e).2.1,.int .i64 (zbr q.P (vB s) e).2.2]) by rw[hnn,hbb,hxx];rfl);have hxe:xx=if vB s=0 then 0 else x0:=by rw[hxx,hx0];rfl
 have hbe:blw=max (sg-nn) fn:=by rw[hbb,hsg,hnn,hfn,hxx];rfl
 have hne:(qJ q.P=true∧1<q.P.xi∧x0=tp-tp % q.P.xi∧nn=tp-x0+1)∨(qJ q.P=false∧x0=tp-wh+1∧nn=wh):=by
  cases hE:qJ q.P
  ·exact .inr ⟨rfl,by rw[hx0,htp,hwh];unfold zcq;rw[hE];rfl,by rw[hnn,hwh];unfold zco;rw[hE];rfl⟩
  refine .inl ⟨rfl,zcU hE,?_,?_⟩
  ·rw[hx0,htp];unfold zcq;rw[hE];rfl
  rw[hnn,hx0,htp];unfold zco zcq;rw[hE];rfl
 rw[←hwh] at hwb;rw[←htp] at HT ht;have hx0b:-20000≤x0∧x0≤30000∧0≤nn∧nn≤100:=by
  rcases hne with ⟨_,h2,h3,h4⟩|⟨_,h3,h4⟩
  ·have m1:=Int.emod_nonneg tp (show q.P.xi≠0 by omega)
   have m2:=Int.emod_lt_of_pos tp (show 0<q.P.xi by omega);omega
  omega
 have hxxb:-20000≤xx∧xx≤30000:=by rw[hxe];split <;> omega
 have hf:=zea (p:=xx) ok (by omega) (by omega);rw[←hfn] at hf;rw[←hsg] at hsb;have hbb0:0≤blw∧blw≤120000:=by rw[hbe];omega
 have HF:=K_ (znB (b:=b) (p:=xx) ok (by omega) (by omega));rw[←hfn] at HF;have HNE:=K_ hne;have HXE:=K_ hxe;have HBE2:=K_ hbe;have HWH:=K_ hwh;have HSG:=K_ hsg;have hw1:wrap64 (wrap64 (tp-wh)+1)=tp-wh+1:=by rw[w64 (x:=tp-wh) (by omega) (by omega),w64 (by omega) (by omega)]
 have HW1:=K_ (show wrap64 (wrap64 (xx+nn)-1)=xx+nn-1 by rw[w64 (x:=xx+nn) (by omega) (by omega),w64 (by omega) (by omega)]);have HW2:=K_ (show wrap64 (xx-1)=xx-1 by rw[w64 (by omega) (by omega)]);have HW3:=K_ (show wrap64 (xx-blw)=xx-blw by rw[w64 (by omega) (by omega)]);clear hg ok hne hxe hbe hwh hsg htp hx0 hnn hxx hfn hbb;go_enter Tryz.func39,Tryz.ntmps39
 go_upto_region 1 with (first|((with_reducible refine zE (N:=2) rfl ?_);refine bx_ 2 (q.cs) 26 ?_ rfl rfl rfl rfl rfl;intro g2 hg w2 hbox hb;have BK2:=K_ hbox;have GE2:=ge_ hg HB;replace HB:=zF HB hb;clear hb hbox hg)|((with_reducible refine zE (N:=3) rfl ?_);refine bx_ 3 (#[.bool b,.string s,.int .i64 e]) 23 ?_ rfl rfl rfl rfl rfl;intro g3 hg w2 hbox hb;have BK3:=K_ hbox;have GE3:=ge_ hg HB;have NB2_3:=nb_ hg BK2;replace BK2:=zC BK2 hb;replace HB:=zF HB hb;clear hb hbox hg)|((with_reducible refine zE (N:=4) rfl ?_);refine be_ 4 (#[.bool false,.string (⟨#[]⟩:ByteArray),.string (⟨#[]⟩:ByteArray),.int .i64 0]) 36 ?_;intro g4 hg w2 hbox hb;have BK4:=K_ hbox;have GE4:=ge_ hg HB;have NB2_4:=nb_ hg BK2;replace BK2:=zC BK2 hb;have NB3_4:=nb_ hg BK3;replace BK3:=zC BK3 hb;replace HB:=zF HB hb;clear hb hbox hg))
 refine yA (n:=6) (S:=fun W=>W.heap[g2]?=some (.cells q.cs 26 (0,0))∧W.heap[g3]?=some (.cells #[.bool b,.string s,.int .i64 e] 23 (0,0))) (ds:=[]) #[false,false,false,false,false,false] (by kernel_rfl) rfl rfl ⟨BK BK2,BK BK3⟩ (fun hHeld=>?_);refine jG (fun W=>W.heap[g2]?=some (.cells q.cs 26 (0,0))∧W.heap[g3]?=some (.cells #[.bool b,.string s,.int .i64 e] 23 (0,0))∧W.heap[g4]?=some (.cells #[.bool false,.string (⟨#[]⟩:ByteArray),.string (⟨#[]⟩:ByteArray),.int .i64 0] 36 (0,0))∧Below w.heap.size w W) ⟨BK BK2,BK BK3,BK BK4,BL HB⟩ ?_;clear hHeld;rintro W ⟨hb2,hb3,hb4,hbw⟩;replace BK2:=K_ hb2;replace BK3:=K_ hb3;replace BK4:=K_ hb4;replace HB:=K_ hbw;clear hb2 hb3 hb4 hbw;have hHeld:=(show W.heap[g2]?=some (.cells q.cs 26 (0,0))∧W.heap[g3]?=some (.cells #[.bool b,.string s,.int .i64 e] 23 (0,0)) from ⟨BK2.out,BK3.out⟩)
 refine tr_ 0 11 (bb 6 1) (q.cs) (fun _ hs=>⟨hs.1⟩) Tryz.underlying26 jR hHeld ?_;refine tr_ 2 13 (bb 6 5) (#[.bool b,.string s,.int .i64 e]) (fun _ hs=>⟨hs.2⟩) Tryz.underlying23 jL hHeld ?_;refine on_ 1 (some 12) (bb 6 7) (fun K hK=>?_);refine gq_ Tryz.func54 #[.agg q.cs] ?_;refine (zep q HGD.out _).mono ?_;rintro e9 w' ⟨rfl,hb⟩;refine⟨_,rfl,?_⟩;replace HB:=zF HB hb;replace BK2:=zC BK2 hb;replace BK3:=zC BK3 hb;replace BK4:=zC BK4 hb;clear hb;clear hHeld;refine hK.out _ _ ⟨BK2.out,BK3.out⟩ (fun hHeld=>?_);clear hK K;refine no_ (some 12) ?_;refine on_ 3 (some 14) (bb 6 15) (fun K hK=>?_);refine gq_ Tryz.func60 #[.agg #[.bool b,.string s,.int .i64 e]] ?_;refine (zaE.calls b s e tp _ HT.out).mono ?_;rintro e9 w' ⟨rfl,hb⟩;refine⟨_,rfl,?_⟩;replace HB:=zF HB hb;replace BK2:=zC BK2 hb;replace BK3:=zC BK3 hb;replace BK4:=zC BK4 hb;clear hb;clear hHeld;refine hK.out _ _ ⟨BK2.out,BK3.out⟩ (fun hHeld=>?_);clear hK K;refine no_ (some 14) ?_;refine pw_ 4 5 (bb 6 31) ?_;refine pw_ 5 6 (bb 6 63) ?_;refine yN (by kernel_rfl) ?_;simp only[←HWH.out]
 have e30:=(show w'.cell? ⟨g3,0,none⟩=some (.bool b) from (zA BK3.out 0).trans rfl)
 go_upto_region 3 with (first|((with_reducible refine zE (N:=7) rfl ?_);refine be_ 7 (#[.bool false,.string (⟨#[]⟩:ByteArray),.string (⟨#[]⟩:ByteArray),.int .i64 0]) 36 ?_;intro g7 hg w2 hbox hb;have BK7:=K_ hbox;have GE7:=ge_ hg HB;have NB2_7:=nb_ hg BK2;replace BK2:=zC BK2 hb;have NB3_7:=nb_ hg BK3;replace BK3:=zC BK3 hb;have NB4_7:=nb_ hg BK4;replace BK4:=zC BK4 hb;replace HB:=zF HB hb;clear hb hbox hg)|((with_reducible refine zY (p:=7) rfl ?_);refine so_ (g:=g7) (cs:=#[.bool false,.string (⟨#[]⟩:ByteArray),.string (⟨#[]⟩:ByteArray),.int .i64 0]) (#[.bool b,.string (⟨#[]⟩:ByteArray),.string (⟨#[]⟩:ByteArray),.int .i64 (tp-wh+1)]) ⟨BK BK7⟩ ?_ rfl rfl rfl rfl rfl xP rfl rfl;intro w9 hbk hfar hbel;replace BK2:=K_ (hfar _ _ (by first|exact NB2_7.out|exact Ne.symm NB7_2.out) (BK BK2));replace BK3:=K_ (hfar _ _ (by first|exact NB3_7.out|exact Ne.symm NB7_3.out) (BK BK3));replace BK4:=K_ (hfar _ _ (by first|exact NB4_7.out|exact Ne.symm NB7_4.out) (BK BK4));replace BK7:=K_ hbk;replace HB:=K_ (hbel _ _ GE7.out (BL HB));clear hbk hfar hbel))
 clear e30;go_upto_if 23 with (first|((with_reducible refine zE (N:=22) rfl ?_);refine lo_ (g:=g2) (cs:=q.cs) _ ⟨BK BK2⟩ ?_ rfl rfl rfl Tryz.underlying26 rfl jR)|(go_at_call 27;refine (zgg q _).mono ?_;rintro e9 w' ⟨rfl,hb⟩;replace HB:=zF HB hb;replace BK2:=zC BK2 hb;replace BK3:=zC BK3 hb;replace BK4:=zC BK4 hb;replace BK7:=zC BK7 hb;clear hb))
 go_cut [5] from 23 to 33 (fun v wx=>v=.int .i64 nn∧wx.heap[g7]?=some (.cells #[.bool b,.string (⟨#[]⟩:ByteArray),.string (⟨#[]⟩:ByteArray),.int .i64 (x0)] 36 (0,0))∧wx.heap[g2]?=some (.cells q.cs 26 (0,0))∧wx.heap[g3]?=some (.cells #[.bool b,.string s,.int .i64 e] 23 (0,0))∧wx.heap[g4]?=some (.cells #[.bool false,.string (⟨#[]⟩:ByteArray),.string (⟨#[]⟩:ByteArray),.int .i64 0] 36 (0,0))∧Below w.heap.size w wx)
 case first =>
  rcases HNE.out with ⟨hE,x1,h3,h4⟩|⟨hE,h3,h4⟩
  ·rw[hE]
   have e6:=(show w'.cell? ⟨g2,6,none⟩=some (.int .i64 q.P.xi) from (zA BK2.out 6).trans rfl)
   have s73:=(show w'.cell? ⟨g7,3,none⟩=some (.int .i64 (tp-wh+1)) from (zA BK7.out 3).trans rfl)
   have f73:=zL BK7.out 3;have hw5:wrap64 (wrap64 (tp-x0)+1)=nn:=by rw[h4,w64 (x:=tp-x0) (by omega) (by omega),w64 (by omega) (by omega)]
   have HFL:=K_ (zoT (t:=tp) (k:=q.P.xi) (by omega) (by omega) x1 (by omega));rw[←h3] at HFL;have HN4:=K_ h4;clear hE x1 h3 h4;go_upto_region 5 with (first|(go_at_call 67;refine (zbM.calls tp q.P.xi x0 _ HFL.out).mono ?_;rintro e9 w' ⟨rfl,⟨nd,rfl⟩⟩))
   clear e6 s73 f73;refine zbs (fun wx=>wx.heap[g7]?=some (.cells #[.bool b,.string (⟨#[]⟩:ByteArray),.string (⟨#[]⟩:ByteArray),.int .i64 (x0)] 36 (0,0))∧wx.heap[g2]?=some (.cells q.cs 26 (0,0))∧wx.heap[g3]?=some (.cells #[.bool b,.string s,.int .i64 e] 23 (0,0))∧wx.heap[g4]?=some (.cells #[.bool false,.string (⟨#[]⟩:ByteArray),.string (⟨#[]⟩:ByteArray),.int .i64 0] 36 (0,0))∧Below w.heap.size w wx) ⟨BP BK7,zR (BK BK2) NB2_7.out _,zR (BK BK3) NB3_7.out _,zR (BK BK4) NB4_7.out _,BL HB⟩ ?_;rintro W5 ⟨hb7,hb2,hb3,hb4,hbw⟩;replace BK2:=K_ hb2;replace BK3:=K_ hb3;replace BK4:=K_ hb4;replace BK7:=K_ hb7;replace HB:=K_ hbw;clear hb2 hb3 hb4 hbw hb7;have e73:=(show W5.cell? ⟨g7,3,none⟩=some (.int .i64 x0) from (zA BK7.out 3).trans rfl)
   go_wp2
   go_meet
   case rel=>exact⟨congrArg (Value.int .i64) HN4.out.symm,BK BK7,BK BK2,BK BK3,BK BK4,BL HB⟩
  rw[hE];subst h4;rw[←h3] at BK7;clear hE h3;go_wp2
  go_meet
  case rel=>exact⟨rfl,BK BK7,BK BK2,BK BK3,BK BK4,BL HB⟩
 case rest =>
  obtain⟨rfl,hb7,hb2,hb3,hb4,hbw⟩:=hcut;replace BK2:=K_ hb2;replace BK3:=K_ hb3;replace BK4:=K_ hb4;replace BK7:=K_ hb7;replace HB:=K_ hbw;clear hb2 hb3 hb4 hbw hb7;go_upto_if 35 with (first|((with_reducible refine zE (N:=34) rfl ?_);refine lo_ (g:=g3) (cs:=#[.bool b,.string s,.int .i64 e]) _ ⟨BK BK3⟩ ?_ rfl rfl rfl Tryz.underlying23 rfl jL)|(go_at_call 65;refine (xZ.calls b s e (decide (vB s=0)) _ HZ.out).mono ?_;rintro e9 w' ⟨rfl,hb⟩;replace HB:=zF HB hb;replace BK2:=zC BK2 hb;replace BK3:=zC BK3 hb;replace BK4:=zC BK4 hb;replace BK7:=zC BK7 hb;clear hb))
  go_cut [] from 35 to 36 (fun wx=>wx.heap[g7]?=some (.cells #[.bool b,.string (⟨#[]⟩:ByteArray),.string (⟨#[]⟩:ByteArray),.int .i64 (xx)] 36 (0,0))∧wx.heap[g2]?=some (.cells q.cs 26 (0,0))∧wx.heap[g3]?=some (.cells #[.bool b,.string s,.int .i64 e] 23 (0,0))∧wx.heap[g4]?=some (.cells #[.bool false,.string (⟨#[]⟩:ByteArray),.string (⟨#[]⟩:ByteArray),.int .i64 0] 36 (0,0))∧Below w.heap.size w wx)
  case first =>
   by_cases h0:vB s=0
   ·have hX:=HXE.out
    rw[if_pos h0] at hX;subst hX;rw[decide_eq_true h0];have s73:=(show w'.cell? ⟨g7,3,none⟩=some (.int .i64 x0) from (zA BK7.out 3).trans rfl)
    have f73:=zL BK7.out 3;clear h0;go_wp2
    go_meet
    case rel=>exact⟨BP BK7,zR (BK BK2) NB2_7.out _,zR (BK BK3) NB3_7.out _,zR (BK BK4) NB4_7.out _,BL HB⟩
   have hX:=HXE.out;rw[if_neg h0] at hX;subst hX;rw[decide_eq_false h0];clear h0;go_wp2
   go_meet
   case rel=>exact⟨BK BK7,BK BK2,BK BK3,BK BK4,BL HB⟩
  case rest =>
   obtain⟨hb7,hb2,hb3,hb4,hbw⟩:=hcut;replace BK2:=K_ hb2;replace BK3:=K_ hb3;replace BK4:=K_ hb4;replace BK7:=K_ hb7;replace HB:=K_ hbw;clear hb2 hb3 hb4 hbw hb7;go_upto_region 9 with (first|((with_reducible refine zE (N:=38) rfl ?_);refine lo_ (g:=g2) (cs:=q.cs) _ ⟨BK BK2⟩ ?_ rfl rfl rfl Tryz.underlying26 rfl jR)|(go_at_call 25;refine (ziC q HGD.out _).mono ?_;rintro e9 w' ⟨rfl,hb⟩;replace HB:=zF HB hb;replace BK2:=zC BK2 hb;replace BK3:=zC BK3 hb;replace BK4:=zC BK4 hb;replace BK7:=zC BK7 hb;clear hb))
   simp only[←HSG.out]
   have e73:=(show w'.cell? ⟨g7,3,none⟩=some (.int .i64 xx) from (zA BK7.out 3).trans rfl)
   have hw6:wrap64 (sg-nn)=sg-nn:=w64 (by omega) (by omega);have hm1:(if sg-nn<fn then fn else sg-nn)=blw:=by rw[HBE2.out];split <;> omega
   go_upto_region 10 with (first|((with_reducible refine zE (N:=45) rfl ?_);refine lo_ (g:=g3) (cs:=#[.bool b,.string s,.int .i64 e]) _ ⟨BK BK3⟩ ?_ rfl rfl rfl Tryz.underlying23 rfl jL)|(go_at_call 64;refine (zaV.calls b s e xx fn _ HF.out).mono ?_;rintro e9 w' ⟨rfl,hb⟩;replace HB:=zF HB hb;replace BK2:=zC BK2 hb;replace BK3:=zC BK3 hb;replace BK4:=zC BK4 hb;replace BK7:=zC BK7 hb;clear hb))
   clear e73;refine yA (n:=22) (S:=fun W=>W.heap[g3]?=some (.cells #[.bool b,.string s,.int .i64 e] 23 (0,0))∧W.cell? ⟨g7,3,none⟩=some (.int .i64 xx)) (ds:=[]) #[false,false,false,false,false,false,false,false,false,false,false,false,false,false,false,false,false,false,false,false,false,false] (by kernel_rfl) rfl rfl ⟨BK BK3,(zA (BK BK7) 3).trans rfl⟩ (fun hHeld=>?_);refine jG (fun W=>W.heap[g3]?=some (.cells #[.bool b,.string s,.int .i64 e] 23 (0,0))∧W.heap[g4]?=some (.cells #[.bool false,.string (⟨#[]⟩:ByteArray),.string (⟨#[]⟩:ByteArray),.int .i64 0] 36 (0,0))∧W.heap[g7]?=some (.cells #[.bool b,.string (⟨#[]⟩:ByteArray),.string (⟨#[]⟩:ByteArray),.int .i64 (xx)] 36 (0,0))∧Below w.heap.size w W) ⟨BK BK3,BK BK4,BK BK7,BL HB⟩ ?_;clear hHeld BK2 BK3 BK4 BK7 HB;rintro W ⟨hb3,hb4,hb7,hbw⟩;have BK3:=K_ hb3;have BK4:=K_ hb4;have BK7:=K_ hb7;have HB:=K_ hbw;clear hb3 hb4 hb7 hbw;have hHeld:=(show W.heap[g3]?=some (.cells #[.bool b,.string s,.int .i64 e] 23 (0,0))∧W.cell? ⟨g7,3,none⟩=some (.int .i64 xx) from ⟨BK3.out,(zA BK7.out 3).trans rfl⟩)
   refine tr_ 0 50 (bb 22 1) (#[.bool b,.string s,.int .i64 e]) (fun _ hs=>⟨hs.1⟩) Tryz.underlying23 jL hHeld ?_;refine pw_ 1 51 (bb 22 3) ?_;refine tw_ 2 52 (bb 22 7) hHeld ?_;refine pw_ 3 53 (bb 22 15) ?_;refine pw_ 4 54 (bb 22 31) ?_;refine pw_ 5 55 (bb 22 63) ?_;refine pw_ 6 56 (bb 22 127) ?_;refine tw_ 7 57 (bb 22 255) hHeld ?_;refine tr_ 9 59 (bb 22 767) (#[.bool b,.string s,.int .i64 e]) (fun _ hs=>⟨hs.1⟩) Tryz.underlying23 jL hHeld ?_;refine pw_ 10 60 (bb 22 1791) ?_;refine tw_ 11 61 (bb 22 3839) hHeld ?_;refine pw_ 12 62 (bb 22 7935) ?_;refine pw_ 13 63 (bb 22 16127) ?_;refine tw_ 14 64 (bb 22 32511) hHeld ?_;refine pw_ 15 65 (bb 22 65279) ?_;refine pw_ 16 66 (bb 22 130815) ?_;refine on_ 8 (some 58) (bb 22 131071) (fun K hK=>?_);refine gq_ Tryz.func66 #[.agg #[.bool b,.string s,.int .i64 e],.int .i64 (wrap64 (wrap64 (xx+nn)-1)),.int .i64 xx] ?_;refine (zaa b s e HOK.out.ok (xx+nn-1) xx (by omega) (by omega) (by omega) (by omega) HW1.out rfl _).mono ?_;rintro e9 w' ⟨rfl,hb⟩;refine⟨_,rfl,?_⟩;replace HB:=zF HB hb;replace BK3:=zC BK3 hb;replace BK4:=zC BK4 hb;replace BK7:=zC BK7 hb;clear hb;clear hHeld;refine hK.out _ _ ⟨BK3.out,(zA BK7.out 3).trans rfl⟩ (fun hHeld=>?_);clear hK K;refine no_ (some 58) ?_;refine pw_ 18 68 (bb 22 393215) ?_;refine on_ 17 (some 67) (bb 22 524287) (fun K hK=>?_);refine gq_ Tryz.func66 #[.agg #[.bool b,.string s,.int .i64 e],.int .i64 (wrap64 (xx-1)),.int .i64 (wrap64 (xx-blw))] ?_;refine (zaa b s e HOK.out.ok (xx-1) (xx-blw) (by omega) (by omega) (by omega) (by omega) HW2.out HW3.out _).mono ?_
   rintro e9 w' ⟨rfl,hb⟩;refine⟨_,rfl,?_⟩;replace HB:=zF HB hb;replace BK3:=zC BK3 hb;replace BK4:=zC BK4 hb;replace BK7:=zC BK7 hb;clear hb;clear hHeld;refine hK.out _ _ ⟨BK3.out,(zA BK7.out 3).trans rfl⟩ (fun hHeld=>?_);clear hK K;refine no_ (some 67) ?_;refine on_ 19 none (bb 22 1048575) (fun K hK=>?_);have hs:w'.cell? ⟨g7,1,none⟩=some (.string ⟨#[]⟩):=(zA BK7.out 1).trans rfl;have hf:=zL BK7.out 1;refine zaD (w1:=w'.setCell ⟨g7,1,none⟩ (.string (jQ (vB s) e (xx+nn-1) xx))) (by rfl) rfl (by go_simp;try rfl) ?_;replace BK3:=K_ (zR (p:=⟨g7,1,none⟩) BK3.out NB3_7.out (.string (jQ (vB s) e (xx+nn-1) xx)));replace BK4:=K_ (zR (p:=⟨g7,1,none⟩) BK4.out NB4_7.out (.string (jQ (vB s) e (xx+nn-1) xx)));replace HB:=K_ (xL HB.out GE7.out (j:=1) (v:=.string (jQ (vB s) e (xx+nn-1) xx)));replace BK7:=K_ (xB BK7.out (i:=1) (u:=.string (jQ (vB s) e (xx+nn-1) xx)) (cs':=#[.bool b,.string (jQ (vB s) e (xx+nn-1) xx:ByteArray),.string (⟨#[]⟩:ByteArray),.int .i64 (xx)]) rfl);refine hK.out _ _ ⟨BK3.out,(zA BK7.out 3).trans rfl⟩ (fun hHeld=>?_);clear hK K hs hf hHeld;refine jG (fun W=>W.heap[g3]?=some (.cells #[.bool b,.string s,.int .i64 e] 23 (0,0))∧W.heap[g4]?=some (.cells #[.bool false,.string (⟨#[]⟩:ByteArray),.string (⟨#[]⟩:ByteArray),.int .i64 0] 36 (0,0))∧W.heap[g7]?=some (.cells #[.bool b,.string (jQ (vB s) e (xx+nn-1) xx:ByteArray),.string (⟨#[]⟩:ByteArray),.int .i64 (xx)] 36 (0,0))∧Below w.heap.size w W) ⟨BK3.out,BK4.out,BK7.out,HB.out⟩ ?_;clear BK3 BK4 BK7 HB;rintro W ⟨hb3,hb4,hb7,hbw⟩
   have BK3:=K_ hb3;have BK4:=K_ hb4;have BK7:=K_ hb7;have HB:=K_ hbw;clear hb3 hb4 hb7 hbw;have hHeld:=(show W.heap[g3]?=some (.cells #[.bool b,.string s,.int .i64 e] 23 (0,0))∧W.cell? ⟨g7,3,none⟩=some (.int .i64 xx) from ⟨BK3.out,(zA BK7.out 3).trans rfl⟩)
   refine pw_ 20 69 (bb 22 2097151) ?_;refine on_ 21 none (bb 22 4194303) (fun K hK=>?_);have hs:W.cell? ⟨g7,2,none⟩=some (.string ⟨#[]⟩):=(zA BK7.out 2).trans rfl;have hf:=zL BK7.out 2;refine zaD (w1:=W.setCell ⟨g7,2,none⟩ (.string (jQ (vB s) e (xx-1) (xx-blw)))) (by rfl) rfl (by go_simp;try rfl) ?_;replace BK3:=K_ (zR (p:=⟨g7,2,none⟩) BK3.out NB3_7.out (.string (jQ (vB s) e (xx-1) (xx-blw))));replace BK4:=K_ (zR (p:=⟨g7,2,none⟩) BK4.out NB4_7.out (.string (jQ (vB s) e (xx-1) (xx-blw))));replace HB:=K_ (xL HB.out GE7.out (j:=2) (v:=.string (jQ (vB s) e (xx-1) (xx-blw))));replace BK7:=K_ (xB BK7.out (i:=2) (u:=.string (jQ (vB s) e (xx-1) (xx-blw))) (cs':=#[.bool b,.string (jQ (vB s) e (xx+nn-1) xx:ByteArray),.string (jQ (vB s) e (xx-1) (xx-blw):ByteArray),.int .i64 (xx)]) rfl);refine hK.out _ _ ⟨BK3.out,(zA BK7.out 3).trans rfl⟩ (fun hHeld=>?_);clear hK K hs hf hHeld;refine jG (fun W=>W.heap[g3]?=some (.cells #[.bool b,.string s,.int .i64 e] 23 (0,0))∧W.heap[g4]?=some (.cells #[.bool false,.string (⟨#[]⟩:ByteArray),.string (⟨#[]⟩:ByteArray),.int .i64 0] 36 (0,0))∧W.heap[g7]?=some (.cells #[.bool b,.string (jQ (vB s) e (xx+nn-1) xx:ByteArray),.string (jQ (vB s) e (xx-1) (xx-blw):ByteArray),.int .i64 (xx)] 36 (0,0))∧Below w.heap.size w W) ⟨BK3.out,BK4.out,BK7.out,HB.out⟩ ?_;clear BK3 BK4 BK7 HB;rintro W ⟨hb3,hb4,hb7,hbw⟩;have BK3:=K_ hb3;have BK4:=K_ hb4;have BK7:=K_ hb7;have HB:=K_ hbw;clear hb3 hb4 hb7 hbw;have hHeld:=(show W.heap[g3]?=some (.cells #[.bool b,.string s,.int .i64 e] 23 (0,0))∧W.cell? ⟨g7,3,none⟩=some (.int .i64 xx) from ⟨BK3.out,(zA BK7.out 3).trans rfl⟩)
   refine yN (by kernel_rfl) ?_;go_wp2_with (first|((with_reducible refine zE (N:=70) rfl ?_);refine lo_ (g:=g7) (cs:=#[.bool b,.string (jQ (vB s) e (xx+nn-1) xx:ByteArray),.string (jQ (vB s) e (xx-1) (xx-blw):ByteArray),.int .i64 (xx)]) _ ⟨BK BK7⟩ ?_ rfl rfl rfl Tryz.underlying36 rfl xP)|((with_reducible refine zY (p:=4) rfl ?_);refine so_ (g:=g4) (cs:=#[.bool false,.string (⟨#[]⟩:ByteArray),.string (⟨#[]⟩:ByteArray),.int .i64 0]) (#[.bool b,.string (jQ (vB s) e (xx+nn-1) xx:ByteArray),.string (jQ (vB s) e (xx-1) (xx-blw):ByteArray),.int .i64 (xx)]) ⟨BK BK4⟩ ?_ rfl rfl rfl rfl rfl xP rfl rfl;intro w9 hbk hfar hbel;replace BK7:=K_ (hfar _ _ (by first|exact NB7_4.out|exact Ne.symm NB4_7.out) (BK BK7));replace BK4:=K_ hbk;replace HB:=K_ (hbel _ _ GE4.out (BL HB));clear hbk hfar hbel))
   refine bodyPost_ret (results_cell_row rfl _ _ g4 36 (#[.bool b,.string (jQ (vB s) e (xx+nn-1) xx:ByteArray),.string (jQ (vB s) e (xx-1) (xx-blw):ByteArray),.int .i64 (xx)]) (0,0) _ rfl BK4.out Tryz.underlying36 rfl xP) rfl ?_;exact⟨HRES.out,BL HB⟩
theorem zaG (n:Nat) (e hi lo:Int):(jQ n e hi lo).size=(hi-lo+1).toNat:=by
 show (qQ n e hi (hi-lo+1).toNat).toArray.size=_
 rw[List.size_toArray,zeU]
theorem zfE {P:jY} (hg:uC P) {s:ByteArray} {e:Int} (ok:OkS s e):(zag P (vB s) e).1.size≤200000∧(zag P (vB s) e).2.1.size≤200000:=by
 have ht:=zdL ok;have hf:=zea (p:=0) ok (by decide) (by decide);have:=hg.mi0;have:=hg.mi4;have:=hg.mf0;have:=hg.mfx;have:=hg.xf4;have:=hg.ms0;have:=hg.msx;have:=hg.xs4
 have h1:zci P (vB s) e≤30000:=by unfold zci;split <;> split <;> omega
 have h2:zcj P (vB s) e≤120000:=by unfold zcj;split <;> omega
 show (jQ _ _ _ _).size≤_∧(jQ _ _ _ _).size≤_
 rw[zaG,zaG];omega
theorem zhE {P:jY} (hg:uC P) {s:ByteArray} {e:Int} (ok:OkS s e):(zbr P (vB s) e).1.size≤200000∧(zbr P (vB s) e).2.1.size≤200000:=by
 have ht:=zdL ok;have hwb:=zaT hg;have hsb:=zgU hg;have:=hg.xi4
 have h1:-20000≤zcq P (vB s) e∧zcq P (vB s) e≤30000∧0≤zco P (vB s) e∧zco P (vB s) e≤100:=by
  unfold zcq zco;cases hE:qJ P
  ·rw[if_neg (by decide),if_neg (by decide)];omega
  have h1:=zcU hE;have m1:=Int.emod_nonneg (jZ (vB s) e) (show P.xi≠0 by omega);have m2:=Int.emod_lt_of_pos (jZ (vB s) e) (show 0<P.xi by omega);rw[if_pos rfl,if_pos rfl];omega
 have h2:-20000≤zaA P (vB s) e∧zaA P (vB s) e≤30000:=by unfold zaA;split <;> omega
 have hf:=zea (p:=zaA P (vB s) e) ok (by omega) (by omega);have h3:zga P (vB s) e≤120000:=by unfold zga;omega
 show (jQ _ _ _ _).size≤_∧(jQ _ _ _ _).size≤_
 rw[zaG,zaG];omega
set_option maxHeartbeats 8000000 in
set_option maxRecDepth 100000 in
theorem ziq (q:Pat) (hg:uC q.P) (b:Bool) (s:ByteArray) (e:Int) (s1:ByteArray) (e1:Int) (hx:vV.f b s e q.mult=some (b,s1,e1)) (ok:OkS s1 e1) (w:World) (hr:xX q w) :
  Calls Tryz.prog 16 #[.agg q.cs,.agg #[.bool b,.string s,.int .i64 e]] w fun e' w'=>e'=.returned (.agg #[.bool b,.string (xE q.P (vB s1) e1).1,.string (xE q.P (vB s1) e1).2.1,.int .i64 (xE q.P (vB s1) e1).2.2])∧Below w.heap.size w w':=by
 have HB:=K_ (Below.refl w.heap.size w);have HGD:=K_ hg;have HRW:=K_ hr;have HX:=K_ hx;have HOK1:=K_ ok;clear hg hr hx ok;go_enter Tryz.func16,Tryz.ntmps16
 go_upto_region 1 with (first|((with_reducible refine zE (N:=2) rfl ?_);refine bx_ 2 (q.cs) 26 ?_ rfl rfl rfl rfl rfl;intro g2 hg w2 hbox hb;have BK2:=K_ hbox;have GE2:=ge_ hg HB;replace HB:=zF HB hb;clear hb hbox hg)|((with_reducible refine zE (N:=3) rfl ?_);refine bx_ 3 (#[.bool b,.string s,.int .i64 e]) 23 ?_ rfl rfl rfl rfl rfl;intro g3 hg w2 hbox hb;have BK3:=K_ hbox;have GE3:=ge_ hg HB;have NB2_3:=nb_ hg BK2;replace BK2:=zC BK2 hb;replace HB:=zF HB hb;clear hb hbox hg)|((with_reducible refine zE (N:=4) rfl ?_);refine be_ 4 (#[.bool false,.string (⟨#[]⟩:ByteArray),.string (⟨#[]⟩:ByteArray),.int .i64 0]) 36 ?_;intro g4 hg w2 hbox hb;have BK4:=K_ hbox;have GE4:=ge_ hg HB;have NB2_4:=nb_ hg BK2;replace BK2:=zC BK2 hb;have NB3_4:=nb_ hg BK3;replace BK3:=zC BK3 hb;replace HB:=zF HB hb;clear hb hbox hg))
 refine yA (n:=6) (S:=fun W=>W.heap[g2]?=some (.cells q.cs 26 (0,0))∧W.heap[g3]?=some (.cells #[.bool b,.string s,.int .i64 e] 23 (0,0))) (ds:=[]) #[false,false,false,false,false,false] (by kernel_rfl) rfl rfl ⟨BK BK2,BK BK3⟩ (fun hHeld=>?_);refine jG (fun W=>W.heap[g2]?=some (.cells q.cs 26 (0,0))∧W.heap[g3]?=some (.cells #[.bool b,.string s,.int .i64 e] 23 (0,0))∧W.heap[g4]?=some (.cells #[.bool false,.string (⟨#[]⟩:ByteArray),.string (⟨#[]⟩:ByteArray),.int .i64 0] 36 (0,0))∧Below w.heap.size w W) ⟨BK BK2,BK BK3,BK BK4,BL HB⟩ ?_;clear hHeld BK2 BK3 BK4 HB;rintro W ⟨hb2,hb3,hb4,hbw⟩;have BK2:=K_ hb2;have BK3:=K_ hb3;have BK4:=K_ hb4;have HB:=K_ hbw;clear hb2 hb3 hb4 hbw;have hHeld:=(show W.heap[g2]?=some (.cells q.cs 26 (0,0))∧W.heap[g3]?=some (.cells #[.bool b,.string s,.int .i64 e] 23 (0,0)) from ⟨BK2.out,BK3.out⟩)
 refine tr_ 0 8 (bb 6 1) (#[.bool b,.string s,.int .i64 e]) (fun _ hs=>⟨hs.2⟩) Tryz.underlying23 jL hHeld ?_;refine tr_ 1 9 (bb 6 3) (q.cs) (fun _ hs=>⟨hs.1⟩) Tryz.underlying26 jR hHeld ?_;refine zaC (σ:=Nat) 1 (bb 6 31) (fun g=>[(10,.int .i64 q.mult),(11,.agg #[.bool b,.string s1,.int .i64 e1]),(5,.pointer (some ⟨g,0,none⟩))]) (fun g W=>W.heap[g]?=some (.cells (#[.bool false,.string (⟨#[]⟩:ByteArray),.int .i64 0]) 23 (0,0))∧g2≠g∧g3≠g∧g4≠g∧w.heap.size≤g∧W.heap[g2]?=some (.cells q.cs 26 (0,0))∧W.heap[g3]?=some (.cells #[.bool b,.string s,.int .i64 e] 23 (0,0))∧W.heap[g4]?=some (.cells #[.bool false,.string (⟨#[]⟩:ByteArray),.string (⟨#[]⟩:ByteArray),.int .i64 0] 36 (0,0))∧Below w.heap.size w W) ?hcj ?hrj
 case hrj =>
  intro hCont;refine zcJ (i:=2) (j:=4) (Ni:=some 10) (Nj:=some 5) (bb 6 7) (bb 6 19) rfl rfl rfl rfl (by kernel_rfl) (by decide) (by decide) (fun K hK=>?_) (fun K hK=>?_)
  ·skip
   refine gq_ Tryz.func35 #[.agg q.cs] ?_;refine (zeQ q _ (HRW.out.below (BL HB))).mono ?_;rintro e9 w' ⟨rfl,hb⟩;refine⟨_,rfl,?_⟩;replace BK2:=zC BK2 hb;replace BK3:=zC BK3 hb;replace BK4:=zC BK4 hb;replace HB:=zF HB hb;clear hb hHeld;refine hK.out _ _ ⟨BK2.out,BK3.out⟩ (fun hHeld=>?_);clear hK K;refine no_ (some 10) ?_;refine zcJ (i:=3) (j:=4) (Ni:=some 11) (Nj:=some 5) (bb 6 15) (bb 6 23) rfl rfl rfl rfl (by kernel_rfl) (by decide) (by decide) (fun K hK=>?_) (fun K hK=>?_)
   ·skip
    refine gq_ Tryz.func37 #[.agg #[.bool b,.string s,.int .i64 e],.int .i64 q.mult] ?_;refine (vV.calls b s e q.mult b s1 e1 _ HX.out).mono ?_;rintro e9 w' ⟨rfl,hb⟩;refine⟨_,rfl,?_⟩;replace BK2:=zC BK2 hb;replace BK3:=zC BK3 hb;replace BK4:=zC BK4 hb;replace HB:=zF HB hb;clear hb hHeld;refine hK.out _ _ ⟨BK2.out,BK3.out⟩ (fun hHeld=>?_);clear hK K;refine no_ (some 11) ?_;refine on_ 4 (some 5) (bb 6 31) (fun K hK=>?_);refine bs_ 5 (#[.bool false,.string (⟨#[]⟩:ByteArray),.int .i64 0]) 23 ?_;intro g5 hg w' hbox hb;have BK5:=K_ hbox;have GE5:=ge_ hg HB;have NB2_5:=nb_ hg BK2;have NB3_5:=nb_ hg BK3;have NB4_5:=nb_ hg BK4;replace BK2:=zC BK2 hb;replace BK3:=zC BK3 hb;replace BK4:=zC BK4 hb;replace HB:=zF HB hb;clear hb hbox hg hHeld;refine hK.out _ _ ⟨BK2.out,BK3.out⟩ (fun hHeld=>?_);clear hK K;refine no_ (some 5) ?_;exact nj_ (hCont g5 _ ⟨BK5.out,NB2_5.out,NB3_5.out,NB4_5.out,GE5.out,BK2.out,BK3.out,BK4.out,HB.out⟩)
   skip
   refine bs_ 5 (#[.bool false,.string (⟨#[]⟩:ByteArray),.int .i64 0]) 23 ?_;intro g5 hg w' hbox hb;have BK5:=K_ hbox;have GE5:=ge_ hg HB;have NB2_5:=nb_ hg BK2;have NB3_5:=nb_ hg BK3;have NB4_5:=nb_ hg BK4;replace BK2:=zC BK2 hb;replace BK3:=zC BK3 hb;replace BK4:=zC BK4 hb;replace HB:=zF HB hb;clear hb hbox hg hHeld;refine hK.out _ _ ⟨BK2.out,BK3.out⟩ (fun hHeld=>?_);clear hK K;refine no_ (some 5) ?_;refine on_ 3 (some 11) (bb 6 31) (fun K hK=>?_);refine gq_ Tryz.func37 #[.agg #[.bool b,.string s,.int .i64 e],.int .i64 q.mult] ?_;refine (vV.calls b s e q.mult b s1 e1 _ HX.out).mono ?_;rintro e9 w' ⟨rfl,hb⟩;refine⟨_,rfl,?_⟩;replace BK2:=zC BK2 hb;replace BK3:=zC BK3 hb;replace BK4:=zC BK4 hb;replace BK5:=zC BK5 hb;replace HB:=zF HB hb;clear hb hHeld;refine hK.out _ _ ⟨BK2.out,BK3.out⟩ (fun hHeld=>?_);clear hK K;refine no_ (some 11) ?_;exact nj_ (hCont g5 _ ⟨BK5.out,NB2_5.out,NB3_5.out,NB4_5.out,GE5.out,BK2.out,BK3.out,BK4.out,HB.out⟩)
  skip
  refine bs_ 5 (#[.bool false,.string (⟨#[]⟩:ByteArray),.int .i64 0]) 23 ?_;intro g5 hg w' hbox hb;have BK5:=K_ hbox;have GE5:=ge_ hg HB;have NB2_5:=nb_ hg BK2;have NB3_5:=nb_ hg BK3;have NB4_5:=nb_ hg BK4;replace BK2:=zC BK2 hb;replace BK3:=zC BK3 hb;replace BK4:=zC BK4 hb;replace HB:=zF HB hb;clear hb hbox hg hHeld;refine hK.out _ _ ⟨BK2.out,BK3.out⟩ (fun hHeld=>?_);clear hK K;refine no_ (some 5) ?_;refine on_ 2 (some 10) (bb 6 23) (fun K hK=>?_);refine gq_ Tryz.func35 #[.agg q.cs] ?_;refine (zeQ q _ (HRW.out.below (BL HB))).mono ?_;rintro e9 w' ⟨rfl,hb⟩;refine⟨_,rfl,?_⟩;replace BK2:=zC BK2 hb;replace BK3:=zC BK3 hb;replace BK4:=zC BK4 hb;replace BK5:=zC BK5 hb;replace HB:=zF HB hb;clear hb hHeld;refine hK.out _ _ ⟨BK2.out,BK3.out⟩ (fun hHeld=>?_);clear hK K;refine no_ (some 10) ?_;refine on_ 3 (some 11) (bb 6 31) (fun K hK=>?_);refine gq_ Tryz.func37 #[.agg #[.bool b,.string s,.int .i64 e],.int .i64 q.mult] ?_;refine (vV.calls b s e q.mult b s1 e1 _ HX.out).mono ?_;rintro e9 w' ⟨rfl,hb⟩;refine⟨_,rfl,?_⟩;replace BK2:=zC BK2 hb;replace BK3:=zC BK3 hb;replace BK4:=zC BK4 hb;replace BK5:=zC BK5 hb;replace HB:=zF HB hb;clear hb hHeld;refine hK.out _ _ ⟨BK2.out,BK3.out⟩ (fun hHeld=>?_);clear hK K;refine no_ (some 11) ?_;exact nj_ (hCont g5 _ ⟨BK5.out,NB2_5.out,NB3_5.out,NB4_5.out,GE5.out,BK2.out,BK3.out,BK4.out,HB.out⟩)
 case hcj =>
  rintro g5 W8 ⟨hba,hn2,hn3,hn4,hge,hb2,hb3,hb4,hbw⟩;have BK2:=K_ hb2;have BK3:=K_ hb3;have BK4:=K_ hb4;have HB:=K_ hbw;have BK5:=K_ hba;have GE5:=K_ hge;have NB2_5:=K_ hn2;have NB3_5:=K_ hn3;have NB4_5:=K_ hn4;clear hba hge hbw hHeld hb2 hn2 hb3 hn3 hb4 hn4;refine np_ ?_;refine on_ 5 none (bb 6 63) (fun K hK=>?_);refine yL (g:=g5) (cs:=#[.bool false,.string (⟨#[]⟩:ByteArray),.int .i64 0]) (#[.bool b,.string s1,.int .i64 e1]) BK5 ?_ rfl rfl rfl rfl rfl jL rfl rfl;intro w9 hbk hfar hbel;replace BK2:=K_ (hfar _ _ NB2_5.out BK2.out);replace BK3:=K_ (hfar _ _ NB3_5.out BK3.out);replace BK4:=K_ (hfar _ _ NB4_5.out BK4.out);replace BK5:=K_ hbk;replace HB:=K_ (hbel _ _ GE5.out HB.out);refine hK.out _ _ ⟨BK2.out,BK3.out⟩ (fun _=>?_);clear hK K hbk hfar hbel;refine yN (by kernel_rfl) ?_;have e14:=(show w9.cell? ⟨g2,14,none⟩=some (.bool q.P.sci) from (zA BK2.out 14).trans rfl)
  cases hsci:q.P.sci
  ·rw[hsci] at e14
   obtain⟨A,B,C,hrr⟩:∃ (A B:ByteArray) (C:Int),(A,B,C)=zag q.P (vB s1) e1:=⟨_,_,_,rfl⟩
   have hA:A=(zag q.P (vB s1) e1).1:=by rw[←hrr]
   have hB':B=(zag q.P (vB s1) e1).2.1:=by rw[←hrr]
   have hC:C=(zag q.P (vB s1) e1).2.2:=by rw[←hrr]
   have HRR:=K_ (show Ending.returned (Value.agg #[.bool b,.string A,.string B,.int .i64 C])=.returned (.agg #[.bool b,.string (zag q.P (vB s1) e1).1,.string (zag q.P (vB s1) e1).2.1,.int .i64 (zag q.P (vB s1) e1).2.2]) by rw[hA,hB',hC]);have hsz:A.size≤200000∧B.size≤200000:=by rw[hA,hB'];exact zfE HGD.out HOK1.out
   have hbig:¬ 9223372036854775807<A.size+B.size:=by omega
   have HRES:=K_ (show xE q.P (vB s1) e1=zdG (A,B,C) by unfold xE;rw[hsci,hrr];rfl);clear hA hB' hC hrr hsz hsci;go_upto_region 6 with (first|((with_reducible refine zE (N:=15) rfl ?_);refine lo_ (g:=g2) (cs:=q.cs) _ ⟨BK BK2⟩ ?_ rfl rfl rfl Tryz.underlying26 rfl jR)|((with_reducible refine zE (N:=16) rfl ?_);refine lo_ (g:=g5) (cs:=#[.bool b,.string s1,.int .i64 e1]) _ ⟨BK BK5⟩ ?_ rfl rfl rfl Tryz.underlying23 rfl jL)|(go_at_call 38;refine (zik q HGD.out b s1 e1 HOK1.out _).mono ?_;rintro e9 w' ⟨he9,hb⟩;rw[←HRR.out] at he9;subst he9;replace HB:=zF HB hb;replace BK4:=zC BK4 hb;clear hb)|((with_reducible refine zE (N:=7) rfl ?_);refine be_ 7 (#[.bool false,.string (⟨#[]⟩:ByteArray),.string (⟨#[]⟩:ByteArray),.int .i64 0]) 36 ?_;intro g7 hg w2 hbox hb;have BK7:=K_ hbox;have GE7:=ge_ hg HB;have NB4_7:=nb_ hg BK4;replace BK4:=zC BK4 hb;replace HB:=zF HB hb;clear hb hbox hg)|((with_reducible refine zY (p:=7) rfl ?_);refine so_ (g:=g7) (cs:=#[.bool false,.string (⟨#[]⟩:ByteArray),.string (⟨#[]⟩:ByteArray),.int .i64 0]) (#[.bool b,.string A,.string B,.int .i64 C]) ⟨BK BK7⟩ ?_ rfl rfl rfl rfl rfl xP rfl rfl;intro w9 hbk hfar hbel;replace BK4:=K_ (hfar _ _ (by first|exact NB4_7.out|exact Ne.symm NB7_4.out) (BK BK4));replace BK7:=K_ hbk;replace HB:=K_ (hbel _ _ GE7.out (BL HB));clear hbk hfar hbel))
   have e71:=(show w9.cell? ⟨g7,1,none⟩=some (.string A) from (zA BK7.out 1).trans rfl)
   have e72:=(show w9.cell? ⟨g7,2,none⟩=some (.string B) from (zA BK7.out 2).trans rfl)
   have f71:=zL BK7.out 1;by_cases hem:A++B=(⟨#[]⟩:ByteArray)
   ·have hie:(A++B).toList.isEmpty=true:=by rw[hem,ByteArray.toList_eq];rfl
    have HRE:=K_ (show Ending.returned (Value.agg #[.bool b,.string (⟨#[48]⟩:ByteArray),.string B,.int .i64 C])=.returned (.agg #[.bool b,.string (xE q.P (vB s1) e1).1,.string (xE q.P (vB s1) e1).2.1,.int .i64 (xE q.P (vB s1) e1).2.2]) by rw[HRES.out];unfold zdG;rw[if_pos hem]);clear hem HRES;go_upto_region 8 with (fail)
    refine zbs (fun wx=>wx.heap[g7]?=some (.cells #[.bool b,.string (⟨#[48]⟩:ByteArray),.string B,.int .i64 C] 36 (0,0))∧wx.heap[g4]?=some (.cells #[.bool false,.string (⟨#[]⟩:ByteArray),.string (⟨#[]⟩:ByteArray),.int .i64 0] 36 (0,0))∧Below w.heap.size w wx) ⟨BP BK7,zR (BK BK4) NB4_7.out _,BL HB⟩ ?_;clear e71 e72 f71 BK7 BK4 HB;rintro W5 ⟨hb7,hb4,hbw⟩;have BK7:=K_ hb7;have BK4:=K_ hb4;have HB:=K_ hbw;clear hb7 hb4 hbw;go_wp2_with (first|((with_reducible refine zE (N:=25) rfl ?_);refine lo_ (g:=g7) (cs:=#[.bool b,.string (⟨#[48]⟩:ByteArray),.string B,.int .i64 C]) _ ⟨BK BK7⟩ ?_ rfl rfl rfl Tryz.underlying36 rfl xP)|((with_reducible refine zY (p:=4) rfl ?_);refine so_ (g:=g4) (cs:=#[.bool false,.string (⟨#[]⟩:ByteArray),.string (⟨#[]⟩:ByteArray),.int .i64 0]) (#[.bool b,.string (⟨#[48]⟩:ByteArray),.string B,.int .i64 C]) ⟨BK BK4⟩ ?_ rfl rfl rfl rfl rfl xP rfl rfl;intro w9 hbk hfar hbel;replace BK4:=K_ hbk;replace HB:=K_ (hbel _ _ GE4.out (BL HB));clear hbk hfar hbel))
    refine bodyPost_ret (results_cell_row rfl _ _ g4 36 (#[.bool b,.string (⟨#[48]⟩:ByteArray),.string B,.int .i64 C]) (0,0) _ rfl BK4.out Tryz.underlying36 rfl xP) rfl ?_;exact⟨HRE.out,BL HB⟩
   have hie:(A++B).toList.isEmpty=false:=by
    cases hh:(A++B).toList.isEmpty
    ·rfl
    exact absurd (qM (by rw[←ByteArray.toList_eq,List.isEmpty_iff.1 hh])) hem
   have HRE:=K_ (show Ending.returned (Value.agg #[.bool b,.string A,.string B,.int .i64 C])=.returned (.agg #[.bool b,.string (xE q.P (vB s1) e1).1,.string (xE q.P (vB s1) e1).2.1,.int .i64 (xE q.P (vB s1) e1).2.2]) by rw[HRES.out];unfold zdG;rw[if_neg hem]);clear hem HRES;go_wp2_with (first|((with_reducible refine zE (N:=25) rfl ?_);refine lo_ (g:=g7) (cs:=#[.bool b,.string A,.string B,.int .i64 C]) _ ⟨BK BK7⟩ ?_ rfl rfl rfl Tryz.underlying36 rfl xP)|((with_reducible refine zY (p:=4) rfl ?_);refine so_ (g:=g4) (cs:=#[.bool false,.string (⟨#[]⟩:ByteArray),.string (⟨#[]⟩:ByteArray),.int .i64 0]) (#[.bool b,.string A,.string B,.int .i64 C]) ⟨BK BK4⟩ ?_ rfl rfl rfl rfl rfl xP rfl rfl;intro w9 hbk hfar hbel;replace BK4:=K_ hbk;replace HB:=K_ (hbel _ _ GE4.out (BL HB));clear hbk hfar hbel))
   refine bodyPost_ret (results_cell_row rfl _ _ g4 36 (#[.bool b,.string A,.string B,.int .i64 C]) (0,0) _ rfl BK4.out Tryz.underlying36 rfl xP) rfl ?_;exact⟨HRE.out,BL HB⟩
  rw[hsci] at e14;obtain⟨A,B,C,hrr⟩:∃ (A B:ByteArray) (C:Int),(A,B,C)=zbr q.P (vB s1) e1:=⟨_,_,_,rfl⟩
  have hA:A=(zbr q.P (vB s1) e1).1:=by rw[←hrr]
  have hB':B=(zbr q.P (vB s1) e1).2.1:=by rw[←hrr]
  have hC:C=(zbr q.P (vB s1) e1).2.2:=by rw[←hrr]
  have HRR:=K_ (show Ending.returned (Value.agg #[.bool b,.string A,.string B,.int .i64 C])=.returned (.agg #[.bool b,.string (zbr q.P (vB s1) e1).1,.string (zbr q.P (vB s1) e1).2.1,.int .i64 (zbr q.P (vB s1) e1).2.2]) by rw[hA,hB',hC]);have hsz:A.size≤200000∧B.size≤200000:=by rw[hA,hB'];exact zhE HGD.out HOK1.out
  have hbig:¬ 9223372036854775807<A.size+B.size:=by omega
  have HRES:=K_ (show xE q.P (vB s1) e1=zdG (A,B,C) by unfold xE;rw[hsci,hrr];rfl);clear hA hB' hC hrr hsz hsci;go_upto_region 6 with (first|((with_reducible refine zE (N:=15) rfl ?_);refine lo_ (g:=g2) (cs:=q.cs) _ ⟨BK BK2⟩ ?_ rfl rfl rfl Tryz.underlying26 rfl jR)|((with_reducible refine zE (N:=16) rfl ?_);refine lo_ (g:=g5) (cs:=#[.bool b,.string s1,.int .i64 e1]) _ ⟨BK BK5⟩ ?_ rfl rfl rfl Tryz.underlying23 rfl jL)|(go_at_call 39;refine (zim q HGD.out b s1 e1 HOK1.out _).mono ?_;rintro e9 w' ⟨he9,hb⟩;rw[←HRR.out] at he9;subst he9;replace HB:=zF HB hb;replace BK4:=zC BK4 hb;clear hb)|((with_reducible refine zE (N:=7) rfl ?_);refine be_ 7 (#[.bool false,.string (⟨#[]⟩:ByteArray),.string (⟨#[]⟩:ByteArray),.int .i64 0]) 36 ?_;intro g7 hg w2 hbox hb;have BK7:=K_ hbox;have GE7:=ge_ hg HB;have NB4_7:=nb_ hg BK4;replace BK4:=zC BK4 hb;replace HB:=zF HB hb;clear hb hbox hg)|((with_reducible refine zY (p:=7) rfl ?_);refine so_ (g:=g7) (cs:=#[.bool false,.string (⟨#[]⟩:ByteArray),.string (⟨#[]⟩:ByteArray),.int .i64 0]) (#[.bool b,.string A,.string B,.int .i64 C]) ⟨BK BK7⟩ ?_ rfl rfl rfl rfl rfl xP rfl rfl;intro w9 hbk hfar hbel;replace BK4:=K_ (hfar _ _ (by first|exact NB4_7.out|exact Ne.symm NB7_4.out) (BK BK4));replace BK7:=K_ hbk;replace HB:=K_ (hbel _ _ GE7.out (BL HB));clear hbk hfar hbel))
  have e71:=(show w9.cell? ⟨g7,1,none⟩=some (.string A) from (zA BK7.out 1).trans rfl)
  have e72:=(show w9.cell? ⟨g7,2,none⟩=some (.string B) from (zA BK7.out 2).trans rfl)
  have f71:=zL BK7.out 1;by_cases hem:A++B=(⟨#[]⟩:ByteArray)
  ·have hie:(A++B).toList.isEmpty=true:=by rw[hem,ByteArray.toList_eq];rfl
   have HRE:=K_ (show Ending.returned (Value.agg #[.bool b,.string (⟨#[48]⟩:ByteArray),.string B,.int .i64 C])=.returned (.agg #[.bool b,.string (xE q.P (vB s1) e1).1,.string (xE q.P (vB s1) e1).2.1,.int .i64 (xE q.P (vB s1) e1).2.2]) by rw[HRES.out];unfold zdG;rw[if_pos hem]);clear hem HRES;go_upto_region 8 with (fail)
   refine zbs (fun wx=>wx.heap[g7]?=some (.cells #[.bool b,.string (⟨#[48]⟩:ByteArray),.string B,.int .i64 C] 36 (0,0))∧wx.heap[g4]?=some (.cells #[.bool false,.string (⟨#[]⟩:ByteArray),.string (⟨#[]⟩:ByteArray),.int .i64 0] 36 (0,0))∧Below w.heap.size w wx) ⟨BP BK7,zR (BK BK4) NB4_7.out _,BL HB⟩ ?_;clear e71 e72 f71 BK7 BK4 HB;rintro W5 ⟨hb7,hb4,hbw⟩;have BK7:=K_ hb7;have BK4:=K_ hb4;have HB:=K_ hbw;clear hb7 hb4 hbw;go_wp2_with (first|((with_reducible refine zE (N:=25) rfl ?_);refine lo_ (g:=g7) (cs:=#[.bool b,.string (⟨#[48]⟩:ByteArray),.string B,.int .i64 C]) _ ⟨BK BK7⟩ ?_ rfl rfl rfl Tryz.underlying36 rfl xP)|((with_reducible refine zY (p:=4) rfl ?_);refine so_ (g:=g4) (cs:=#[.bool false,.string (⟨#[]⟩:ByteArray),.string (⟨#[]⟩:ByteArray),.int .i64 0]) (#[.bool b,.string (⟨#[48]⟩:ByteArray),.string B,.int .i64 C]) ⟨BK BK4⟩ ?_ rfl rfl rfl rfl rfl xP rfl rfl;intro w9 hbk hfar hbel;replace BK4:=K_ hbk;replace HB:=K_ (hbel _ _ GE4.out (BL HB));clear hbk hfar hbel))
   refine bodyPost_ret (results_cell_row rfl _ _ g4 36 (#[.bool b,.string (⟨#[48]⟩:ByteArray),.string B,.int .i64 C]) (0,0) _ rfl BK4.out Tryz.underlying36 rfl xP) rfl ?_;exact⟨HRE.out,BL HB⟩
  have hie:(A++B).toList.isEmpty=false:=by
   cases hh:(A++B).toList.isEmpty
   ·rfl
   exact absurd (qM (by rw[←ByteArray.toList_eq,List.isEmpty_iff.1 hh])) hem
  have HRE:=K_ (show Ending.returned (Value.agg #[.bool b,.string A,.string B,.int .i64 C])=.returned (.agg #[.bool b,.string (xE q.P (vB s1) e1).1,.string (xE q.P (vB s1) e1).2.1,.int .i64 (xE q.P (vB s1) e1).2.2]) by rw[HRES.out];unfold zdG;rw[if_neg hem]);clear hem HRES;go_wp2_with (first|((with_reducible refine zE (N:=25) rfl ?_);refine lo_ (g:=g7) (cs:=#[.bool b,.string A,.string B,.int .i64 C]) _ ⟨BK BK7⟩ ?_ rfl rfl rfl Tryz.underlying36 rfl xP)|((with_reducible refine zY (p:=4) rfl ?_);refine so_ (g:=g4) (cs:=#[.bool false,.string (⟨#[]⟩:ByteArray),.string (⟨#[]⟩:ByteArray),.int .i64 0]) (#[.bool b,.string A,.string B,.int .i64 C]) ⟨BK BK4⟩ ?_ rfl rfl rfl rfl rfl xP rfl rfl;intro w9 hbk hfar hbel;replace BK4:=K_ hbk;replace HB:=K_ (hbel _ _ GE4.out (BL HB));clear hbk hfar hbel))
  refine bodyPost_ret (results_cell_row rfl _ _ g4 36 (#[.bool b,.string A,.string B,.int .i64 C]) (0,0) _ rfl BK4.out Tryz.underlying36 rfl xP) rfl ?_;exact⟨HRE.out,BL HB⟩
theorem vQ.drewN {q:Pat} {W:World} {b n:Nat} (h:vQ q W b):vQ q (W.drewN n) b:=⟨Kd.R_drewN h.r0 _,Kd.R_drewN h.r1 _,Kd.R_drewN h.r3 _,Kd.R_drewN h.r4 _⟩
theorem vQ.drew {q:Pat} {W:World} {b:Nat} (h:vQ q W b):vQ q W.drew b:=⟨Kd.R_drew h.r0,Kd.R_drew h.r1,Kd.R_drew h.r3,Kd.R_drew h.r4⟩
set_option maxHeartbeats 8000000 in
set_option maxRecDepth 100000 in
theorem zjz (s:ByteArray) (hs:s.size≤1048576) (b:Bool) (s2:ByteArray) (e:Int) (hs2:s2.size≤140737488351232) (w:World) :
  Calls Tryz.prog 12 #[.string s,.agg #[.bool b,.string s2,.int .i64 e]] w fun e' w'=>∃ (q:Pat) (ok:Bool),e'=.returned (.tuple #[.agg q.cs,.bool ok])∧vQ q w' w.heap.size∧Below w.heap.size w w'∧(ok=true→zaJ q∧s2.size≤120):=by
 have HB:=K_ (Below.refl w.heap.size w);have d12:decide ((s2.size:Int)≤120)=decide (s2.size≤120):=by rw[decide_eq_decide];omega
 go_enter Tryz.func12,Tryz.ntmps12
 go_upto_region 2 with (first|((with_reducible refine zE (N:=3) rfl ?_);refine bx_ 3 (#[.bool b,.string s2,.int .i64 e]) 23 ?_ rfl rfl rfl rfl rfl;intro g3 hg w2 hbox hb;have BK3:=K_ hbox;have GE3:=ge_ hg HB;replace HB:=zF HB hb;clear hb hbox hg)|((with_reducible refine zE (N:=4) rfl ?_);refine be_ 4 (Z26) 26 ?_;intro g4 hg w2 hbox hb;have BK4:=K_ hbox;have GE4:=ge_ hg HB;have NB3_4:=nb_ hg BK3;replace BK3:=zC BK3 hb;replace HB:=zF HB hb;clear hb hbox hg)|(go_at_call 31;refine (ziK s hs _).mono ?_;rintro e9 w' ⟨q,E,a,rfl,hrr,hb,hqg,-⟩;have HRR:=K_ (hrr.lower (zS (BL HB)));have HQ:=K_ hqg;replace HB:=zF HB hb;replace BK3:=zC BK3 hb;replace BK4:=zC BK4 hb;clear hb hrr hqg)|((with_reducible refine zE (N:=6) rfl ?_);refine be_ 6 (Z26) 26 ?_;intro g6 hg w2 hbox hb;have BK6:=K_ hbox;have GE6:=ge_ hg HB;have NB3_6:=nb_ hg BK3;replace BK3:=zC BK3 hb;have NB4_6:=nb_ hg BK4;replace BK4:=zC BK4 hb;replace HRR:=K_ (HRR.out.below hb);replace HB:=zF HB hb;clear hb hbox hg)|((with_reducible refine zE (N:=7) rfl ?_);refine be_ 7 (Z51) 51 ?_;intro g7 hg w2 hbox hb;have BK7:=K_ hbox;have GE7:=ge_ hg HB;have NB3_7:=nb_ hg BK3;replace BK3:=zC BK3 hb;have NB4_7:=nb_ hg BK4;replace BK4:=zC BK4 hb;have NB6_7:=nb_ hg BK6;replace BK6:=zC BK6 hb;replace HRR:=K_ (HRR.out.below hb);replace HB:=zF HB hb;clear hb hbox hg)|((with_reducible refine zY (p:=6) rfl ?_);refine so_ (g:=g6) (cs:=Z26) (q.cs) ⟨BK BK6⟩ ?_ rfl rfl rfl rfl rfl jR rfl rfl;intro w9 hbk hfar hbel;replace BK3:=K_ (hfar _ _ (by first|exact NB3_6.out|exact Ne.symm NB6_3.out) (BK BK3));replace BK4:=K_ (hfar _ _ (by first|exact NB4_6.out|exact Ne.symm NB6_4.out) (BK BK4));replace BK7:=K_ (hfar _ _ (by first|exact NB7_6.out|exact Ne.symm NB6_7.out) (BK BK7));replace HRR:=K_ (HRR.out.so (BK BK6) (by decide) hfar);replace BK6:=K_ hbk;replace HB:=K_ (hbel _ _ GE6.out (BL HB));clear hbk hfar hbel)|((with_reducible refine zY (p:=7) rfl ?_);refine so_ (g:=g7) (cs:=Z51) (#[.int .i64 E,.int .i64 a]) ⟨BK BK7⟩ ?_ rfl rfl rfl rfl rfl qC rfl rfl;intro w9 hbk hfar hbel;replace BK3:=K_ (hfar _ _ (by first|exact NB3_7.out|exact Ne.symm NB7_3.out) (BK BK3));replace BK4:=K_ (hfar _ _ (by first|exact NB4_7.out|exact Ne.symm NB7_4.out) (BK BK4));replace BK6:=K_ (hfar _ _ (by first|exact NB6_7.out|exact Ne.symm NB7_6.out) (BK BK6));replace HRR:=K_ (HRR.out.so (BK BK7) (by decide) hfar);replace BK7:=K_ hbk;replace HB:=K_ (hbel _ _ GE7.out (BL HB));clear hbk hfar hbel))
 by_cases hE0:E=0
 ·have dE:(E==0)=true:=beq_iff_eq.2 hE0
  have hE:=K_ hE0;clear hE0;by_cases h3:s.size≤300
  ·have d3:decide ((s.size:Int)≤300)=true:=decide_eq_true (by omega)
   refine yA (n:=17) (S:=fun W=>W.heap[g6]?=some (.cells q.cs 26 (0,0))∧W.cell? ⟨g7,0,none⟩=some (.int .i64 E)∧W.cell? ⟨g3,1,none⟩=some (.string s2)) (ds:=[]) #[false,false,false,false,false,false,false,false,false,false,false,false,false,false,false,false,false] (by kernel_rfl) rfl rfl ⟨BK BK6,(zA (BK BK7) 0).trans rfl,(zA (BK BK3) 1).trans rfl⟩ (fun hHeld=>?_);refine jG (fun W=>W.heap[g3]?=some (.cells #[.bool b,.string s2,.int .i64 e] 23 (0,0))∧W.heap[g4]?=some (.cells Z26 26 (0,0))∧W.heap[g6]?=some (.cells q.cs 26 (0,0))∧W.heap[g7]?=some (.cells #[.int .i64 E,.int .i64 a] 51 (0,0))∧vQ q W w.heap.size∧Below w.heap.size w W) ⟨BK BK3,BK BK4,BK BK6,BK BK7,HRR.out.drew,BL HB⟩ ?_;clear hHeld BK3 BK4 BK6 BK7 HRR HB;rintro W ⟨hb3,hb4,hb6,hb7,hrr,hbw⟩;have BK3:=K_ hb3;have BK4:=K_ hb4;have BK6:=K_ hb6;have BK7:=K_ hb7;have HRR:=K_ hrr;have HB:=K_ hbw;clear hb3 hb4 hb6 hb7 hrr hbw;have hHeld:=(show W.heap[g6]?=some (.cells q.cs 26 (0,0))∧W.cell? ⟨g7,0,none⟩=some (.int .i64 E)∧W.cell? ⟨g3,1,none⟩=some (.string s2) from ⟨BK6.out,(zA BK7.out 0).trans rfl,(zA BK3.out 1).trans rfl⟩)
   refine tr_ 0 13 (bb 17 1) (q.cs) (fun _ hs=>⟨hs.1⟩) Tryz.underlying26 jR hHeld ?_;refine pw_ 1 14 (bb 17 3) ?_;refine tw_ 2 15 (bb 17 7) hHeld ?_;refine jI (i:=3) (N:=some 16) (v:=.bool true) (bb 17 15) rfl rfl (by kernel_rfl) (fun _ _ _ h=>h) (Or.inl ⟨by rfl,fun w'=>by first|(go_simp;done)|(go_simp;rw[dE];done)|(go_simp;rw[dE];rfl)|(go_simp;simp[dE];done)⟩) (by simp only[Act.put,List.setIfInBounds_toArray,List.set_cons_zero,List.set_cons_succ];rfl) ?_;refine pw_ 4 17 (bb 17 31) ?_;refine pw_ 5 18 (bb 17 63) ?_;refine pw_ 6 19 (bb 17 127) ?_;refine jI (i:=7) (N:=some 20) (v:=.bool true) (bb 17 255) rfl rfl (by kernel_rfl) (fun _ _ _ h=>h) (Or.inl ⟨by rfl,fun w'=>by first|(go_simp;done)|(go_simp;rw[d3];done)|(go_simp;rw[d3];rfl)|(go_simp;simp[d3];done)⟩) (by simp only[Act.put,List.setIfInBounds_toArray,List.set_cons_zero,List.set_cons_succ];rfl) ?_;refine pw_ 8 21 (bb 17 511) ?_;refine pw_ 9 22 (bb 17 1023) ?_;refine pw_ 10 23 (bb 17 2047) ?_;refine tw_ 11 24 (bb 17 4095) hHeld ?_;refine pw_ 12 25 (bb 17 8191) ?_;refine jI (i:=13) (N:=some 26) (v:=.bool (decide (s2.size≤120))) (bb 17 16383) rfl rfl (by kernel_rfl) (fun _ _ _ h=>h) (Or.inl ⟨by rfl,fun w'=>by first|(go_simp;done)|(go_simp;rw[d12];done)|(go_simp;rw[d12];rfl)|(go_simp;simp[d12];done)⟩) (by simp only[Act.put,List.setIfInBounds_toArray,List.set_cons_zero,List.set_cons_succ];rfl) ?_;refine pw_ 14 27 (bb 17 32767) ?_;refine on_ 15 none (bb 17 65535) (fun K hK=>?_);refine yL (g:=g4) (cs:=Z26) q.cs BK4 ?_ rfl rfl rfl rfl rfl jR rfl rfl
   intro w9 hbk hfar hbel;have BK4':=K_ hbk;replace HRR:=K_ (HRR.out.so BK4.out (by decide) hfar);replace BK3:=K_ (hfar _ _ NB3_4.out BK3.out);replace BK6:=K_ (hfar _ _ (Ne.symm NB4_6.out) BK6.out);replace BK7:=K_ (hfar _ _ (Ne.symm NB4_7.out) BK7.out);replace HB:=K_ (hbel _ _ GE4.out HB.out);refine hK.out _ _ ⟨BK6.out,(zA BK7.out 0).trans rfl,(zA BK3.out 1).trans rfl⟩ (fun _=>?_);clear hK K hbk hfar hbel;refine pw_ 16 5 (bb 17 131071) ?_;refine yN (by kernel_rfl) ?_;go_wp2_with (fail)
   refine bodyPost_ret (jE rfl _ _ g4 26 q.cs (0,0) _ rfl BK4'.out Tryz.underlying26 rfl jR) rfl ?_;exact⟨q,decide (s2.size≤120),rfl,HRR.out,BL HB,fun h=>⟨HQ.out hE.out,of_decide_eq_true h⟩⟩
  have d3:decide ((s.size:Int)≤300)=false:=decide_eq_false (by omega);refine yA (n:=17) (S:=fun W=>W.heap[g6]?=some (.cells q.cs 26 (0,0))∧W.cell? ⟨g7,0,none⟩=some (.int .i64 E)∧W.cell? ⟨g3,1,none⟩=some (.string s2)) (ds:=[]) #[false,false,false,false,false,false,false,false,false,false,false,false,false,false,false,false,false] (by kernel_rfl) rfl rfl ⟨BK BK6,(zA (BK BK7) 0).trans rfl,(zA (BK BK3) 1).trans rfl⟩ (fun hHeld=>?_);refine jG (fun W=>W.heap[g3]?=some (.cells #[.bool b,.string s2,.int .i64 e] 23 (0,0))∧W.heap[g4]?=some (.cells Z26 26 (0,0))∧W.heap[g6]?=some (.cells q.cs 26 (0,0))∧W.heap[g7]?=some (.cells #[.int .i64 E,.int .i64 a] 51 (0,0))∧vQ q W w.heap.size∧Below w.heap.size w W) ⟨BK BK3,BK BK4,BK BK6,BK BK7,HRR.out.drew,BL HB⟩ ?_;clear hHeld BK3 BK4 BK6 BK7 HRR HB;rintro W ⟨hb3,hb4,hb6,hb7,hrr,hbw⟩;have BK3:=K_ hb3;have BK4:=K_ hb4;have BK6:=K_ hb6;have BK7:=K_ hb7;have HRR:=K_ hrr;have HB:=K_ hbw;clear hb3 hb4 hb6 hb7 hrr hbw;have hHeld:=(show W.heap[g6]?=some (.cells q.cs 26 (0,0))∧W.cell? ⟨g7,0,none⟩=some (.int .i64 E)∧W.cell? ⟨g3,1,none⟩=some (.string s2) from ⟨BK6.out,(zA BK7.out 0).trans rfl,(zA BK3.out 1).trans rfl⟩)
  refine tr_ 0 13 (bb 17 1) (q.cs) (fun _ hs=>⟨hs.1⟩) Tryz.underlying26 jR hHeld ?_;refine pw_ 1 14 (bb 17 3) ?_;refine tw_ 2 15 (bb 17 7) hHeld ?_;refine jI (i:=3) (N:=some 16) (v:=.bool true) (bb 17 15) rfl rfl (by kernel_rfl) (fun _ _ _ h=>h) (Or.inl ⟨by rfl,fun w'=>by first|(go_simp;done)|(go_simp;rw[dE];done)|(go_simp;rw[dE];rfl)|(go_simp;simp[dE];done)⟩) (by simp only[Act.put,List.setIfInBounds_toArray,List.set_cons_zero,List.set_cons_succ];rfl) ?_;refine pw_ 4 17 (bb 17 31) ?_;refine pw_ 5 18 (bb 17 63) ?_;refine pw_ 6 19 (bb 17 127) ?_;refine jI (i:=7) (N:=some 20) (v:=.bool false) (bb 17 255) rfl rfl (by kernel_rfl) (fun _ _ _ h=>h) (Or.inl ⟨by rfl,fun w'=>by first|(go_simp;done)|(go_simp;rw[d3];done)|(go_simp;rw[d3];rfl)|(go_simp;simp[d3];done)⟩) (by simp only[Act.put,List.setIfInBounds_toArray,List.set_cons_zero,List.set_cons_succ];rfl) ?_;refine pw_ 8 21 (bb 17 511) ?_;refine pw_ 9 22 (bb 17 1023) ?_;refine jI (i:=10) (N:=some 23) (v:=undef) (bb 17 2047) rfl rfl (by kernel_rfl) (fun _ _ _ h=>h) (Or.inr ⟨by rfl,rfl⟩) (by simp only[Act.put,List.setIfInBounds_toArray,List.set_cons_zero,List.set_cons_succ];rfl) ?_;refine jI (i:=11) (N:=some 24) (v:=undef) (bb 17 4095) rfl rfl (by kernel_rfl) (fun _ _ _ h=>h) (Or.inr ⟨by rfl,rfl⟩) (by simp only[Act.put,List.setIfInBounds_toArray,List.set_cons_zero,List.set_cons_succ];rfl) ?_;refine jI (i:=12) (N:=some 25) (v:=undef) (bb 17 8191) rfl rfl (by kernel_rfl) (fun _ _ _ h=>h) (Or.inr ⟨by rfl,rfl⟩) (by simp only[Act.put,List.setIfInBounds_toArray,List.set_cons_zero,List.set_cons_succ];rfl) ?_
  refine jI (i:=13) (N:=some 26) (v:=undef) (bb 17 16383) rfl rfl (by kernel_rfl) (fun _ _ _ h=>h) (Or.inr ⟨by rfl,rfl⟩) (by simp only[Act.put,List.setIfInBounds_toArray,List.set_cons_zero,List.set_cons_succ];rfl) ?_;refine pw_ 14 27 (bb 17 32767) ?_;refine on_ 15 none (bb 17 65535) (fun K hK=>?_);refine yL (g:=g4) (cs:=Z26) q.cs BK4 ?_ rfl rfl rfl rfl rfl jR rfl rfl;intro w9 hbk hfar hbel;have BK4':=K_ hbk;replace HRR:=K_ (HRR.out.so BK4.out (by decide) hfar);replace BK3:=K_ (hfar _ _ NB3_4.out BK3.out);replace BK6:=K_ (hfar _ _ (Ne.symm NB4_6.out) BK6.out);replace BK7:=K_ (hfar _ _ (Ne.symm NB4_7.out) BK7.out);replace HB:=K_ (hbel _ _ GE4.out HB.out);refine hK.out _ _ ⟨BK6.out,(zA BK7.out 0).trans rfl,(zA BK3.out 1).trans rfl⟩ (fun _=>?_);clear hK K hbk hfar hbel;refine pw_ 16 5 (bb 17 131071) ?_;refine yN (by kernel_rfl) ?_;go_wp2_with (fail)
  refine bodyPost_ret (jE rfl _ _ g4 26 q.cs (0,0) _ rfl BK4'.out Tryz.underlying26 rfl jR) rfl ?_;exact⟨q,false,rfl,HRR.out,BL HB,fun h=>by cases h⟩
 have dE:(E==0)=false:=beq_eq_false_iff_ne.2 hE0;refine yA (n:=17) (S:=fun W=>W.heap[g6]?=some (.cells q.cs 26 (0,0))∧W.cell? ⟨g7,0,none⟩=some (.int .i64 E)∧W.cell? ⟨g3,1,none⟩=some (.string s2)) (ds:=[]) #[false,false,false,false,false,false,false,false,false,false,false,false,false,false,false,false,false] (by kernel_rfl) rfl rfl ⟨BK BK6,(zA (BK BK7) 0).trans rfl,(zA (BK BK3) 1).trans rfl⟩ (fun hHeld=>?_);refine jG (fun W=>W.heap[g3]?=some (.cells #[.bool b,.string s2,.int .i64 e] 23 (0,0))∧W.heap[g4]?=some (.cells Z26 26 (0,0))∧W.heap[g6]?=some (.cells q.cs 26 (0,0))∧W.heap[g7]?=some (.cells #[.int .i64 E,.int .i64 a] 51 (0,0))∧vQ q W w.heap.size∧Below w.heap.size w W) ⟨BK BK3,BK BK4,BK BK6,BK BK7,HRR.out.drew,BL HB⟩ ?_;clear hHeld BK3 BK4 BK6 BK7 HRR HB;rintro W ⟨hb3,hb4,hb6,hb7,hrr,hbw⟩;have BK3:=K_ hb3;have BK4:=K_ hb4;have BK6:=K_ hb6;have BK7:=K_ hb7;have HRR:=K_ hrr;have HB:=K_ hbw;clear hb3 hb4 hb6 hb7 hrr hbw;have hHeld:=(show W.heap[g6]?=some (.cells q.cs 26 (0,0))∧W.cell? ⟨g7,0,none⟩=some (.int .i64 E)∧W.cell? ⟨g3,1,none⟩=some (.string s2) from ⟨BK6.out,(zA BK7.out 0).trans rfl,(zA BK3.out 1).trans rfl⟩)
 refine tr_ 0 13 (bb 17 1) (q.cs) (fun _ hs=>⟨hs.1⟩) Tryz.underlying26 jR hHeld ?_;refine pw_ 1 14 (bb 17 3) ?_;refine tw_ 2 15 (bb 17 7) hHeld ?_;refine jI (i:=3) (N:=some 16) (v:=.bool false) (bb 17 15) rfl rfl (by kernel_rfl) (fun _ _ _ h=>h) (Or.inl ⟨by rfl,fun w'=>by first|(go_simp;done)|(go_simp;rw[dE];done)|(go_simp;rw[dE];rfl)|(go_simp;simp[dE];done)⟩) (by simp only[Act.put,List.setIfInBounds_toArray,List.set_cons_zero,List.set_cons_succ];rfl) ?_;refine pw_ 4 17 (bb 17 31) ?_;refine jI (i:=5) (N:=some 18) (v:=undef) (bb 17 63) rfl rfl (by kernel_rfl) (fun _ _ _ h=>h) (Or.inr ⟨by rfl,rfl⟩) (by simp only[Act.put,List.setIfInBounds_toArray,List.set_cons_zero,List.set_cons_succ];rfl) ?_;refine jI (i:=6) (N:=some 19) (v:=undef) (bb 17 127) rfl rfl (by kernel_rfl) (fun _ _ _ h=>h) (Or.inr ⟨by rfl,rfl⟩) (by simp only[Act.put,List.setIfInBounds_toArray,List.set_cons_zero,List.set_cons_succ];rfl) ?_;refine jI (i:=7) (N:=some 20) (v:=undef) (bb 17 255) rfl rfl (by kernel_rfl) (fun _ _ _ h=>h) (Or.inr ⟨by rfl,rfl⟩) (by simp only[Act.put,List.setIfInBounds_toArray,List.set_cons_zero,List.set_cons_succ];rfl) ?_;refine pw_ 8 21 (bb 17 511) ?_;refine pw_ 9 22 (bb 17 1023) ?_;refine jI (i:=10) (N:=some 23) (v:=undef) (bb 17 2047) rfl rfl (by kernel_rfl) (fun _ _ _ h=>h) (Or.inr ⟨by rfl,rfl⟩) (by simp only[Act.put,List.setIfInBounds_toArray,List.set_cons_zero,List.set_cons_succ];rfl) ?_;refine jI (i:=11) (N:=some 24) (v:=undef) (bb 17 4095) rfl rfl (by kernel_rfl) (fun _ _ _ h=>h) (Or.inr ⟨by rfl,rfl⟩) (by simp only[Act.put,List.setIfInBounds_toArray,List.set_cons_zero,List.set_cons_succ];rfl) ?_
 refine jI (i:=12) (N:=some 25) (v:=undef) (bb 17 8191) rfl rfl (by kernel_rfl) (fun _ _ _ h=>h) (Or.inr ⟨by rfl,rfl⟩) (by simp only[Act.put,List.setIfInBounds_toArray,List.set_cons_zero,List.set_cons_succ];rfl) ?_;refine jI (i:=13) (N:=some 26) (v:=undef) (bb 17 16383) rfl rfl (by kernel_rfl) (fun _ _ _ h=>h) (Or.inr ⟨by rfl,rfl⟩) (by simp only[Act.put,List.setIfInBounds_toArray,List.set_cons_zero,List.set_cons_succ];rfl) ?_;refine pw_ 14 27 (bb 17 32767) ?_;refine on_ 15 none (bb 17 65535) (fun K hK=>?_);refine yL (g:=g4) (cs:=Z26) q.cs BK4 ?_ rfl rfl rfl rfl rfl jR rfl rfl;intro w9 hbk hfar hbel;have BK4':=K_ hbk;replace HRR:=K_ (HRR.out.so BK4.out (by decide) hfar);replace BK3:=K_ (hfar _ _ NB3_4.out BK3.out);replace BK6:=K_ (hfar _ _ (Ne.symm NB4_6.out) BK6.out);replace BK7:=K_ (hfar _ _ (Ne.symm NB4_7.out) BK7.out);replace HB:=K_ (hbel _ _ GE4.out HB.out);refine hK.out _ _ ⟨BK6.out,(zA BK7.out 0).trans rfl,(zA BK3.out 1).trans rfl⟩ (fun _=>?_);clear hK K hbk hfar hbel;refine pw_ 16 5 (bb 17 131071) ?_;refine yN (by kernel_rfl) ?_;go_wp2_with (fail)
 refine bodyPost_ret (jE rfl _ _ g4 26 q.cs (0,0) _ rfl BK4'.out Tryz.underlying26 rfl jR) rfl ?_;exact⟨q,false,rfl,HRR.out,BL HB,fun h=>by cases h⟩
theorem zoH {q:Pat} (hq:zaJ q) (m:Int) (b:Bool) {n:Nat} {e:Int} (hn:(zU n).size≤1000) (h1:-1000≤e) (h2:e≤1000):(zU (rN q m b n e)).size≤8000∧-3000≤rK q n e∧rK q n e≤3000:=by
 obtain⟨m0,m3⟩:=zfm q;obtain⟨s1,s2,s3,s4⟩:=zpt hq.good hq.more (jZ n (e+q.mult));obtain⟨c1,c2,c3⟩:=zny hq.good;have ht:=zkX (n:=n) (e:=e+q.mult) (by omega) (by omega) (by omega);have e1:=zgL n (e+q.mult) hn;have e2:=zeX n (e+q.mult);have hc:(zU (yC n)).size≤1000:=zaI (zgR n) hn;unfold rN rK;obtain⟨p,hp⟩:∃ p,p=(stP q.P (jZ n (e+q.mult))).2:=⟨_,rfl⟩
 rw[←hp] at s4 ⊢;have h:=zlj (m:=m) (neg:=b) (n:=yC n) (st:=(stP q.P (jZ n (e+q.mult))).1) (e:=nE n (e+q.mult)) (p:=p) (k:=min (nE n (e+q.mult)) p) hc s2 s1 (by omega) (by omega);refine⟨Nat.le_trans h ?_,by omega,by omega⟩;omega
def zeB (q:Pat) (n:Nat) (e:Int):Bool:=decide (atE (yC n) (nE n (e+q.mult)) (rK q n e) % atE (stP q.P (jZ n (e+q.mult))).1 (stP q.P (jZ n (e+q.mult))).2 (rK q n e)=0)
theorem zoZ {q:Pat} (hq:zaJ q) {m:Int} {b:Bool} {n:Nat} {e:Int} (h:zeB q n e=true):rN q m b n e=atE (yC n) (nE n (e+q.mult)) (rK q n e):=by
 have h:=of_decide_eq_true h;unfold rN rv0;show rq m b (atE (yC n) (nE n (e+q.mult)) (rK q n e)) (atE _ _ (rK q n e)) * atE _ _ (rK q n e)=_
 rw[zmf h];exact Nat.div_mul_cancel (Nat.dvd_of_mod_eq_zero h)
theorem zkw {q:Pat} (hq:zaJ q) {m:Int} (b:Bool) {n:Nat} {e:Int} (h:m=7→zeB q n e=true) :
  zbh m b (yC n) (nE n (e+q.mult)) (stP q.P (jZ n (e+q.mult))).1 (stP q.P (jZ n (e+q.mult))).2=(b,nD (rN q m b n e),nE (rN q m b n e) (rK q n e),0):=by
 by_cases hm:m=7
 ·have hf:=h hm
  rw[zoZ hq hf,ziY,ziT _ (by unfold rK;omega)];exact zgM (of_decide_eq_true hf)
 exact zhM hm b (yC n) (nE n (e+q.mult)) _ _
def zit (q:Pat) (m:Int) (b:Bool) (n:Nat) (e:Int):Bool×ByteArray×Int×Int:=if m=7∧zeB q n e=false then (false,⟨#[]⟩,0,11) else zhc b (rN q m b n e) (rX q m b n e)
def xC (q:Pat) (m:Int) (b:Bool) (s:ByteArray) (e:Int):Bool×ByteArray×Int×Int:=
 if 0≤m∧m≤7 then if zaU s e=true then if zaO (vB s) e=true then zit q m b (vB s) e else (false,⟨#[]⟩,0,10) else (false,⟨#[]⟩,0,9) else (false,⟨#[]⟩,0,1)
theorem zmN {b:Bool} {N:Nat} {X:Int} (h:(zhc b N X).2.2.2=0):zhc b N X=(b,nD N,X,0):=by
 unfold zhc at h ⊢;split
 ·rfl
 rename_i hn;rw[if_neg hn] at h;exact absurd h (by decide)
theorem zjX {q:Pat} {m:Int} {b:Bool} {s:ByteArray} {e:Int} (h:(xC q m b s e).2.2.2=0) :
  (0≤m∧m≤7)∧zaU s e=true∧zaO (vB s) e=true∧(m=7→zeB q (vB s) e=true)∧zaO (yC (rN q m b (vB s) e)) (rX q m b (vB s) e)=true∧xC q m b s e=(b,nD (rN q m b (vB s) e),rX q m b (vB s) e,0):=by
 unfold xC at h ⊢;by_cases hm:0≤m∧m≤7
 ·rw[if_pos hm] at h ⊢
  by_cases hg:zaU s e=true
  ·rw[if_pos hg] at h ⊢
   by_cases hr:zaO (vB s) e=true
   ·rw[if_pos hr] at h ⊢
    unfold zit at h ⊢;by_cases hx:m=7∧zeB q (vB s) e=false
    ·rw[if_pos hx] at h;exact absurd h (by decide)
    rw[if_neg hx] at h ⊢;refine⟨hm,hg,hr,fun h7=>?_,?_,zmN h⟩
    ·cases hh:zeB q (vB s) e
     ·exact absurd ⟨h7,hh⟩ hx
     rfl
    unfold zhc at h;split at h
    ·assumption
    exact absurd h (by decide)
   rw[if_neg hr] at h;exact absurd h (by decide)
  rw[if_neg hg] at h;exact absurd h (by decide)
 rw[if_neg hm] at h;exact absurd h (by decide)
theorem zcw {n:Nat} (h:n≠0) (e:Int):nE (yC n) e=e:=by
 unfold nE;rw[if_neg (zbB h),zon];omega
theorem zjv {n:Nat} {x:Int} (h0:n≠0) (h:zaO (yC n) x=true):zaU (nD n) x=true:=by
 have h:=of_decide_eq_true h;rcases h with h|⟨h1,h2⟩
 ·exact absurd h (zbB h0)
 rw[zcw h0] at h1;have hn:nD n=zU (yC n):=by unfold nD;rw[if_neg h0]
 have hc:=zbB h0;unfold jZ at h2;rw[if_neg hc] at h2;have hz:(zU (yC n)).size≠0:=fun hh=>hc (qX.1 hh)
 exact zbW.2 ⟨zgN n,zgk n,by rw[hn];omega,by omega,by omega⟩
def s19:ByteArray:=⟨#[35,35,48,46,35,35,69,48]⟩
def l19:List S71:=[⟨35,false,0⟩,⟨35,false,1⟩,⟨48,false,2⟩,⟨46,false,3⟩,⟨35,false,4⟩,⟨35,false,5⟩,⟨69,false,6⟩,⟨48,false,7⟩]
theorem zpU:zG.f 100 s19=some (l19,0,0):=by kernel_rfl
def P19:jY:=⟨1,3,0,2,0,0,0,0,⟨#[]⟩,true,1,false⟩
theorem n19:vD (zaQ (l19.map mk73) (qK (l19.map mk73)) (qE (l19.map mk73)) (l19.map mk73).length)=some P19:=by kernel_rfl
theorem h19:xW (l19.map mk73) P19:=⟨by decide +kernel,by kernel_rfl,n19,by kernel_rfl⟩
theorem p19:jJ (uF (l19.map mk73) (qK (l19.map mk73)) l19.length)=[]:=by kernel_rfl
theorem f19:jJ (uE (l19.map mk73) (qE (l19.map mk73)) l19.length)=[]:=by kernel_rfl
theorem zpO:xO l19:=by unfold xO;decide +kernel
theorem zpQ:zav l19:=by unfold zav;decide +kernel
theorem zpN:¬ mixed ([]:List S80) [] [⟨2,0⟩] []:=by unfold mixed sgn;decide +kernel
theorem zpT:Ev (fun k=>zG.f k s19) (l19,0,0):=Ev.of (zG.mono s19) zpU
theorem zpD {q:Pat} (h0:q.l0=[]) (h1:q.l1=[]) (h3:q.l3=[⟨2,0⟩]) (h4:q.l4=[]):q.mult=0:=by
 unfold Pat.mult Pat.sg;rw[h0,h1,h3,h4];rfl
theorem zpe {q:Pat} {E:Int} (h:zkY s19 q E):E=0∧q.P=P19∧q.mult=0:=by
 have hx:=h l19 zpT zpO zpQ P19 h19;rw[p19,f19] at hx;obtain⟨h1,h2,h3,h4,h5,h6⟩:=hx zpN;refine⟨h1,h2,zpD h3 h4 (by rw[h5,h3]) (by rw[h6,h4])⟩
theorem znR {q:Pat} (hm:q.mult=0):vV.f false ⟨#[49,50,51]⟩ 2 q.mult=some (false,⟨#[49,50,51]⟩,2):=by rw[hm];kernel_rfl
theorem zpx {q:Pat} (hP:q.P=P19):xE q.P (vB ⟨#[49,50,51]⟩) 2=(⟨#[49,50]⟩,⟨#[51]⟩,3):=by rw[hP];decide +kernel
theorem zpV:OkS ⟨#[49,50,51]⟩ 2:=⟨rfl,by decide,by decide,by decide,by decide⟩
set_option maxHeartbeats 4000000 in
set_option maxRecDepth 100000 in
theorem zcH (q:Pat) (w:World):Calls Tryz.prog 28 #[.agg q.cs] w fun e w'=>e=.returned (.bool (qJ q.P))∧Below w.heap.size w w':=by
 have HB:=K_ (Below.refl w.heap.size w);go_enter Tryz.func28,Tryz.ntmps28
 go_upto_region 1 with ((with_reducible refine zE (N:=1) rfl ?_);refine bx_ 1 q.cs 26 ?_ rfl rfl rfl rfl rfl;intro g1 hg w2 hbox hb;have BK1:=K_ hbox;replace HB:=zF HB hb;clear hb hbox hg)
 have e14:w2.cell? ⟨g1,14,none⟩=some (.bool q.P.sci):=(zA BK1.out 14).trans rfl;have e6:w2.cell? ⟨g1,6,none⟩=some (.int .i64 q.P.xi):=(zA BK1.out 6).trans rfl;have e5:w2.cell? ⟨g1,5,none⟩=some (.int .i64 q.P.mi):=(zA BK1.out 5).trans rfl;have HE:=K_ (show qJ q.P=(q.P.sci&&(decide (q.P.mi<q.P.xi)&&decide (1<q.P.xi))) from rfl);cases hs:q.P.sci
 ·rw[hs] at e14 HE
  go_wp2
  go_ret
  exact⟨by rw[HE.out];rfl,BL HB⟩
 rw[hs] at e14 HE;by_cases h1:q.P.mi<q.P.xi
 ·have d1:decide (q.P.mi<q.P.xi)=true:=decide_eq_true h1
  rw[d1] at HE;by_cases h2:1<q.P.xi
  ·have d2:decide (1<q.P.xi)=true:=decide_eq_true h2
   rw[d2] at HE;go_wp2
   go_ret
   exact⟨by rw[HE.out];rfl,BL HB⟩
  have d2:decide (1<q.P.xi)=false:=decide_eq_false h2;rw[d2] at HE;go_wp2
  go_ret
  exact⟨by rw[HE.out];rfl,BL HB⟩
 have d1:decide (q.P.mi<q.P.xi)=false:=decide_eq_false h1;rw[d1] at HE;go_wp2
 go_ret
 exact⟨by rw[HE.out];rfl,BL HB⟩
set_option maxHeartbeats 4000000 in
set_option maxRecDepth 100000 in
theorem zdC (q:Pat) (hg:uC q.P) (w:World):Calls Tryz.prog 30 #[.agg q.cs] w fun e w'=>e=.returned (.int .i64 (jV q.P))∧Below w.heap.size w w':=by
 have HB:=K_ (Below.refl w.heap.size w);have hz:q.P.mi+q.P.xf=0 ↔ q.P.mi=0∧q.P.xf=0:=by have:=hg.mi0;have:=hg.mf0;have:=hg.mfx;omega
 have HZ:=K_ hz;have HW:=K_ (show jV q.P=if 0<q.P.ms∨(qJ q.P=true∧q.P.mi=0)∨q.P.mi+q.P.xf=0 then 1 else q.P.mi from rfl);clear hg hz;go_enter Tryz.func30,Tryz.ntmps30
 go_upto_region 1 with ((with_reducible refine zE (N:=1) rfl ?_);refine bx_ 1 (q.cs) 26 ?_ rfl rfl rfl rfl rfl;intro g1 hg w2 hbox hb;have BK1:=K_ hbox;have GE1:=ge_ hg HB;replace HB:=zF HB hb;clear hb hbox hg)
 have e9:=(show w2.cell? ⟨g1,9,none⟩=some (.int .i64 q.P.ms) from (zA BK1.out 9).trans rfl)
 have e5:=(show w2.cell? ⟨g1,5,none⟩=some (.int .i64 q.P.mi) from (zA BK1.out 5).trans rfl)
 have e8:=(show w2.cell? ⟨g1,8,none⟩=some (.int .i64 q.P.xf) from (zA BK1.out 8).trans rfl)
 by_cases h9:0<q.P.ms
 ·have d9:decide (0<q.P.ms)=true:=decide_eq_true h9
  have HR:=K_ (show jV q.P=1 by rw[HW.out,if_pos (.inl h9)]);clear e5 e8 HW;go_wp2
  go_ret
  exact⟨by rw[HR.out];rfl,BL HB⟩
 have d9:decide (0<q.P.ms)=false:=decide_eq_false h9;have HE:∀ W,Aside0 (Calls Tryz.prog 28 #[.agg q.cs] W fun e w'=>e=.returned (.bool (qJ q.P))∧Below W.heap.size W w'):=fun W=>K_ (zcH q W)
 have h1:(qJ q.P=true∧q.P.mi=0)∨((qJ q.P=false∨q.P.mi≠0)):=by
  cases qJ q.P
  ·exact .inr (.inl rfl)
  by_cases h:q.P.mi=0
  ·exact .inl ⟨rfl,h⟩
  exact .inr (.inr h)
 by_cases h5:q.P.mi=0
 ·have d5:(q.P.mi==0)=true:=beq_iff_eq.2 h5
  by_cases h8:q.P.xf=0
  ·have d8:(q.P.xf==0)=true:=beq_iff_eq.2 h8
   have HR:=K_ (show jV q.P=1 by rw[HW.out,if_pos (.inr (.inr (HZ.out.2 ⟨h5,h8⟩)))]);clear HW h5 h8 h1;cases hs:qJ q.P
   all_goals
    rw[hs] at HE;clear hs;go_wp2_with (first|((with_reducible refine zE (N:=7) rfl ?_);refine zbK (g:=g1) (cs:=q.cs) _ ⟨BK BK1⟩ ?_ (by rfl) rfl rfl Tryz.underlying26 rfl jR)|(go_at_call 28;refine ((HE _).out).mono ?_;rintro e w' ⟨rfl,hb⟩;replace HB:=zF HB hb;replace BK1:=zC BK1 hb;clear hb e5 e8;have e5:=(show w'.cell? ⟨g1,5,none⟩=some (.int .i64 q.P.mi) from (zA BK1.out 5).trans rfl);have e8:=(show w'.cell? ⟨g1,8,none⟩=some (.int .i64 q.P.xf) from (zA BK1.out 8).trans rfl)))
    go_ret
    exact⟨by rw[HR.out];rfl,BL HB⟩
  have d8:(q.P.xf==0)=false:=beq_eq_false_iff_ne.2 h8;cases hs:qJ q.P
  ·have HR:=K_ (show jV q.P=q.P.mi by rw[HW.out,if_neg (by rw[hs,HZ.out];rintro (h|h|h);exact h9 h;exact absurd h.1 (by decide);exact h8 h.2)])
   rw[hs] at HE;clear hs HW h5 h8 h1;go_wp2_with (first|((with_reducible refine zE (N:=7) rfl ?_);refine zbK (g:=g1) (cs:=q.cs) _ ⟨BK BK1⟩ ?_ (by rfl) rfl rfl Tryz.underlying26 rfl jR)|(go_at_call 28;refine ((HE _).out).mono ?_;rintro e w' ⟨rfl,hb⟩;replace HB:=zF HB hb;replace BK1:=zC BK1 hb;clear hb e5 e8;have e5:=(show w'.cell? ⟨g1,5,none⟩=some (.int .i64 q.P.mi) from (zA BK1.out 5).trans rfl);have e8:=(show w'.cell? ⟨g1,8,none⟩=some (.int .i64 q.P.xf) from (zA BK1.out 8).trans rfl)))
   go_ret
   exact⟨by rw[HR.out];rfl,BL HB⟩
  have HR:=K_ (show jV q.P=1 by rw[HW.out,if_pos (.inr (.inl ⟨hs,h5⟩))]);rw[hs] at HE;clear hs HW h5 h8 h1;go_wp2_with (first|((with_reducible refine zE (N:=7) rfl ?_);refine zbK (g:=g1) (cs:=q.cs) _ ⟨BK BK1⟩ ?_ (by rfl) rfl rfl Tryz.underlying26 rfl jR)|(go_at_call 28;refine ((HE _).out).mono ?_;rintro e w' ⟨rfl,hb⟩;replace HB:=zF HB hb;replace BK1:=zC BK1 hb;clear hb e5 e8;have e5:=(show w'.cell? ⟨g1,5,none⟩=some (.int .i64 q.P.mi) from (zA BK1.out 5).trans rfl);have e8:=(show w'.cell? ⟨g1,8,none⟩=some (.int .i64 q.P.xf) from (zA BK1.out 8).trans rfl)))
  go_ret
  exact⟨by rw[HR.out];rfl,BL HB⟩
 have d5:(q.P.mi==0)=false:=beq_eq_false_iff_ne.2 h5;have HR:=K_ (show jV q.P=q.P.mi by rw[HW.out,if_neg (by rw[HZ.out];rintro (h|h|h);exact h9 h;exact h5 h.2;exact h5 h.1)]);clear HW h5 h1;cases hs:qJ q.P
 all_goals
  rw[hs] at HE;clear hs;go_wp2_with (first|((with_reducible refine zE (N:=7) rfl ?_);refine zbK (g:=g1) (cs:=q.cs) _ ⟨BK BK1⟩ ?_ (by rfl) rfl rfl Tryz.underlying26 rfl jR)|(go_at_call 28;refine ((HE _).out).mono ?_;rintro e w' ⟨rfl,hb⟩;replace HB:=zF HB hb;replace BK1:=zC BK1 hb;clear hb e5 e8;have e5:=(show w'.cell? ⟨g1,5,none⟩=some (.int .i64 q.P.mi) from (zA BK1.out 5).trans rfl);have e8:=(show w'.cell? ⟨g1,8,none⟩=some (.int .i64 q.P.xf) from (zA BK1.out 8).trans rfl)))
  go_ret
  exact⟨by rw[HR.out];rfl,BL HB⟩
set_option maxHeartbeats 4000000 in
set_option maxRecDepth 100000 in
theorem zhD (q:Pat) (hg:uC q.P) (w:World):Calls Tryz.prog 26 #[.agg q.cs] w fun e w'=>e=.returned (.tuple #[.int .i64 (zax q.P).1,.int .i64 (zax q.P).2])∧Below w.heap.size w w':=by
 have HB:=K_ (Below.refl w.heap.size w);have HG:=K_ hg;have hb1:=zaT hg;have hw1:wrap64 (jV q.P+q.P.mf)=jV q.P+q.P.mf:=by have:=hg.mf0;have:=hg.mfx;have:=hg.xf4;unfold wrap64;omega
 have hw2:wrap64 (jV q.P+q.P.xf)=jV q.P+q.P.xf:=by have:=hg.mf0;have:=hg.mfx;have:=hg.xf4;unfold wrap64;omega
 have HW2:=K_ (show zax q.P=if 0<q.P.ms then (q.P.ms,q.P.xs) else (jV q.P+q.P.mf,jV q.P+q.P.xf) from rfl);clear hg hb1;go_enter Tryz.func26,Tryz.ntmps26
 go_upto_region 1 with ((with_reducible refine zE (N:=1) rfl ?_);refine bx_ 1 (q.cs) 26 ?_ rfl rfl rfl rfl rfl;intro g1 hg w2 hbox hb;have BK1:=K_ hbox;have GE1:=ge_ hg HB;replace HB:=zF HB hb;clear hb hbox hg)
 have e9:=(show w2.cell? ⟨g1,9,none⟩=some (.int .i64 q.P.ms) from (zA BK1.out 9).trans rfl)
 by_cases h9:0<q.P.ms
 ·have d9:decide (0<q.P.ms)=true:=decide_eq_true h9
  have HR:=K_ (show zax q.P=(q.P.ms,q.P.xs) by rw[HW2.out,if_pos h9]);have e10:=(show w2.cell? ⟨g1,10,none⟩=some (.int .i64 q.P.xs) from (zA BK1.out 10).trans rfl)
  clear HW2;go_upto_region 2 with (fail)
  go_region
  go_wp2_with (fail)
  go_ret2
  exact⟨by rw[HR.out];rfl,BL HB⟩
 have d9:decide (0<q.P.ms)=false:=decide_eq_false h9;have HR:=K_ (show zax q.P=(wrap64 (jV q.P+q.P.mf),wrap64 (jV q.P+q.P.xf)) by rw[HW2.out,if_neg h9,hw1,hw2]);clear HW2 hw1 hw2;go_upto_region 4 with (first|((with_reducible refine zE (N:=12) rfl ?_);refine lo_ (g:=g1) (cs:=q.cs) _ ⟨BK BK1⟩ ?_ rfl rfl rfl Tryz.underlying26 rfl jR)|(go_at_call 30;refine (zdC q HG.out _).mono ?_;rintro e9 w' ⟨rfl,hb⟩;replace HB:=zF HB hb;replace BK1:=zC BK1 hb;clear hb))
 clear e9;have e7:=(show w'.cell? ⟨g1,7,none⟩=some (.int .i64 q.P.mf) from (zA BK1.out 7).trans rfl)
 have e8:=(show w'.cell? ⟨g1,8,none⟩=some (.int .i64 q.P.xf) from (zA BK1.out 8).trans rfl)
 go_region
 go_wp2_with (fail)
 go_ret2
 exact⟨by rw[HR.out];rfl,BL HB⟩
end Go.Proofs.YtcmgdjnjmobkoaaGreatDoor.Px
namespace Go.Proofs.YtcmgdjnjmobkoaaGreatDoor.Px
open Fig Go.RowKit Go.Proofs.YtcmgdjnjmobkoaaGreatDoorW.PrintWords Go.Proofs.YtcmgdjnjmobkoaaGreatDoorW.PrintLast Go.Proofs.YtcmgdjnjmobkoaaGreatDoorW.PrintMore
attribute [local go_sem] yS yR vN vM yF yE yU yT
attribute [local go_sem] uX uQ uP uU uV uO qA uR uZ uM uT uN uY uW
def jC.l0:Nat→Int→List Int→Int→Option (ByteArray)
 | 0,_,_,_=>none
 | k+1,x0,x3,x4=>if x4<x0 then (if x3.length<140737488355328 then (jC.l0 k x0 (x3++[48]) (wrap64 (x4+1))) else (none)) else (some (strOfNums x3))
def jC.f (k:Nat) (a0:Int):Option (ByteArray):=jC.l0 k a0 ([]:List Int) 0
set_option maxHeartbeats 8000000 in
set_option maxRecDepth 100000 in
theorem jC.calls (k:Nat) (a0:Int) (r:ByteArray) (w:World) (h:jC.f k a0=some r) :
  Calls Tryz.prog 70 #[.int .i64 a0] w fun e w'=>e=.returned (.string r)∧Below w.heap.size w w':=by
 have HB:=K_ (Below.refl w.heap.size w);have H:(jC.l0 k a0 ([]:List Int) 0)=some r:=h;clear h;have H':=K_ H;clear H;go_enter Tryz.func70,Tryz.ntmps70
 go_wp2
 go_loopg [3,4] k (fun kq v3 v4 w'=>∃ (x3_1:List Int) (x4_1:Int),v4=.int .i64 x4_1∧Aside0 (jC.l0 kq a0 x3_1 x4_1=some r)∧Aside0 (kq≤k)∧Aside0 (Kd.R (Kd.int .u8) 5 w' w.heap.size (fun _=>True) v3 x3_1)∧Aside0 (Below w.heap.size w w'))
 case atStart=>exact⟨(([]:List Int)),(0),SR,H',⟨Nat.le_refl _⟩,⟨by first|exact Kd.R_nil _ _ _ _ _|exact Kd.N_nil _ _ _ _ _|exact Kd.V_nil _ _ _ _ _|exact Kd.Q_nil _ _ _ _ _|exact Kd.S_nil _ _ _ _ _⟩,⟨BL HB⟩⟩
 case round =>
  clear H';obtain⟨x3_1,x4_1,rfl,HA,HK1,HO_3,HB⟩:=hrel;obtain _|k1:=gk
  ·exact absurd HA.out (by simp[jC.l0])
  have H:=HA.out;clear HA;simp only[jC.l0] at H
  by_cases c2:x4_1<a0
  ·rw[if_pos c2] at H
   have c2b0:decide (x4_1<a0)=true:=decide_eq_true c2;clear c2;by_cases c3:x3_1.length<140737488355328
   ·rw[if_pos c3] at H
    have LMc3:=K_ c3;clear c3;obtain⟨y600,hy600⟩:∃ y_:List Int,y_=(x3_1++[48]):=⟨_,rfl⟩
    replace H:(jC.l0 k1 a0 y600 (wrap64 (x4_1+1)))=some r:=by first|(rw[hy600];with_reducible exact H)|(have H2_:=(Option.bind_some _ _).symm.trans H;rw[hy600];with_reducible exact H2_)|(have H2_:=(Option.bind_some _ _).symm.trans H;with_reducible exact H2_)|with_reducible exact H|(rw[hy600];exact H)|exact H
    have Ny600:=K_ hy600;clear hy600;have H':=K_ H;clear H;go_wp2_with (first|((with_reducible refine jH (b:=.append) (xs:=#[.tmp 10,.tmp 11]) rfl ?_);at_builtin;refine Kd.R_append (Kd.int .u8) (w0:=w) w.heap.size rfl (.tmp 10) (.tmp 11) 107 5 (.int .u8 0) 1 rfl Tryz.underlying107 zfv rfl (by decide) (by omega) u3 x3_1 48 [.int .u8 48] (fun _=>True) (fun _=>False) rfl rfl ?aP (fun _ hk=>hk.elim) ?aF ?aO ?aB ?aS ?aL ?_;(case aP=>exact rfl);(case aB=>exact (BL HB));(case aF=>exact (fun _ _=>trivial));(case aO=>exact (RB HO_3.out));(case aS=>exact (zS (BL HB)));(case aL=>have:=LMc3.out;omega);intro v601 w4 ho hb hg hat;rw[←Ny600.out] at ho;replace HB:=K_ (hb);have HO602:=K_ (ho);clear HO_3;clear ho hb hg hat))
    go_roundg k1
    case measure=>have:=HK1.out;omega
    case rel=>exact⟨(y600),(wrap64 (x4_1+1)),SR,H',⟨by have:=HK1.out;omega⟩,⟨RB HO602.out⟩,⟨BL HB⟩⟩
   rw[if_neg c3] at H;exact absurd H (by simp)
  rw[if_neg c2] at H;have c2b0:decide (x4_1<a0)=false:=decide_eq_false c2;clear c2;obtain rfl:=Option.some.inj H;have hcv5:=zcS (P:=Tryz.prog) Tryz.underlying107 Tryz.underlying5 Tryz.underlying9 (Kd.own_of_R HO_3.out);go_wp2
  go_ret
  exact⟨ER,BL HB⟩
def uI.f (k:Nat) (a0_0:Bool) (a0_1:ByteArray) (a0_2:Int) (a1:Int):Option (ByteArray):=(zM.f k a0_1).bind fun t604=>(if t604.toList=([]:List UInt8) then (some (⟨#[]⟩:ByteArray)) else ((jC.f k (wrap64 (a0_2-a1))).bind fun t605=>(if t604.size+t605.size≤9223372036854775807 then (some (t604++t605)) else (none))))
set_option maxHeartbeats 8000000 in
set_option maxRecDepth 100000 in
theorem uI.calls (k:Nat) (a0_0:Bool) (a0_1:ByteArray) (a0_2:Int) (a1:Int) (r:ByteArray) (w:World) (h:uI.f k a0_0 a0_1 a0_2 a1=some r) :
  Calls Tryz.prog 42 #[.agg #[.bool a0_0,.string a0_1,.int .i64 a0_2],.int .i64 a1] w fun e w'=>e=.returned (.string r)∧Below w.heap.size w w':=by
 have hu23:=Tryz.underlying23;have HB:=K_ (Below.refl w.heap.size w);have H:((zM.f k a0_1).bind fun t604=>(if t604.toList=([]:List UInt8) then (some (⟨#[]⟩:ByteArray)) else ((jC.f k (wrap64 (a0_2-a1))).bind fun t605=>(if t604.size+t605.size≤9223372036854775807 then (some (t604++t605)) else (none)))))=some r:=h;clear h;obtain⟨t604,A30,H⟩:=Option.bind_eq_some_iff.mp H
 (try dsimp -simprocs only at H)
 have A3:=K_ A30;clear A30;by_cases c4:t604.toList=([]:List UInt8)
 ·rw[if_pos c4] at H
  have c4b0:(t604.toList==([]:List UInt8))=true:=beq_iff_eq.mpr c4;have c4b1:(t604.toList !=([]:List UInt8))=false:=bne_eq_false_iff_eq.mpr c4;clear c4;obtain rfl:=Option.some.inj H;go_enter Tryz.func42,Tryz.ntmps42
  go_wp2_with (first|(refine be_ 2 #[.bool a0_0,.string a0_1,.int .i64 a0_2] 23 ?_;intro gb603 hg w5 hbox hb;have BK603:=K_ (hbox);have GW603:=ge_ hg HB;have GE603:=ge_ hg HB;replace HB:=zF HB hb;clear hb hbox hg;obtain⟨⟨hcz6_0,hcz6_1,hcz6_2⟩,hfz6_0,hfz6_1,hfz6_2⟩:=ce3 BK603)|((with_reducible refine zK (f:=69) rfl ?_);refine zW (some 8) rfl rfl Tryz.func69 (by kernel_rfl) rfl #[.string a0_1] rfl MP ?_;(with_reducible refine (zM.calls k a0_1 t604 _ A3.out).mono ?_);rintro e w' ⟨rfl,⟨nd,rfl⟩⟩;refine⟨_,rfl,?_⟩))
  go_ret
  exact⟨ER,BL HB⟩
 rw[if_neg c4] at H;have c4b0:(t604.toList==([]:List UInt8))=false:=beq_eq_false_iff_ne.mpr c4;have c4b1:(t604.toList !=([]:List UInt8))=true:=bne_iff_ne.mpr c4;obtain⟨t605,A70,H⟩:=Option.bind_eq_some_iff.mp H
 (try dsimp -simprocs only at H)
 have A7:=K_ A70;clear A70;by_cases c8:t604.size+t605.size≤9223372036854775807
 ·rw[if_pos c8] at H
  have c8b0:=eq_true c8;have c8b1:decide (t604.size+t605.size≤9223372036854775807)=true:=decide_eq_true c8;try have c8b2:(9223372036854775807<t604.size+t605.size)=False:=eq_false (Nat.not_lt.2 c8)
  obtain rfl:=Option.some.inj H;go_enter Tryz.func42,Tryz.ntmps42
  go_wp2_with (first|(refine be_ 2 #[.bool a0_0,.string a0_1,.int .i64 a0_2] 23 ?_;intro gb603 hg w9 hbox hb;have BK603:=K_ (hbox);have GW603:=ge_ hg HB;have GE603:=ge_ hg HB;replace HB:=zF HB hb;clear hb hbox hg;obtain⟨⟨hcz10_0,hcz10_1,hcz10_2⟩,hfz10_0,hfz10_1,hfz10_2⟩:=ce3 BK603)|((with_reducible refine zK (f:=69) rfl ?_);refine zW (some 8) rfl rfl Tryz.func69 (by kernel_rfl) rfl #[.string a0_1] rfl MP ?_;(with_reducible refine (zM.calls k a0_1 t604 _ A3.out).mono ?_);rintro e w' ⟨rfl,⟨nd,rfl⟩⟩;refine⟨_,rfl,?_⟩)|((with_reducible refine zK (f:=70) rfl ?_);refine zW (some 16) rfl rfl Tryz.func70 (by kernel_rfl) rfl #[.int .i64 (wrap64 (a0_2-a1))] rfl MP ?_;(with_reducible refine (jC.calls k (wrap64 (a0_2-a1)) t605 _ A7.out).mono ?_);rintro e w11 ⟨rfl,hb⟩;refine⟨_,rfl,?_⟩;replace BK603:=zC BK603 hb;replace HB:=zF HB hb;(try clear hb);(try clear hb2);(try clear hk);(try clear hi)))
  go_ret
  exact⟨ER,BL HB⟩
 rw[if_neg c8] at H;exact absurd H (by simp)
end Go.Proofs.YtcmgdjnjmobkoaaGreatDoor.Px
