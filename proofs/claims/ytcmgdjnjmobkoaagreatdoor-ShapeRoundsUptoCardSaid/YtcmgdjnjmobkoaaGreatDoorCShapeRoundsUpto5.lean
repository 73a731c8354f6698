/- The functions that the law ShapeRoundsUpto reaches, told as plain functions, with what is proved of them, and the words they need (part 5). -/
import Derived.Test.YtcmgdjnjmobkoaaGreatDoorCShapeRoundsUpto0
import Derived.Test.YtcmgdjnjmobkoaaGreatDoorCShapeRoundsUpto3
import Derived.Test.YtcmgdjnjmobkoaaGreatDoorCShapeRoundsUpto4
import Derived.Test.YtcmgdjnjmobkoaaGreatDoorCShapeRoundsUpto2
import Derived.SizedLaws
import Derived.ChangeSlices
set_option linter.unusedVariables false
set_option linter.unusedSimpArgs false
namespace Go.Proofs.YtcmgdjnjmobkoaaGreatDoor.Px
set_option linter.all false
open Fig Go.RowKit Go.Proofs.YtcmgdjnjmobkoaaGreatDoorW.PrintWords Go.Proofs.YtcmgdjnjmobkoaaGreatDoorW.PrintLast Go.Proofs.YtcmgdjnjmobkoaaGreatDoorW.PrintMore
attribute [local go_sem] vK vL uE uD yS yP vM vJ
theorem zao:(Tryz.prog.info? 36).map (·.size)=some 4:=by kernel_rfl
def zdf (n:Nat) (e p:Int):Int:=if n=0 then 0 else max 0 (p-e)
def zeW (P:jZ) (n:Nat) (e:Int):Int:=if n=0 then (if 0<P.ms then 1 else P.mi) else max (if 0<P.ms then 1 else P.mi) (yD n e+1)
def zfz (P:jZ) (n:Nat) (e:Int):Int:=max (if 0<P.ms then P.ms-1-yD n e else P.mf) (zdf n e 0)
def zaD (P:jZ) (n:Nat) (e:Int):ByteArray×ByteArray×Int:=(yE n e (zeW P n e-1) 0,yE n e (-1) (-zfz P n e),0)
def zdT (P:jZ) (n:Nat) (e:Int):Int:=if zar P=true then yD n e-yD n e % P.xi else yD n e-yA P+1
def zfm (P:jZ) (n:Nat) (e:Int):Int:=if zar P=true then yD n e-(yD n e-yD n e % P.xi)+1 else yA P
def zdq (P:jZ) (n:Nat) (e:Int):Int:=if n=0 then 0 else zdT P n e
def zlr (P:jZ) (n:Nat) (e:Int):Int:=max ((zaV P).1-zfm P n e) (zdf n e (zdq P n e))
def zbY (P:jZ) (n:Nat) (e:Int):ByteArray×ByteArray×Int:=(yE n e (zdq P n e+zfm P n e-1) (zdq P n e),yE n e (zdq P n e-1) (zdq P n e-zlr P n e),zdq P n e)
def zgt (r:ByteArray×ByteArray×Int):ByteArray×ByteArray×Int:=if r.1++r.2.1=⟨#[]⟩ then (⟨#[48]⟩,r.2.1,r.2.2) else r
def zbl (P:jZ) (n:Nat) (e:Int):ByteArray×ByteArray×Int:=zgt (if P.sci=true then zbY P n e else zaD P n e)
theorem zau (b:Bool) (s:ByteArray) (e:Int) (ok:OkD s e) (hi lo:Int) (h1:-200000≤lo) (h2:hi≤200000) (h3:lo≤200000) (h4:-200000≤hi) {x y:Int} (hx:x=hi) (hy:y=lo) (w:World) :
  Calls Tryz.prog 66 #[.agg #[.bool b,.string s,.int .i64 e],.int .i64 x,.int .i64 y] w fun e' w'=>e'=.returned (.string (yE (vB s) e hi lo))∧Below w.heap.size w w':=by
 subst hx;subst hy;exact zmT b s e ok x y h1 h2 h3 h4 w
theorem zol {b:Bool} {s:ByteArray} {e p:Int} (ok:OkS s e) (h1:-100000≤p) (h2:p≤100000):zbx.f b s e p=some (zdf (vB s) e p):=by
 have:=ok.lo;have:=ok.hi
 unfold zbx.f zdf;rw[zkZ ok.ok];simp only[Option.bind_some,decide_eq_true_eq]
 split
 ·rfl
 rw[w64 (by omega) (by omega)];unfold mx;congr 1;split <;> omega
theorem zet {s:ByteArray} {e p:Int} (ok:OkS s e) (h1:-100000≤p) (h2:p≤100000):0≤zdf (vB s) e p∧zdf (vB s) e p≤110000:=by
 have:=ok.lo
 unfold zdf;split <;> omega
theorem zfM {s:ByteArray} {e:Int} (ok:OkS s e):-10000≤yD (vB s) e∧yD (vB s) e≤20000:=by
 have h1:=ok.lo;have h2:=ok.hi;have h3:=ok.ok.val;have h4:=ok.sz;unfold yD;split
 ·omega
 rename_i h0
 have:(zU (vB s)).size≠0:=fun hh=>h0 (zac.1 hh)
 omega
set_option maxHeartbeats 8000000 in
set_option maxRecDepth 100000 in
theorem zju (q:Pat) (hg:uS q.P) (b:Bool) (s:ByteArray) (e:Int) (ok:OkS s e) (w:World) :
  Calls Tryz.prog 38 #[.agg q.cs,.agg #[.bool b,.string s,.int .i64 e]] w fun e' w'=>e'=.returned (.agg #[.bool b,.string (zaD q.P (vB s) e).1,.string (zaD q.P (vB s) e).2.1,.int .i64 (zaD q.P (vB s) e).2.2])∧Below w.heap.size w w':=by
 have HB:=K_ (Below.refl w.heap.size w);have HOK:=K_ ok;have HT:=K_ (zlE (b:=b) ok.ok);have HZ:=K_ (zkZ (b:=b) ok.ok);have HF:=K_ (zol (b:=b) (p:=0) ok (by decide) (by decide));have hf:=zet (p:=0) ok (by decide) (by decide);have ht:=zfM ok;have hmi:=And.intro hg.mi0 hg.mi4;have hmf:=And.intro hg.mf0 (And.intro hg.mfx hg.xf4);have hms:=And.intro hg.ms0 (And.intro hg.msx hg.xs4);obtain⟨fn,hfn⟩:∃ fn,fn=zdf (vB s) e 0:=⟨_,rfl⟩
 obtain⟨tp,htp⟩:∃ tp,tp=yD (vB s) e:=⟨_,rfl⟩
 obtain⟨nn,hnn⟩:∃ nn,nn=zeW q.P (vB s) e:=⟨_,rfl⟩
 obtain⟨blw,hbb⟩:∃ blw,blw=zfz q.P (vB s) e:=⟨_,rfl⟩
 have HRES:=K_ (show Ending.returned (Value.agg #[.bool b,.string (yE (vB s) e (nn-1) 0),.string (yE (vB s) e (-1) (-blw)),.int .i64 0])=.returned (.agg #[.bool b,.string (zaD q.P (vB s) e).1,.string (zaD q.P (vB s) e).2.1,.int .i64 (zaD q.P (vB s) e).2.2]) by rw[hnn,hbb];rfl);unfold zeW at hnn;unfold zfz at hbb;rw[←hfn] at HF hf hbb;rw[←htp] at HT ht hnn hbb;have h1:-20000≤nn∧nn≤30000:=by rw[hnn];split <;> (try split) <;> omega
 have h2:0≤blw∧blw≤120000:=by rw[hbb];split <;> omega
 have HNN:=K_ hnn;have HBBE:=K_ hbb;clear hnn hbb hfn htp;go_enter Tryz.func38,Tryz.ntmps38
 go_upto_region 2 with (first|((with_reducible refine zE (N:=2) rfl ?_);refine bx_ 2 (q.cs) 26 ?_ rfl rfl rfl rfl rfl;intro g2 hg w2 hbox hb;have BK2:=K_ hbox;have GE2:=ge_ hg HB;replace HB:=zF HB hb;clear hb hbox hg)|((with_reducible refine zE (N:=3) rfl ?_);refine bx_ 3 (#[.bool b,.string s,.int .i64 e]) 23 ?_ rfl rfl rfl rfl rfl;intro g3 hg w2 hbox hb;have BK3:=K_ hbox;have GE3:=ge_ hg HB;have NB2_3:=nb_ hg BK2;replace BK2:=zC BK2 hb;replace HB:=zF HB hb;clear hb hbox hg)|((with_reducible refine zE (N:=4) rfl ?_);refine be_ 4 (#[.bool false,.string (⟨#[]⟩:ByteArray),.string (⟨#[]⟩:ByteArray),.int .i64 0]) 36 ?_;intro g4 hg w2 hbox hb;have BK4:=K_ hbox;have GE4:=ge_ hg HB;have NB2_4:=nb_ hg BK2;replace BK2:=zC BK2 hb;have NB3_4:=nb_ hg BK3;replace BK3:=zC BK3 hb;replace HB:=zF HB hb;clear hb hbox hg)|((with_reducible refine zE (N:=8) rfl ?_);refine lo_ (g:=g3) (cs:=#[.bool b,.string s,.int .i64 e]) _ ⟨BK BK3⟩ ?_ rfl rfl rfl Tryz.underlying23 rfl jI)|(go_at_call 60;refine (zaY.calls b s e tp _ HT.out).mono ?_;rintro e9 w' ⟨rfl,hb⟩;replace HB:=zF HB hb;replace BK2:=zC BK2 hb;replace BK3:=zC BK3 hb;replace BK4:=zC BK4 hb;clear hb))
 have e5:=(show w'.cell? ⟨g2,5,none⟩=some (.int .i64 q.P.mi) from (zA BK2.out 5).trans rfl)
 have e7:=(show w'.cell? ⟨g2,7,none⟩=some (.int .i64 q.P.mf) from (zA BK2.out 7).trans rfl)
 have e9:=(show w'.cell? ⟨g2,9,none⟩=some (.int .i64 q.P.ms) from (zA BK2.out 9).trans rfl)
 go_region
 have hw9:wrap64 (tp+1)=tp+1:=w64 (by omega) (by omega);by_cases h9:0<q.P.ms
 ·have d9:decide (0<q.P.ms)=true:=decide_eq_true h9
  rw[if_pos h9] at HNN HBBE;have hw1:wrap64 (wrap64 (q.P.ms-1)-tp)=q.P.ms-1-tp:=by rw[w64 (x:=q.P.ms-1) (by omega) (by omega),w64 (by omega) (by omega)]
  have hm1:(if q.P.ms-1-tp<fn then fn else q.P.ms-1-tp)=blw:=by rw[HBBE.out];split <;> omega
  go_upto_region 4 with (fail)
  go_region
  go_upto_region 6 with (first|((with_reducible refine zE (N:=23) rfl ?_);refine lo_ (g:=g3) (cs:=#[.bool b,.string s,.int .i64 e]) _ ⟨BK BK3⟩ ?_ rfl rfl rfl Tryz.underlying23 rfl jI)|(go_at_call 64;refine (zbx.calls b s e 0 fn _ HF.out).mono ?_;rintro e9 w' ⟨rfl,hb⟩;replace HB:=zF HB hb;replace BK2:=zC BK2 hb;replace BK3:=zC BK3 hb;replace BK4:=zC BK4 hb;clear hb))
  cases hz:decide (vB s=0)
  ·rw[hz] at HZ
   have h0:vB s≠0:=of_decide_eq_false hz;rw[if_neg h0] at HNN;have hm2:(if 1<tp+1 then tp+1 else 1)=nn:=by rw[HNN.out];split <;> omega
   go_upto_region 8 with (first|((with_reducible refine zE (N:=26) rfl ?_);refine lo_ (g:=g3) (cs:=#[.bool b,.string s,.int .i64 e]) _ ⟨BK BK3⟩ ?_ rfl rfl rfl Tryz.underlying23 rfl jI)|(go_at_call 65;refine (zat.calls b s e false _ HZ.out).mono ?_;rintro e9 w' ⟨rfl,hb⟩;replace HB:=zF HB hb;replace BK2:=zC BK2 hb;replace BK3:=zC BK3 hb;replace BK4:=zC BK4 hb;clear hb))
   clear e5 e7 e9;have hwn:wrap64 (nn-1)=nn-1:=w64 (by omega) (by omega);have hwb:wrap64 (-blw)=-blw:=w64 (by omega) (by omega);refine yI (n:=12) (S:=fun W=>W.heap[g3]?=some (.cells #[.bool b,.string s,.int .i64 e] 23 (0,0))∧W.cell? ⟨g3,0,none⟩=some (.bool b)) (ds:=[]) #[false,false,false,false,false,false,false,false,false,false,false,false] (by kernel_rfl) rfl rfl ⟨(BK BK3),(zA (BK BK3) 0).trans rfl⟩ (fun hHeld=>?_);refine jL (fun W=>W.heap[g3]?=some (.cells #[.bool b,.string s,.int .i64 e] 23 (0,0))∧W.heap[g4]?=some (.cells #[.bool false,.string (⟨#[]⟩:ByteArray),.string (⟨#[]⟩:ByteArray),.int .i64 0] 36 (0,0))∧Below w.heap.size w W) ⟨BK BK3,BK BK4,BL HB⟩ ?_;clear hHeld BK2 BK3 BK4 HB;rintro W ⟨hb3,hb4,hbw⟩;have BK3:=K_ hb3;have BK4:=K_ hb4;have HB:=K_ hbw;have hHeld:=(show W.heap[g3]?=some (.cells #[.bool b,.string s,.int .i64 e] 23 (0,0))∧W.cell? ⟨g3,0,none⟩=some (.bool b) from ⟨hb3,(zA hb3 0).trans rfl⟩)
   clear hb3 hb4 hbw;refine pw_ 0 33 (bb 12 1) ?_;refine tw_ 1 34 (bb 12 3) hHeld ?_;refine tr_ 2 35 (bb 12 7) (#[.bool b,.string s,.int .i64 e]) (fun _ hs=>⟨hs.1⟩) Tryz.underlying23 jI hHeld ?_;refine pw_ 3 36 (bb 12 15) ?_;refine pw_ 4 37 (bb 12 31) ?_;refine tr_ 6 39 (bb 12 95) (#[.bool b,.string s,.int .i64 e]) (fun _ hs=>⟨hs.1⟩) Tryz.underlying23 jI hHeld ?_;refine pw_ 7 40 (bb 12 223) ?_;refine pw_ 8 41 (bb 12 479) ?_;refine on_ 5 (some 38) (bb 12 511) (fun K hK=>?_);refine gq_ Tryz.func66 #[.agg #[.bool b,.string s,.int .i64 e],.int .i64 (wrap64 (nn-1)),.int .i64 0] ?_;refine (zau b s e HOK.out.ok (nn-1) 0 (by decide) (by omega) (by decide) (by omega) (hwn) rfl _).mono ?_;rintro e9 w' ⟨rfl,hb⟩;refine⟨_,rfl,?_⟩;replace HB:=zF HB hb;replace BK3:=zC BK3 hb;replace BK4:=zC BK4 hb;clear hb;clear hHeld;refine hK.out _ _ ⟨BK3.out,(zA BK3.out 0).trans rfl⟩ (fun hHeld=>?_);clear hK K;refine no_ (some 38) ?_;refine on_ 9 (some 42) (bb 12 1023) (fun K hK=>?_);refine gq_ Tryz.func66 #[.agg #[.bool b,.string s,.int .i64 e],.int .i64 (-1),.int .i64 (wrap64 (-blw))] ?_;refine (zau b s e HOK.out.ok (-1) (-blw) (by omega) (by decide) (by omega) (by decide) rfl hwb _).mono ?_;rintro e9 w' ⟨rfl,hb⟩;refine⟨_,rfl,?_⟩;replace HB:=zF HB hb;replace BK3:=zC BK3 hb;replace BK4:=zC BK4 hb;clear hb;clear hHeld;refine hK.out _ _ ⟨BK3.out,(zA BK3.out 0).trans rfl⟩ (fun hHeld=>?_);clear hK K;refine no_ (some 42) ?_;refine pw_ 10 43 (bb 12 2047) ?_;refine on_ 11 none (bb 12 4095) (fun K hK=>?_);refine yX (g:=g4) (cs:=#[.bool false,.string (⟨#[]⟩:ByteArray),.string (⟨#[]⟩:ByteArray),.int .i64 0]) (#[.bool b,.string (yE (vB s) e (nn-1) 0),.string (yE (vB s) e (-1) (-blw)),.int .i64 0]) BK4 ?_ rfl rfl rfl rfl rfl zao rfl rfl
   intro w9 hbk hfar hbel;have BK9:=K_ (hfar _ _ NB3_4.out BK3.out);replace BK4:=K_ hbk;replace HB:=K_ (hbel _ _ GE4.out HB.out);refine hK.out _ _ ⟨BK9.out,(zA BK9.out 0).trans rfl⟩ (fun _=>?_);clear hK K hbk hfar hbel;refine vF (by kernel_rfl) ?_;go_wp2_with (fail)
   refine bodyPost_ret (results_cell_row rfl _ _ g4 36 (#[.bool b,.string (yE (vB s) e (nn-1) 0),.string (yE (vB s) e (-1) (-blw)),.int .i64 0]) (0,0) _ rfl BK4.out Tryz.underlying36 rfl zao) rfl ?_;exact⟨HRES.out,BL HB⟩
  rw[hz] at HZ;have h0:vB s=0:=of_decide_eq_true hz;rw[if_pos h0] at HNN;clear h0 hz;go_upto_region 8 with (first|((with_reducible refine zE (N:=26) rfl ?_);refine lo_ (g:=g3) (cs:=#[.bool b,.string s,.int .i64 e]) _ ⟨BK BK3⟩ ?_ rfl rfl rfl Tryz.underlying23 rfl jI)|(go_at_call 65;refine (zat.calls b s e true _ HZ.out).mono ?_;rintro e9 w' ⟨rfl,hb⟩;replace HB:=zF HB hb;replace BK2:=zC BK2 hb;replace BK3:=zC BK3 hb;replace BK4:=zC BK4 hb;clear hb))
  clear e5 e7 e9;have hwn:wrap64 (nn-1)=nn-1:=w64 (by omega) (by omega);have hwb:wrap64 (-blw)=-blw:=w64 (by omega) (by omega);refine yI (n:=12) (S:=fun W=>W.heap[g3]?=some (.cells #[.bool b,.string s,.int .i64 e] 23 (0,0))∧W.cell? ⟨g3,0,none⟩=some (.bool b)) (ds:=[]) #[false,false,false,false,false,false,false,false,false,false,false,false] (by kernel_rfl) rfl rfl ⟨(BK BK3),(zA (BK BK3) 0).trans rfl⟩ (fun hHeld=>?_);refine jL (fun W=>W.heap[g3]?=some (.cells #[.bool b,.string s,.int .i64 e] 23 (0,0))∧W.heap[g4]?=some (.cells #[.bool false,.string (⟨#[]⟩:ByteArray),.string (⟨#[]⟩:ByteArray),.int .i64 0] 36 (0,0))∧Below w.heap.size w W) ⟨BK BK3,BK BK4,BL HB⟩ ?_;clear hHeld BK2 BK3 BK4 HB;rintro W ⟨hb3,hb4,hbw⟩;have BK3:=K_ hb3;have BK4:=K_ hb4;have HB:=K_ hbw;have hHeld:=(show W.heap[g3]?=some (.cells #[.bool b,.string s,.int .i64 e] 23 (0,0))∧W.cell? ⟨g3,0,none⟩=some (.bool b) from ⟨hb3,(zA hb3 0).trans rfl⟩)
  clear hb3 hb4 hbw;refine pw_ 0 33 (bb 12 1) ?_;refine tw_ 1 34 (bb 12 3) hHeld ?_;refine tr_ 2 35 (bb 12 7) (#[.bool b,.string s,.int .i64 e]) (fun _ hs=>⟨hs.1⟩) Tryz.underlying23 jI hHeld ?_;refine pw_ 3 36 (bb 12 15) ?_;refine pw_ 4 37 (bb 12 31) ?_;refine tr_ 6 39 (bb 12 95) (#[.bool b,.string s,.int .i64 e]) (fun _ hs=>⟨hs.1⟩) Tryz.underlying23 jI hHeld ?_;refine pw_ 7 40 (bb 12 223) ?_;refine pw_ 8 41 (bb 12 479) ?_;refine on_ 5 (some 38) (bb 12 511) (fun K hK=>?_);refine gq_ Tryz.func66 #[.agg #[.bool b,.string s,.int .i64 e],.int .i64 (wrap64 (1-1)),.int .i64 0] ?_;refine (zau b s e HOK.out.ok (nn-1) 0 (by decide) (by omega) (by decide) (by omega) (by rw[HNN.out];exact w64 (by omega) (by omega)) rfl _).mono ?_;rintro e9 w' ⟨rfl,hb⟩;refine⟨_,rfl,?_⟩;replace HB:=zF HB hb;replace BK3:=zC BK3 hb;replace BK4:=zC BK4 hb;clear hb;clear hHeld;refine hK.out _ _ ⟨BK3.out,(zA BK3.out 0).trans rfl⟩ (fun hHeld=>?_);clear hK K;refine no_ (some 38) ?_;refine on_ 9 (some 42) (bb 12 1023) (fun K hK=>?_);refine gq_ Tryz.func66 #[.agg #[.bool b,.string s,.int .i64 e],.int .i64 (-1),.int .i64 (wrap64 (-blw))] ?_;refine (zau b s e HOK.out.ok (-1) (-blw) (by omega) (by decide) (by omega) (by decide) rfl hwb _).mono ?_;rintro e9 w' ⟨rfl,hb⟩;refine⟨_,rfl,?_⟩;replace HB:=zF HB hb;replace BK3:=zC BK3 hb;replace BK4:=zC BK4 hb;clear hb;clear hHeld;refine hK.out _ _ ⟨BK3.out,(zA BK3.out 0).trans rfl⟩ (fun hHeld=>?_);clear hK K;refine no_ (some 42) ?_;refine pw_ 10 43 (bb 12 2047) ?_;refine on_ 11 none (bb 12 4095) (fun K hK=>?_)
  refine yX (g:=g4) (cs:=#[.bool false,.string (⟨#[]⟩:ByteArray),.string (⟨#[]⟩:ByteArray),.int .i64 0]) (#[.bool b,.string (yE (vB s) e (nn-1) 0),.string (yE (vB s) e (-1) (-blw)),.int .i64 0]) BK4 ?_ rfl rfl rfl rfl rfl zao rfl rfl;intro w9 hbk hfar hbel;have BK9:=K_ (hfar _ _ NB3_4.out BK3.out);replace BK4:=K_ hbk;replace HB:=K_ (hbel _ _ GE4.out HB.out);refine hK.out _ _ ⟨BK9.out,(zA BK9.out 0).trans rfl⟩ (fun _=>?_);clear hK K hbk hfar hbel;refine vF (by kernel_rfl) ?_;go_wp2_with (fail)
  refine bodyPost_ret (results_cell_row rfl _ _ g4 36 (#[.bool b,.string (yE (vB s) e (nn-1) 0),.string (yE (vB s) e (-1) (-blw)),.int .i64 0]) (0,0) _ rfl BK4.out Tryz.underlying36 rfl zao) rfl ?_;exact⟨HRES.out,BL HB⟩
 have d9:decide (0<q.P.ms)=false:=decide_eq_false h9;rw[if_neg h9] at HNN HBBE;have hm1:(if q.P.mf<fn then fn else q.P.mf)=blw:=by rw[HBBE.out];split <;> omega
 go_upto_region 6 with (first|((with_reducible refine zE (N:=23) rfl ?_);refine lo_ (g:=g3) (cs:=#[.bool b,.string s,.int .i64 e]) _ ⟨BK BK3⟩ ?_ rfl rfl rfl Tryz.underlying23 rfl jI)|(go_at_call 64;refine (zbx.calls b s e 0 fn _ HF.out).mono ?_;rintro e9 w' ⟨rfl,hb⟩;replace HB:=zF HB hb;replace BK2:=zC BK2 hb;replace BK3:=zC BK3 hb;replace BK4:=zC BK4 hb;clear hb))
 cases hz:decide (vB s=0)
 ·rw[hz] at HZ
  have h0:vB s≠0:=of_decide_eq_false hz;rw[if_neg h0] at HNN;have hm2:(if q.P.mi<tp+1 then tp+1 else q.P.mi)=nn:=by rw[HNN.out];split <;> omega
  go_upto_region 8 with (first|((with_reducible refine zE (N:=26) rfl ?_);refine lo_ (g:=g3) (cs:=#[.bool b,.string s,.int .i64 e]) _ ⟨BK BK3⟩ ?_ rfl rfl rfl Tryz.underlying23 rfl jI)|(go_at_call 65;refine (zat.calls b s e false _ HZ.out).mono ?_;rintro e9 w' ⟨rfl,hb⟩;replace HB:=zF HB hb;replace BK2:=zC BK2 hb;replace BK3:=zC BK3 hb;replace BK4:=zC BK4 hb;clear hb))
  clear e5 e7 e9;have hwn:wrap64 (nn-1)=nn-1:=w64 (by omega) (by omega);have hwb:wrap64 (-blw)=-blw:=w64 (by omega) (by omega);refine yI (n:=12) (S:=fun W=>W.heap[g3]?=some (.cells #[.bool b,.string s,.int .i64 e] 23 (0,0))∧W.cell? ⟨g3,0,none⟩=some (.bool b)) (ds:=[]) #[false,false,false,false,false,false,false,false,false,false,false,false] (by kernel_rfl) rfl rfl ⟨(BK BK3),(zA (BK BK3) 0).trans rfl⟩ (fun hHeld=>?_);refine jL (fun W=>W.heap[g3]?=some (.cells #[.bool b,.string s,.int .i64 e] 23 (0,0))∧W.heap[g4]?=some (.cells #[.bool false,.string (⟨#[]⟩:ByteArray),.string (⟨#[]⟩:ByteArray),.int .i64 0] 36 (0,0))∧Below w.heap.size w W) ⟨BK BK3,BK BK4,BL HB⟩ ?_;clear hHeld BK2 BK3 BK4 HB;rintro W ⟨hb3,hb4,hbw⟩;have BK3:=K_ hb3;have BK4:=K_ hb4;have HB:=K_ hbw;have hHeld:=(show W.heap[g3]?=some (.cells #[.bool b,.string s,.int .i64 e] 23 (0,0))∧W.cell? ⟨g3,0,none⟩=some (.bool b) from ⟨hb3,(zA hb3 0).trans rfl⟩)
  clear hb3 hb4 hbw;refine pw_ 0 33 (bb 12 1) ?_;refine tw_ 1 34 (bb 12 3) hHeld ?_;refine tr_ 2 35 (bb 12 7) (#[.bool b,.string s,.int .i64 e]) (fun _ hs=>⟨hs.1⟩) Tryz.underlying23 jI hHeld ?_;refine pw_ 3 36 (bb 12 15) ?_;refine pw_ 4 37 (bb 12 31) ?_;refine tr_ 6 39 (bb 12 95) (#[.bool b,.string s,.int .i64 e]) (fun _ hs=>⟨hs.1⟩) Tryz.underlying23 jI hHeld ?_;refine pw_ 7 40 (bb 12 223) ?_;refine pw_ 8 41 (bb 12 479) ?_;refine on_ 5 (some 38) (bb 12 511) (fun K hK=>?_);refine gq_ Tryz.func66 #[.agg #[.bool b,.string s,.int .i64 e],.int .i64 (wrap64 (nn-1)),.int .i64 0] ?_;refine (zau b s e HOK.out.ok (nn-1) 0 (by decide) (by omega) (by decide) (by omega) (hwn) rfl _).mono ?_;rintro e9 w' ⟨rfl,hb⟩;refine⟨_,rfl,?_⟩;replace HB:=zF HB hb;replace BK3:=zC BK3 hb;replace BK4:=zC BK4 hb;clear hb;clear hHeld;refine hK.out _ _ ⟨BK3.out,(zA BK3.out 0).trans rfl⟩ (fun hHeld=>?_);clear hK K;refine no_ (some 38) ?_;refine on_ 9 (some 42) (bb 12 1023) (fun K hK=>?_);refine gq_ Tryz.func66 #[.agg #[.bool b,.string s,.int .i64 e],.int .i64 (-1),.int .i64 (wrap64 (-blw))] ?_;refine (zau b s e HOK.out.ok (-1) (-blw) (by omega) (by decide) (by omega) (by decide) rfl hwb _).mono ?_;rintro e9 w' ⟨rfl,hb⟩;refine⟨_,rfl,?_⟩;replace HB:=zF HB hb;replace BK3:=zC BK3 hb;replace BK4:=zC BK4 hb;clear hb;clear hHeld;refine hK.out _ _ ⟨BK3.out,(zA BK3.out 0).trans rfl⟩ (fun hHeld=>?_);clear hK K;refine no_ (some 42) ?_;refine pw_ 10 43 (bb 12 2047) ?_;refine on_ 11 none (bb 12 4095) (fun K hK=>?_);refine yX (g:=g4) (cs:=#[.bool false,.string (⟨#[]⟩:ByteArray),.string (⟨#[]⟩:ByteArray),.int .i64 0]) (#[.bool b,.string (yE (vB s) e (nn-1) 0),.string (yE (vB s) e (-1) (-blw)),.int .i64 0]) BK4 ?_ rfl rfl rfl rfl rfl zao rfl rfl
  intro w9 hbk hfar hbel;have BK9:=K_ (hfar _ _ NB3_4.out BK3.out);replace BK4:=K_ hbk;replace HB:=K_ (hbel _ _ GE4.out HB.out);refine hK.out _ _ ⟨BK9.out,(zA BK9.out 0).trans rfl⟩ (fun _=>?_);clear hK K hbk hfar hbel;refine vF (by kernel_rfl) ?_;go_wp2_with (fail)
  refine bodyPost_ret (results_cell_row rfl _ _ g4 36 (#[.bool b,.string (yE (vB s) e (nn-1) 0),.string (yE (vB s) e (-1) (-blw)),.int .i64 0]) (0,0) _ rfl BK4.out Tryz.underlying36 rfl zao) rfl ?_;exact⟨HRES.out,BL HB⟩
 rw[hz] at HZ;have h0:vB s=0:=of_decide_eq_true hz;rw[if_pos h0] at HNN;clear h0 hz;go_upto_region 8 with (first|((with_reducible refine zE (N:=26) rfl ?_);refine lo_ (g:=g3) (cs:=#[.bool b,.string s,.int .i64 e]) _ ⟨BK BK3⟩ ?_ rfl rfl rfl Tryz.underlying23 rfl jI)|(go_at_call 65;refine (zat.calls b s e true _ HZ.out).mono ?_;rintro e9 w' ⟨rfl,hb⟩;replace HB:=zF HB hb;replace BK2:=zC BK2 hb;replace BK3:=zC BK3 hb;replace BK4:=zC BK4 hb;clear hb))
 clear e5 e7 e9;have hwn:wrap64 (nn-1)=nn-1:=w64 (by omega) (by omega);have hwb:wrap64 (-blw)=-blw:=w64 (by omega) (by omega);refine yI (n:=12) (S:=fun W=>W.heap[g3]?=some (.cells #[.bool b,.string s,.int .i64 e] 23 (0,0))∧W.cell? ⟨g3,0,none⟩=some (.bool b)) (ds:=[]) #[false,false,false,false,false,false,false,false,false,false,false,false] (by kernel_rfl) rfl rfl ⟨(BK BK3),(zA (BK BK3) 0).trans rfl⟩ (fun hHeld=>?_);refine jL (fun W=>W.heap[g3]?=some (.cells #[.bool b,.string s,.int .i64 e] 23 (0,0))∧W.heap[g4]?=some (.cells #[.bool false,.string (⟨#[]⟩:ByteArray),.string (⟨#[]⟩:ByteArray),.int .i64 0] 36 (0,0))∧Below w.heap.size w W) ⟨BK BK3,BK BK4,BL HB⟩ ?_;clear hHeld BK2 BK3 BK4 HB;rintro W ⟨hb3,hb4,hbw⟩;have BK3:=K_ hb3;have BK4:=K_ hb4;have HB:=K_ hbw;have hHeld:=(show W.heap[g3]?=some (.cells #[.bool b,.string s,.int .i64 e] 23 (0,0))∧W.cell? ⟨g3,0,none⟩=some (.bool b) from ⟨hb3,(zA hb3 0).trans rfl⟩)
 clear hb3 hb4 hbw;refine pw_ 0 33 (bb 12 1) ?_;refine tw_ 1 34 (bb 12 3) hHeld ?_;refine tr_ 2 35 (bb 12 7) (#[.bool b,.string s,.int .i64 e]) (fun _ hs=>⟨hs.1⟩) Tryz.underlying23 jI hHeld ?_;refine pw_ 3 36 (bb 12 15) ?_;refine pw_ 4 37 (bb 12 31) ?_;refine tr_ 6 39 (bb 12 95) (#[.bool b,.string s,.int .i64 e]) (fun _ hs=>⟨hs.1⟩) Tryz.underlying23 jI hHeld ?_;refine pw_ 7 40 (bb 12 223) ?_;refine pw_ 8 41 (bb 12 479) ?_;refine on_ 5 (some 38) (bb 12 511) (fun K hK=>?_);refine gq_ Tryz.func66 #[.agg #[.bool b,.string s,.int .i64 e],.int .i64 (wrap64 (q.P.mi-1)),.int .i64 0] ?_;refine (zau b s e HOK.out.ok (nn-1) 0 (by decide) (by omega) (by decide) (by omega) (by rw[HNN.out];exact w64 (by omega) (by omega)) rfl _).mono ?_;rintro e9 w' ⟨rfl,hb⟩;refine⟨_,rfl,?_⟩;replace HB:=zF HB hb;replace BK3:=zC BK3 hb;replace BK4:=zC BK4 hb;clear hb;clear hHeld;refine hK.out _ _ ⟨BK3.out,(zA BK3.out 0).trans rfl⟩ (fun hHeld=>?_);clear hK K;refine no_ (some 38) ?_;refine on_ 9 (some 42) (bb 12 1023) (fun K hK=>?_);refine gq_ Tryz.func66 #[.agg #[.bool b,.string s,.int .i64 e],.int .i64 (-1),.int .i64 (wrap64 (-blw))] ?_;refine (zau b s e HOK.out.ok (-1) (-blw) (by omega) (by decide) (by omega) (by decide) rfl hwb _).mono ?_;rintro e9 w' ⟨rfl,hb⟩;refine⟨_,rfl,?_⟩;replace HB:=zF HB hb;replace BK3:=zC BK3 hb;replace BK4:=zC BK4 hb;clear hb;clear hHeld;refine hK.out _ _ ⟨BK3.out,(zA BK3.out 0).trans rfl⟩ (fun hHeld=>?_);clear hK K;refine no_ (some 42) ?_;refine pw_ 10 43 (bb 12 2047) ?_;refine on_ 11 none (bb 12 4095) (fun K hK=>?_)
 refine yX (g:=g4) (cs:=#[.bool false,.string (⟨#[]⟩:ByteArray),.string (⟨#[]⟩:ByteArray),.int .i64 0]) (#[.bool b,.string (yE (vB s) e (nn-1) 0),.string (yE (vB s) e (-1) (-blw)),.int .i64 0]) BK4 ?_ rfl rfl rfl rfl rfl zao rfl rfl;intro w9 hbk hfar hbel;have BK9:=K_ (hfar _ _ NB3_4.out BK3.out);replace BK4:=K_ hbk;replace HB:=K_ (hbel _ _ GE4.out HB.out);refine hK.out _ _ ⟨BK9.out,(zA BK9.out 0).trans rfl⟩ (fun _=>?_);clear hK K hbk hfar hbel;refine vF (by kernel_rfl) ?_;go_wp2_with (fail)
 refine bodyPost_ret (results_cell_row rfl _ _ g4 36 (#[.bool b,.string (yE (vB s) e (nn-1) 0),.string (yE (vB s) e (-1) (-blw)),.int .i64 0]) (0,0) _ rfl BK4.out Tryz.underlying36 rfl zao) rfl ?_;exact⟨HRES.out,BL HB⟩
end Go.Proofs.YtcmgdjnjmobkoaaGreatDoor.Px
namespace Go.Proofs.YtcmgdjnjmobkoaaGreatDoor.Px
open Fig Go.RowKit Go.Proofs.YtcmgdjnjmobkoaaGreatDoorW.PrintWords Go.Proofs.YtcmgdjnjmobkoaaGreatDoorW.PrintLast Go.Proofs.YtcmgdjnjmobkoaaGreatDoorW.PrintMore
attribute [local go_sem] vK vL uE uD yS yP vM vJ
attribute [local go_sem] qQ qX qL qW qY qN qZ xA qT qS qU qV xB qO
def zce.f (a0:Int) (a1:Int):Option (Int):=if a1=0 then (none) else (if (Int.tmod a0 a1)<0 then (some (wrap64 ((wrap64 ((wrap64 (Int.tdiv a0 a1))-1)) * a1))) else (some (wrap64 ((wrap64 (Int.tdiv a0 a1)) * a1))))
set_option maxHeartbeats 8000000 in
set_option maxRecDepth 100000 in
theorem zce.calls (a0:Int) (a1:Int) (r:Int) (w:World) (h:zce.f a0 a1=some r) :
  Calls Tryz.prog 67 #[.int .i64 a0,.int .i64 a1] w fun e w'=>e=.returned (.int .i64 r)∧zL w w':=by
 have H:(if a1=0 then (none) else (if (Int.tmod a0 a1)<0 then (some (wrap64 ((wrap64 ((wrap64 (Int.tdiv a0 a1))-1)) * a1))) else (some (wrap64 ((wrap64 (Int.tdiv a0 a1)) * a1)))))=some r:=h;clear h;by_cases c3:a1=0
 ·rw[if_pos c3] at H
  exact absurd H (by simp)
 rw[if_neg c3] at H;have c3b0:(a1==0)=false:=beq_eq_false_iff_ne.mpr c3;have c3b1:(a1 !=0)=true:=bne_iff_ne.mpr c3;by_cases c4:(Int.tmod a0 a1)<0
 ·rw[if_pos c4] at H
  have c4b0:decide ((Int.tmod a0 a1)<0)=true:=decide_eq_true c4;clear c4;obtain rfl:=Option.some.inj H;go_enter Tryz.func67,Tryz.ntmps67
  go_wp2
  go_ret
  exact⟨by first|rfl|(simp;done)|(simp[*];done)|(simp[*,Fig.bne_nil];done),by repeat (first|exact zL.refl _|apply zL.step)⟩
 rw[if_neg c4] at H;have c4b0:decide ((Int.tmod a0 a1)<0)=false:=decide_eq_false c4;clear c4;obtain rfl:=Option.some.inj H;go_enter Tryz.func67,Tryz.ntmps67
 go_wp2
 go_ret
 exact⟨by first|rfl|(simp;done)|(simp[*];done)|(simp[*,Fig.bne_nil];done),by repeat (first|exact zL.refl _|apply zL.step)⟩
end Go.Proofs.YtcmgdjnjmobkoaaGreatDoor.Px
namespace Go.Proofs.YtcmgdjnjmobkoaaGreatDoor.Px
set_option linter.all false
open Fig Go.RowKit Go.Proofs.YtcmgdjnjmobkoaaGreatDoorW.PrintWords Go.Proofs.YtcmgdjnjmobkoaaGreatDoorW.PrintLast Go.Proofs.YtcmgdjnjmobkoaaGreatDoorW.PrintMore
attribute [local go_sem] vK vL uE uD yS yP vM vJ
theorem zkn {P:jZ} (h:zar P=true):1<P.xi:=by
 unfold zar at h;simp only[Bool.and_eq_true,decide_eq_true_eq] at h;exact h.2.2
theorem zkm {P:jZ} (h:uS P):0≤(zaV P).1∧(zaV P).1≤80:=by
 have:=h.mi0;have:=h.mi4;have:=h.ms0;have:=h.msx;have:=h.xs4;have:=h.mf0;have:=h.mfx;have:=h.xf4;have:=zcm h
 unfold zaV;split
 ·show 0≤P.ms∧P.ms≤80;omega
 show 0≤yA P+P.mf∧yA P+P.mf≤80;omega
theorem zqm {t k:Int} (h1:-100000≤t) (h2:t≤100000) (h3:1<k) (h4:k≤1000):zce.f t k=some (t-t % k):=by
 have hd:=Int.mul_tdiv_add_tmod t k;have he:=Int.mul_ediv_add_emod t k;have hm1:=Int.emod_nonneg t (show k≠0 by omega);have hm2:=Int.emod_lt_of_pos t (show 0<k by omega);unfold zce.f;rw[if_neg (by omega)];by_cases ht:0≤t
 ·have e1:t.tmod k=t % k:=Int.tmod_eq_emod_of_nonneg ht
  have e2:t.tdiv k=t / k:=Int.tdiv_eq_ediv_of_nonneg ht;rw[if_neg (by omega),e2];have b1:0≤t / k:=Int.ediv_nonneg ht (by omega);have b2:t / k≤t:=Int.ediv_le_self k ht;rw[w64 (x:=t / k) (by omega) (by omega),Int.mul_comm (t / k) k,w64 (by omega) (by omega)];congr 1;omega
 have e1:t.tmod k=-((-t) % k):=by
  have:=Int.neg_tmod (-t) k
  rw[Int.neg_neg] at this;rw[this,Int.tmod_eq_emod_of_nonneg (by omega)]
 have e2:t.tdiv k=-((-t) / k):=by
  have:=Int.neg_tdiv (-t) k
  rw[Int.neg_neg] at this;rw[this,Int.tdiv_eq_ediv_of_nonneg (by omega)]
 have b1:0≤(-t) / k:=Int.ediv_nonneg (by omega) (by omega);have b2:(-t) / k≤-t:=Int.ediv_le_self k (by omega);have n1:=Int.emod_nonneg (-t) (show k≠0 by omega);have n2:=Int.emod_lt_of_pos (-t) (show 0<k by omega);have n3:=Int.mul_ediv_add_emod (-t) k;obtain⟨z,hz⟩:∃ z,z=(-t) / k:=⟨_,rfl⟩
 obtain⟨r,hr⟩:∃ r,r=(-t) % k:=⟨_,rfl⟩
 rw[←hz] at n3 b1 b2 e2;rw[←hr] at n1 n2 n3 e1;obtain⟨y,hy⟩:∃ y,y=k * z:=⟨_,rfl⟩
 rw[←hy] at n3;have hyz:k * z=y:=hy.symm;by_cases hr0:r=0
 ·have em:t % k=0:=Int.emod_eq_zero_of_dvd ⟨-z,by rw[Int.mul_neg];omega⟩
  rw[if_neg (by omega),e2,w64 (x:=-z) (by omega) (by omega),Int.neg_mul,Int.mul_comm z k,hyz,w64 (by omega) (by omega),em];congr 1;omega
 have em:t % k=k-r:=by
  have h5:t=(k-r)+k * (-z-1):=by rw[Int.mul_sub,Int.mul_neg,Int.mul_one];omega
  rw[h5,Int.add_mul_emod_self_left];exact Int.emod_eq_of_lt (by omega) (by omega)
 rw[if_pos (by omega),e2,w64 (x:=-z) (by omega) (by omega),w64 (x:=-z-1) (by omega) (by omega),Int.sub_mul,Int.neg_mul,Int.mul_comm z k,hyz,Int.one_mul,w64 (by omega) (by omega),em];congr 1;omega
set_option maxHeartbeats 8000000 in
set_option maxRecDepth 100000 in
theorem zjL (q:Pat) (hg:uS q.P) (b:Bool) (s:ByteArray) (e:Int) (ok:OkS s e) (w:World) :
  Calls Tryz.prog 39 #[.agg q.cs,.agg #[.bool b,.string s,.int .i64 e]] w fun e' w'=>e'=.returned (.agg #[.bool b,.string (zbY q.P (vB s) e).1,.string (zbY q.P (vB s) e).2.1,.int .i64 (zbY q.P (vB s) e).2.2])∧Below w.heap.size w w':=by
 have HB:=K_ (Below.refl w.heap.size w);have HOK:=K_ ok;have HGD:=K_ hg;have HT:=K_ (zlE (b:=b) ok.ok);have HZ:=K_ (zkZ (b:=b) ok.ok);have ht:=zfM ok;have hwb:=zcm hg;have hxi:=And.intro hg.xi0 hg.xi4;have hsb:=zkm hg;obtain⟨tp,htp⟩:∃ tp,tp=yD (vB s) e:=⟨_,rfl⟩
 obtain⟨wh,hwh⟩:∃ wh,wh=yA q.P:=⟨_,rfl⟩
 obtain⟨x0,hx0⟩:∃ x0,x0=zdT q.P (vB s) e:=⟨_,rfl⟩
 obtain⟨nn,hnn⟩:∃ nn,nn=zfm q.P (vB s) e:=⟨_,rfl⟩
 obtain⟨xx,hxx⟩:∃ xx,xx=zdq q.P (vB s) e:=⟨_,rfl⟩
 obtain⟨sg,hsg⟩:∃ sg,sg=(zaV q.P).1:=⟨_,rfl⟩
 obtain⟨fn,hfn⟩:∃ fn,fn=zdf (vB s) e xx:=⟨_,rfl⟩
 obtain⟨blw,hbb⟩:∃ blw,blw=zlr q.P (vB s) e:=⟨_,rfl⟩
 have HRES:=K_ (show Ending.returned (Value.agg #[.bool b,.string (yE (vB s) e (xx+nn-1) xx:ByteArray),.string (yE (vB s) e (xx-1) (xx-blw):ByteArray),.int .i64 (xx)])=.returned (.agg #[.bool b,.string (zbY q.P (vB s) e).1,.string (zbY q.P (vB s) e).2.1,.int .i64 (zbY q.P (vB s) e).2.2]) by rw[hnn,hbb,hxx];rfl);have hxe:xx=if vB s=0 then 0 else x0:=by rw[hxx,hx0];rfl
 have hbe:blw=max (sg-nn) fn:=by rw[hbb,hsg,hnn,hfn,hxx];rfl
 have hne:(zar q.P=true∧1<q.P.xi∧x0=tp-tp % q.P.xi∧nn=tp-x0+1)∨(zar q.P=false∧x0=tp-wh+1∧nn=wh):=by
  cases hE:zar q.P
  ·exact .inr ⟨rfl,by rw[hx0,htp,hwh];unfold zdT;rw[hE];rfl,by rw[hnn,hwh];unfold zfm;rw[hE];rfl⟩
  refine .inl ⟨rfl,zkn hE,?_,?_⟩
  ·rw[hx0,htp];unfold zdT;rw[hE];rfl
  rw[hnn,hx0,htp];unfold zfm zdT;rw[hE];rfl
 rw[←hwh] at hwb;rw[←htp] at HT ht;have hx0b:-20000≤x0∧x0≤30000∧0≤nn∧nn≤100:=by
  rcases hne with ⟨_,h2,h3,h4⟩|⟨_,h3,h4⟩
  ·have m1:=Int.emod_nonneg tp (show q.P.xi≠0 by omega)
   have m2:=Int.emod_lt_of_pos tp (show 0<q.P.xi by omega);omega
  omega
 have hxxb:-20000≤xx∧xx≤30000:=by rw[hxe];split <;> omega
 have hf:=zet (p:=xx) ok (by omega) (by omega);rw[←hfn] at hf;rw[←hsg] at hsb;have hbb0:0≤blw∧blw≤120000:=by rw[hbe];omega
 have HF:=K_ (zol (b:=b) (p:=xx) ok (by omega) (by omega));rw[←hfn] at HF;have HNE:=K_ hne;have HXE:=K_ hxe;have HBE2:=K_ hbe;have HWH:=K_ hwh;have HSG:=K_ hsg;have hw1:wrap64 (wrap64 (tp-wh)+1)=tp-wh+1:=by rw[w64 (x:=tp-wh) (by omega) (by omega),w64 (by omega) (by omega)]
 have HW1:=K_ (show wrap64 (wrap64 (xx+nn)-1)=xx+nn-1 by rw[w64 (x:=xx+nn) (by omega) (by omega),w64 (by omega) (by omega)]);have HW2:=K_ (show wrap64 (xx-1)=xx-1 by rw[w64 (by omega) (by omega)]);have HW3:=K_ (show wrap64 (xx-blw)=xx-blw by rw[w64 (by omega) (by omega)]);clear hg ok hne hxe hbe hwh hsg htp hx0 hnn hxx hfn hbb;go_enter Tryz.func39,Tryz.ntmps39
 go_upto_region 1 with (first|((with_reducible refine zE (N:=2) rfl ?_);refine bx_ 2 (q.cs) 26 ?_ rfl rfl rfl rfl rfl;intro g2 hg w2 hbox hb;have BK2:=K_ hbox;have GE2:=ge_ hg HB;replace HB:=zF HB hb;clear hb hbox hg)|((with_reducible refine zE (N:=3) rfl ?_);refine bx_ 3 (#[.bool b,.string s,.int .i64 e]) 23 ?_ rfl rfl rfl rfl rfl;intro g3 hg w2 hbox hb;have BK3:=K_ hbox;have GE3:=ge_ hg HB;have NB2_3:=nb_ hg BK2;replace BK2:=zC BK2 hb;replace HB:=zF HB hb;clear hb hbox hg)|((with_reducible refine zE (N:=4) rfl ?_);refine be_ 4 (#[.bool false,.string (⟨#[]⟩:ByteArray),.string (⟨#[]⟩:ByteArray),.int .i64 0]) 36 ?_;intro g4 hg w2 hbox hb;have BK4:=K_ hbox;have GE4:=ge_ hg HB;have NB2_4:=nb_ hg BK2;replace BK2:=zC BK2 hb;have NB3_4:=nb_ hg BK3;replace BK3:=zC BK3 hb;replace HB:=zF HB hb;clear hb hbox hg))
 refine yI (n:=6) (S:=fun W=>W.heap[g2]?=some (.cells q.cs 26 (0,0))∧W.heap[g3]?=some (.cells #[.bool b,.string s,.int .i64 e] 23 (0,0))) (ds:=[]) #[false,false,false,false,false,false] (by kernel_rfl) rfl rfl ⟨BK BK2,BK BK3⟩ (fun hHeld=>?_);refine jL (fun W=>W.heap[g2]?=some (.cells q.cs 26 (0,0))∧W.heap[g3]?=some (.cells #[.bool b,.string s,.int .i64 e] 23 (0,0))∧W.heap[g4]?=some (.cells #[.bool false,.string (⟨#[]⟩:ByteArray),.string (⟨#[]⟩:ByteArray),.int .i64 0] 36 (0,0))∧Below w.heap.size w W) ⟨BK BK2,BK BK3,BK BK4,BL HB⟩ ?_;clear hHeld;rintro W ⟨hb2,hb3,hb4,hbw⟩;replace BK2:=K_ hb2;replace BK3:=K_ hb3;replace BK4:=K_ hb4;replace HB:=K_ hbw;clear hb2 hb3 hb4 hbw;have hHeld:=(show W.heap[g2]?=some (.cells q.cs 26 (0,0))∧W.heap[g3]?=some (.cells #[.bool b,.string s,.int .i64 e] 23 (0,0)) from ⟨BK2.out,BK3.out⟩)
 refine tr_ 0 11 (bb 6 1) (q.cs) (fun _ hs=>⟨hs.1⟩) Tryz.underlying26 jX hHeld ?_;refine tr_ 2 13 (bb 6 5) (#[.bool b,.string s,.int .i64 e]) (fun _ hs=>⟨hs.2⟩) Tryz.underlying23 jI hHeld ?_;refine on_ 1 (some 12) (bb 6 7) (fun K hK=>?_);refine gq_ Tryz.func54 #[.agg q.cs] ?_;refine (zev q HGD.out _).mono ?_;rintro e9 w' ⟨rfl,hb⟩;refine⟨_,rfl,?_⟩;replace HB:=zF HB hb;replace BK2:=zC BK2 hb;replace BK3:=zC BK3 hb;replace BK4:=zC BK4 hb;clear hb;clear hHeld;refine hK.out _ _ ⟨BK2.out,BK3.out⟩ (fun hHeld=>?_);clear hK K;refine no_ (some 12) ?_;refine on_ 3 (some 14) (bb 6 15) (fun K hK=>?_);refine gq_ Tryz.func60 #[.agg #[.bool b,.string s,.int .i64 e]] ?_;refine (zaY.calls b s e tp _ HT.out).mono ?_;rintro e9 w' ⟨rfl,hb⟩;refine⟨_,rfl,?_⟩;replace HB:=zF HB hb;replace BK2:=zC BK2 hb;replace BK3:=zC BK3 hb;replace BK4:=zC BK4 hb;clear hb;clear hHeld;refine hK.out _ _ ⟨BK2.out,BK3.out⟩ (fun hHeld=>?_);clear hK K;refine no_ (some 14) ?_;refine pw_ 4 5 (bb 6 31) ?_;refine pw_ 5 6 (bb 6 63) ?_;refine vF (by kernel_rfl) ?_;simp only[←HWH.out]
 have e30:=(show w'.cell? ⟨g3,0,none⟩=some (.bool b) from (zA BK3.out 0).trans rfl)
 go_upto_region 3 with (first|((with_reducible refine zE (N:=7) rfl ?_);refine be_ 7 (#[.bool false,.string (⟨#[]⟩:ByteArray),.string (⟨#[]⟩:ByteArray),.int .i64 0]) 36 ?_;intro g7 hg w2 hbox hb;have BK7:=K_ hbox;have GE7:=ge_ hg HB;have NB2_7:=nb_ hg BK2;replace BK2:=zC BK2 hb;have NB3_7:=nb_ hg BK3;replace BK3:=zC BK3 hb;have NB4_7:=nb_ hg BK4;replace BK4:=zC BK4 hb;replace HB:=zF HB hb;clear hb hbox hg)|((with_reducible refine zW (p:=7) rfl ?_);refine so_ (g:=g7) (cs:=#[.bool false,.string (⟨#[]⟩:ByteArray),.string (⟨#[]⟩:ByteArray),.int .i64 0]) (#[.bool b,.string (⟨#[]⟩:ByteArray),.string (⟨#[]⟩:ByteArray),.int .i64 (tp-wh+1)]) ⟨BK BK7⟩ ?_ rfl rfl rfl rfl rfl zao rfl rfl;intro w9 hbk hfar hbel;replace BK2:=K_ (hfar _ _ (by first|exact NB2_7.out|exact Ne.symm NB7_2.out) (BK BK2));replace BK3:=K_ (hfar _ _ (by first|exact NB3_7.out|exact Ne.symm NB7_3.out) (BK BK3));replace BK4:=K_ (hfar _ _ (by first|exact NB4_7.out|exact Ne.symm NB7_4.out) (BK BK4));replace BK7:=K_ hbk;replace HB:=K_ (hbel _ _ GE7.out (BL HB));clear hbk hfar hbel))
 clear e30;go_upto_if 23 with (first|((with_reducible refine zE (N:=22) rfl ?_);refine lo_ (g:=g2) (cs:=q.cs) _ ⟨BK BK2⟩ ?_ rfl rfl rfl Tryz.underlying26 rfl jX)|(go_at_call 27;refine (zgn q _).mono ?_;rintro e9 w' ⟨rfl,hb⟩;replace HB:=zF HB hb;replace BK2:=zC BK2 hb;replace BK3:=zC BK3 hb;replace BK4:=zC BK4 hb;replace BK7:=zC BK7 hb;clear hb))
 go_cut [5] from 23 to 33 (fun v wx=>v=.int .i64 nn∧wx.heap[g7]?=some (.cells #[.bool b,.string (⟨#[]⟩:ByteArray),.string (⟨#[]⟩:ByteArray),.int .i64 (x0)] 36 (0,0))∧wx.heap[g2]?=some (.cells q.cs 26 (0,0))∧wx.heap[g3]?=some (.cells #[.bool b,.string s,.int .i64 e] 23 (0,0))∧wx.heap[g4]?=some (.cells #[.bool false,.string (⟨#[]⟩:ByteArray),.string (⟨#[]⟩:ByteArray),.int .i64 0] 36 (0,0))∧Below w.heap.size w wx)
 case first =>
  rcases HNE.out with ⟨hE,x1,h3,h4⟩|⟨hE,h3,h4⟩
  ·rw[hE]
   have e6:=(show w'.cell? ⟨g2,6,none⟩=some (.int .i64 q.P.xi) from (zA BK2.out 6).trans rfl)
   have s73:=(show w'.cell? ⟨g7,3,none⟩=some (.int .i64 (tp-wh+1)) from (zA BK7.out 3).trans rfl)
   have f73:=zM BK7.out 3;have hw5:wrap64 (wrap64 (tp-x0)+1)=nn:=by rw[h4,w64 (x:=tp-x0) (by omega) (by omega),w64 (by omega) (by omega)]
   have HFL:=K_ (zqm (t:=tp) (k:=q.P.xi) (by omega) (by omega) x1 (by omega));rw[←h3] at HFL;have HN4:=K_ h4;clear hE x1 h3 h4;go_upto_region 5 with (first|(go_at_call 67;refine (zce.calls tp q.P.xi x0 _ HFL.out).mono ?_;rintro e9 w' ⟨rfl,⟨nd,rfl⟩⟩))
   clear e6 s73 f73;refine zbO (fun wx=>wx.heap[g7]?=some (.cells #[.bool b,.string (⟨#[]⟩:ByteArray),.string (⟨#[]⟩:ByteArray),.int .i64 (x0)] 36 (0,0))∧wx.heap[g2]?=some (.cells q.cs 26 (0,0))∧wx.heap[g3]?=some (.cells #[.bool b,.string s,.int .i64 e] 23 (0,0))∧wx.heap[g4]?=some (.cells #[.bool false,.string (⟨#[]⟩:ByteArray),.string (⟨#[]⟩:ByteArray),.int .i64 0] 36 (0,0))∧Below w.heap.size w wx) ⟨BP BK7,zS (BK BK2) NB2_7.out _,zS (BK BK3) NB3_7.out _,zS (BK BK4) NB4_7.out _,BL HB⟩ ?_;rintro W5 ⟨hb7,hb2,hb3,hb4,hbw⟩;replace BK2:=K_ hb2;replace BK3:=K_ hb3;replace BK4:=K_ hb4;replace BK7:=K_ hb7;replace HB:=K_ hbw;clear hb2 hb3 hb4 hbw hb7;have e73:=(show W5.cell? ⟨g7,3,none⟩=some (.int .i64 x0) from (zA BK7.out 3).trans rfl)
   go_wp2
   go_meet
   case rel=>exact⟨congrArg (Value.int .i64) HN4.out.symm,BK BK7,BK BK2,BK BK3,BK BK4,BL HB⟩
  rw[hE];subst h4;rw[←h3] at BK7;clear hE h3;go_wp2
  go_meet
  case rel=>exact⟨rfl,BK BK7,BK BK2,BK BK3,BK BK4,BL HB⟩
 case rest =>
  obtain⟨rfl,hb7,hb2,hb3,hb4,hbw⟩:=hcut;replace BK2:=K_ hb2;replace BK3:=K_ hb3;replace BK4:=K_ hb4;replace BK7:=K_ hb7;replace HB:=K_ hbw;clear hb2 hb3 hb4 hbw hb7;go_upto_if 35 with (first|((with_reducible refine zE (N:=34) rfl ?_);refine lo_ (g:=g3) (cs:=#[.bool b,.string s,.int .i64 e]) _ ⟨BK BK3⟩ ?_ rfl rfl rfl Tryz.underlying23 rfl jI)|(go_at_call 65;refine (zat.calls b s e (decide (vB s=0)) _ HZ.out).mono ?_;rintro e9 w' ⟨rfl,hb⟩;replace HB:=zF HB hb;replace BK2:=zC BK2 hb;replace BK3:=zC BK3 hb;replace BK4:=zC BK4 hb;replace BK7:=zC BK7 hb;clear hb))
  go_cut [] from 35 to 36 (fun wx=>wx.heap[g7]?=some (.cells #[.bool b,.string (⟨#[]⟩:ByteArray),.string (⟨#[]⟩:ByteArray),.int .i64 (xx)] 36 (0,0))∧wx.heap[g2]?=some (.cells q.cs 26 (0,0))∧wx.heap[g3]?=some (.cells #[.bool b,.string s,.int .i64 e] 23 (0,0))∧wx.heap[g4]?=some (.cells #[.bool false,.string (⟨#[]⟩:ByteArray),.string (⟨#[]⟩:ByteArray),.int .i64 0] 36 (0,0))∧Below w.heap.size w wx)
  case first =>
   by_cases h0:vB s=0
   ·have hX:=HXE.out
    rw[if_pos h0] at hX;subst hX;rw[decide_eq_true h0];have s73:=(show w'.cell? ⟨g7,3,none⟩=some (.int .i64 x0) from (zA BK7.out 3).trans rfl)
    have f73:=zM BK7.out 3;clear h0;go_wp2
    go_meet
    case rel=>exact⟨BP BK7,zS (BK BK2) NB2_7.out _,zS (BK BK3) NB3_7.out _,zS (BK BK4) NB4_7.out _,BL HB⟩
   have hX:=HXE.out;rw[if_neg h0] at hX;subst hX;rw[decide_eq_false h0];clear h0;go_wp2
   go_meet
   case rel=>exact⟨BK BK7,BK BK2,BK BK3,BK BK4,BL HB⟩
  case rest =>
   obtain⟨hb7,hb2,hb3,hb4,hbw⟩:=hcut;replace BK2:=K_ hb2;replace BK3:=K_ hb3;replace BK4:=K_ hb4;replace BK7:=K_ hb7;replace HB:=K_ hbw;clear hb2 hb3 hb4 hbw hb7;go_upto_region 9 with (first|((with_reducible refine zE (N:=38) rfl ?_);refine lo_ (g:=g2) (cs:=q.cs) _ ⟨BK BK2⟩ ?_ rfl rfl rfl Tryz.underlying26 rfl jX)|(go_at_call 25;refine (zgq q HGD.out _).mono ?_;rintro e9 w' ⟨rfl,hb⟩;replace HB:=zF HB hb;replace BK2:=zC BK2 hb;replace BK3:=zC BK3 hb;replace BK4:=zC BK4 hb;replace BK7:=zC BK7 hb;clear hb))
   simp only[←HSG.out]
   have e73:=(show w'.cell? ⟨g7,3,none⟩=some (.int .i64 xx) from (zA BK7.out 3).trans rfl)
   have hw6:wrap64 (sg-nn)=sg-nn:=w64 (by omega) (by omega);have hm1:(if sg-nn<fn then fn else sg-nn)=blw:=by rw[HBE2.out];split <;> omega
   go_upto_region 10 with (first|((with_reducible refine zE (N:=45) rfl ?_);refine lo_ (g:=g3) (cs:=#[.bool b,.string s,.int .i64 e]) _ ⟨BK BK3⟩ ?_ rfl rfl rfl Tryz.underlying23 rfl jI)|(go_at_call 64;refine (zbx.calls b s e xx fn _ HF.out).mono ?_;rintro e9 w' ⟨rfl,hb⟩;replace HB:=zF HB hb;replace BK2:=zC BK2 hb;replace BK3:=zC BK3 hb;replace BK4:=zC BK4 hb;replace BK7:=zC BK7 hb;clear hb))
   clear e73;refine yI (n:=22) (S:=fun W=>W.heap[g3]?=some (.cells #[.bool b,.string s,.int .i64 e] 23 (0,0))∧W.cell? ⟨g7,3,none⟩=some (.int .i64 xx)) (ds:=[]) #[false,false,false,false,false,false,false,false,false,false,false,false,false,false,false,false,false,false,false,false,false,false] (by kernel_rfl) rfl rfl ⟨BK BK3,(zA (BK BK7) 3).trans rfl⟩ (fun hHeld=>?_);refine jL (fun W=>W.heap[g3]?=some (.cells #[.bool b,.string s,.int .i64 e] 23 (0,0))∧W.heap[g4]?=some (.cells #[.bool false,.string (⟨#[]⟩:ByteArray),.string (⟨#[]⟩:ByteArray),.int .i64 0] 36 (0,0))∧W.heap[g7]?=some (.cells #[.bool b,.string (⟨#[]⟩:ByteArray),.string (⟨#[]⟩:ByteArray),.int .i64 (xx)] 36 (0,0))∧Below w.heap.size w W) ⟨BK BK3,BK BK4,BK BK7,BL HB⟩ ?_;clear hHeld BK2 BK3 BK4 BK7 HB;rintro W ⟨hb3,hb4,hb7,hbw⟩;have BK3:=K_ hb3;have BK4:=K_ hb4;have BK7:=K_ hb7;have HB:=K_ hbw;clear hb3 hb4 hb7 hbw;have hHeld:=(show W.heap[g3]?=some (.cells #[.bool b,.string s,.int .i64 e] 23 (0,0))∧W.cell? ⟨g7,3,none⟩=some (.int .i64 xx) from ⟨BK3.out,(zA BK7.out 3).trans rfl⟩)
   refine tr_ 0 50 (bb 22 1) (#[.bool b,.string s,.int .i64 e]) (fun _ hs=>⟨hs.1⟩) Tryz.underlying23 jI hHeld ?_;refine pw_ 1 51 (bb 22 3) ?_;refine tw_ 2 52 (bb 22 7) hHeld ?_;refine pw_ 3 53 (bb 22 15) ?_;refine pw_ 4 54 (bb 22 31) ?_;refine pw_ 5 55 (bb 22 63) ?_;refine pw_ 6 56 (bb 22 127) ?_;refine tw_ 7 57 (bb 22 255) hHeld ?_;refine tr_ 9 59 (bb 22 767) (#[.bool b,.string s,.int .i64 e]) (fun _ hs=>⟨hs.1⟩) Tryz.underlying23 jI hHeld ?_;refine pw_ 10 60 (bb 22 1791) ?_;refine tw_ 11 61 (bb 22 3839) hHeld ?_;refine pw_ 12 62 (bb 22 7935) ?_;refine pw_ 13 63 (bb 22 16127) ?_;refine tw_ 14 64 (bb 22 32511) hHeld ?_;refine pw_ 15 65 (bb 22 65279) ?_;refine pw_ 16 66 (bb 22 130815) ?_;refine on_ 8 (some 58) (bb 22 131071) (fun K hK=>?_);refine gq_ Tryz.func66 #[.agg #[.bool b,.string s,.int .i64 e],.int .i64 (wrap64 (wrap64 (xx+nn)-1)),.int .i64 xx] ?_;refine (zau b s e HOK.out.ok (xx+nn-1) xx (by omega) (by omega) (by omega) (by omega) HW1.out rfl _).mono ?_;rintro e9 w' ⟨rfl,hb⟩;refine⟨_,rfl,?_⟩;replace HB:=zF HB hb;replace BK3:=zC BK3 hb;replace BK4:=zC BK4 hb;replace BK7:=zC BK7 hb;clear hb;clear hHeld;refine hK.out _ _ ⟨BK3.out,(zA BK7.out 3).trans rfl⟩ (fun hHeld=>?_);clear hK K;refine no_ (some 58) ?_;refine pw_ 18 68 (bb 22 393215) ?_;refine on_ 17 (some 67) (bb 22 524287) (fun K hK=>?_);refine gq_ Tryz.func66 #[.agg #[.bool b,.string s,.int .i64 e],.int .i64 (wrap64 (xx-1)),.int .i64 (wrap64 (xx-blw))] ?_;refine (zau b s e HOK.out.ok (xx-1) (xx-blw) (by omega) (by omega) (by omega) (by omega) HW2.out HW3.out _).mono ?_
   rintro e9 w' ⟨rfl,hb⟩;refine⟨_,rfl,?_⟩;replace HB:=zF HB hb;replace BK3:=zC BK3 hb;replace BK4:=zC BK4 hb;replace BK7:=zC BK7 hb;clear hb;clear hHeld;refine hK.out _ _ ⟨BK3.out,(zA BK7.out 3).trans rfl⟩ (fun hHeld=>?_);clear hK K;refine no_ (some 67) ?_;refine on_ 19 none (bb 22 1048575) (fun K hK=>?_);have hs:w'.cell? ⟨g7,1,none⟩=some (.string ⟨#[]⟩):=(zA BK7.out 1).trans rfl;have hf:=zM BK7.out 1;refine zaU (w1:=w'.setCell ⟨g7,1,none⟩ (.string (yE (vB s) e (xx+nn-1) xx))) (by rfl) rfl (by go_simp;try rfl) ?_;replace BK3:=K_ (zS (p:=⟨g7,1,none⟩) BK3.out NB3_7.out (.string (yE (vB s) e (xx+nn-1) xx)));replace BK4:=K_ (zS (p:=⟨g7,1,none⟩) BK4.out NB4_7.out (.string (yE (vB s) e (xx+nn-1) xx)));replace HB:=K_ (xR HB.out GE7.out (j:=1) (v:=.string (yE (vB s) e (xx+nn-1) xx)));replace BK7:=K_ (xM BK7.out (i:=1) (u:=.string (yE (vB s) e (xx+nn-1) xx)) (cs':=#[.bool b,.string (yE (vB s) e (xx+nn-1) xx:ByteArray),.string (⟨#[]⟩:ByteArray),.int .i64 (xx)]) rfl);refine hK.out _ _ ⟨BK3.out,(zA BK7.out 3).trans rfl⟩ (fun hHeld=>?_);clear hK K hs hf hHeld;refine jL (fun W=>W.heap[g3]?=some (.cells #[.bool b,.string s,.int .i64 e] 23 (0,0))∧W.heap[g4]?=some (.cells #[.bool false,.string (⟨#[]⟩:ByteArray),.string (⟨#[]⟩:ByteArray),.int .i64 0] 36 (0,0))∧W.heap[g7]?=some (.cells #[.bool b,.string (yE (vB s) e (xx+nn-1) xx:ByteArray),.string (⟨#[]⟩:ByteArray),.int .i64 (xx)] 36 (0,0))∧Below w.heap.size w W) ⟨BK3.out,BK4.out,BK7.out,HB.out⟩ ?_;clear BK3 BK4 BK7 HB;rintro W ⟨hb3,hb4,hb7,hbw⟩
   have BK3:=K_ hb3;have BK4:=K_ hb4;have BK7:=K_ hb7;have HB:=K_ hbw;clear hb3 hb4 hb7 hbw;have hHeld:=(show W.heap[g3]?=some (.cells #[.bool b,.string s,.int .i64 e] 23 (0,0))∧W.cell? ⟨g7,3,none⟩=some (.int .i64 xx) from ⟨BK3.out,(zA BK7.out 3).trans rfl⟩)
   refine pw_ 20 69 (bb 22 2097151) ?_;refine on_ 21 none (bb 22 4194303) (fun K hK=>?_);have hs:W.cell? ⟨g7,2,none⟩=some (.string ⟨#[]⟩):=(zA BK7.out 2).trans rfl;have hf:=zM BK7.out 2;refine zaU (w1:=W.setCell ⟨g7,2,none⟩ (.string (yE (vB s) e (xx-1) (xx-blw)))) (by rfl) rfl (by go_simp;try rfl) ?_;replace BK3:=K_ (zS (p:=⟨g7,2,none⟩) BK3.out NB3_7.out (.string (yE (vB s) e (xx-1) (xx-blw))));replace BK4:=K_ (zS (p:=⟨g7,2,none⟩) BK4.out NB4_7.out (.string (yE (vB s) e (xx-1) (xx-blw))));replace HB:=K_ (xR HB.out GE7.out (j:=2) (v:=.string (yE (vB s) e (xx-1) (xx-blw))));replace BK7:=K_ (xM BK7.out (i:=2) (u:=.string (yE (vB s) e (xx-1) (xx-blw))) (cs':=#[.bool b,.string (yE (vB s) e (xx+nn-1) xx:ByteArray),.string (yE (vB s) e (xx-1) (xx-blw):ByteArray),.int .i64 (xx)]) rfl);refine hK.out _ _ ⟨BK3.out,(zA BK7.out 3).trans rfl⟩ (fun hHeld=>?_);clear hK K hs hf hHeld;refine jL (fun W=>W.heap[g3]?=some (.cells #[.bool b,.string s,.int .i64 e] 23 (0,0))∧W.heap[g4]?=some (.cells #[.bool false,.string (⟨#[]⟩:ByteArray),.string (⟨#[]⟩:ByteArray),.int .i64 0] 36 (0,0))∧W.heap[g7]?=some (.cells #[.bool b,.string (yE (vB s) e (xx+nn-1) xx:ByteArray),.string (yE (vB s) e (xx-1) (xx-blw):ByteArray),.int .i64 (xx)] 36 (0,0))∧Below w.heap.size w W) ⟨BK3.out,BK4.out,BK7.out,HB.out⟩ ?_;clear BK3 BK4 BK7 HB;rintro W ⟨hb3,hb4,hb7,hbw⟩;have BK3:=K_ hb3;have BK4:=K_ hb4;have BK7:=K_ hb7;have HB:=K_ hbw;clear hb3 hb4 hb7 hbw;have hHeld:=(show W.heap[g3]?=some (.cells #[.bool b,.string s,.int .i64 e] 23 (0,0))∧W.cell? ⟨g7,3,none⟩=some (.int .i64 xx) from ⟨BK3.out,(zA BK7.out 3).trans rfl⟩)
   refine vF (by kernel_rfl) ?_;go_wp2_with (first|((with_reducible refine zE (N:=70) rfl ?_);refine lo_ (g:=g7) (cs:=#[.bool b,.string (yE (vB s) e (xx+nn-1) xx:ByteArray),.string (yE (vB s) e (xx-1) (xx-blw):ByteArray),.int .i64 (xx)]) _ ⟨BK BK7⟩ ?_ rfl rfl rfl Tryz.underlying36 rfl zao)|((with_reducible refine zW (p:=4) rfl ?_);refine so_ (g:=g4) (cs:=#[.bool false,.string (⟨#[]⟩:ByteArray),.string (⟨#[]⟩:ByteArray),.int .i64 0]) (#[.bool b,.string (yE (vB s) e (xx+nn-1) xx:ByteArray),.string (yE (vB s) e (xx-1) (xx-blw):ByteArray),.int .i64 (xx)]) ⟨BK BK4⟩ ?_ rfl rfl rfl rfl rfl zao rfl rfl;intro w9 hbk hfar hbel;replace BK7:=K_ (hfar _ _ (by first|exact NB7_4.out|exact Ne.symm NB4_7.out) (BK BK7));replace BK4:=K_ hbk;replace HB:=K_ (hbel _ _ GE4.out (BL HB));clear hbk hfar hbel))
   refine bodyPost_ret (results_cell_row rfl _ _ g4 36 (#[.bool b,.string (yE (vB s) e (xx+nn-1) xx:ByteArray),.string (yE (vB s) e (xx-1) (xx-blw):ByteArray),.int .i64 (xx)]) (0,0) _ rfl BK4.out Tryz.underlying36 rfl zao) rfl ?_;exact⟨HRES.out,BL HB⟩
theorem zdj (n:Nat) (e hi lo:Int):(yE n e hi lo).size=(hi-lo+1).toNat:=by
 show (zbv n e hi (hi-lo+1).toNat).toArray.size=_
 rw[List.size_toArray,zfj]
theorem zjZ {P:jZ} (hg:uS P) {s:ByteArray} {e:Int} (ok:OkS s e):(zaD P (vB s) e).1.size≤200000∧(zaD P (vB s) e).2.1.size≤200000:=by
 have ht:=zfM ok;have hf:=zet (p:=0) ok (by decide) (by decide);have:=hg.mi0;have:=hg.mi4;have:=hg.mf0;have:=hg.mfx;have:=hg.xf4;have:=hg.ms0;have:=hg.msx;have:=hg.xs4
 have h1:zeW P (vB s) e≤30000:=by unfold zeW;split <;> split <;> omega
 have h2:zfz P (vB s) e≤120000:=by unfold zfz;split <;> omega
 show (yE _ _ _ _).size≤_∧(yE _ _ _ _).size≤_
 rw[zdj,zdj];omega
theorem zlY {P:jZ} (hg:uS P) {s:ByteArray} {e:Int} (ok:OkS s e):(zbY P (vB s) e).1.size≤200000∧(zbY P (vB s) e).2.1.size≤200000:=by
 have ht:=zfM ok;have hwb:=zcm hg;have hsb:=zkm hg;have:=hg.xi4
 have h1:-20000≤zdT P (vB s) e∧zdT P (vB s) e≤30000∧0≤zfm P (vB s) e∧zfm P (vB s) e≤100:=by
  unfold zdT zfm;cases hE:zar P
  ·rw[if_neg (by decide),if_neg (by decide)];omega
  have h1:=zkn hE;have m1:=Int.emod_nonneg (yD (vB s) e) (show P.xi≠0 by omega);have m2:=Int.emod_lt_of_pos (yD (vB s) e) (show 0<P.xi by omega);rw[if_pos rfl,if_pos rfl];omega
 have h2:-20000≤zdq P (vB s) e∧zdq P (vB s) e≤30000:=by unfold zdq;split <;> omega
 have hf:=zet (p:=zdq P (vB s) e) ok (by omega) (by omega);have h3:zlr P (vB s) e≤120000:=by unfold zlr;omega
 show (yE _ _ _ _).size≤_∧(yE _ _ _ _).size≤_
 rw[zdj,zdj];omega
set_option maxHeartbeats 8000000 in
set_option maxRecDepth 100000 in
theorem znE (q:Pat) (hg:uS q.P) (b:Bool) (s:ByteArray) (e:Int) (s1:ByteArray) (e1:Int) (hx:vS.f b s e q.mult=some (b,s1,e1)) (ok:OkS s1 e1) (w:World) (hr:zaR q w) :
  Calls Tryz.prog 16 #[.agg q.cs,.agg #[.bool b,.string s,.int .i64 e]] w fun e' w'=>e'=.returned (.agg #[.bool b,.string (zbl q.P (vB s1) e1).1,.string (zbl q.P (vB s1) e1).2.1,.int .i64 (zbl q.P (vB s1) e1).2.2])∧Below w.heap.size w w':=by
 have HB:=K_ (Below.refl w.heap.size w);have HGD:=K_ hg;have HRW:=K_ hr;have HX:=K_ hx;have HOK1:=K_ ok;clear hg hr hx ok;go_enter Tryz.func16,Tryz.ntmps16
 go_upto_region 1 with (first|((with_reducible refine zE (N:=2) rfl ?_);refine bx_ 2 (q.cs) 26 ?_ rfl rfl rfl rfl rfl;intro g2 hg w2 hbox hb;have BK2:=K_ hbox;have GE2:=ge_ hg HB;replace HB:=zF HB hb;clear hb hbox hg)|((with_reducible refine zE (N:=3) rfl ?_);refine bx_ 3 (#[.bool b,.string s,.int .i64 e]) 23 ?_ rfl rfl rfl rfl rfl;intro g3 hg w2 hbox hb;have BK3:=K_ hbox;have GE3:=ge_ hg HB;have NB2_3:=nb_ hg BK2;replace BK2:=zC BK2 hb;replace HB:=zF HB hb;clear hb hbox hg)|((with_reducible refine zE (N:=4) rfl ?_);refine be_ 4 (#[.bool false,.string (⟨#[]⟩:ByteArray),.string (⟨#[]⟩:ByteArray),.int .i64 0]) 36 ?_;intro g4 hg w2 hbox hb;have BK4:=K_ hbox;have GE4:=ge_ hg HB;have NB2_4:=nb_ hg BK2;replace BK2:=zC BK2 hb;have NB3_4:=nb_ hg BK3;replace BK3:=zC BK3 hb;replace HB:=zF HB hb;clear hb hbox hg))
 refine yI (n:=6) (S:=fun W=>W.heap[g2]?=some (.cells q.cs 26 (0,0))∧W.heap[g3]?=some (.cells #[.bool b,.string s,.int .i64 e] 23 (0,0))) (ds:=[]) #[false,false,false,false,false,false] (by kernel_rfl) rfl rfl ⟨BK BK2,BK BK3⟩ (fun hHeld=>?_);refine jL (fun W=>W.heap[g2]?=some (.cells q.cs 26 (0,0))∧W.heap[g3]?=some (.cells #[.bool b,.string s,.int .i64 e] 23 (0,0))∧W.heap[g4]?=some (.cells #[.bool false,.string (⟨#[]⟩:ByteArray),.string (⟨#[]⟩:ByteArray),.int .i64 0] 36 (0,0))∧Below w.heap.size w W) ⟨BK BK2,BK BK3,BK BK4,BL HB⟩ ?_;clear hHeld BK2 BK3 BK4 HB;rintro W ⟨hb2,hb3,hb4,hbw⟩;have BK2:=K_ hb2;have BK3:=K_ hb3;have BK4:=K_ hb4;have HB:=K_ hbw;clear hb2 hb3 hb4 hbw;have hHeld:=(show W.heap[g2]?=some (.cells q.cs 26 (0,0))∧W.heap[g3]?=some (.cells #[.bool b,.string s,.int .i64 e] 23 (0,0)) from ⟨BK2.out,BK3.out⟩)
 refine tr_ 0 8 (bb 6 1) (#[.bool b,.string s,.int .i64 e]) (fun _ hs=>⟨hs.2⟩) Tryz.underlying23 jI hHeld ?_;refine tr_ 1 9 (bb 6 3) (q.cs) (fun _ hs=>⟨hs.1⟩) Tryz.underlying26 jX hHeld ?_;refine zbV (σ:=Nat) 1 (bb 6 31) (fun g=>[(10,.int .i64 q.mult),(11,.agg #[.bool b,.string s1,.int .i64 e1]),(5,.pointer (some ⟨g,0,none⟩))]) (fun g W=>W.heap[g]?=some (.cells (#[.bool false,.string (⟨#[]⟩:ByteArray),.int .i64 0]) 23 (0,0))∧g2≠g∧g3≠g∧g4≠g∧w.heap.size≤g∧W.heap[g2]?=some (.cells q.cs 26 (0,0))∧W.heap[g3]?=some (.cells #[.bool b,.string s,.int .i64 e] 23 (0,0))∧W.heap[g4]?=some (.cells #[.bool false,.string (⟨#[]⟩:ByteArray),.string (⟨#[]⟩:ByteArray),.int .i64 0] 36 (0,0))∧Below w.heap.size w W) ?hcj ?hrj
 case hrj =>
  intro hCont;refine zeb (i:=2) (j:=4) (Ni:=some 10) (Nj:=some 5) (bb 6 7) (bb 6 19) rfl rfl rfl rfl (by kernel_rfl) (by decide) (by decide) (fun K hK=>?_) (fun K hK=>?_)
  ·skip
   refine gq_ Tryz.func35 #[.agg q.cs] ?_;refine (zfA q _ (HRW.out.below (BL HB))).mono ?_;rintro e9 w' ⟨rfl,hb⟩;refine⟨_,rfl,?_⟩;replace BK2:=zC BK2 hb;replace BK3:=zC BK3 hb;replace BK4:=zC BK4 hb;replace HB:=zF HB hb;clear hb hHeld;refine hK.out _ _ ⟨BK2.out,BK3.out⟩ (fun hHeld=>?_);clear hK K;refine no_ (some 10) ?_;refine zeb (i:=3) (j:=4) (Ni:=some 11) (Nj:=some 5) (bb 6 15) (bb 6 23) rfl rfl rfl rfl (by kernel_rfl) (by decide) (by decide) (fun K hK=>?_) (fun K hK=>?_)
   ·skip
    refine gq_ Tryz.func37 #[.agg #[.bool b,.string s,.int .i64 e],.int .i64 q.mult] ?_;refine (vS.calls b s e q.mult b s1 e1 _ HX.out).mono ?_;rintro e9 w' ⟨rfl,hb⟩;refine⟨_,rfl,?_⟩;replace BK2:=zC BK2 hb;replace BK3:=zC BK3 hb;replace BK4:=zC BK4 hb;replace HB:=zF HB hb;clear hb hHeld;refine hK.out _ _ ⟨BK2.out,BK3.out⟩ (fun hHeld=>?_);clear hK K;refine no_ (some 11) ?_;refine on_ 4 (some 5) (bb 6 31) (fun K hK=>?_);refine bs_ 5 (#[.bool false,.string (⟨#[]⟩:ByteArray),.int .i64 0]) 23 ?_;intro g5 hg w' hbox hb;have BK5:=K_ hbox;have GE5:=ge_ hg HB;have NB2_5:=nb_ hg BK2;have NB3_5:=nb_ hg BK3;have NB4_5:=nb_ hg BK4;replace BK2:=zC BK2 hb;replace BK3:=zC BK3 hb;replace BK4:=zC BK4 hb;replace HB:=zF HB hb;clear hb hbox hg hHeld;refine hK.out _ _ ⟨BK2.out,BK3.out⟩ (fun hHeld=>?_);clear hK K;refine no_ (some 5) ?_;exact nj_ (hCont g5 _ ⟨BK5.out,NB2_5.out,NB3_5.out,NB4_5.out,GE5.out,BK2.out,BK3.out,BK4.out,HB.out⟩)
   skip
   refine bs_ 5 (#[.bool false,.string (⟨#[]⟩:ByteArray),.int .i64 0]) 23 ?_;intro g5 hg w' hbox hb;have BK5:=K_ hbox;have GE5:=ge_ hg HB;have NB2_5:=nb_ hg BK2;have NB3_5:=nb_ hg BK3;have NB4_5:=nb_ hg BK4;replace BK2:=zC BK2 hb;replace BK3:=zC BK3 hb;replace BK4:=zC BK4 hb;replace HB:=zF HB hb;clear hb hbox hg hHeld;refine hK.out _ _ ⟨BK2.out,BK3.out⟩ (fun hHeld=>?_);clear hK K;refine no_ (some 5) ?_;refine on_ 3 (some 11) (bb 6 31) (fun K hK=>?_);refine gq_ Tryz.func37 #[.agg #[.bool b,.string s,.int .i64 e],.int .i64 q.mult] ?_;refine (vS.calls b s e q.mult b s1 e1 _ HX.out).mono ?_;rintro e9 w' ⟨rfl,hb⟩;refine⟨_,rfl,?_⟩;replace BK2:=zC BK2 hb;replace BK3:=zC BK3 hb;replace BK4:=zC BK4 hb;replace BK5:=zC BK5 hb;replace HB:=zF HB hb;clear hb hHeld;refine hK.out _ _ ⟨BK2.out,BK3.out⟩ (fun hHeld=>?_);clear hK K;refine no_ (some 11) ?_;exact nj_ (hCont g5 _ ⟨BK5.out,NB2_5.out,NB3_5.out,NB4_5.out,GE5.out,BK2.out,BK3.out,BK4.out,HB.out⟩)
  skip
  refine bs_ 5 (#[.bool false,.string (⟨#[]⟩:ByteArray),.int .i64 0]) 23 ?_;intro g5 hg w' hbox hb;have BK5:=K_ hbox;have GE5:=ge_ hg HB;have NB2_5:=nb_ hg BK2;have NB3_5:=nb_ hg BK3;have NB4_5:=nb_ hg BK4;replace BK2:=zC BK2 hb;replace BK3:=zC BK3 hb;replace BK4:=zC BK4 hb;replace HB:=zF HB hb;clear hb hbox hg hHeld;refine hK.out _ _ ⟨BK2.out,BK3.out⟩ (fun hHeld=>?_);clear hK K;refine no_ (some 5) ?_;refine on_ 2 (some 10) (bb 6 23) (fun K hK=>?_);refine gq_ Tryz.func35 #[.agg q.cs] ?_;refine (zfA q _ (HRW.out.below (BL HB))).mono ?_;rintro e9 w' ⟨rfl,hb⟩;refine⟨_,rfl,?_⟩;replace BK2:=zC BK2 hb;replace BK3:=zC BK3 hb;replace BK4:=zC BK4 hb;replace BK5:=zC BK5 hb;replace HB:=zF HB hb;clear hb hHeld;refine hK.out _ _ ⟨BK2.out,BK3.out⟩ (fun hHeld=>?_);clear hK K;refine no_ (some 10) ?_;refine on_ 3 (some 11) (bb 6 31) (fun K hK=>?_);refine gq_ Tryz.func37 #[.agg #[.bool b,.string s,.int .i64 e],.int .i64 q.mult] ?_;refine (vS.calls b s e q.mult b s1 e1 _ HX.out).mono ?_;rintro e9 w' ⟨rfl,hb⟩;refine⟨_,rfl,?_⟩;replace BK2:=zC BK2 hb;replace BK3:=zC BK3 hb;replace BK4:=zC BK4 hb;replace BK5:=zC BK5 hb;replace HB:=zF HB hb;clear hb hHeld;refine hK.out _ _ ⟨BK2.out,BK3.out⟩ (fun hHeld=>?_);clear hK K;refine no_ (some 11) ?_;exact nj_ (hCont g5 _ ⟨BK5.out,NB2_5.out,NB3_5.out,NB4_5.out,GE5.out,BK2.out,BK3.out,BK4.out,HB.out⟩)
 case hcj =>
  rintro g5 W8 ⟨hba,hn2,hn3,hn4,hge,hb2,hb3,hb4,hbw⟩;have BK2:=K_ hb2;have BK3:=K_ hb3;have BK4:=K_ hb4;have HB:=K_ hbw;have BK5:=K_ hba;have GE5:=K_ hge;have NB2_5:=K_ hn2;have NB3_5:=K_ hn3;have NB4_5:=K_ hn4;clear hba hge hbw hHeld hb2 hn2 hb3 hn3 hb4 hn4;refine np_ ?_;refine on_ 5 none (bb 6 63) (fun K hK=>?_);refine yX (g:=g5) (cs:=#[.bool false,.string (⟨#[]⟩:ByteArray),.int .i64 0]) (#[.bool b,.string s1,.int .i64 e1]) BK5 ?_ rfl rfl rfl rfl rfl jI rfl rfl;intro w9 hbk hfar hbel;replace BK2:=K_ (hfar _ _ NB2_5.out BK2.out);replace BK3:=K_ (hfar _ _ NB3_5.out BK3.out);replace BK4:=K_ (hfar _ _ NB4_5.out BK4.out);replace BK5:=K_ hbk;replace HB:=K_ (hbel _ _ GE5.out HB.out);refine hK.out _ _ ⟨BK2.out,BK3.out⟩ (fun _=>?_);clear hK K hbk hfar hbel;refine vF (by kernel_rfl) ?_;have e14:=(show w9.cell? ⟨g2,14,none⟩=some (.bool q.P.sci) from (zA BK2.out 14).trans rfl)
  cases hsci:q.P.sci
  ·rw[hsci] at e14
   obtain⟨A,B,C,hrr⟩:∃ (A B:ByteArray) (C:Int),(A,B,C)=zaD q.P (vB s1) e1:=⟨_,_,_,rfl⟩
   have hA:A=(zaD q.P (vB s1) e1).1:=by rw[←hrr]
   have hB':B=(zaD q.P (vB s1) e1).2.1:=by rw[←hrr]
   have hC:C=(zaD q.P (vB s1) e1).2.2:=by rw[←hrr]
   have HRR:=K_ (show Ending.returned (Value.agg #[.bool b,.string A,.string B,.int .i64 C])=.returned (.agg #[.bool b,.string (zaD q.P (vB s1) e1).1,.string (zaD q.P (vB s1) e1).2.1,.int .i64 (zaD q.P (vB s1) e1).2.2]) by rw[hA,hB',hC]);have hsz:A.size≤200000∧B.size≤200000:=by rw[hA,hB'];exact zjZ HGD.out HOK1.out
   have hbig:¬ 9223372036854775807<A.size+B.size:=by omega
   have HRES:=K_ (show zbl q.P (vB s1) e1=zgt (A,B,C) by unfold zbl;rw[hsci,hrr];rfl);clear hA hB' hC hrr hsz hsci;go_upto_region 6 with (first|((with_reducible refine zE (N:=15) rfl ?_);refine lo_ (g:=g2) (cs:=q.cs) _ ⟨BK BK2⟩ ?_ rfl rfl rfl Tryz.underlying26 rfl jX)|((with_reducible refine zE (N:=16) rfl ?_);refine lo_ (g:=g5) (cs:=#[.bool b,.string s1,.int .i64 e1]) _ ⟨BK BK5⟩ ?_ rfl rfl rfl Tryz.underlying23 rfl jI)|(go_at_call 38;refine (zju q HGD.out b s1 e1 HOK1.out _).mono ?_;rintro e9 w' ⟨he9,hb⟩;rw[←HRR.out] at he9;subst he9;replace HB:=zF HB hb;replace BK4:=zC BK4 hb;clear hb)|((with_reducible refine zE (N:=7) rfl ?_);refine be_ 7 (#[.bool false,.string (⟨#[]⟩:ByteArray),.string (⟨#[]⟩:ByteArray),.int .i64 0]) 36 ?_;intro g7 hg w2 hbox hb;have BK7:=K_ hbox;have GE7:=ge_ hg HB;have NB4_7:=nb_ hg BK4;replace BK4:=zC BK4 hb;replace HB:=zF HB hb;clear hb hbox hg)|((with_reducible refine zW (p:=7) rfl ?_);refine so_ (g:=g7) (cs:=#[.bool false,.string (⟨#[]⟩:ByteArray),.string (⟨#[]⟩:ByteArray),.int .i64 0]) (#[.bool b,.string A,.string B,.int .i64 C]) ⟨BK BK7⟩ ?_ rfl rfl rfl rfl rfl zao rfl rfl;intro w9 hbk hfar hbel;replace BK4:=K_ (hfar _ _ (by first|exact NB4_7.out|exact Ne.symm NB7_4.out) (BK BK4));replace BK7:=K_ hbk;replace HB:=K_ (hbel _ _ GE7.out (BL HB));clear hbk hfar hbel))
   have e71:=(show w9.cell? ⟨g7,1,none⟩=some (.string A) from (zA BK7.out 1).trans rfl)
   have e72:=(show w9.cell? ⟨g7,2,none⟩=some (.string B) from (zA BK7.out 2).trans rfl)
   have f71:=zM BK7.out 1;by_cases hem:A++B=(⟨#[]⟩:ByteArray)
   ·have hie:(A++B).toList.isEmpty=true:=by rw[hem,ByteArray.toList_eq];rfl
    have HRE:=K_ (show Ending.returned (Value.agg #[.bool b,.string (⟨#[48]⟩:ByteArray),.string B,.int .i64 C])=.returned (.agg #[.bool b,.string (zbl q.P (vB s1) e1).1,.string (zbl q.P (vB s1) e1).2.1,.int .i64 (zbl q.P (vB s1) e1).2.2]) by rw[HRES.out];unfold zgt;rw[if_pos hem]);clear hem HRES;go_upto_region 8 with (fail)
    refine zbO (fun wx=>wx.heap[g7]?=some (.cells #[.bool b,.string (⟨#[48]⟩:ByteArray),.string B,.int .i64 C] 36 (0,0))∧wx.heap[g4]?=some (.cells #[.bool false,.string (⟨#[]⟩:ByteArray),.string (⟨#[]⟩:ByteArray),.int .i64 0] 36 (0,0))∧Below w.heap.size w wx) ⟨BP BK7,zS (BK BK4) NB4_7.out _,BL HB⟩ ?_;clear e71 e72 f71 BK7 BK4 HB;rintro W5 ⟨hb7,hb4,hbw⟩;have BK7:=K_ hb7;have BK4:=K_ hb4;have HB:=K_ hbw;clear hb7 hb4 hbw;go_wp2_with (first|((with_reducible refine zE (N:=25) rfl ?_);refine lo_ (g:=g7) (cs:=#[.bool b,.string (⟨#[48]⟩:ByteArray),.string B,.int .i64 C]) _ ⟨BK BK7⟩ ?_ rfl rfl rfl Tryz.underlying36 rfl zao)|((with_reducible refine zW (p:=4) rfl ?_);refine so_ (g:=g4) (cs:=#[.bool false,.string (⟨#[]⟩:ByteArray),.string (⟨#[]⟩:ByteArray),.int .i64 0]) (#[.bool b,.string (⟨#[48]⟩:ByteArray),.string B,.int .i64 C]) ⟨BK BK4⟩ ?_ rfl rfl rfl rfl rfl zao rfl rfl;intro w9 hbk hfar hbel;replace BK4:=K_ hbk;replace HB:=K_ (hbel _ _ GE4.out (BL HB));clear hbk hfar hbel))
    refine bodyPost_ret (results_cell_row rfl _ _ g4 36 (#[.bool b,.string (⟨#[48]⟩:ByteArray),.string B,.int .i64 C]) (0,0) _ rfl BK4.out Tryz.underlying36 rfl zao) rfl ?_;exact⟨HRE.out,BL HB⟩
   have hie:(A++B).toList.isEmpty=false:=by
    cases hh:(A++B).toList.isEmpty
    ·rfl
    exact absurd (xN (by rw[←ByteArray.toList_eq,List.isEmpty_iff.1 hh])) hem
   have HRE:=K_ (show Ending.returned (Value.agg #[.bool b,.string A,.string B,.int .i64 C])=.returned (.agg #[.bool b,.string (zbl q.P (vB s1) e1).1,.string (zbl q.P (vB s1) e1).2.1,.int .i64 (zbl q.P (vB s1) e1).2.2]) by rw[HRES.out];unfold zgt;rw[if_neg hem]);clear hem HRES;go_wp2_with (first|((with_reducible refine zE (N:=25) rfl ?_);refine lo_ (g:=g7) (cs:=#[.bool b,.string A,.string B,.int .i64 C]) _ ⟨BK BK7⟩ ?_ rfl rfl rfl Tryz.underlying36 rfl zao)|((with_reducible refine zW (p:=4) rfl ?_);refine so_ (g:=g4) (cs:=#[.bool false,.string (⟨#[]⟩:ByteArray),.string (⟨#[]⟩:ByteArray),.int .i64 0]) (#[.bool b,.string A,.string B,.int .i64 C]) ⟨BK BK4⟩ ?_ rfl rfl rfl rfl rfl zao rfl rfl;intro w9 hbk hfar hbel;replace BK4:=K_ hbk;replace HB:=K_ (hbel _ _ GE4.out (BL HB));clear hbk hfar hbel))
   refine bodyPost_ret (results_cell_row rfl _ _ g4 36 (#[.bool b,.string A,.string B,.int .i64 C]) (0,0) _ rfl BK4.out Tryz.underlying36 rfl zao) rfl ?_;exact⟨HRE.out,BL HB⟩
  rw[hsci] at e14;obtain⟨A,B,C,hrr⟩:∃ (A B:ByteArray) (C:Int),(A,B,C)=zbY q.P (vB s1) e1:=⟨_,_,_,rfl⟩
  have hA:A=(zbY q.P (vB s1) e1).1:=by rw[←hrr]
  have hB':B=(zbY q.P (vB s1) e1).2.1:=by rw[←hrr]
  have hC:C=(zbY q.P (vB s1) e1).2.2:=by rw[←hrr]
  have HRR:=K_ (show Ending.returned (Value.agg #[.bool b,.string A,.string B,.int .i64 C])=.returned (.agg #[.bool b,.string (zbY q.P (vB s1) e1).1,.string (zbY q.P (vB s1) e1).2.1,.int .i64 (zbY q.P (vB s1) e1).2.2]) by rw[hA,hB',hC]);have hsz:A.size≤200000∧B.size≤200000:=by rw[hA,hB'];exact zlY HGD.out HOK1.out
  have hbig:¬ 9223372036854775807<A.size+B.size:=by omega
  have HRES:=K_ (show zbl q.P (vB s1) e1=zgt (A,B,C) by unfold zbl;rw[hsci,hrr];rfl);clear hA hB' hC hrr hsz hsci;go_upto_region 6 with (first|((with_reducible refine zE (N:=15) rfl ?_);refine lo_ (g:=g2) (cs:=q.cs) _ ⟨BK BK2⟩ ?_ rfl rfl rfl Tryz.underlying26 rfl jX)|((with_reducible refine zE (N:=16) rfl ?_);refine lo_ (g:=g5) (cs:=#[.bool b,.string s1,.int .i64 e1]) _ ⟨BK BK5⟩ ?_ rfl rfl rfl Tryz.underlying23 rfl jI)|(go_at_call 39;refine (zjL q HGD.out b s1 e1 HOK1.out _).mono ?_;rintro e9 w' ⟨he9,hb⟩;rw[←HRR.out] at he9;subst he9;replace HB:=zF HB hb;replace BK4:=zC BK4 hb;clear hb)|((with_reducible refine zE (N:=7) rfl ?_);refine be_ 7 (#[.bool false,.string (⟨#[]⟩:ByteArray),.string (⟨#[]⟩:ByteArray),.int .i64 0]) 36 ?_;intro g7 hg w2 hbox hb;have BK7:=K_ hbox;have GE7:=ge_ hg HB;have NB4_7:=nb_ hg BK4;replace BK4:=zC BK4 hb;replace HB:=zF HB hb;clear hb hbox hg)|((with_reducible refine zW (p:=7) rfl ?_);refine so_ (g:=g7) (cs:=#[.bool false,.string (⟨#[]⟩:ByteArray),.string (⟨#[]⟩:ByteArray),.int .i64 0]) (#[.bool b,.string A,.string B,.int .i64 C]) ⟨BK BK7⟩ ?_ rfl rfl rfl rfl rfl zao rfl rfl;intro w9 hbk hfar hbel;replace BK4:=K_ (hfar _ _ (by first|exact NB4_7.out|exact Ne.symm NB7_4.out) (BK BK4));replace BK7:=K_ hbk;replace HB:=K_ (hbel _ _ GE7.out (BL HB));clear hbk hfar hbel))
  have e71:=(show w9.cell? ⟨g7,1,none⟩=some (.string A) from (zA BK7.out 1).trans rfl)
  have e72:=(show w9.cell? ⟨g7,2,none⟩=some (.string B) from (zA BK7.out 2).trans rfl)
  have f71:=zM BK7.out 1;by_cases hem:A++B=(⟨#[]⟩:ByteArray)
  ·have hie:(A++B).toList.isEmpty=true:=by rw[hem,ByteArray.toList_eq];rfl
   have HRE:=K_ (show Ending.returned (Value.agg #[.bool b,.string (⟨#[48]⟩:ByteArray),.string B,.int .i64 C])=.returned (.agg #[.bool b,.string (zbl q.P (vB s1) e1).1,.string (zbl q.P (vB s1) e1).2.1,.int .i64 (zbl q.P (vB s1) e1).2.2]) by rw[HRES.out];unfold zgt;rw[if_pos hem]);clear hem HRES;go_upto_region 8 with (fail)
   refine zbO (fun wx=>wx.heap[g7]?=some (.cells #[.bool b,.string (⟨#[48]⟩:ByteArray),.string B,.int .i64 C] 36 (0,0))∧wx.heap[g4]?=some (.cells #[.bool false,.string (⟨#[]⟩:ByteArray),.string (⟨#[]⟩:ByteArray),.int .i64 0] 36 (0,0))∧Below w.heap.size w wx) ⟨BP BK7,zS (BK BK4) NB4_7.out _,BL HB⟩ ?_;clear e71 e72 f71 BK7 BK4 HB;rintro W5 ⟨hb7,hb4,hbw⟩;have BK7:=K_ hb7;have BK4:=K_ hb4;have HB:=K_ hbw;clear hb7 hb4 hbw;go_wp2_with (first|((with_reducible refine zE (N:=25) rfl ?_);refine lo_ (g:=g7) (cs:=#[.bool b,.string (⟨#[48]⟩:ByteArray),.string B,.int .i64 C]) _ ⟨BK BK7⟩ ?_ rfl rfl rfl Tryz.underlying36 rfl zao)|((with_reducible refine zW (p:=4) rfl ?_);refine so_ (g:=g4) (cs:=#[.bool false,.string (⟨#[]⟩:ByteArray),.string (⟨#[]⟩:ByteArray),.int .i64 0]) (#[.bool b,.string (⟨#[48]⟩:ByteArray),.string B,.int .i64 C]) ⟨BK BK4⟩ ?_ rfl rfl rfl rfl rfl zao rfl rfl;intro w9 hbk hfar hbel;replace BK4:=K_ hbk;replace HB:=K_ (hbel _ _ GE4.out (BL HB));clear hbk hfar hbel))
   refine bodyPost_ret (results_cell_row rfl _ _ g4 36 (#[.bool b,.string (⟨#[48]⟩:ByteArray),.string B,.int .i64 C]) (0,0) _ rfl BK4.out Tryz.underlying36 rfl zao) rfl ?_;exact⟨HRE.out,BL HB⟩
  have hie:(A++B).toList.isEmpty=false:=by
   cases hh:(A++B).toList.isEmpty
   ·rfl
   exact absurd (xN (by rw[←ByteArray.toList_eq,List.isEmpty_iff.1 hh])) hem
  have HRE:=K_ (show Ending.returned (Value.agg #[.bool b,.string A,.string B,.int .i64 C])=.returned (.agg #[.bool b,.string (zbl q.P (vB s1) e1).1,.string (zbl q.P (vB s1) e1).2.1,.int .i64 (zbl q.P (vB s1) e1).2.2]) by rw[HRES.out];unfold zgt;rw[if_neg hem]);clear hem HRES;go_wp2_with (first|((with_reducible refine zE (N:=25) rfl ?_);refine lo_ (g:=g7) (cs:=#[.bool b,.string A,.string B,.int .i64 C]) _ ⟨BK BK7⟩ ?_ rfl rfl rfl Tryz.underlying36 rfl zao)|((with_reducible refine zW (p:=4) rfl ?_);refine so_ (g:=g4) (cs:=#[.bool false,.string (⟨#[]⟩:ByteArray),.string (⟨#[]⟩:ByteArray),.int .i64 0]) (#[.bool b,.string A,.string B,.int .i64 C]) ⟨BK BK4⟩ ?_ rfl rfl rfl rfl rfl zao rfl rfl;intro w9 hbk hfar hbel;replace BK4:=K_ hbk;replace HB:=K_ (hbel _ _ GE4.out (BL HB));clear hbk hfar hbel))
  refine bodyPost_ret (results_cell_row rfl _ _ g4 36 (#[.bool b,.string A,.string B,.int .i64 C]) (0,0) _ rfl BK4.out Tryz.underlying36 rfl zao) rfl ?_;exact⟨HRE.out,BL HB⟩
theorem xP.drewN {q:Pat} {W:World} {b n:Nat} (h:xP q W b):xP q (W.drewN n) b:=⟨Kd.R_drewN h.r0 _,Kd.R_drewN h.r1 _,Kd.R_drewN h.r3 _,Kd.R_drewN h.r4 _⟩
theorem xP.drew {q:Pat} {W:World} {b:Nat} (h:xP q W b):xP q W.drew b:=⟨Kd.R_drew h.r0,Kd.R_drew h.r1,Kd.R_drew h.r3,Kd.R_drew h.r4⟩
set_option maxHeartbeats 8000000 in
set_option maxRecDepth 100000 in
theorem zkl (s:ByteArray) (hs:s.size≤1048576) (b:Bool) (s2:ByteArray) (e:Int) (hs2:s2.size≤140737488351232) (w:World) :
  Calls Tryz.prog 12 #[.string s,.agg #[.bool b,.string s2,.int .i64 e]] w fun e' w'=>∃ (q:Pat) (ok:Bool),e'=.returned (.tuple #[.agg q.cs,.bool ok])∧xP q w' w.heap.size∧Below w.heap.size w w'∧(ok=true→zbh q∧s2.size≤120):=by
 have HB:=K_ (Below.refl w.heap.size w);have d12:decide ((s2.size:Int)≤120)=decide (s2.size≤120):=by rw[decide_eq_decide];omega
 go_enter Tryz.func12,Tryz.ntmps12
 go_upto_region 2 with (first|((with_reducible refine zE (N:=3) rfl ?_);refine bx_ 3 (#[.bool b,.string s2,.int .i64 e]) 23 ?_ rfl rfl rfl rfl rfl;intro g3 hg w2 hbox hb;have BK3:=K_ hbox;have GE3:=ge_ hg HB;replace HB:=zF HB hb;clear hb hbox hg)|((with_reducible refine zE (N:=4) rfl ?_);refine be_ 4 (Z26) 26 ?_;intro g4 hg w2 hbox hb;have BK4:=K_ hbox;have GE4:=ge_ hg HB;have NB3_4:=nb_ hg BK3;replace BK3:=zC BK3 hb;replace HB:=zF HB hb;clear hb hbox hg)|(go_at_call 31;refine (zjN s hs _).mono ?_;rintro e9 w' ⟨q,E,a,rfl,hrr,hb,hqg,-⟩;have HRR:=K_ (hrr.lower (zQ (BL HB)));have HQ:=K_ hqg;replace HB:=zF HB hb;replace BK3:=zC BK3 hb;replace BK4:=zC BK4 hb;clear hb hrr hqg)|((with_reducible refine zE (N:=6) rfl ?_);refine be_ 6 (Z26) 26 ?_;intro g6 hg w2 hbox hb;have BK6:=K_ hbox;have GE6:=ge_ hg HB;have NB3_6:=nb_ hg BK3;replace BK3:=zC BK3 hb;have NB4_6:=nb_ hg BK4;replace BK4:=zC BK4 hb;replace HRR:=K_ (HRR.out.below hb);replace HB:=zF HB hb;clear hb hbox hg)|((with_reducible refine zE (N:=7) rfl ?_);refine be_ 7 (Z51) 51 ?_;intro g7 hg w2 hbox hb;have BK7:=K_ hbox;have GE7:=ge_ hg HB;have NB3_7:=nb_ hg BK3;replace BK3:=zC BK3 hb;have NB4_7:=nb_ hg BK4;replace BK4:=zC BK4 hb;have NB6_7:=nb_ hg BK6;replace BK6:=zC BK6 hb;replace HRR:=K_ (HRR.out.below hb);replace HB:=zF HB hb;clear hb hbox hg)|((with_reducible refine zW (p:=6) rfl ?_);refine so_ (g:=g6) (cs:=Z26) (q.cs) ⟨BK BK6⟩ ?_ rfl rfl rfl rfl rfl jX rfl rfl;intro w9 hbk hfar hbel;replace BK3:=K_ (hfar _ _ (by first|exact NB3_6.out|exact Ne.symm NB6_3.out) (BK BK3));replace BK4:=K_ (hfar _ _ (by first|exact NB4_6.out|exact Ne.symm NB6_4.out) (BK BK4));replace BK7:=K_ (hfar _ _ (by first|exact NB7_6.out|exact Ne.symm NB6_7.out) (BK BK7));replace HRR:=K_ (HRR.out.so (BK BK6) (by decide) hfar);replace BK6:=K_ hbk;replace HB:=K_ (hbel _ _ GE6.out (BL HB));clear hbk hfar hbel)|((with_reducible refine zW (p:=7) rfl ?_);refine so_ (g:=g7) (cs:=Z51) (#[.int .i64 E,.int .i64 a]) ⟨BK BK7⟩ ?_ rfl rfl rfl rfl rfl qD rfl rfl;intro w9 hbk hfar hbel;replace BK3:=K_ (hfar _ _ (by first|exact NB3_7.out|exact Ne.symm NB7_3.out) (BK BK3));replace BK4:=K_ (hfar _ _ (by first|exact NB4_7.out|exact Ne.symm NB7_4.out) (BK BK4));replace BK6:=K_ (hfar _ _ (by first|exact NB6_7.out|exact Ne.symm NB7_6.out) (BK BK6));replace HRR:=K_ (HRR.out.so (BK BK7) (by decide) hfar);replace BK7:=K_ hbk;replace HB:=K_ (hbel _ _ GE7.out (BL HB));clear hbk hfar hbel))
 by_cases hE0:E=0
 ·have dE:(E==0)=true:=beq_iff_eq.2 hE0
  have hE:=K_ hE0;clear hE0;by_cases h3:s.size≤300
  ·have d3:decide ((s.size:Int)≤300)=true:=decide_eq_true (by omega)
   refine yI (n:=17) (S:=fun W=>W.heap[g6]?=some (.cells q.cs 26 (0,0))∧W.cell? ⟨g7,0,none⟩=some (.int .i64 E)∧W.cell? ⟨g3,1,none⟩=some (.string s2)) (ds:=[]) #[false,false,false,false,false,false,false,false,false,false,false,false,false,false,false,false,false] (by kernel_rfl) rfl rfl ⟨BK BK6,(zA (BK BK7) 0).trans rfl,(zA (BK BK3) 1).trans rfl⟩ (fun hHeld=>?_);refine jL (fun W=>W.heap[g3]?=some (.cells #[.bool b,.string s2,.int .i64 e] 23 (0,0))∧W.heap[g4]?=some (.cells Z26 26 (0,0))∧W.heap[g6]?=some (.cells q.cs 26 (0,0))∧W.heap[g7]?=some (.cells #[.int .i64 E,.int .i64 a] 51 (0,0))∧xP q W w.heap.size∧Below w.heap.size w W) ⟨BK BK3,BK BK4,BK BK6,BK BK7,HRR.out.drew,BL HB⟩ ?_;clear hHeld BK3 BK4 BK6 BK7 HRR HB;rintro W ⟨hb3,hb4,hb6,hb7,hrr,hbw⟩;have BK3:=K_ hb3;have BK4:=K_ hb4;have BK6:=K_ hb6;have BK7:=K_ hb7;have HRR:=K_ hrr;have HB:=K_ hbw;clear hb3 hb4 hb6 hb7 hrr hbw;have hHeld:=(show W.heap[g6]?=some (.cells q.cs 26 (0,0))∧W.cell? ⟨g7,0,none⟩=some (.int .i64 E)∧W.cell? ⟨g3,1,none⟩=some (.string s2) from ⟨BK6.out,(zA BK7.out 0).trans rfl,(zA BK3.out 1).trans rfl⟩)
   refine tr_ 0 13 (bb 17 1) (q.cs) (fun _ hs=>⟨hs.1⟩) Tryz.underlying26 jX hHeld ?_;refine pw_ 1 14 (bb 17 3) ?_;refine tw_ 2 15 (bb 17 7) hHeld ?_;refine vR (i:=3) (N:=some 16) (v:=.bool true) (bb 17 15) rfl rfl (by kernel_rfl) (fun _ _ _ h=>h) (Or.inl ⟨by rfl,fun w'=>by first|(go_simp;done)|(go_simp;rw[dE];done)|(go_simp;rw[dE];rfl)|(go_simp;simp[dE];done)⟩) (by simp only[Act.put,List.setIfInBounds_toArray,List.set_cons_zero,List.set_cons_succ];rfl) ?_;refine pw_ 4 17 (bb 17 31) ?_;refine pw_ 5 18 (bb 17 63) ?_;refine pw_ 6 19 (bb 17 127) ?_;refine vR (i:=7) (N:=some 20) (v:=.bool true) (bb 17 255) rfl rfl (by kernel_rfl) (fun _ _ _ h=>h) (Or.inl ⟨by rfl,fun w'=>by first|(go_simp;done)|(go_simp;rw[d3];done)|(go_simp;rw[d3];rfl)|(go_simp;simp[d3];done)⟩) (by simp only[Act.put,List.setIfInBounds_toArray,List.set_cons_zero,List.set_cons_succ];rfl) ?_;refine pw_ 8 21 (bb 17 511) ?_;refine pw_ 9 22 (bb 17 1023) ?_;refine pw_ 10 23 (bb 17 2047) ?_;refine tw_ 11 24 (bb 17 4095) hHeld ?_;refine pw_ 12 25 (bb 17 8191) ?_;refine vR (i:=13) (N:=some 26) (v:=.bool (decide (s2.size≤120))) (bb 17 16383) rfl rfl (by kernel_rfl) (fun _ _ _ h=>h) (Or.inl ⟨by rfl,fun w'=>by first|(go_simp;done)|(go_simp;rw[d12];done)|(go_simp;rw[d12];rfl)|(go_simp;simp[d12];done)⟩) (by simp only[Act.put,List.setIfInBounds_toArray,List.set_cons_zero,List.set_cons_succ];rfl) ?_;refine pw_ 14 27 (bb 17 32767) ?_;refine on_ 15 none (bb 17 65535) (fun K hK=>?_);refine yX (g:=g4) (cs:=Z26) q.cs BK4 ?_ rfl rfl rfl rfl rfl jX rfl rfl
   intro w9 hbk hfar hbel;have BK4':=K_ hbk;replace HRR:=K_ (HRR.out.so BK4.out (by decide) hfar);replace BK3:=K_ (hfar _ _ NB3_4.out BK3.out);replace BK6:=K_ (hfar _ _ (Ne.symm NB4_6.out) BK6.out);replace BK7:=K_ (hfar _ _ (Ne.symm NB4_7.out) BK7.out);replace HB:=K_ (hbel _ _ GE4.out HB.out);refine hK.out _ _ ⟨BK6.out,(zA BK7.out 0).trans rfl,(zA BK3.out 1).trans rfl⟩ (fun _=>?_);clear hK K hbk hfar hbel;refine pw_ 16 5 (bb 17 131071) ?_;refine vF (by kernel_rfl) ?_;go_wp2_with (fail)
   refine bodyPost_ret (jA rfl _ _ g4 26 q.cs (0,0) _ rfl BK4'.out Tryz.underlying26 rfl jX) rfl ?_;exact⟨q,decide (s2.size≤120),rfl,HRR.out,BL HB,fun h=>⟨HQ.out hE.out,of_decide_eq_true h⟩⟩
  have d3:decide ((s.size:Int)≤300)=false:=decide_eq_false (by omega);refine yI (n:=17) (S:=fun W=>W.heap[g6]?=some (.cells q.cs 26 (0,0))∧W.cell? ⟨g7,0,none⟩=some (.int .i64 E)∧W.cell? ⟨g3,1,none⟩=some (.string s2)) (ds:=[]) #[false,false,false,false,false,false,false,false,false,false,false,false,false,false,false,false,false] (by kernel_rfl) rfl rfl ⟨BK BK6,(zA (BK BK7) 0).trans rfl,(zA (BK BK3) 1).trans rfl⟩ (fun hHeld=>?_);refine jL (fun W=>W.heap[g3]?=some (.cells #[.bool b,.string s2,.int .i64 e] 23 (0,0))∧W.heap[g4]?=some (.cells Z26 26 (0,0))∧W.heap[g6]?=some (.cells q.cs 26 (0,0))∧W.heap[g7]?=some (.cells #[.int .i64 E,.int .i64 a] 51 (0,0))∧xP q W w.heap.size∧Below w.heap.size w W) ⟨BK BK3,BK BK4,BK BK6,BK BK7,HRR.out.drew,BL HB⟩ ?_;clear hHeld BK3 BK4 BK6 BK7 HRR HB;rintro W ⟨hb3,hb4,hb6,hb7,hrr,hbw⟩;have BK3:=K_ hb3;have BK4:=K_ hb4;have BK6:=K_ hb6;have BK7:=K_ hb7;have HRR:=K_ hrr;have HB:=K_ hbw;clear hb3 hb4 hb6 hb7 hrr hbw;have hHeld:=(show W.heap[g6]?=some (.cells q.cs 26 (0,0))∧W.cell? ⟨g7,0,none⟩=some (.int .i64 E)∧W.cell? ⟨g3,1,none⟩=some (.string s2) from ⟨BK6.out,(zA BK7.out 0).trans rfl,(zA BK3.out 1).trans rfl⟩)
  refine tr_ 0 13 (bb 17 1) (q.cs) (fun _ hs=>⟨hs.1⟩) Tryz.underlying26 jX hHeld ?_;refine pw_ 1 14 (bb 17 3) ?_;refine tw_ 2 15 (bb 17 7) hHeld ?_;refine vR (i:=3) (N:=some 16) (v:=.bool true) (bb 17 15) rfl rfl (by kernel_rfl) (fun _ _ _ h=>h) (Or.inl ⟨by rfl,fun w'=>by first|(go_simp;done)|(go_simp;rw[dE];done)|(go_simp;rw[dE];rfl)|(go_simp;simp[dE];done)⟩) (by simp only[Act.put,List.setIfInBounds_toArray,List.set_cons_zero,List.set_cons_succ];rfl) ?_;refine pw_ 4 17 (bb 17 31) ?_;refine pw_ 5 18 (bb 17 63) ?_;refine pw_ 6 19 (bb 17 127) ?_;refine vR (i:=7) (N:=some 20) (v:=.bool false) (bb 17 255) rfl rfl (by kernel_rfl) (fun _ _ _ h=>h) (Or.inl ⟨by rfl,fun w'=>by first|(go_simp;done)|(go_simp;rw[d3];done)|(go_simp;rw[d3];rfl)|(go_simp;simp[d3];done)⟩) (by simp only[Act.put,List.setIfInBounds_toArray,List.set_cons_zero,List.set_cons_succ];rfl) ?_;refine pw_ 8 21 (bb 17 511) ?_;refine pw_ 9 22 (bb 17 1023) ?_;refine vR (i:=10) (N:=some 23) (v:=undef) (bb 17 2047) rfl rfl (by kernel_rfl) (fun _ _ _ h=>h) (Or.inr ⟨by rfl,rfl⟩) (by simp only[Act.put,List.setIfInBounds_toArray,List.set_cons_zero,List.set_cons_succ];rfl) ?_;refine vR (i:=11) (N:=some 24) (v:=undef) (bb 17 4095) rfl rfl (by kernel_rfl) (fun _ _ _ h=>h) (Or.inr ⟨by rfl,rfl⟩) (by simp only[Act.put,List.setIfInBounds_toArray,List.set_cons_zero,List.set_cons_succ];rfl) ?_;refine vR (i:=12) (N:=some 25) (v:=undef) (bb 17 8191) rfl rfl (by kernel_rfl) (fun _ _ _ h=>h) (Or.inr ⟨by rfl,rfl⟩) (by simp only[Act.put,List.setIfInBounds_toArray,List.set_cons_zero,List.set_cons_succ];rfl) ?_
  refine vR (i:=13) (N:=some 26) (v:=undef) (bb 17 16383) rfl rfl (by kernel_rfl) (fun _ _ _ h=>h) (Or.inr ⟨by rfl,rfl⟩) (by simp only[Act.put,List.setIfInBounds_toArray,List.set_cons_zero,List.set_cons_succ];rfl) ?_;refine pw_ 14 27 (bb 17 32767) ?_;refine on_ 15 none (bb 17 65535) (fun K hK=>?_);refine yX (g:=g4) (cs:=Z26) q.cs BK4 ?_ rfl rfl rfl rfl rfl jX rfl rfl;intro w9 hbk hfar hbel;have BK4':=K_ hbk;replace HRR:=K_ (HRR.out.so BK4.out (by decide) hfar);replace BK3:=K_ (hfar _ _ NB3_4.out BK3.out);replace BK6:=K_ (hfar _ _ (Ne.symm NB4_6.out) BK6.out);replace BK7:=K_ (hfar _ _ (Ne.symm NB4_7.out) BK7.out);replace HB:=K_ (hbel _ _ GE4.out HB.out);refine hK.out _ _ ⟨BK6.out,(zA BK7.out 0).trans rfl,(zA BK3.out 1).trans rfl⟩ (fun _=>?_);clear hK K hbk hfar hbel;refine pw_ 16 5 (bb 17 131071) ?_;refine vF (by kernel_rfl) ?_;go_wp2_with (fail)
  refine bodyPost_ret (jA rfl _ _ g4 26 q.cs (0,0) _ rfl BK4'.out Tryz.underlying26 rfl jX) rfl ?_;exact⟨q,false,rfl,HRR.out,BL HB,fun h=>by cases h⟩
 have dE:(E==0)=false:=beq_eq_false_iff_ne.2 hE0;refine yI (n:=17) (S:=fun W=>W.heap[g6]?=some (.cells q.cs 26 (0,0))∧W.cell? ⟨g7,0,none⟩=some (.int .i64 E)∧W.cell? ⟨g3,1,none⟩=some (.string s2)) (ds:=[]) #[false,false,false,false,false,false,false,false,false,false,false,false,false,false,false,false,false] (by kernel_rfl) rfl rfl ⟨BK BK6,(zA (BK BK7) 0).trans rfl,(zA (BK BK3) 1).trans rfl⟩ (fun hHeld=>?_);refine jL (fun W=>W.heap[g3]?=some (.cells #[.bool b,.string s2,.int .i64 e] 23 (0,0))∧W.heap[g4]?=some (.cells Z26 26 (0,0))∧W.heap[g6]?=some (.cells q.cs 26 (0,0))∧W.heap[g7]?=some (.cells #[.int .i64 E,.int .i64 a] 51 (0,0))∧xP q W w.heap.size∧Below w.heap.size w W) ⟨BK BK3,BK BK4,BK BK6,BK BK7,HRR.out.drew,BL HB⟩ ?_;clear hHeld BK3 BK4 BK6 BK7 HRR HB;rintro W ⟨hb3,hb4,hb6,hb7,hrr,hbw⟩;have BK3:=K_ hb3;have BK4:=K_ hb4;have BK6:=K_ hb6;have BK7:=K_ hb7;have HRR:=K_ hrr;have HB:=K_ hbw;clear hb3 hb4 hb6 hb7 hrr hbw;have hHeld:=(show W.heap[g6]?=some (.cells q.cs 26 (0,0))∧W.cell? ⟨g7,0,none⟩=some (.int .i64 E)∧W.cell? ⟨g3,1,none⟩=some (.string s2) from ⟨BK6.out,(zA BK7.out 0).trans rfl,(zA BK3.out 1).trans rfl⟩)
 refine tr_ 0 13 (bb 17 1) (q.cs) (fun _ hs=>⟨hs.1⟩) Tryz.underlying26 jX hHeld ?_;refine pw_ 1 14 (bb 17 3) ?_;refine tw_ 2 15 (bb 17 7) hHeld ?_;refine vR (i:=3) (N:=some 16) (v:=.bool false) (bb 17 15) rfl rfl (by kernel_rfl) (fun _ _ _ h=>h) (Or.inl ⟨by rfl,fun w'=>by first|(go_simp;done)|(go_simp;rw[dE];done)|(go_simp;rw[dE];rfl)|(go_simp;simp[dE];done)⟩) (by simp only[Act.put,List.setIfInBounds_toArray,List.set_cons_zero,List.set_cons_succ];rfl) ?_;refine pw_ 4 17 (bb 17 31) ?_;refine vR (i:=5) (N:=some 18) (v:=undef) (bb 17 63) rfl rfl (by kernel_rfl) (fun _ _ _ h=>h) (Or.inr ⟨by rfl,rfl⟩) (by simp only[Act.put,List.setIfInBounds_toArray,List.set_cons_zero,List.set_cons_succ];rfl) ?_;refine vR (i:=6) (N:=some 19) (v:=undef) (bb 17 127) rfl rfl (by kernel_rfl) (fun _ _ _ h=>h) (Or.inr ⟨by rfl,rfl⟩) (by simp only[Act.put,List.setIfInBounds_toArray,List.set_cons_zero,List.set_cons_succ];rfl) ?_;refine vR (i:=7) (N:=some 20) (v:=undef) (bb 17 255) rfl rfl (by kernel_rfl) (fun _ _ _ h=>h) (Or.inr ⟨by rfl,rfl⟩) (by simp only[Act.put,List.setIfInBounds_toArray,List.set_cons_zero,List.set_cons_succ];rfl) ?_;refine pw_ 8 21 (bb 17 511) ?_;refine pw_ 9 22 (bb 17 1023) ?_;refine vR (i:=10) (N:=some 23) (v:=undef) (bb 17 2047) rfl rfl (by kernel_rfl) (fun _ _ _ h=>h) (Or.inr ⟨by rfl,rfl⟩) (by simp only[Act.put,List.setIfInBounds_toArray,List.set_cons_zero,List.set_cons_succ];rfl) ?_;refine vR (i:=11) (N:=some 24) (v:=undef) (bb 17 4095) rfl rfl (by kernel_rfl) (fun _ _ _ h=>h) (Or.inr ⟨by rfl,rfl⟩) (by simp only[Act.put,List.setIfInBounds_toArray,List.set_cons_zero,List.set_cons_succ];rfl) ?_
 refine vR (i:=12) (N:=some 25) (v:=undef) (bb 17 8191) rfl rfl (by kernel_rfl) (fun _ _ _ h=>h) (Or.inr ⟨by rfl,rfl⟩) (by simp only[Act.put,List.setIfInBounds_toArray,List.set_cons_zero,List.set_cons_succ];rfl) ?_;refine vR (i:=13) (N:=some 26) (v:=undef) (bb 17 16383) rfl rfl (by kernel_rfl) (fun _ _ _ h=>h) (Or.inr ⟨by rfl,rfl⟩) (by simp only[Act.put,List.setIfInBounds_toArray,List.set_cons_zero,List.set_cons_succ];rfl) ?_;refine pw_ 14 27 (bb 17 32767) ?_;refine on_ 15 none (bb 17 65535) (fun K hK=>?_);refine yX (g:=g4) (cs:=Z26) q.cs BK4 ?_ rfl rfl rfl rfl rfl jX rfl rfl;intro w9 hbk hfar hbel;have BK4':=K_ hbk;replace HRR:=K_ (HRR.out.so BK4.out (by decide) hfar);replace BK3:=K_ (hfar _ _ NB3_4.out BK3.out);replace BK6:=K_ (hfar _ _ (Ne.symm NB4_6.out) BK6.out);replace BK7:=K_ (hfar _ _ (Ne.symm NB4_7.out) BK7.out);replace HB:=K_ (hbel _ _ GE4.out HB.out);refine hK.out _ _ ⟨BK6.out,(zA BK7.out 0).trans rfl,(zA BK3.out 1).trans rfl⟩ (fun _=>?_);clear hK K hbk hfar hbel;refine pw_ 16 5 (bb 17 131071) ?_;refine vF (by kernel_rfl) ?_;go_wp2_with (fail)
 refine bodyPost_ret (jA rfl _ _ g4 26 q.cs (0,0) _ rfl BK4'.out Tryz.underlying26 rfl jX) rfl ?_;exact⟨q,false,rfl,HRR.out,BL HB,fun h=>by cases h⟩
theorem zmw {q:Pat} (hq:zbh q) (m:Int) (b:Bool) {n:Nat} {e:Int} (hn:(zU n).size≤1000) (h1:-1000≤e) (h2:e≤1000):(zU (rN q m b n e)).size≤8000∧-3000≤rK q n e∧rK q n e≤3000:=by
 obtain⟨m0,m3⟩:=zhJ q;obtain⟨s1,s2,s3,s4⟩:=zpV hq.good hq.more (yD n (e+q.mult));obtain⟨c1,c2,c3⟩:=zlv hq.good;have ht:=zjm (n:=n) (e:=e+q.mult) (by omega) (by omega) (by omega);have e1:=zdd n (e+q.mult) hn;have e2:=zcA n (e+q.mult);have hc:(zU (yJ n)).size≤1000:=xO (zfH n) hn;unfold rN rK;obtain⟨p,hp⟩:∃ p,p=(stP q.P (yD n (e+q.mult))).2:=⟨_,rfl⟩
 rw[←hp] at s4 ⊢;have h:=zlU (m:=m) (neg:=b) (n:=yJ n) (st:=(stP q.P (yD n (e+q.mult))).1) (e:=nE n (e+q.mult)) (p:=p) (k:=min (nE n (e+q.mult)) p) hc s2 s1 (by omega) (by omega);refine⟨Nat.le_trans h ?_,by omega,by omega⟩;omega
def zfi (q:Pat) (n:Nat) (e:Int):Bool:=decide (atE (yJ n) (nE n (e+q.mult)) (rK q n e) % atE (stP q.P (yD n (e+q.mult))).1 (stP q.P (yD n (e+q.mult))).2 (rK q n e)=0)
theorem zpK {q:Pat} (hq:zbh q) {m:Int} {b:Bool} {n:Nat} {e:Int} (h:zfi q n e=true):rN q m b n e=atE (yJ n) (nE n (e+q.mult)) (rK q n e):=by
 have h:=of_decide_eq_true h;unfold rN rv0;show rq m b (atE (yJ n) (nE n (e+q.mult)) (rK q n e)) (atE _ _ (rK q n e)) * atE _ _ (rK q n e)=_
 rw[zmH h];exact Nat.div_mul_cancel (Nat.dvd_of_mod_eq_zero h)
theorem zgK {q:Pat} (hq:zbh q) {m:Int} (b:Bool) {n:Nat} {e:Int} (h:m=7→zfi q n e=true) :
  zaa m b (yJ n) (nE n (e+q.mult)) (stP q.P (yD n (e+q.mult))).1 (stP q.P (yD n (e+q.mult))).2=(b,nD (rN q m b n e),nE (rN q m b n e) (rK q n e),0):=by
 by_cases hm:m=7
 ·have hf:=h hm
  rw[zpK hq hf,zje,zjw _ (by unfold rK;omega)];exact zdi (of_decide_eq_true hf)
 exact zdL hm b (yJ n) (nE n (e+q.mult)) _ _
def zft (q:Pat) (m:Int) (b:Bool) (n:Nat) (e:Int):Bool×ByteArray×Int×Int:=if m=7∧zfi q n e=false then (false,⟨#[]⟩,0,11) else zkU b (rN q m b n e) (rX q m b n e)
theorem zlh {q:Pat} (hq:zbh q) {m:Int} (h0:0≤m) (h7:m≤7) (b:Bool) {s:ByteArray} {e:Int} (hg:zbH s e=true) (hr:zaM (vB s) e=true) :
  zgE q m b s e (zft q m b (vB s) e):=by
 obtain⟨g1,g2,g3,g4,g5⟩:=zcO.1 hg;obtain⟨m0,m3⟩:=zhJ q;have okd:=OkD.of_good hg;have hn:(zU (vB s)).size≤1000:=Nat.le_trans okd.val g3;have okE:OkD s (e+q.mult):=⟨g1,g2,by omega,by omega,by omega⟩
 have okS:=OkS.norm (n:=vB s) (e:=e+q.mult) (by omega) (by omega) (by omega);have hc:vB (nD (vB s))=yJ (vB s):=zdQ _;have ht:=zjm (n:=vB s) (e:=e+q.mult) (by omega) (by omega) (by omega);have hr1:xV.f b s e=some true:=by rw[zhP okd (OkD.norm (by omega) (by omega) (by omega)),hr]
 refine .inr (.inr (.inr ⟨zop h0 (by omega),by rw[zlw (by omega),hg],hr1,b,nD (vB s),nE (vB s) (e+q.mult),_,zmP okE (by omega) (by omega) (by omega) (by omega),ziP hq.good hq.more h0 (by omega) okS (by rw[hc,zaL];omega) (by rw[hc,zaL];omega),?_⟩));rw[hc,zaL];by_cases hx:m=7∧zfi q (vB s) e=false
 ·obtain⟨rfl,hf⟩:=hx
  have hf2:¬ atE (yJ (vB s)) (nE (vB s) (e+q.mult)) (rK q (vB s) e) % atE (stP q.P (yD (vB s) (e+q.mult))).1 (stP q.P (yD (vB s) (e+q.mult))).2 (rK q (vB s) e)=0:=of_decide_eq_false hf;left
  rw[zbI hf2];refine⟨by show (11:Int)≠0;decide,?_⟩;unfold zft;rw[if_pos ⟨rfl,hf⟩]
 right
 rw[zgK hq b (fun h=>by cases hh:zfi q (vB s) e;exact absurd ⟨h,hh⟩ hx;rfl)];obtain⟨k1,k2,k3⟩:=zmw hq m b (n:=vB s) (e:=e) hn (by omega) (by omega);obtain⟨N,hN⟩:∃ N,N=rN q m b (vB s) e:=⟨_,rfl⟩
 obtain⟨k,hk⟩:∃ k,k=rK q (vB s) e:=⟨_,rfl⟩
 have e1:rX q m b (vB s) e=nE (yJ N) (nE N k + -q.mult):=by unfold rX;rw[←hN,←hk]
 unfold zft;rw[if_neg hx,e1];show ((0:Int)=0∧_)
 refine⟨rfl,b,nD N,nE (yJ N) (nE N k + -q.mult),zaM (yJ N) (nE (yJ N) (nE N k + -q.mult)),?_,?_,?_⟩
 ·show vS.f b (nD (rN q m b (vB s) e)) (nE (rN q m b (vB s) e) (rK q (vB s) e)) (-q.mult)=_
  rw[←hN,←hk];rw[←hN] at k1;rw[←hk] at k2 k3;have a1:=zdd N k k1;have a2:=zcA N k;have a3:=zgJ (n:=N) k1 (by omega);rw[zmP ⟨zeC N,zew N,by omega,by omega,by omega⟩ (by omega) (by omega) (by omega) (by omega),zdQ,zhM]
 ·rw[←hN] at k1
  rw[←hk] at k2 k3;have a1:=zdd N k k1;have a2:=zcA N k;have a3:=zgJ (n:=N) k1 (by omega);have hcz:(zU (yJ N)).size≤8000:=xO (zfH N) k1;have b1:=zdd (yJ N) (nE N k + -q.mult) hcz;have b2:=zcA (yJ N) (nE N k + -q.mult);have b3:=zdd (yJ N) (nE (yJ N) (nE N k + -q.mult)) hcz;have b4:=zcA (yJ N) (nE (yJ N) (nE N k + -q.mult));have:=zhP (b:=b) (s:=nD N) (e:=nE (yJ N) (nE N k + -q.mult)) ⟨zeC N,zew N,by omega,by omega,by omega⟩ (by rw[zdQ,zhM];exact⟨zeC N,zew N,by omega,by omega,by omega⟩)
  rw[this,zdQ]
 unfold zkU;rw[hN]
def zbd (q:Pat) (m:Int) (b:Bool) (s:ByteArray) (e:Int):Bool×ByteArray×Int×Int:=
 if 0≤m∧m≤7 then if zbH s e=true then if zaM (vB s) e=true then zft q m b (vB s) e else (false,⟨#[]⟩,0,10) else (false,⟨#[]⟩,0,9) else (false,⟨#[]⟩,0,1)
theorem zhR {q:Pat} (hq:zbh q) (m:Int) (b:Bool) {s:ByteArray} (e:Int) (hs:s.size≤100000):zgE q m b s e (zbd q m b s e):=by
 unfold zbd;by_cases hm:0≤m∧m≤7
 ·rw[if_pos hm]
  have hM:=zop hm.1 hm.2;by_cases hg:zbH s e=true
  ·rw[if_pos hg]
   by_cases hr:zaM (vB s) e=true
   ·rw[if_pos hr];exact zlh hq hm.1 hm.2 b hg hr
   rw[if_neg hr];have okd:=OkD.of_good hg;obtain⟨g1,g2,g3,g4,g5⟩:=zcO.1 hg;have hn:(zU (vB s)).size≤1000:=Nat.le_trans okd.val g3;exact .inr (.inr (.inl ⟨hM,by rw[zlw (by omega),hg],by rw[zhP okd (OkD.norm (by omega) (by omega) (by omega))];cases h:zaM (vB s) e;rfl;exact absurd h hr,rfl⟩))
  rw[if_neg hg];exact .inr (.inl ⟨hM,by rw[zlw (by omega)];cases h:zbH s e;rfl;exact absurd h hg,rfl⟩)
 rw[if_neg hm];refine .inl ⟨?_,rfl⟩;unfold yF.f;by_cases h:m ≥ 0
 ·rw[if_pos h,decide_eq_false (by omega)]
 rw[if_neg h]
def s19:ByteArray:=⟨#[35,35,48,46,35,35,69,48]⟩
def l19:List S71:=[⟨35,false,0⟩,⟨35,false,1⟩,⟨48,false,2⟩,⟨46,false,3⟩,⟨35,false,4⟩,⟨35,false,5⟩,⟨69,false,6⟩,⟨48,false,7⟩]
theorem zqK:zG.f 100 s19=some (l19,0,0):=by kernel_rfl
def P19:jZ:=⟨1,3,0,2,0,0,0,0,⟨#[]⟩,true,1,false⟩
theorem n19:vI (zbk (l19.map mk73) (qK (l19.map mk73)) (qF (l19.map mk73)) (l19.map mk73).length)=some P19:=by kernel_rfl
theorem h19:zaq (l19.map mk73) P19:=⟨by decide +kernel,by kernel_rfl,n19,by kernel_rfl⟩
theorem p19:jM (uO (l19.map mk73) (qK (l19.map mk73)) l19.length)=[]:=by kernel_rfl
theorem f19:jM (uN (l19.map mk73) (qF (l19.map mk73)) l19.length)=[]:=by kernel_rfl
theorem zqE:zai l19:=by unfold zai;decide +kernel
theorem zqM:zaN l19:=by unfold zaN;decide +kernel
theorem zqL:¬ mixed ([]:List S80) [] [⟨2,0⟩] []:=by unfold mixed sgn;decide +kernel
theorem zqG:Ev (fun k=>zG.f k s19) (l19,0,0):=Ev.of (zG.mono s19) zqK
theorem zqA {q:Pat} (h0:q.l0=[]) (h1:q.l1=[]) (h3:q.l3=[⟨2,0⟩]) (h4:q.l4=[]):q.mult=0:=by
 unfold Pat.mult Pat.sg;rw[h0,h1,h3,h4];rfl
theorem zpF {q:Pat} {E:Int} (h:zmN s19 q E):E=0∧q.P=P19∧q.mult=0:=by
 have hx:=h l19 zqG zqE zqM P19 h19;rw[p19,f19] at hx;obtain⟨h1,h2,h3,h4,h5,h6⟩:=hx zqL;refine⟨h1,h2,zqA h3 h4 (by rw[h5,h3]) (by rw[h6,h4])⟩
theorem zoW {q:Pat} (hq:zbh q) (hP:q.P=P19) (hm:q.mult=0):zgE q 4 false ⟨#[49,50,51,52,53]⟩ 0 (false,⟨#[49,50,51]⟩,2,0):=by
 have h:=zhR hq 4 false (s:=⟨#[49,50,51,52,53]⟩) 0 (by decide);have e:zbd q 4 false ⟨#[49,50,51,52,53]⟩ 0=(false,⟨#[49,50,51]⟩,2,0):=by
  unfold zbd zft zkU rX zfi rN rK;rw[hP,hm];decide +kernel
 rw[e] at h;exact h
theorem zov {q:Pat} (hm:q.mult=0):vS.f false ⟨#[49,50,51]⟩ 2 q.mult=some (false,⟨#[49,50,51]⟩,2):=by rw[hm];kernel_rfl
theorem zqz {q:Pat} (hP:q.P=P19):zbl q.P (vB ⟨#[49,50,51]⟩) 2=(⟨#[49,50]⟩,⟨#[51]⟩,3):=by rw[hP];decide +kernel
theorem zqD:OkS ⟨#[49,50,51]⟩ 2:=⟨rfl,by decide,by decide,by decide,by decide⟩
set_option maxHeartbeats 8000000 in
set_option maxRecDepth 100000 in
theorem zen (w:World) (hG:Fig.Glob w):Calls Tryz.prog 13 #[] w fun e w'=>e=.returned (.bool true)∧Below w.heap.size w w':=by
 have HB:=K_ (Below.refl w.heap.size w);have HG:=K_ hG;clear hG;go_enter Tryz.func13,Tryz.ntmps13
 go_upto_region 2 with (first|(go_at_call 31;refine (zjN ⟨#[35,35,48,46,35,35,69,48]⟩ (by decide) _).mono ?_;rintro e9 w' ⟨q,E,a,rfl,hrr,hb,hqg,hex⟩;obtain⟨rfl,hP,hm⟩:=zpF hex;have HP:=K_ hP;have HM:=K_ hm;have HRR:=K_ (hrr.lower (zQ (BL HB)));have HQ:=K_ (hqg rfl);replace HB:=zF HB hb;clear hb hrr hqg hex hP hm)|((with_reducible refine zE (N:=1) rfl ?_);refine be_ 1 (Z26) 26 ?_;intro g1 hg w2 hbox hb;have BK1:=K_ hbox;have GE1:=ge_ hg HB;replace HRR:=K_ (HRR.out.below hb);replace HB:=zF HB hb;clear hb hbox hg)|((with_reducible refine zE (N:=2) rfl ?_);refine be_ 2 (Z51) 51 ?_;intro g2 hg w2 hbox hb;have BK2:=K_ hbox;have GE2:=ge_ hg HB;have NB1_2:=nb_ hg BK1;replace BK1:=zC BK1 hb;replace HRR:=K_ (HRR.out.below hb);replace HB:=zF HB hb;clear hb hbox hg)|((with_reducible refine zW (p:=1) rfl ?_);refine so_ (g:=g1) (cs:=Z26) (q.cs) ⟨BK BK1⟩ ?_ rfl rfl rfl rfl rfl jX rfl rfl;intro w9 hbk hfar hbel;replace BK2:=K_ (hfar _ _ (by first|exact NB2_1.out|exact Ne.symm NB1_2.out) (BK BK2));replace HRR:=K_ (HRR.out.so (BK BK1) (by decide) hfar);replace BK1:=K_ hbk;replace HB:=K_ (hbel _ _ GE1.out (BL HB));clear hbk hfar hbel)|((with_reducible refine zW (p:=2) rfl ?_);refine so_ (g:=g2) (cs:=Z51) (#[.int .i64 0,.int .i64 a]) ⟨BK BK2⟩ ?_ rfl rfl rfl rfl rfl qD rfl rfl;intro w9 hbk hfar hbel;replace BK1:=K_ (hfar _ _ (by first|exact NB1_2.out|exact Ne.symm NB2_1.out) (BK BK1));replace HRR:=K_ (HRR.out.so (BK BK2) (by decide) hfar);replace BK2:=K_ hbk;replace HB:=K_ (hbel _ _ GE2.out (BL HB));clear hbk hfar hbel))
 clear BK2;go_upto_region 3 with (first|((with_reducible refine zE (N:=11) rfl ?_);refine lo_ (g:=g1) (cs:=q.cs) _ ⟨BK BK1⟩ ?_ rfl rfl rfl Tryz.underlying26 rfl jX)|(go_at_call 14;refine (zgL q HQ.out.good 4 false ⟨#[49,50,51,52,53]⟩ 0 (false,⟨#[49,50,51]⟩,2,0) (zoW HQ.out HP.out HM.out) _ (xP.ok HRR.out HQ.out) (Fig.Glob.below HG.out (BL HB))).mono ?_;rintro e9 w' ⟨rfl,hb⟩;replace HRR:=K_ (HRR.out.below hb);replace HB:=zF HB hb;replace BK1:=zC BK1 hb;clear hb)|((with_reducible refine zE (N:=3) rfl ?_);refine be_ 3 (#[.bool false,.string (⟨#[]⟩:ByteArray),.int .i64 0]) 23 ?_;intro g3 hg w2 hbox hb;have BK3:=K_ hbox;have GE3:=ge_ hg HB;have NB1_3:=nb_ hg BK1;replace BK1:=zC BK1 hb;replace HRR:=K_ (HRR.out.below hb);replace HB:=zF HB hb;clear hb hbox hg)|((with_reducible refine zW (p:=3) rfl ?_);refine so_ (g:=g3) (cs:=#[.bool false,.string (⟨#[]⟩:ByteArray),.int .i64 0]) (#[.bool false,.string (⟨#[49,50,51]⟩:ByteArray),.int .i64 2]) ⟨BK BK3⟩ ?_ rfl rfl rfl rfl rfl jI rfl rfl;intro w9 hbk hfar hbel;replace BK1:=K_ (hfar _ _ (by first|exact NB1_3.out|exact Ne.symm NB3_1.out) (BK BK1));replace HRR:=K_ (HRR.out.so (BK BK3) (by decide) hfar);replace BK3:=K_ hbk;replace HB:=K_ (hbel _ _ GE3.out (BL HB));clear hbk hfar hbel))
 go_upto_region 4 with (first|((with_reducible refine zE (N:=16) rfl ?_);refine lo_ (g:=g1) (cs:=q.cs) _ ⟨BK BK1⟩ ?_ rfl rfl rfl Tryz.underlying26 rfl jX)|((with_reducible refine zE (N:=17) rfl ?_);refine lo_ (g:=g3) (cs:=#[.bool false,.string (⟨#[49,50,51]⟩:ByteArray),.int .i64 2]) _ ⟨BK BK3⟩ ?_ rfl rfl rfl Tryz.underlying23 rfl jI)|(go_at_call 16;refine (znE q HQ.out.good false ⟨#[49,50,51]⟩ 2 ⟨#[49,50,51]⟩ 2 (zov HM.out) zqD _ (xP.ok HRR.out HQ.out)).mono ?_;rintro e9 w' ⟨he9,hb⟩;rw[zqz HP.out] at he9;subst he9;replace HRR:=K_ (HRR.out.below hb);replace HB:=zF HB hb;replace BK1:=zC BK1 hb;replace BK3:=zC BK3 hb;clear hb)|((with_reducible refine zE (N:=5) rfl ?_);refine be_ 5 (#[.bool false,.string (⟨#[]⟩:ByteArray),.string (⟨#[]⟩:ByteArray),.int .i64 0]) 36 ?_;intro g5 hg w2 hbox hb;have BK5:=K_ hbox;have GE5:=ge_ hg HB;have NB1_5:=nb_ hg BK1;replace BK1:=zC BK1 hb;have NB3_5:=nb_ hg BK3;replace BK3:=zC BK3 hb;replace HRR:=K_ (HRR.out.below hb);replace HB:=zF HB hb;clear hb hbox hg)|((with_reducible refine zW (p:=5) rfl ?_);refine so_ (g:=g5) (cs:=#[.bool false,.string (⟨#[]⟩:ByteArray),.string (⟨#[]⟩:ByteArray),.int .i64 0]) (#[.bool false,.string (⟨#[49,50]⟩:ByteArray),.string (⟨#[51]⟩:ByteArray),.int .i64 3]) ⟨BK BK5⟩ ?_ rfl rfl rfl rfl rfl zao rfl rfl;intro w9 hbk hfar hbel;replace BK1:=K_ (hfar _ _ (by first|exact NB1_5.out|exact Ne.symm NB5_1.out) (BK BK1));replace BK3:=K_ (hfar _ _ (by first|exact NB3_5.out|exact Ne.symm NB5_3.out) (BK BK3));replace HRR:=K_ (HRR.out.so (BK BK5) (by decide) hfar);replace BK5:=K_ hbk;replace HB:=K_ (hbel _ _ GE5.out (BL HB));clear hbk hfar hbel))
 go_wp2_with (first|((with_reducible refine zE (N:=22) rfl ?_);refine zcT (g:=g3) (cs:=#[.bool false,.string (⟨#[49,50,51]⟩:ByteArray),.int .i64 2]) _ ⟨BK BK3⟩ ?_ (by rfl) rfl rfl Tryz.underlying23 rfl jI)|((with_reducible refine zE (N:=27) rfl ?_);refine zcT (g:=g5) (cs:=#[.bool false,.string (⟨#[49,50]⟩:ByteArray),.string (⟨#[51]⟩:ByteArray),.int .i64 3]) _ ⟨BK BK5⟩ ?_ (by rfl) rfl rfl Tryz.underlying36 rfl zao)|((with_reducible refine zE (N:=32) rfl ?_);refine zcT (g:=g1) (cs:=q.cs) _ ⟨BK BK1⟩ ?_ (by rfl) rfl rfl Tryz.underlying26 rfl jX)|(go_at_call 27;refine (zgn q _).mono ?_;rintro e9 w' ⟨he9,hb⟩;rw[HP.out,show zar P19=true from rfl] at he9;subst he9;replace HB:=zF HB hb;clear hb))
 go_ret
 exact⟨rfl,BL HB⟩
set_option maxHeartbeats 4000000 in
set_option maxRecDepth 100000 in
theorem zmJ (q:Pat) (w:World):Calls Tryz.prog 28 #[.agg q.cs] w fun e w'=>e=.returned (.bool (zar q.P))∧Below w.heap.size w w':=by
 have HB:=K_ (Below.refl w.heap.size w);go_enter Tryz.func28,Tryz.ntmps28
 go_upto_region 1 with ((with_reducible refine zE (N:=1) rfl ?_);refine bx_ 1 q.cs 26 ?_ rfl rfl rfl rfl rfl;intro g1 hg w2 hbox hb;have BK1:=K_ hbox;replace HB:=zF HB hb;clear hb hbox hg)
 have e14:w2.cell? ⟨g1,14,none⟩=some (.bool q.P.sci):=(zA BK1.out 14).trans rfl;have e6:w2.cell? ⟨g1,6,none⟩=some (.int .i64 q.P.xi):=(zA BK1.out 6).trans rfl;have e5:w2.cell? ⟨g1,5,none⟩=some (.int .i64 q.P.mi):=(zA BK1.out 5).trans rfl;have HE:=K_ (show zar q.P=(q.P.sci&&(decide (q.P.mi<q.P.xi)&&decide (1<q.P.xi))) from rfl);cases hs:q.P.sci
 ·rw[hs] at e14 HE
  go_wp2
  go_ret
  exact⟨by rw[HE.out];rfl,BL HB⟩
 rw[hs] at e14 HE;by_cases h1:q.P.mi<q.P.xi
 ·have d1:decide (q.P.mi<q.P.xi)=true:=decide_eq_true h1
  rw[d1] at HE;by_cases h2:1<q.P.xi
  ·have d2:decide (1<q.P.xi)=true:=decide_eq_true h2
   rw[d2] at HE;go_wp2
   go_ret
   exact⟨by rw[HE.out];rfl,BL HB⟩
  have d2:decide (1<q.P.xi)=false:=decide_eq_false h2;rw[d2] at HE;go_wp2
  go_ret
  exact⟨by rw[HE.out];rfl,BL HB⟩
 have d1:decide (q.P.mi<q.P.xi)=false:=decide_eq_false h1;rw[d1] at HE;go_wp2
 go_ret
 exact⟨by rw[HE.out];rfl,BL HB⟩
set_option maxHeartbeats 4000000 in
set_option maxRecDepth 100000 in
theorem zjW (q:Pat) (hg:uS q.P) (w:World):Calls Tryz.prog 30 #[.agg q.cs] w fun e w'=>e=.returned (.int .i64 (yA q.P))∧Below w.heap.size w w':=by
 have HB:=K_ (Below.refl w.heap.size w);have hz:q.P.mi+q.P.xf=0 ↔ q.P.mi=0∧q.P.xf=0:=by have:=hg.mi0;have:=hg.mf0;have:=hg.mfx;omega
 have HZ:=K_ hz;have HW:=K_ (show yA q.P=if 0<q.P.ms∨(zar q.P=true∧q.P.mi=0)∨q.P.mi+q.P.xf=0 then 1 else q.P.mi from rfl);clear hg hz;go_enter Tryz.func30,Tryz.ntmps30
 go_upto_region 1 with ((with_reducible refine zE (N:=1) rfl ?_);refine bx_ 1 (q.cs) 26 ?_ rfl rfl rfl rfl rfl;intro g1 hg w2 hbox hb;have BK1:=K_ hbox;have GE1:=ge_ hg HB;replace HB:=zF HB hb;clear hb hbox hg)
 have e9:=(show w2.cell? ⟨g1,9,none⟩=some (.int .i64 q.P.ms) from (zA BK1.out 9).trans rfl)
 have e5:=(show w2.cell? ⟨g1,5,none⟩=some (.int .i64 q.P.mi) from (zA BK1.out 5).trans rfl)
 have e8:=(show w2.cell? ⟨g1,8,none⟩=some (.int .i64 q.P.xf) from (zA BK1.out 8).trans rfl)
 by_cases h9:0<q.P.ms
 ·have d9:decide (0<q.P.ms)=true:=decide_eq_true h9
  have HR:=K_ (show yA q.P=1 by rw[HW.out,if_pos (.inl h9)]);clear e5 e8 HW;go_wp2
  go_ret
  exact⟨by rw[HR.out];rfl,BL HB⟩
 have d9:decide (0<q.P.ms)=false:=decide_eq_false h9;have HE:∀ W,Aside0 (Calls Tryz.prog 28 #[.agg q.cs] W fun e w'=>e=.returned (.bool (zar q.P))∧Below W.heap.size W w'):=fun W=>K_ (zmJ q W)
 have h1:(zar q.P=true∧q.P.mi=0)∨((zar q.P=false∨q.P.mi≠0)):=by
  cases zar q.P
  ·exact .inr (.inl rfl)
  by_cases h:q.P.mi=0
  ·exact .inl ⟨rfl,h⟩
  exact .inr (.inr h)
 by_cases h5:q.P.mi=0
 ·have d5:(q.P.mi==0)=true:=beq_iff_eq.2 h5
  by_cases h8:q.P.xf=0
  ·have d8:(q.P.xf==0)=true:=beq_iff_eq.2 h8
   have HR:=K_ (show yA q.P=1 by rw[HW.out,if_pos (.inr (.inr (HZ.out.2 ⟨h5,h8⟩)))]);clear HW h5 h8 h1;cases hs:zar q.P
   all_goals
    rw[hs] at HE;clear hs;go_wp2_with (first|((with_reducible refine zE (N:=7) rfl ?_);refine zcT (g:=g1) (cs:=q.cs) _ ⟨BK BK1⟩ ?_ (by rfl) rfl rfl Tryz.underlying26 rfl jX)|(go_at_call 28;refine ((HE _).out).mono ?_;rintro e w' ⟨rfl,hb⟩;replace HB:=zF HB hb;replace BK1:=zC BK1 hb;clear hb e5 e8;have e5:=(show w'.cell? ⟨g1,5,none⟩=some (.int .i64 q.P.mi) from (zA BK1.out 5).trans rfl);have e8:=(show w'.cell? ⟨g1,8,none⟩=some (.int .i64 q.P.xf) from (zA BK1.out 8).trans rfl)))
    go_ret
    exact⟨by rw[HR.out];rfl,BL HB⟩
  have d8:(q.P.xf==0)=false:=beq_eq_false_iff_ne.2 h8;cases hs:zar q.P
  ·have HR:=K_ (show yA q.P=q.P.mi by rw[HW.out,if_neg (by rw[hs,HZ.out];rintro (h|h|h);exact h9 h;exact absurd h.1 (by decide);exact h8 h.2)])
   rw[hs] at HE;clear hs HW h5 h8 h1;go_wp2_with (first|((with_reducible refine zE (N:=7) rfl ?_);refine zcT (g:=g1) (cs:=q.cs) _ ⟨BK BK1⟩ ?_ (by rfl) rfl rfl Tryz.underlying26 rfl jX)|(go_at_call 28;refine ((HE _).out).mono ?_;rintro e w' ⟨rfl,hb⟩;replace HB:=zF HB hb;replace BK1:=zC BK1 hb;clear hb e5 e8;have e5:=(show w'.cell? ⟨g1,5,none⟩=some (.int .i64 q.P.mi) from (zA BK1.out 5).trans rfl);have e8:=(show w'.cell? ⟨g1,8,none⟩=some (.int .i64 q.P.xf) from (zA BK1.out 8).trans rfl)))
   go_ret
   exact⟨by rw[HR.out];rfl,BL HB⟩
  have HR:=K_ (show yA q.P=1 by rw[HW.out,if_pos (.inr (.inl ⟨hs,h5⟩))]);rw[hs] at HE;clear hs HW h5 h8 h1;go_wp2_with (first|((with_reducible refine zE (N:=7) rfl ?_);refine zcT (g:=g1) (cs:=q.cs) _ ⟨BK BK1⟩ ?_ (by rfl) rfl rfl Tryz.underlying26 rfl jX)|(go_at_call 28;refine ((HE _).out).mono ?_;rintro e w' ⟨rfl,hb⟩;replace HB:=zF HB hb;replace BK1:=zC BK1 hb;clear hb e5 e8;have e5:=(show w'.cell? ⟨g1,5,none⟩=some (.int .i64 q.P.mi) from (zA BK1.out 5).trans rfl);have e8:=(show w'.cell? ⟨g1,8,none⟩=some (.int .i64 q.P.xf) from (zA BK1.out 8).trans rfl)))
  go_ret
  exact⟨by rw[HR.out];rfl,BL HB⟩
 have d5:(q.P.mi==0)=false:=beq_eq_false_iff_ne.2 h5;have HR:=K_ (show yA q.P=q.P.mi by rw[HW.out,if_neg (by rw[HZ.out];rintro (h|h|h);exact h9 h;exact h5 h.2;exact h5 h.1)]);clear HW h5 h1;cases hs:zar q.P
 all_goals
  rw[hs] at HE;clear hs;go_wp2_with (first|((with_reducible refine zE (N:=7) rfl ?_);refine zcT (g:=g1) (cs:=q.cs) _ ⟨BK BK1⟩ ?_ (by rfl) rfl rfl Tryz.underlying26 rfl jX)|(go_at_call 28;refine ((HE _).out).mono ?_;rintro e w' ⟨rfl,hb⟩;replace HB:=zF HB hb;replace BK1:=zC BK1 hb;clear hb e5 e8;have e5:=(show w'.cell? ⟨g1,5,none⟩=some (.int .i64 q.P.mi) from (zA BK1.out 5).trans rfl);have e8:=(show w'.cell? ⟨g1,8,none⟩=some (.int .i64 q.P.xf) from (zA BK1.out 8).trans rfl)))
  go_ret
  exact⟨by rw[HR.out];rfl,BL HB⟩
set_option maxHeartbeats 4000000 in
set_option maxRecDepth 100000 in
theorem zig (q:Pat) (hg:uS q.P) (w:World):Calls Tryz.prog 26 #[.agg q.cs] w fun e w'=>e=.returned (.tuple #[.int .i64 (zaV q.P).1,.int .i64 (zaV q.P).2])∧Below w.heap.size w w':=by
 have HB:=K_ (Below.refl w.heap.size w);have HG:=K_ hg;have hb1:=zcm hg;have hw1:wrap64 (yA q.P+q.P.mf)=yA q.P+q.P.mf:=by have:=hg.mf0;have:=hg.mfx;have:=hg.xf4;unfold wrap64;omega
 have hw2:wrap64 (yA q.P+q.P.xf)=yA q.P+q.P.xf:=by have:=hg.mf0;have:=hg.mfx;have:=hg.xf4;unfold wrap64;omega
 have HW2:=K_ (show zaV q.P=if 0<q.P.ms then (q.P.ms,q.P.xs) else (yA q.P+q.P.mf,yA q.P+q.P.xf) from rfl);clear hg hb1;go_enter Tryz.func26,Tryz.ntmps26
 go_upto_region 1 with ((with_reducible refine zE (N:=1) rfl ?_);refine bx_ 1 (q.cs) 26 ?_ rfl rfl rfl rfl rfl;intro g1 hg w2 hbox hb;have BK1:=K_ hbox;have GE1:=ge_ hg HB;replace HB:=zF HB hb;clear hb hbox hg)
 have e9:=(show w2.cell? ⟨g1,9,none⟩=some (.int .i64 q.P.ms) from (zA BK1.out 9).trans rfl)
 by_cases h9:0<q.P.ms
 ·have d9:decide (0<q.P.ms)=true:=decide_eq_true h9
  have HR:=K_ (show zaV q.P=(q.P.ms,q.P.xs) by rw[HW2.out,if_pos h9]);have e10:=(show w2.cell? ⟨g1,10,none⟩=some (.int .i64 q.P.xs) from (zA BK1.out 10).trans rfl)
  clear HW2;go_upto_region 2 with (fail)
  go_region
  go_wp2_with (fail)
  go_ret2
  exact⟨by rw[HR.out];rfl,BL HB⟩
 have d9:decide (0<q.P.ms)=false:=decide_eq_false h9;have HR:=K_ (show zaV q.P=(wrap64 (yA q.P+q.P.mf),wrap64 (yA q.P+q.P.xf)) by rw[HW2.out,if_neg h9,hw1,hw2]);clear HW2 hw1 hw2;go_upto_region 4 with (first|((with_reducible refine zE (N:=12) rfl ?_);refine lo_ (g:=g1) (cs:=q.cs) _ ⟨BK BK1⟩ ?_ rfl rfl rfl Tryz.underlying26 rfl jX)|(go_at_call 30;refine (zjW q HG.out _).mono ?_;rintro e9 w' ⟨rfl,hb⟩;replace HB:=zF HB hb;replace BK1:=zC BK1 hb;clear hb))
 clear e9;have e7:=(show w'.cell? ⟨g1,7,none⟩=some (.int .i64 q.P.mf) from (zA BK1.out 7).trans rfl)
 have e8:=(show w'.cell? ⟨g1,8,none⟩=some (.int .i64 q.P.xf) from (zA BK1.out 8).trans rfl)
 go_region
 go_wp2_with (fail)
 go_ret2
 exact⟨by rw[HR.out];rfl,BL HB⟩
end Go.Proofs.YtcmgdjnjmobkoaaGreatDoor.Px
namespace Go.Proofs.YtcmgdjnjmobkoaaGreatDoor.Px
open Fig Go.RowKit Go.Proofs.YtcmgdjnjmobkoaaGreatDoorW.PrintWords Go.Proofs.YtcmgdjnjmobkoaaGreatDoorW.PrintLast Go.Proofs.YtcmgdjnjmobkoaaGreatDoorW.PrintMore
attribute [local go_sem] vK vL uE uD yS yP vM vJ
attribute [local go_sem] qQ qX qL qW qY qN qZ xA qT qS qU qV xB qO
def jG.l0:Nat→Int→List Int→Int→Option (ByteArray)
 | 0,_,_,_=>none
 | k+1,x0,x3,x4=>if x4<x0 then (if x3.length<140737488355328 then (jG.l0 k x0 (x3++[48]) (wrap64 (x4+1))) else (none)) else (some (strOfNums x3))
def jG.f (k:Nat) (a0:Int):Option (ByteArray):=jG.l0 k a0 ([]:List Int) 0
set_option maxHeartbeats 8000000 in
set_option maxRecDepth 100000 in
theorem jG.calls (k:Nat) (a0:Int) (r:ByteArray) (w:World) (h:jG.f k a0=some r) :
  Calls Tryz.prog 70 #[.int .i64 a0] w fun e w'=>e=.returned (.string r)∧Below w.heap.size w w':=by
 have HB:=K_ (Below.refl w.heap.size w);have H:(jG.l0 k a0 ([]:List Int) 0)=some r:=h;clear h;have H':=K_ H;clear H;go_enter Tryz.func70,Tryz.ntmps70
 go_wp2
 go_loopg [3,4] k (fun kq v3 v4 w'=>∃ (x3_1:List Int) (x4_1:Int),v4=.int .i64 x4_1∧Aside0 (jG.l0 kq a0 x3_1 x4_1=some r)∧Aside0 (kq≤k)∧Aside0 (Kd.R (Kd.int .u8) 5 w' w.heap.size (fun _=>True) v3 x3_1)∧Aside0 (Below w.heap.size w w'))
 case atStart=>exact⟨(([]:List Int)),(0),SR,H',⟨Nat.le_refl _⟩,⟨by first|exact Kd.R_nil _ _ _ _ _|exact Kd.N_nil _ _ _ _ _|exact Kd.V_nil _ _ _ _ _|exact Kd.Q_nil _ _ _ _ _|exact Kd.S_nil _ _ _ _ _⟩,⟨BL HB⟩⟩
 case round =>
  clear H';obtain⟨x3_1,x4_1,rfl,HA,HK1,HO_3,HB⟩:=hrel;obtain _|k1:=gk
  ·exact absurd HA.out (by simp[jG.l0])
  have H:=HA.out;clear HA;simp only[jG.l0] at H
  by_cases c2:x4_1<a0
  ·rw[if_pos c2] at H
   have c2b0:decide (x4_1<a0)=true:=decide_eq_true c2;clear c2;by_cases c3:x3_1.length<140737488355328
   ·rw[if_pos c3] at H
    have LMc3:=K_ c3;clear c3;obtain⟨y600,hy600⟩:∃ y_:List Int,y_=(x3_1++[48]):=⟨_,rfl⟩
    replace H:(jG.l0 k1 a0 y600 (wrap64 (x4_1+1)))=some r:=by first|(rw[hy600];with_reducible exact H)|(have H2_:=(Option.bind_some _ _).symm.trans H;rw[hy600];with_reducible exact H2_)|(have H2_:=(Option.bind_some _ _).symm.trans H;with_reducible exact H2_)|with_reducible exact H|(rw[hy600];exact H)|exact H
    have Ny600:=K_ hy600;clear hy600;have H':=K_ H;clear H;go_wp2_with (first|((with_reducible refine jH (b:=.append) (xs:=#[.tmp 10,.tmp 11]) rfl ?_);at_builtin;refine Kd.R_append (Kd.int .u8) (w0:=w) w.heap.size rfl (.tmp 10) (.tmp 11) 107 5 (.int .u8 0) 1 rfl Tryz.underlying107 zfB rfl (by decide) (by omega) u3 x3_1 48 [.int .u8 48] (fun _=>True) (fun _=>False) rfl rfl ?aP (fun _ hk=>hk.elim) ?aF ?aO ?aB ?aS ?aL ?_;(case aP=>exact rfl);(case aB=>exact (BL HB));(case aF=>exact (fun _ _=>trivial));(case aO=>exact (RB HO_3.out));(case aS=>exact (zQ (BL HB)));(case aL=>have:=LMc3.out;omega);intro v601 w4 ho hb hg hat;rw[←Ny600.out] at ho;replace HB:=K_ (hb);have HO602:=K_ (ho);clear HO_3;clear ho hb hg hat))
    go_roundg k1
    case measure=>have:=HK1.out;omega
    case rel=>exact⟨(y600),(wrap64 (x4_1+1)),SR,H',⟨by have:=HK1.out;omega⟩,⟨RB HO602.out⟩,⟨BL HB⟩⟩
   rw[if_neg c3] at H;exact absurd H (by simp)
  rw[if_neg c2] at H;have c2b0:decide (x4_1<a0)=false:=decide_eq_false c2;clear c2;obtain rfl:=Option.some.inj H;have hcv5:=zdc (P:=Tryz.prog) Tryz.underlying107 Tryz.underlying5 Tryz.underlying9 (Kd.own_of_R HO_3.out);go_wp2
  go_ret
  exact⟨ER,BL HB⟩
def uX.f (k:Nat) (a0_0:Bool) (a0_1:ByteArray) (a0_2:Int) (a1:Int):Option (ByteArray):=(zO.f k a0_1).bind fun t604=>(if t604.toList=([]:List UInt8) then (some (⟨#[]⟩:ByteArray)) else ((jG.f k (wrap64 (a0_2-a1))).bind fun t605=>(if t604.size+t605.size≤9223372036854775807 then (some (t604++t605)) else (none))))
set_option maxHeartbeats 8000000 in
set_option maxRecDepth 100000 in
theorem uX.calls (k:Nat) (a0_0:Bool) (a0_1:ByteArray) (a0_2:Int) (a1:Int) (r:ByteArray) (w:World) (h:uX.f k a0_0 a0_1 a0_2 a1=some r) :
  Calls Tryz.prog 42 #[.agg #[.bool a0_0,.string a0_1,.int .i64 a0_2],.int .i64 a1] w fun e w'=>e=.returned (.string r)∧Below w.heap.size w w':=by
 have hu23:=Tryz.underlying23;have HB:=K_ (Below.refl w.heap.size w);have H:((zO.f k a0_1).bind fun t604=>(if t604.toList=([]:List UInt8) then (some (⟨#[]⟩:ByteArray)) else ((jG.f k (wrap64 (a0_2-a1))).bind fun t605=>(if t604.size+t605.size≤9223372036854775807 then (some (t604++t605)) else (none)))))=some r:=h;clear h;obtain⟨t604,A30,H⟩:=Option.bind_eq_some_iff.mp H
 (try dsimp -simprocs only at H)
 have A3:=K_ A30;clear A30;by_cases c4:t604.toList=([]:List UInt8)
 ·rw[if_pos c4] at H
  have c4b0:(t604.toList==([]:List UInt8))=true:=beq_iff_eq.mpr c4;have c4b1:(t604.toList !=([]:List UInt8))=false:=bne_eq_false_iff_eq.mpr c4;clear c4;obtain rfl:=Option.some.inj H;go_enter Tryz.func42,Tryz.ntmps42
  go_wp2_with (first|(refine be_ 2 #[.bool a0_0,.string a0_1,.int .i64 a0_2] 23 ?_;intro gb603 hg w5 hbox hb;have BK603:=K_ (hbox);have GW603:=ge_ hg HB;have GE603:=ge_ hg HB;replace HB:=zF HB hb;clear hb hbox hg;obtain⟨⟨hcz6_0,hcz6_1,hcz6_2⟩,hfz6_0,hfz6_1,hfz6_2⟩:=ce3 BK603)|((with_reducible refine zH (f:=69) rfl ?_);refine zT (some 8) rfl rfl Tryz.func69 (by kernel_rfl) rfl #[.string a0_1] rfl MP ?_;(with_reducible refine (zO.calls k a0_1 t604 _ A3.out).mono ?_);rintro e w' ⟨rfl,⟨nd,rfl⟩⟩;refine⟨_,rfl,?_⟩))
  go_ret
  exact⟨ER,BL HB⟩
 rw[if_neg c4] at H;have c4b0:(t604.toList==([]:List UInt8))=false:=beq_eq_false_iff_ne.mpr c4;have c4b1:(t604.toList !=([]:List UInt8))=true:=bne_iff_ne.mpr c4;obtain⟨t605,A70,H⟩:=Option.bind_eq_some_iff.mp H
 (try dsimp -simprocs only at H)
 have A7:=K_ A70;clear A70;by_cases c8:t604.size+t605.size≤9223372036854775807
 ·rw[if_pos c8] at H
  have c8b0:=eq_true c8;have c8b1:decide (t604.size+t605.size≤9223372036854775807)=true:=decide_eq_true c8;try have c8b2:(9223372036854775807<t604.size+t605.size)=False:=eq_false (Nat.not_lt.2 c8)
  obtain rfl:=Option.some.inj H;go_enter Tryz.func42,Tryz.ntmps42
  go_wp2_with (first|(refine be_ 2 #[.bool a0_0,.string a0_1,.int .i64 a0_2] 23 ?_;intro gb603 hg w9 hbox hb;have BK603:=K_ (hbox);have GW603:=ge_ hg HB;have GE603:=ge_ hg HB;replace HB:=zF HB hb;clear hb hbox hg;obtain⟨⟨hcz10_0,hcz10_1,hcz10_2⟩,hfz10_0,hfz10_1,hfz10_2⟩:=ce3 BK603)|((with_reducible refine zH (f:=69) rfl ?_);refine zT (some 8) rfl rfl Tryz.func69 (by kernel_rfl) rfl #[.string a0_1] rfl MP ?_;(with_reducible refine (zO.calls k a0_1 t604 _ A3.out).mono ?_);rintro e w' ⟨rfl,⟨nd,rfl⟩⟩;refine⟨_,rfl,?_⟩)|((with_reducible refine zH (f:=70) rfl ?_);refine zT (some 16) rfl rfl Tryz.func70 (by kernel_rfl) rfl #[.int .i64 (wrap64 (a0_2-a1))] rfl MP ?_;(with_reducible refine (jG.calls k (wrap64 (a0_2-a1)) t605 _ A7.out).mono ?_);rintro e w11 ⟨rfl,hb⟩;refine⟨_,rfl,?_⟩;replace BK603:=zC BK603 hb;replace HB:=zF HB hb;(try clear hb);(try clear hb2);(try clear hk);(try clear hi)))
  go_ret
  exact⟨ER,BL HB⟩
 rw[if_neg c8] at H;exact absurd H (by simp)
def yZ.f (a0:ByteArray) (a1:ByteArray):Option (Bool):=if (a0.size:Int)=(a1.size:Int) then (some (Op.bytesLess a0.toList a1.toList)) else (some (decide ((a0.size:Int)<(a1.size:Int))))
set_option maxHeartbeats 8000000 in
set_option maxRecDepth 100000 in
theorem yZ.calls (a0:ByteArray) (a1:ByteArray) (r:Bool) (w:World) (h:yZ.f a0 a1=some r) :
  Calls Tryz.prog 43 #[.string a0,.string a1] w fun e w'=>e=.returned (.bool r)∧zL w w':=by
 have H:(if (a0.size:Int)=(a1.size:Int) then (some (Op.bytesLess a0.toList a1.toList)) else (some (decide ((a0.size:Int)<(a1.size:Int)))))=some r:=h;clear h;by_cases c3:(a0.size:Int)=(a1.size:Int)
 ·rw[if_pos c3] at H
  have c3b0:((a0.size:Int)==(a1.size:Int))=true:=beq_iff_eq.mpr c3;have c3b1:((a0.size:Int) !=(a1.size:Int))=false:=bne_eq_false_iff_eq.mpr c3;have c3b2:(a0.size==a1.size)=true:=by first|simpa using c3|(simp at c3 ⊢;omega)
  clear c3;obtain rfl:=Option.some.inj H;go_enter Tryz.func43,Tryz.ntmps43
  go_wp2
  go_ret
  exact⟨by first|rfl|(simp;done)|(simp[*];done)|(simp[*,Fig.bne_nil];done),by repeat (first|exact zL.refl _|apply zL.step)⟩
 rw[if_neg c3] at H;have c3b0:((a0.size:Int)==(a1.size:Int))=false:=beq_eq_false_iff_ne.mpr c3;have c3b1:((a0.size:Int) !=(a1.size:Int))=true:=bne_iff_ne.mpr c3;have c3b2:(a0.size==a1.size)=false:=by first|simpa using c3|(simp at c3 ⊢;omega)
 obtain rfl:=Option.some.inj H;go_enter Tryz.func43,Tryz.ntmps43
 go_wp2
 go_ret
 exact⟨by first|rfl|(simp;done)|(simp[*];done)|(simp[*,Fig.bne_nil];done),by repeat (first|exact zL.refl _|apply zL.step)⟩
def vX.f (k:Nat) (a0:Bool) (a1:ByteArray) (a2:Int):Option (Bool×ByteArray×Int):=if 1+a1.size≤9223372036854775807 then ((zY.f k a0 ((⟨#[48]⟩:ByteArray)++a1) a2).bind fun bt741=>(some (bt741.1,bt741.2.1,bt741.2.2))) else (none)
set_option maxHeartbeats 8000000 in
set_option maxRecDepth 100000 in
theorem vX.calls (k:Nat) (a0:Bool) (a1:ByteArray) (a2:Int) (r1:Bool) (r2:ByteArray) (r3:Int) (w:World) (h:vX.f k a0 a1 a2=some (r1,r2,r3)) :
  Calls Tryz.prog 29 #[.bool a0,.string a1,.int .i64 a2] w fun e w'=>e=.returned (.agg #[.bool r1,.string r2,.int .i64 r3])∧Below w.heap.size w w':=by
 have hu23:=Tryz.underlying23;have HB:=K_ (Below.refl w.heap.size w);have H:(if 1+a1.size≤9223372036854775807 then ((zY.f k a0 ((⟨#[48]⟩:ByteArray)++a1) a2).bind fun bt741=>(some (bt741.1,bt741.2.1,bt741.2.2))) else (none))=some (r1,r2,r3):=h;clear h;by_cases c4:1+a1.size≤9223372036854775807
 ·rw[if_pos c4] at H
  have c4b0:=eq_true c4;have c4b1:decide (1+a1.size≤9223372036854775807)=true:=decide_eq_true c4;try have c4b2:(9223372036854775807<1+a1.size)=False:=eq_false (Nat.not_lt.2 c4)
  replace H:=Option.bind_eq_some_iff.mp H;obtain⟨⟨t741,t742,t743⟩,A50,H⟩:=H;replace H:(some (t741,t742,t743))=some (r1,r2,r3):=H;have A5:=K_ A50;clear A50;simp only[Option.some.injEq,Prod.mk.injEq] at H
  obtain⟨rfl,rfl,rfl⟩:=H;go_enter Tryz.func29,Tryz.ntmps29
  go_wp2_with (first|(refine be_ 6 #[.bool false,.string (⟨#[]⟩:ByteArray),.int .i64 0] 23 ?_;intro gb740 hg w6 hbox hb;have n0_:=zF HB hb;have n1_:=K_ (hbox);have n2_:=ge_ hg HB;have n3_:=ge_ hg HB;clear HB;have HB:=n0_;have BK740:=n1_;have GW740:=n2_;have GE740:=n3_;clear n0_ n1_ n2_ n3_;clear hb hbox hg)|((with_reducible refine zH (f:=50) rfl ?_);refine zT (some 12) rfl rfl Tryz.func50 (by kernel_rfl) rfl #[.agg #[.bool a0,.string ((⟨#[48]⟩:ByteArray)++a1),.int .i64 a2]] rfl MP ?_;(with_reducible refine (zY.calls k a0 ((⟨#[48]⟩:ByteArray)++a1) a2 t741 t742 t743 _ A5.out).mono ?_);rintro e w7 ⟨rfl,hb⟩;refine⟨_,rfl,?_⟩;have n0_:=zC BK740 hb;have n1_:=zF HB hb;clear BK740;clear HB;have BK740:=n0_;have HB:=n1_;clear n0_ n1_;(try clear hb);(try clear hb2);(try clear hk);(try clear hi);have hcz8_0:w7.cell? ⟨gb740,0,none⟩=some (.bool false):=(zA BK740.out 0).trans rfl;have hcz8_1:w7.cell? ⟨gb740,1,none⟩=some (.string (⟨#[]⟩:ByteArray)):=(zA BK740.out 1).trans rfl;have hcz8_2:w7.cell? ⟨gb740,2,none⟩=some (.int .i64 0):=(zA BK740.out 2).trans rfl;have hfz8_0:=zM BK740.out 0;have hfz8_1:=zM BK740.out 1;have hfz8_2:=zM BK740.out 2))
  refine bodyPost_ret (results_cell_row rfl _ _ gb740 23 #[.bool t741,.string t742,.int .i64 t743] (0,0) _ rfl (BP BK740) Tryz.underlying23 rfl (by kernel_rfl)) rfl ?_;exact⟨ER,BL HB⟩
 rw[if_neg c4] at H;exact absurd H (by simp)
def jF.l0:Nat→ByteArray→ByteArray→List Int→Int→Int→Option (ByteArray)
 | 0,_,_,_,_,_=>none
 | k+1,x0,x1,x5,x6,x7=>if x7<(x0.size:Int) then ((jJ.f x0 x7).bind fun t750=>((jJ.f x1 x7).bind fun t751=>(if (wrap64 ((wrap64 (t750-t751))-x6))<0 then (if x5.length<140737488355328 then (jF.l0 k x0 x1 (x5++[(wrap64 (48+(wrap64 ((wrap64 ((wrap64 (t750-t751))-x6))+10)))) % 256]) 1 (wrap64 (x7+1))) else (none)) else (if x5.length<140737488355328 then (jF.l0 k x0 x1 (x5++[(wrap64 (48+(wrap64 ((wrap64 (t750-t751))-x6)))) % 256]) 0 (wrap64 (x7+1))) else (none))))) else ((jD.f k x5).bind fun t748=>((zO.f k t748).bind fun t749=>(some t749)))
def jF.f (k:Nat) (a0:ByteArray) (a1:ByteArray):Option (ByteArray):=jF.l0 k a0 a1 ([]:List Int) 0 0
set_option maxHeartbeats 8000000 in
set_option maxRecDepth 100000 in
theorem jF.calls (k:Nat) (a0:ByteArray) (a1:ByteArray) (r:ByteArray) (w:World) (h:jF.f k a0 a1=some r) :
  Calls Tryz.prog 137 #[.string a0,.string a1] w fun e w'=>e=.returned (.string r)∧Below w.heap.size w w':=by
 have HB:=K_ (Below.refl w.heap.size w);have H:(jF.l0 k a0 a1 ([]:List Int) 0 0)=some r:=h;clear h;have H':=K_ H;clear H;go_enter Tryz.func137,Tryz.ntmps137
 go_wp2
 go_loopg [5,6,7] k (fun kq v5 v6 v7 w'=>∃ (x5_1:List Int) (x6_1:Int) (x7_1:Int),v6=.int .i64 x6_1∧v7=.int .i64 x7_1∧Aside0 (jF.l0 kq a0 a1 x5_1 x6_1 x7_1=some r)∧Aside0 (kq≤k)∧Aside0 (Kd.R (Kd.int .u8) 5 w' w.heap.size (fun _=>True) v5 x5_1)∧Aside0 (Below w.heap.size w w'))
 case atStart=>exact⟨(([]:List Int)),(0),(0),SR,SR,H',⟨Nat.le_refl _⟩,⟨by first|exact Kd.R_nil _ _ _ _ _|exact Kd.N_nil _ _ _ _ _|exact Kd.V_nil _ _ _ _ _|exact Kd.Q_nil _ _ _ _ _|exact Kd.S_nil _ _ _ _ _⟩,⟨BL HB⟩⟩
 case round =>
  clear H';obtain⟨x5_1,x6_1,x7_1,rfl,rfl,HA,HK1,HO_5,HB⟩:=hrel;obtain _|k1:=gk
  ·exact absurd HA.out (by simp[jF.l0])
  have H:=HA.out;clear HA;simp only[jF.l0] at H
  by_cases c3:x7_1<(a0.size:Int)
  ·rw[if_pos c3] at H
   have c3b0:decide (x7_1<(a0.size:Int))=true:=decide_eq_true c3;clear c3;obtain⟨t750,A40,H⟩:=Option.bind_eq_some_iff.mp H
   (try dsimp -simprocs only at H)
   have A4:=K_ A40;clear A40;obtain⟨t751,A50,H⟩:=Option.bind_eq_some_iff.mp H
   (try dsimp -simprocs only at H)
   have A5:=K_ A50;clear A50;by_cases c6:(wrap64 ((wrap64 (t750-t751))-x6_1))<0
   ·rw[if_pos c6] at H
    have c6b0:decide ((wrap64 ((wrap64 (t750-t751))-x6_1))<0)=true:=decide_eq_true c6;clear c6;by_cases c7:x5_1.length<140737488355328
    ·rw[if_pos c7] at H
     have LMc7:=K_ c7;clear c7;obtain⟨y752,hy752⟩:∃ y_:List Int,y_=(x5_1++[(wrap64 (48+(wrap64 ((wrap64 ((wrap64 (t750-t751))-x6_1))+10)))) % 256]):=⟨_,rfl⟩
     replace H:(jF.l0 k1 a0 a1 y752 1 (wrap64 (x7_1+1)))=some r:=by first|(rw[hy752];with_reducible exact H)|(have H2_:=(Option.bind_some _ _).symm.trans H;rw[hy752];with_reducible exact H2_)|(have H2_:=(Option.bind_some _ _).symm.trans H;with_reducible exact H2_)|with_reducible exact H|(rw[hy752];exact H)|exact H
     have Ny752:=K_ hy752;clear hy752;have H':=K_ H;clear H;go_wp2_with (first|((with_reducible refine zH (f:=138) rfl ?_);refine zT (some 17) rfl rfl Tryz.func138 (by kernel_rfl) rfl #[.string a0,.int .i64 x7_1] rfl MP ?_;(with_reducible refine (jJ.calls a0 x7_1 t750 _ A4.out).mono ?_);rintro e w' ⟨rfl,⟨nd,rfl⟩⟩;refine⟨_,rfl,?_⟩)|((with_reducible refine zH (f:=138) rfl ?_);refine zT (some 20) rfl rfl Tryz.func138 (by kernel_rfl) rfl #[.string a1,.int .i64 x7_1] rfl MP ?_;(with_reducible refine (jJ.calls a1 x7_1 t751 _ A5.out).mono ?_);rintro e w' ⟨rfl,⟨nd,rfl⟩⟩;refine⟨_,rfl,?_⟩)|((with_reducible refine jH (b:=.append) (xs:=#[.tmp 28,.tmp 32]) rfl ?_);at_builtin;refine Kd.R_append (Kd.int .u8) (w0:=w) w.heap.size rfl (.tmp 28) (.tmp 32) 107 5 (.int .u8 0) 1 rfl Tryz.underlying107 zfB rfl (by decide) (by omega) u5 x5_1 ((wrap64 (48+(wrap64 ((wrap64 ((wrap64 (t750-t751))-x6_1))+10)))) % 256) [.int .u8 ((wrap64 (48+(wrap64 ((wrap64 ((wrap64 (t750-t751))-x6_1))+10)))) % 256)] (fun _=>True) (fun _=>False) rfl rfl ?aP (fun _ hk=>hk.elim) ?aF ?aO ?aB ?aS ?aL ?_;(case aP=>exact rfl);(case aB=>exact (BL HB));(case aF=>exact (fun _ _=>trivial));(case aO=>exact (RB HO_5.out));(case aS=>exact (zQ (BL HB)));(case aL=>have:=LMc7.out;omega);intro v753 w8 ho hb hg hat;rw[←Ny752.out] at ho;replace HB:=K_ (hb);have HO754:=K_ (ho);clear HO_5;clear ho hb hg hat))
     go_roundg k1
     case measure=>have:=HK1.out;omega
     case rel=>exact⟨(y752),(1),(wrap64 (x7_1+1)),SR,SR,H',⟨by have:=HK1.out;omega⟩,⟨RB HO754.out⟩,⟨BL HB⟩⟩
    rw[if_neg c7] at H;exact absurd H (by simp)
   rw[if_neg c6] at H;have c6b0:decide ((wrap64 ((wrap64 (t750-t751))-x6_1))<0)=false:=decide_eq_false c6;clear c6;by_cases c9:x5_1.length<140737488355328
   ·rw[if_pos c9] at H
    have LMc9:=K_ c9;clear c9;obtain⟨y755,hy755⟩:∃ y_:List Int,y_=(x5_1++[(wrap64 (48+(wrap64 ((wrap64 (t750-t751))-x6_1)))) % 256]):=⟨_,rfl⟩
    replace H:(jF.l0 k1 a0 a1 y755 0 (wrap64 (x7_1+1)))=some r:=by first|(rw[hy755];with_reducible exact H)|(have H2_:=(Option.bind_some _ _).symm.trans H;rw[hy755];with_reducible exact H2_)|(have H2_:=(Option.bind_some _ _).symm.trans H;with_reducible exact H2_)|with_reducible exact H|(rw[hy755];exact H)|exact H
    have Ny755:=K_ hy755;clear hy755;have H':=K_ H;clear H;go_wp2_with (first|((with_reducible refine zH (f:=138) rfl ?_);refine zT (some 17) rfl rfl Tryz.func138 (by kernel_rfl) rfl #[.string a0,.int .i64 x7_1] rfl MP ?_;(with_reducible refine (jJ.calls a0 x7_1 t750 _ A4.out).mono ?_);rintro e w' ⟨rfl,⟨nd,rfl⟩⟩;refine⟨_,rfl,?_⟩)|((with_reducible refine zH (f:=138) rfl ?_);refine zT (some 20) rfl rfl Tryz.func138 (by kernel_rfl) rfl #[.string a1,.int .i64 x7_1] rfl MP ?_;(with_reducible refine (jJ.calls a1 x7_1 t751 _ A5.out).mono ?_);rintro e w' ⟨rfl,⟨nd,rfl⟩⟩;refine⟨_,rfl,?_⟩)|((with_reducible refine jH (b:=.append) (xs:=#[.tmp 28,.tmp 32]) rfl ?_);at_builtin;refine Kd.R_append (Kd.int .u8) (w0:=w) w.heap.size rfl (.tmp 28) (.tmp 32) 107 5 (.int .u8 0) 1 rfl Tryz.underlying107 zfB rfl (by decide) (by omega) u5 x5_1 ((wrap64 (48+(wrap64 ((wrap64 (t750-t751))-x6_1)))) % 256) [.int .u8 ((wrap64 (48+(wrap64 ((wrap64 (t750-t751))-x6_1)))) % 256)] (fun _=>True) (fun _=>False) rfl rfl ?aP (fun _ hk=>hk.elim) ?aF ?aO ?aB ?aS ?aL ?_;(case aP=>exact rfl);(case aB=>exact (BL HB));(case aF=>exact (fun _ _=>trivial));(case aO=>exact (RB HO_5.out));(case aS=>exact (zQ (BL HB)));(case aL=>have:=LMc9.out;omega);intro v756 w10 ho hb hg hat;rw[←Ny755.out] at ho;replace HB:=K_ (hb);have HO757:=K_ (ho);clear HO_5;clear ho hb hg hat))
    go_roundg k1
    case measure=>have:=HK1.out;omega
    case rel=>exact⟨(y755),(0),(wrap64 (x7_1+1)),SR,SR,H',⟨by have:=HK1.out;omega⟩,⟨RB HO757.out⟩,⟨BL HB⟩⟩
   rw[if_neg c9] at H;exact absurd H (by simp)
  rw[if_neg c3] at H;have c3b0:decide (x7_1<(a0.size:Int))=false:=decide_eq_false c3;clear c3;obtain⟨t748,A110,H⟩:=Option.bind_eq_some_iff.mp H
  (try dsimp -simprocs only at H)
  have A11:=K_ A110;clear A110;obtain⟨t749,A120,H⟩:=Option.bind_eq_some_iff.mp H
  (try dsimp -simprocs only at H)
  have A12:=K_ A120;clear A120;obtain rfl:=Option.some.inj H;obtain⟨Ao13,co13,eo13⟩:=Kd.R_slice HO_5.out;subst eo13;go_wp2_with (first|((with_reducible refine zH (f:=139) rfl ?_);refine zT (some 35) rfl rfl Tryz.func139 (by kernel_rfl) rfl #[.slice Ao13 x5_1.length co13] rfl MP ?_;(with_reducible refine (jD.calls k1 _ _ x5_1 t748 _ ?side1 ?side2 A11.out).mono ?_);(case side1=>exact CB ((Kd.R_reads' HO_5.out).2.2));(case side2=>exact (Kd.R_reads' HO_5.out).2.1);rintro e w14 ⟨rfl,hb⟩;refine⟨_,rfl,?_⟩;replace HO_5:=K_ (Kd.R_below (RB HO_5.out) hb);replace HB:=zF HB hb;(try clear hb);(try clear hb2);(try clear hk);(try clear hi))|((with_reducible refine zH (f:=69) rfl ?_);refine zT (some 36) rfl rfl Tryz.func69 (by kernel_rfl) rfl #[.string t748] rfl MP ?_;(with_reducible refine (zO.calls k1 t748 t749 _ A12.out).mono ?_);rintro e w' ⟨rfl,⟨nd,rfl⟩⟩;refine⟨_,rfl,?_⟩))
  go_ret
  exact⟨ER,BL HB⟩
mutual
def zX.l0:Nat→ByteArray→ByteArray→ByteArray→ByteArray→Int→Option (ByteArray×ByteArray)
 | 0,_,_,_,_,_=>none
 | k+1,x0,x1,x6,x7,x8=>if x8<(x0.size:Int) then (if 0≤x8 then (if x8≤(wrap64 (x8+1)) then (if (wrap64 (x8+1))≤(x0.size:Int) then (if x7.size+(x0.extract (x8:Int).toNat ((wrap64 (x8+1)):Int).toNat).size≤9223372036854775807 then ((zO.f k (x7++(x0.extract (x8:Int).toNat ((wrap64 (x8+1)):Int).toNat))).bind fun t759=>(zX.l1 k x0 x1 x6 t759 x8 0)) else (none)) else (none)) else (none)) else (none)) else ((zO.f k x6).bind fun t758=>(some (t758,x7)))
def zX.l1:Nat→ByteArray→ByteArray→ByteArray→ByteArray→Int→Int→Option (ByteArray×ByteArray)
 | 0,_,_,_,_,_,_=>none
 | k+1,x0,x1,x6,x7,x8,x9=>(yZ.f x7 x1).bind fun t760=>(if t760=true then ((some (([(wrap64 (48+x9)) % 256]:List Int):List Int)).bind fun y761=>(if x6.size+(strOfNums y761).size≤9223372036854775807 then (zX.l0 k x0 x1 (x6++(strOfNums y761)) x7 (wrap64 (x8+1))) else (none))) else ((jF.f k x7 x1).bind fun t764=>(zX.l1 k x0 x1 x6 t764 x8 (wrap64 (x9+1)))))
end
def zX.f (k:Nat) (a0:ByteArray) (a1:ByteArray):Option (ByteArray×ByteArray):=zX.l0 k a0 a1 (⟨#[]⟩:ByteArray) (⟨#[]⟩:ByteArray) 0
set_option maxHeartbeats 8000000 in
set_option maxRecDepth 100000 in
theorem zX.calls (k:Nat) (a0:ByteArray) (a1:ByteArray) (r1:ByteArray) (r2:ByteArray) (w:World) (h:zX.f k a0 a1=some (r1,r2)) :
  Calls Tryz.prog 109 #[.string a0,.string a1] w fun e w'=>e=.returned (.tuple #[.string r1,.string r2])∧Below w.heap.size w w':=by
 have HB:=K_ (Below.refl w.heap.size w);have H:(zX.l0 k a0 a1 (⟨#[]⟩:ByteArray) (⟨#[]⟩:ByteArray) 0)=some (r1,r2):=h;clear h;have H':=K_ H;clear H;go_enter Tryz.func109,Tryz.ntmps109
 go_wp2
 go_loopg [6,7,8] k (fun kq v6 v7 v8 w'=>∃ (x6_1:ByteArray) (x7_1:ByteArray) (x8_1:Int),v6=.string x6_1∧v7=.string x7_1∧v8=.int .i64 x8_1∧Aside0 (zX.l0 kq a0 a1 x6_1 x7_1 x8_1=some (r1,r2))∧Aside0 (kq≤k)∧Aside0 (Below w.heap.size w w'))
 case atStart=>exact⟨((⟨#[]⟩:ByteArray)),((⟨#[]⟩:ByteArray)),(0),SR,SR,SR,H',⟨Nat.le_refl _⟩,⟨BL HB⟩⟩
 case round =>
  clear H';obtain⟨x6_1,x7_1,x8_1,rfl,rfl,rfl,HA,HK1,HB⟩:=hrel;obtain _|k1:=gk
  ·exact absurd HA.out (by simp[zX.l0])
  have H:=HA.out;clear HA;simp only[zX.l0] at H
  by_cases c3:x8_1<(a0.size:Int)
  ·rw[if_pos c3] at H
   have c3b0:decide (x8_1<(a0.size:Int))=true:=decide_eq_true c3;clear c3;by_cases c4:0≤x8_1
   ·rw[if_pos c4] at H
    have c4b0:=eq_true c4;have c4b1:decide (0≤x8_1)=true:=decide_eq_true c4;clear c4;by_cases c5:x8_1≤(wrap64 (x8_1+1))
    ·rw[if_pos c5] at H
     have c5b0:=eq_true c5;have c5b1:decide (x8_1≤(wrap64 (x8_1+1)))=true:=decide_eq_true c5;by_cases c6:(wrap64 (x8_1+1))≤(a0.size:Int)
     ·rw[if_pos c6] at H
      have c6b0:=eq_true c6;have c6b1:decide ((wrap64 (x8_1+1))≤(a0.size:Int))=true:=decide_eq_true c6;by_cases c7:x7_1.size+(a0.extract (x8_1:Int).toNat ((wrap64 (x8_1+1)):Int).toNat).size≤9223372036854775807
      ·rw[if_pos c7] at H
       have c7b0:=eq_true c7;have c7b1:decide (x7_1.size+(a0.extract (x8_1:Int).toNat ((wrap64 (x8_1+1)):Int).toNat).size≤9223372036854775807)=true:=decide_eq_true c7;try have c7b2:(9223372036854775807<x7_1.size+(a0.extract (x8_1:Int).toNat ((wrap64 (x8_1+1)):Int).toNat).size)=False:=eq_false (Nat.not_lt.2 c7)
       obtain⟨t759,A80,H⟩:=Option.bind_eq_some_iff.mp H
       (try dsimp -simprocs only at H)
       have A8:=K_ A80;clear A80;have H':=K_ H;clear H;go_wp2_with (first|((with_reducible refine zH (f:=69) rfl ?_);refine zT (some 23) rfl rfl Tryz.func69 (by kernel_rfl) rfl #[.string (x7_1++(a0.extract (x8_1:Int).toNat ((wrap64 (x8_1+1)):Int).toNat))] rfl MP ?_;(with_reducible refine (zO.calls k1 (x7_1++(a0.extract (x8_1:Int).toNat ((wrap64 (x8_1+1)):Int).toNat)) t759 _ A8.out).mono ?_);rintro e w' ⟨rfl,⟨nd,rfl⟩⟩;refine⟨_,rfl,?_⟩))
       go_loopg [7,9] k1 (fun kq v7 v9 w'=>∃ (x7_2:ByteArray) (x9_2:Int),v7=.string x7_2∧v9=.int .i64 x9_2∧Aside0 (zX.l1 kq a0 a1 x6_1 x7_2 x8_1 x9_2=some (r1,r2))∧Aside0 (kq≤k1)∧Aside0 (Below w.heap.size w w'))
       case atStart=>exact⟨(t759),(0),SR,SR,H',⟨Nat.le_refl _⟩,⟨BL HB⟩⟩
       case round =>
        clear H';try clear c3
        try clear c3b0
        try clear c4
        try clear c4b0
        try clear c4b1
        try clear c5
        try clear c5b0
        try clear c5b1
        try clear c6
        try clear c6b0
        try clear c6b1
        try clear c7
        try clear c7b0
        try clear c7b1
        try clear c7b2
        obtain⟨x7_2,x9_2,rfl,rfl,HA,HK2,HB⟩:=hrel;obtain _|k2:=gk
        ·exact absurd HA.out (by simp[zX.l1])
        have H:=HA.out;clear HA;simp only[zX.l1] at H
        obtain⟨t760,A90,H⟩:=Option.bind_eq_some_iff.mp H
        (try dsimp -simprocs only at H)
        have A9:=K_ A90;clear A90;by_cases c10:t760=true
        ·subst c10
         rw[if_pos rfl] at H;obtain⟨y761,hy761⟩:∃ y_:List Int,y_=(([(wrap64 (48+x9_2)) % 256]:List Int)):=⟨_,rfl⟩
         replace H:(if x6_1.size+(strOfNums y761).size≤9223372036854775807 then (zX.l0 k2 a0 a1 (x6_1++(strOfNums y761)) x7_2 (wrap64 (x8_1+1))) else (none))=some (r1,r2):=by first|(rw[hy761];with_reducible exact H)|(have H2_:=(Option.bind_some _ _).symm.trans H;rw[hy761];with_reducible exact H2_)|(have H2_:=(Option.bind_some _ _).symm.trans H;with_reducible exact H2_)|with_reducible exact H|(rw[hy761];exact H)|exact H
         have Ny761:=K_ hy761;clear hy761;by_cases c11:x6_1.size+(strOfNums y761).size≤9223372036854775807
         ·rw[if_pos c11] at H
          have c11b0:=eq_true c11;have c11b1:decide (x6_1.size+(strOfNums y761).size≤9223372036854775807)=true:=decide_eq_true c11;try have c11b2:(9223372036854775807<x6_1.size+(strOfNums y761).size)=False:=eq_false (Nat.not_lt.2 c11)
          have H':=K_ H;clear H;go_wp2_with (first|((with_reducible refine zH (f:=43) rfl ?_);refine zT (some 26) rfl rfl Tryz.func43 (by kernel_rfl) rfl #[.string x7_2,.string a1] rfl MP ?_;(with_reducible refine (yZ.calls x7_2 a1 true _ A9.out).mono ?_);rintro e w' ⟨rfl,⟨nd,rfl⟩⟩;refine⟨_,rfl,?_⟩)|((with_reducible refine zE (N:=37) rfl ?_);refine Kd.R_lit (Kd.int .u8) _ 5 ?hg (N:=37) ?hd (xs:=([(wrap64 (48+x9_2)) % 256]:List Int)) (inner:=[.int .u8 ((wrap64 (48+x9_2)) % 256)]) (ok:=fun _=>True) (okp:=fun _=>True) ?hr ?hp (fun _ hk=>hk) trivial (Below.refl _ _) (Nat.le_refl _) (by simp) ?_;(case hd=>rfl);(case hg=>rfl);(case hr=>first|(go_simp;done)|(go_simp;rfl));(case hp=>exact (jN.one (show Kd.M (Kd.int .u8) _ _ _ ((wrap64 (48+x9_2)) % 256) [.int .u8 ((wrap64 (48+x9_2)) % 256)] from rfl) (jN.none _ _)));intro v762 w12 ho13 hb hg_ hnew_;clear hg_ hnew_;(first|rw[←Ny761.out] at ho13|(simp only[Int.reduceToNat] at ho13;rw[←Ny761.out] at ho13));have HO763:=K_ (Kd.R_lower ho13 (zQ (BL HB)));replace HB:=zF HB hb;clear hb ho13;have hcv14:=zdc (P:=Tryz.prog) Tryz.underlying107 Tryz.underlying5 Tryz.underlying9 (Kd.own_of_R HO763.out)))
          go_roundg k2
          case measure=>have:=HK1.out;have:=HK2.out;omega
          case rel=>exact⟨(x6_1++(strOfNums y761)),(x7_2),(wrap64 (x8_1+1)),SR,SR,SR,H',⟨by have:=HK1.out;have:=HK2.out;omega⟩,⟨BL HB⟩⟩
         rw[if_neg c11] at H;exact absurd H (by simp)
        replace c10:=Bool.eq_false_iff.mpr c10;subst c10;rw[if_neg (show ¬ (false=true) by decide)] at H;obtain⟨t764,A150,H⟩:=Option.bind_eq_some_iff.mp H
        (try dsimp -simprocs only at H)
        have A15:=K_ A150;clear A150;have H':=K_ H;clear H;go_wp2_with (first|((with_reducible refine zH (f:=43) rfl ?_);refine zT (some 26) rfl rfl Tryz.func43 (by kernel_rfl) rfl #[.string x7_2,.string a1] rfl MP ?_;(with_reducible refine (yZ.calls x7_2 a1 false _ A9.out).mono ?_);rintro e w' ⟨rfl,⟨nd,rfl⟩⟩;refine⟨_,rfl,?_⟩)|((with_reducible refine zH (f:=137) rfl ?_);refine zT (some 30) rfl rfl Tryz.func137 (by kernel_rfl) rfl #[.string x7_2,.string a1] rfl MP ?_;(with_reducible refine (jF.calls k2 x7_2 a1 t764 _ A15.out).mono ?_);rintro e w16 ⟨rfl,hb⟩;refine⟨_,rfl,?_⟩;replace HB:=zF HB hb;(try clear hb);(try clear hb2);(try clear hk);(try clear hi)))
        go_roundg k2
        case measure=>have:=HK1.out;have:=HK2.out;omega
        case rel=>exact⟨(t764),(wrap64 (x9_2+1)),SR,SR,H',⟨by have:=HK1.out;have:=HK2.out;omega⟩,⟨BL HB⟩⟩
      rw[if_neg c7] at H;exact absurd H (by simp)
     rw[if_neg c6] at H;exact absurd H (by simp)
    rw[if_neg c5] at H;exact absurd H (by simp)
   rw[if_neg c4] at H;exact absurd H (by simp)
  rw[if_neg c3] at H;have c3b0:decide (x8_1<(a0.size:Int))=false:=decide_eq_false c3;clear c3;obtain⟨t758,A170,H⟩:=Option.bind_eq_some_iff.mp H
  (try dsimp -simprocs only at H)
  have A17:=K_ A170;clear A170;simp only[Option.some.injEq,Prod.mk.injEq] at H
  obtain⟨rfl,rfl⟩:=H;go_wp2_with (first|((with_reducible refine zH (f:=69) rfl ?_);refine zT (some 41) rfl rfl Tryz.func69 (by kernel_rfl) rfl #[.string x6_1] rfl MP ?_;(with_reducible refine (zO.calls k1 x6_1 t758 _ A17.out).mono ?_);rintro e w' ⟨rfl,⟨nd,rfl⟩⟩;refine⟨_,rfl,?_⟩))
  go_ret2
  exact⟨ER,BL HB⟩
def uY.f (a0:Int) (a1:Bool) (a2:Bool) (a3:Int):Option (Bool):=if a0=0 then (some (!a1)) else (if a0=1 then (some a1) else (if a0=2 then (some true) else (if a0=4 then (if a3>0 then (some true) else (if a3=0 then (some a2) else (some false))) else (if a0=5 then (some (decide (a3 ≥ 0))) else (if a0=6 then (some (decide (a3>0))) else (some false))))))
set_option maxHeartbeats 8000000 in
set_option maxRecDepth 100000 in
theorem uY.calls (a0:Int) (a1:Bool) (a2:Bool) (a3:Int) (r:Bool) (w:World) (h:uY.f a0 a1 a2 a3=some r) :
  Calls Tryz.prog 111 #[.int .i64 a0,.bool a1,.bool a2,.int .i64 a3] w fun e w'=>e=.returned (.bool r)∧zL w w':=by
 have H:(if a0=0 then (some (!a1)) else (if a0=1 then (some a1) else (if a0=2 then (some true) else (if a0=4 then (if a3>0 then (some true) else (if a3=0 then (some a2) else (some false))) else (if a0=5 then (some (decide (a3 ≥ 0))) else (if a0=6 then (some (decide (a3>0))) else (some false)))))))=some r:=h;clear h;by_cases c5:a0=0
 ·rw[if_pos c5] at H
  have c5b0:(a0==0)=true:=beq_iff_eq.mpr c5;have c5b1:(a0 !=0)=false:=bne_eq_false_iff_eq.mpr c5;clear c5;obtain rfl:=Option.some.inj H;go_enter Tryz.func111,Tryz.ntmps111
  go_wp2
  go_ret
  exact⟨by first|rfl|(simp;done)|(simp[*];done)|(simp[*,Fig.bne_nil];done),by repeat (first|exact zL.refl _|apply zL.step)⟩
 rw[if_neg c5] at H;have c5b0:(a0==0)=false:=beq_eq_false_iff_ne.mpr c5;have c5b1:(a0 !=0)=true:=bne_iff_ne.mpr c5;by_cases c6:a0=1
 ·rw[if_pos c6] at H
  have c6b0:(a0==1)=true:=beq_iff_eq.mpr c6;have c6b1:(a0 !=1)=false:=bne_eq_false_iff_eq.mpr c6;clear c6;obtain rfl:=Option.some.inj H;go_enter Tryz.func111,Tryz.ntmps111
  go_wp2
  go_ret
  exact⟨by first|rfl|(simp;done)|(simp[*];done)|(simp[*,Fig.bne_nil];done),by repeat (first|exact zL.refl _|apply zL.step)⟩
 rw[if_neg c6] at H;have c6b0:(a0==1)=false:=beq_eq_false_iff_ne.mpr c6;have c6b1:(a0 !=1)=true:=bne_iff_ne.mpr c6;by_cases c7:a0=2
 ·rw[if_pos c7] at H
  have c7b0:(a0==2)=true:=beq_iff_eq.mpr c7;have c7b1:(a0 !=2)=false:=bne_eq_false_iff_eq.mpr c7;clear c7;obtain rfl:=Option.some.inj H;go_enter Tryz.func111,Tryz.ntmps111
  go_wp2
  go_ret
  exact⟨by first|rfl|(simp;done)|(simp[*];done)|(simp[*,Fig.bne_nil];done),by repeat (first|exact zL.refl _|apply zL.step)⟩
 rw[if_neg c7] at H;have c7b0:(a0==2)=false:=beq_eq_false_iff_ne.mpr c7;have c7b1:(a0 !=2)=true:=bne_iff_ne.mpr c7;by_cases c8:a0=4
 ·rw[if_pos c8] at H
  have c8b0:(a0==4)=true:=beq_iff_eq.mpr c8;have c8b1:(a0 !=4)=false:=bne_eq_false_iff_eq.mpr c8;clear c8;by_cases c9:a3>0
  ·rw[if_pos c9] at H
   have c9b0:decide (0<a3)=true:=decide_eq_true c9;clear c9;obtain rfl:=Option.some.inj H;go_enter Tryz.func111,Tryz.ntmps111
   go_wp2
   go_ret
   exact⟨by first|rfl|(simp;done)|(simp[*];done)|(simp[*,Fig.bne_nil];done),by repeat (first|exact zL.refl _|apply zL.step)⟩
  rw[if_neg c9] at H;have c9b0:decide (0<a3)=false:=decide_eq_false c9;clear c9;by_cases c10:a3=0
  ·rw[if_pos c10] at H
   have c10b0:(a3==0)=true:=beq_iff_eq.mpr c10;have c10b1:(a3 !=0)=false:=bne_eq_false_iff_eq.mpr c10;clear c10;obtain rfl:=Option.some.inj H;go_enter Tryz.func111,Tryz.ntmps111
   go_wp2
   go_ret
   exact⟨by first|rfl|(simp;done)|(simp[*];done)|(simp[*,Fig.bne_nil];done),by repeat (first|exact zL.refl _|apply zL.step)⟩
  rw[if_neg c10] at H;have c10b0:(a3==0)=false:=beq_eq_false_iff_ne.mpr c10;have c10b1:(a3 !=0)=true:=bne_iff_ne.mpr c10;obtain rfl:=Option.some.inj H;go_enter Tryz.func111,Tryz.ntmps111
  go_wp2
  go_ret
  exact⟨by first|rfl|(simp;done)|(simp[*];done)|(simp[*,Fig.bne_nil];done),by repeat (first|exact zL.refl _|apply zL.step)⟩
 rw[if_neg c8] at H;have c8b0:(a0==4)=false:=beq_eq_false_iff_ne.mpr c8;have c8b1:(a0 !=4)=true:=bne_iff_ne.mpr c8;by_cases c11:a0=5
 ·rw[if_pos c11] at H
  have c11b0:(a0==5)=true:=beq_iff_eq.mpr c11;have c11b1:(a0 !=5)=false:=bne_eq_false_iff_eq.mpr c11;clear c11;obtain rfl:=Option.some.inj H;go_enter Tryz.func111,Tryz.ntmps111
  go_wp2
  go_ret
  exact⟨by first|rfl|(simp;done)|(simp[*];done)|(simp[*,Fig.bne_nil];done),by repeat (first|exact zL.refl _|apply zL.step)⟩
 rw[if_neg c11] at H;have c11b0:(a0==5)=false:=beq_eq_false_iff_ne.mpr c11;have c11b1:(a0 !=5)=true:=bne_iff_ne.mpr c11;by_cases c12:a0=6
 ·rw[if_pos c12] at H
  have c12b0:(a0==6)=true:=beq_iff_eq.mpr c12;have c12b1:(a0 !=6)=false:=bne_eq_false_iff_eq.mpr c12;clear c12;obtain rfl:=Option.some.inj H;go_enter Tryz.func111,Tryz.ntmps111
  go_wp2
  go_ret
  exact⟨by first|rfl|(simp;done)|(simp[*];done)|(simp[*,Fig.bne_nil];done),by repeat (first|exact zL.refl _|apply zL.step)⟩
 rw[if_neg c12] at H;have c12b0:(a0==6)=false:=beq_eq_false_iff_ne.mpr c12;have c12b1:(a0 !=6)=true:=bne_iff_ne.mpr c12;obtain rfl:=Option.some.inj H;go_enter Tryz.func111,Tryz.ntmps111
 go_wp2
 go_ret
 exact⟨by first|rfl|(simp;done)|(simp[*];done)|(simp[*,Fig.bne_nil];done),by repeat (first|exact zL.refl _|apply zL.step)⟩
mutual
def zJ.j0:Nat→Int→ByteArray→Int→Int→Bool→ByteArray→Int→Option (Bool×ByteArray×Int×Int)
 | 0,_,_,_,_,_,_,_=>none
 | k+1,x0,x2,x3,x10,x786000,x786001,x786002=>(zO.f k x2).bind fun t787=>((jG.f k (wrap64 (x3-x10))).bind fun t788=>(if t787.size+t788.size≤9223372036854775807 then ((uX.f k x786000 x786001 x786002 x10).bind fun t789=>((zX.f k t789 (t787++t788)).bind fun bt790=>(if bt790.2.toList=([]:List UInt8) then ((zY.f k x786000 x786001 x786002).bind fun bt792=>(some (bt792.1,bt792.2.1,bt792.2.2,0))) else (if x0=7 then (some (false,(⟨#[]⟩:ByteArray),0,11)) else ((zV.f k bt790.2 bt790.2).bind fun t795=>((yZ.f t795 (t787++t788)).bind fun t796=>(if t796=true then (zJ.j1 k x0 x10 (t787++t788) bt790.1 t795 (-1) x786000 x786001 x786002) else (zJ.j1 k x0 x10 (t787++t788) bt790.1 t795 0 x786000 x786001 x786002)))))))) else (none)))
def zJ.j1:Nat→Int→Int→ByteArray→ByteArray→ByteArray→Int→Bool→ByteArray→Int→Option (Bool×ByteArray×Int×Int)
 | 0,_,_,_,_,_,_,_,_,_=>none
 | k+1,x0,x10,x11,x12,x14,x15,x786000,x786001,x786002=>(yZ.f x11 x14).bind fun t797=>(if t797=true then (zJ.j2 k x0 x10 x11 x12 1 x786000 x786001 x786002) else (zJ.j2 k x0 x10 x11 x12 x15 x786000 x786001 x786002))
def zJ.j2:Nat→Int→Int→ByteArray→ByteArray→Int→Bool→ByteArray→Int→Option (Bool×ByteArray×Int×Int)
 | 0,_,_,_,_,_,_,_,_=>none
 | k+1,x0,x10,x11,x12,x15,x786000,x786001,x786002=>if (x12.size:Int)>0 then (if 0≤(wrap64 ((x12.size:Int)-1)) then (if (wrap64 ((x12.size:Int)-1))<(x12.size:Int) then (zJ.j3 k x0 x10 x11 x12 x15 (((((bt x12 (wrap64 ((x12.size:Int)-1)))-48) % 256) % 2)==1) x786000 x786001 x786002) else (none)) else (none)) else (zJ.j3 k x0 x10 x11 x12 x15 false x786000 x786001 x786002)
def zJ.j3:Nat→Int→Int→ByteArray→ByteArray→Int→Bool→Bool→ByteArray→Int→Option (Bool×ByteArray×Int×Int)
 | 0,_,_,_,_,_,_,_,_,_=>none
 | k+1,x0,x10,x11,x12,x15,x16,x786000,x786001,x786002=>(uY.f x0 x786000 x16 x15).bind fun t798=>(if t798=true then ((zV.f k x12 (⟨#[49]⟩:ByteArray)).bind fun t799=>((zK.f k t799 x11).bind fun t800=>((vX.f k x786000 t800 x10).bind fun bt801=>(some (bt801.1,bt801.2.1,bt801.2.2,0))))) else ((zK.f k x12 x11).bind fun t804=>((vX.f k x786000 t804 x10).bind fun bt805=>(some (bt805.1,bt805.2.1,bt805.2.2,0)))))
end
def zJ.f (k:Nat) (a0:Int) (a1_0:Bool) (a1_1:ByteArray) (a1_2:Int) (a2:ByteArray) (a3:Int):Option (Bool×ByteArray×Int×Int):=if a3<a1_2 then (zJ.j0 k a0 a2 a3 a3 a1_0 a1_1 a1_2) else (zJ.j0 k a0 a2 a3 a1_2 a1_0 a1_1 a1_2)
def zJ.T19:Bool×List (List Nat×List Nat):=(true,[([],[]),([0],[0]),([],[]),([],[]),([2,3],[2,3]),([],[]),([1,4,5,4],[1,4,5]),([6,6,0,1,2,3,4,5,6],[6]),([7,0,1,2,3,4,5,6,7],[])])
def zJ.B19:List Nat:=[0,1,0,0,12,0,63,127,255]
theorem zJ.tab19:zaC .any (zhj Tryz.f83 19)=zJ.T19:=by kernel_rfl
theorem zJ.bits19:zbU zJ.T19.2 zJ.B19=true:=by kernel_rfl
set_option maxHeartbeats 8000000 in
set_option maxRecDepth 100000 in
theorem zJ.calls (k:Nat) (a0:Int) (a1_0:Bool) (a1_1:ByteArray) (a1_2:Int) (a2:ByteArray) (a3:Int) (r1:Bool) (r2:ByteArray) (r3:Int) (r4:Int) (w:World) (h:zJ.f k a0 a1_0 a1_1 a1_2 a2 a3=some (r1,r2,r3,r4)) :
  Calls Tryz.prog 83 #[.int .i64 a0,.agg #[.bool a1_0,.string a1_1,.int .i64 a1_2],.string a2,.int .i64 a3] w fun e w'=>e=.returned (.tuple #[.agg #[.bool r1,.string r2,.int .i64 r3],.int .i64 r4])∧Below w.heap.size w w':=by
 have hu23:=Tryz.underlying23;have HB:=K_ (Below.refl w.heap.size w);have H:(if a3<a1_2 then (zJ.j0 k a0 a2 a3 a3 a1_0 a1_1 a1_2) else (zJ.j0 k a0 a2 a3 a1_2 a1_0 a1_1 a1_2))=some (r1,r2,r3,r4):=h;clear h;have HC5:=K_ H;clear H;go_enter Tryz.func83,Tryz.ntmps83
 go_upto_if 21 with (first|((with_reducible refine zE (N:=5) rfl ?_);(try (refine vQ (by rfl) ?_;dsimp only));refine be_ 5 #[.bool a1_0,.string a1_1,.int .i64 a1_2] 23 ?_;intro gb785 hg w6 hbox hb;have BK785:=K_ (hbox);have GW785:=ge_ hg HB;have GE785:=ge_ hg HB;replace HB:=zF HB hb;clear hb hbox hg)|((with_reducible refine zE (N:=8) rfl ?_);(try (refine vQ (by rfl) ?_;dsimp only));refine be_ 8 #[.bool false,.string (⟨#[]⟩:ByteArray),.int .i64 0] 23 ?_;intro gb786 hg w7 hbox hb;have BK786:=K_ (hbox);have GW786:=ge_ hg HB;have GE786:=ge_ hg HB;replace HB:=zF HB hb;have NB785_786:=nb_ hg BK785;have NB786_785:=nc_ hg BK785;replace BK785:=zC BK785 hb;clear hb hbox hg;have hnb8:=NB785_786.out;have hnc8:=NB786_785.out;obtain⟨⟨hcz9_0,hcz9_1,hcz9_2⟩,hfz9_0,hfz9_1,hfz9_2⟩:=ce3 BK785))
 (try simp only[Act.put,List.setIfInBounds_toArray,List.set_cons_zero,List.set_cons_succ])
 go_cut [10] (fun v10 wc=>∃ (kq:Nat) (x10_4:Int),v10=.int .i64 x10_4∧Aside0 (zJ.j0 kq a0 a2 a3 x10_4 a1_0 a1_1 a1_2=some (r1,r2,r3,r4))∧Aside0 (kq≤k)∧Aside0 (wc.heap[gb785]?=some (.cells #[.bool a1_0,.string a1_1,.int .i64 a1_2] 23 (0,0)))∧Aside0 (wc.heap[gb786]?=some (.cells #[.bool false,.string (⟨#[]⟩:ByteArray),.int .i64 0] 23 (0,0)))∧Aside0 (Below w.heap.size w wc))
 case first =>
  have H:=HC5.out;clear HC5;by_cases c10:a3<a1_2
  ·rw[if_pos c10] at H
   have c10b0:decide (a3<a1_2)=true:=decide_eq_true c10;clear c10;(first|rw[c10b0]|(simp only[vY,xD];rw[c10b0])|skip)
   have H':=K_ H;clear H;go_wp2
   go_meet
   case rel=>exact⟨_,(a3),SR,H',⟨by first|omega|exact Nat.le_refl _⟩,⟨BK BK785⟩,⟨BK BK786⟩,⟨BL HB⟩⟩
  rw[if_neg c10] at H;have c10b0:decide (a3<a1_2)=false:=decide_eq_false c10;clear c10;(first|rw[c10b0]|(simp only[vY,xD];rw[c10b0])|skip)
  have H':=K_ H;clear H;go_wp2
  go_meet
  case rel=>exact⟨_,(a1_2),SR,H',⟨by first|omega|exact Nat.le_refl _⟩,⟨BK BK785⟩,⟨BK BK786⟩,⟨BL HB⟩⟩
 clear HC5;try clear hcz9_0
 try clear hcz9_1
 try clear hcz9_2
 try clear hfz9_0
 try clear hfz9_1
 try clear hfz9_2
 obtain⟨kq,x10_4,rfl,HA,HJ4,BK785,BK786,HB⟩:=hcut;obtain _|kj4:=kq
 ·exact absurd HA.out (by simp[zJ.j0])
 have H:=HA.out;clear HA;simp only[zJ.j0] at H
 obtain⟨t787,A110,H⟩:=Option.bind_eq_some_iff.mp H
 (try dsimp -simprocs only at H)
 have A11:=K_ A110;clear A110;obtain⟨t788,A120,H⟩:=Option.bind_eq_some_iff.mp H
 (try dsimp -simprocs only at H)
 have A12:=K_ A120;clear A120;by_cases c13:t787.size+t788.size≤9223372036854775807
 ·rw[if_pos c13] at H
  have c13b0:=eq_true c13;have c13b1:decide (t787.size+t788.size≤9223372036854775807)=true:=decide_eq_true c13;try have c13b2:(9223372036854775807<t787.size+t788.size)=False:=eq_false (Nat.not_lt.2 c13)
  obtain⟨t789,A140,H⟩:=Option.bind_eq_some_iff.mp H
  (try dsimp -simprocs only at H)
  have A14:=K_ A140;clear A140;obtain⟨⟨t790,t791⟩,A150,H⟩:=Option.bind_eq_some_iff.mp H
  (try dsimp -simprocs only at H)
  have A15:=K_ A150;clear A150;by_cases c16:t791.toList=([]:List UInt8)
  ·rw[if_pos c16] at H
   have c16b0:(t791.toList==([]:List UInt8))=true:=beq_iff_eq.mpr c16;have c16b1:(t791.toList !=([]:List UInt8))=false:=bne_eq_false_iff_eq.mpr c16;clear c16;obtain⟨⟨t792,t793,t794⟩,A170,H⟩:=Option.bind_eq_some_iff.mp H
   (try dsimp -simprocs only at H)
   have A17:=K_ A170;clear A170;simp only[Option.some.injEq,Prod.mk.injEq] at H
   obtain⟨rfl,rfl,rfl,rfl⟩:=H;go_wp2_with (first|((with_reducible refine zH (f:=69) rfl ?_);refine zT (some 24) rfl rfl Tryz.func69 (by kernel_rfl) rfl #[.string a2] rfl MP ?_;(with_reducible refine (zO.calls kj4 a2 t787 _ A11.out).mono ?_);rintro e w' ⟨rfl,⟨nd,rfl⟩⟩;refine⟨_,rfl,?_⟩;(try (rw[zah wc];generalize hq_:World.drewN wc _=wc;replace BK785:=zbR BK785 hq_;replace BK786:=zbR BK786 hq_;replace HB:=zdt HB hq_;clear hq_));(try (obtain⟨⟨hcz9068_0,hcz9068_1,hcz9068_2⟩,hfz9068_0,hfz9068_1,hfz9068_2⟩:=ce3 BK785));(try (obtain⟨⟨hcz9069_0,hcz9069_1,hcz9069_2⟩,hfz9069_0,hfz9069_1,hfz9069_2⟩:=ce3 BK786)))|((with_reducible refine zH (f:=70) rfl ?_);refine zT (some 28) rfl rfl Tryz.func70 (by kernel_rfl) rfl #[.int .i64 (wrap64 (a3-x10_4))] rfl MP ?_;(with_reducible refine (jG.calls kj4 (wrap64 (a3-x10_4)) t788 _ A12.out).mono ?_);rintro e w18 ⟨rfl,hb⟩;refine⟨_,rfl,?_⟩;replace BK785:=zC BK785 hb;replace BK786:=zC BK786 hb;replace HB:=zF HB hb;(try clear hb);(try clear hb2);(try clear hk);(try clear hi);have hnb19:=NB785_786.out;have hnc19:=NB786_785.out;obtain⟨⟨hcz20_0,hcz20_1,hcz20_2⟩,hfz20_0,hfz20_1,hfz20_2⟩:=ce3 BK785)|((with_reducible refine zH (f:=42) rfl ?_);refine zT (some 33) rfl rfl Tryz.func42 (by kernel_rfl) rfl #[.agg #[.bool a1_0,.string a1_1,.int .i64 a1_2],.int .i64 x10_4] rfl MP ?_;(with_reducible refine (uX.calls kj4 a1_0 a1_1 a1_2 x10_4 t789 _ A14.out).mono ?_);rintro e w21 ⟨rfl,hb⟩;refine⟨_,rfl,?_⟩;replace BK785:=zC BK785 hb;replace BK786:=zC BK786 hb;replace HB:=zF HB hb;(try clear hb);(try clear hb2);(try clear hk);(try clear hi))|((with_reducible refine zH (f:=109) rfl ?_);refine zT (some 35) rfl rfl Tryz.func109 (by kernel_rfl) rfl #[.string t789,.string (t787++t788)] rfl MP ?_;(with_reducible refine (zX.calls kj4 t789 (t787++t788) t790 t791 _ A15.out).mono ?_);rintro e w22 ⟨rfl,hb⟩;refine⟨_,rfl,?_⟩;replace BK785:=zC BK785 hb;replace BK786:=zC BK786 hb;replace HB:=zF HB hb;(try clear hb);(try clear hb2);(try clear hk);(try clear hi);obtain⟨⟨hcz23_0,hcz23_1,hcz23_2⟩,hfz23_0,hfz23_1,hfz23_2⟩:=ce3 BK785)|((with_reducible refine zH (f:=50) rfl ?_);refine zT (some 41) rfl rfl Tryz.func50 (by kernel_rfl) rfl #[.agg #[.bool a1_0,.string a1_1,.int .i64 a1_2]] rfl MP ?_;(with_reducible refine (zY.calls kj4 a1_0 a1_1 a1_2 t792 t793 t794 _ A17.out).mono ?_);rintro e w24 ⟨rfl,hb⟩;refine⟨_,rfl,?_⟩;replace BK785:=zC BK785 hb;replace BK786:=zC BK786 hb;replace HB:=zF HB hb;(try clear hb);(try clear hb2);(try clear hk);(try clear hi);obtain⟨⟨hcz25_0,hcz25_1,hcz25_2⟩,hfz25_0,hfz25_1,hfz25_2⟩:=ce3 BK786))
   refine bodyPost_ret (jA rfl _ _ gb786 23 #[.bool t792,.string t793,.int .i64 t794] (0,0) _ rfl (BP BK786) Tryz.underlying23 rfl (by kernel_rfl)) rfl ?_;exact⟨ER,BL HB⟩
  rw[if_neg c16] at H;have c16b0:(t791.toList==([]:List UInt8))=false:=beq_eq_false_iff_ne.mpr c16;have c16b1:(t791.toList !=([]:List UInt8))=true:=bne_iff_ne.mpr c16;by_cases c26:a0=7
  ·rw[if_pos c26] at H
   have c26b0:(a0==7)=true:=beq_iff_eq.mpr c26;have c26b1:(a0 !=7)=false:=bne_eq_false_iff_eq.mpr c26;clear c26;simp only[Option.some.injEq,Prod.mk.injEq] at H
   obtain⟨rfl,rfl,rfl,rfl⟩:=H;go_wp2_with (first|((with_reducible refine zH (f:=69) rfl ?_);refine zT (some 24) rfl rfl Tryz.func69 (by kernel_rfl) rfl #[.string a2] rfl MP ?_;(with_reducible refine (zO.calls kj4 a2 t787 _ A11.out).mono ?_);rintro e w' ⟨rfl,⟨nd,rfl⟩⟩;refine⟨_,rfl,?_⟩;(try (rw[zah wc];generalize hq_:World.drewN wc _=wc;replace BK785:=zbR BK785 hq_;replace BK786:=zbR BK786 hq_;replace HB:=zdt HB hq_;clear hq_));(try (obtain⟨⟨hcz9070_0,hcz9070_1,hcz9070_2⟩,hfz9070_0,hfz9070_1,hfz9070_2⟩:=ce3 BK785));(try (obtain⟨⟨hcz9071_0,hcz9071_1,hcz9071_2⟩,hfz9071_0,hfz9071_1,hfz9071_2⟩:=ce3 BK786)))|((with_reducible refine zH (f:=70) rfl ?_);refine zT (some 28) rfl rfl Tryz.func70 (by kernel_rfl) rfl #[.int .i64 (wrap64 (a3-x10_4))] rfl MP ?_;(with_reducible refine (jG.calls kj4 (wrap64 (a3-x10_4)) t788 _ A12.out).mono ?_);rintro e w27 ⟨rfl,hb⟩;refine⟨_,rfl,?_⟩;replace BK785:=zC BK785 hb;replace BK786:=zC BK786 hb;replace HB:=zF HB hb;(try clear hb);(try clear hb2);(try clear hk);(try clear hi);have hnb28:=NB785_786.out;have hnc28:=NB786_785.out;obtain⟨⟨hcz29_0,hcz29_1,hcz29_2⟩,hfz29_0,hfz29_1,hfz29_2⟩:=ce3 BK785)|((with_reducible refine zH (f:=42) rfl ?_);refine zT (some 33) rfl rfl Tryz.func42 (by kernel_rfl) rfl #[.agg #[.bool a1_0,.string a1_1,.int .i64 a1_2],.int .i64 x10_4] rfl MP ?_;(with_reducible refine (uX.calls kj4 a1_0 a1_1 a1_2 x10_4 t789 _ A14.out).mono ?_);rintro e w30 ⟨rfl,hb⟩;refine⟨_,rfl,?_⟩;replace BK785:=zC BK785 hb;replace BK786:=zC BK786 hb;replace HB:=zF HB hb;(try clear hb);(try clear hb2);(try clear hk);(try clear hi))|((with_reducible refine zH (f:=109) rfl ?_);refine zT (some 35) rfl rfl Tryz.func109 (by kernel_rfl) rfl #[.string t789,.string (t787++t788)] rfl MP ?_;(with_reducible refine (zX.calls kj4 t789 (t787++t788) t790 t791 _ A15.out).mono ?_);rintro e w31 ⟨rfl,hb⟩;refine⟨_,rfl,?_⟩;replace BK785:=zC BK785 hb;replace BK786:=zC BK786 hb;replace HB:=zF HB hb;(try clear hb);(try clear hb2);(try clear hk);(try clear hi);obtain⟨⟨hcz32_0,hcz32_1,hcz32_2⟩,hfz32_0,hfz32_1,hfz32_2⟩:=ce3 BK786))
   refine bodyPost_ret (jA rfl _ _ gb786 23 #[.bool false,.string (⟨#[]⟩:ByteArray),.int .i64 0] (0,0) _ rfl (BP BK786) Tryz.underlying23 rfl (by kernel_rfl)) rfl ?_;exact⟨ER,BL HB⟩
  rw[if_neg c26] at H;have c26b0:(a0==7)=false:=beq_eq_false_iff_ne.mpr c26;have c26b1:(a0 !=7)=true:=bne_iff_ne.mpr c26;obtain⟨t795,A330,H⟩:=Option.bind_eq_some_iff.mp H
  (try dsimp -simprocs only at H)
  have A33:=K_ A330;clear A330;obtain⟨t796,A340,H⟩:=Option.bind_eq_some_iff.mp H
  (try dsimp -simprocs only at H)
  have A34:=K_ A340;clear A340;have HC35:=K_ H;clear H;go_upto_if 50 with (first|((with_reducible refine zH (f:=69) rfl ?_);refine zT (some 24) rfl rfl Tryz.func69 (by kernel_rfl) rfl #[.string a2] rfl MP ?_;(with_reducible refine (zO.calls kj4 a2 t787 _ A11.out).mono ?_);rintro e w' ⟨rfl,⟨nd,rfl⟩⟩;refine⟨_,rfl,?_⟩)|((with_reducible refine zH (f:=70) rfl ?_);refine zT (some 28) rfl rfl Tryz.func70 (by kernel_rfl) rfl #[.int .i64 (wrap64 (a3-x10_4))] rfl MP ?_;(with_reducible refine (jG.calls kj4 (wrap64 (a3-x10_4)) t788 _ A12.out).mono ?_);rintro e w36 ⟨rfl,hb⟩;refine⟨_,rfl,?_⟩;replace BK785:=zC BK785 hb;replace BK786:=zC BK786 hb;replace HB:=zF HB hb;(try clear hb);(try clear hb2);(try clear hk);(try clear hi);have hnb37:=NB785_786.out;have hnc37:=NB786_785.out;obtain⟨⟨hcz38_0,hcz38_1,hcz38_2⟩,hfz38_0,hfz38_1,hfz38_2⟩:=ce3 BK785)|((with_reducible refine zH (f:=42) rfl ?_);refine zT (some 33) rfl rfl Tryz.func42 (by kernel_rfl) rfl #[.agg #[.bool a1_0,.string a1_1,.int .i64 a1_2],.int .i64 x10_4] rfl MP ?_;(with_reducible refine (uX.calls kj4 a1_0 a1_1 a1_2 x10_4 t789 _ A14.out).mono ?_);rintro e w39 ⟨rfl,hb⟩;refine⟨_,rfl,?_⟩;replace BK785:=zC BK785 hb;replace BK786:=zC BK786 hb;replace HB:=zF HB hb;(try clear hb);(try clear hb2);(try clear hk);(try clear hi))|((with_reducible refine zH (f:=109) rfl ?_);refine zT (some 35) rfl rfl Tryz.func109 (by kernel_rfl) rfl #[.string t789,.string (t787++t788)] rfl MP ?_;(with_reducible refine (zX.calls kj4 t789 (t787++t788) t790 t791 _ A15.out).mono ?_);rintro e w40 ⟨rfl,hb⟩;refine⟨_,rfl,?_⟩;replace BK785:=zC BK785 hb;replace BK786:=zC BK786 hb;replace HB:=zF HB hb;(try clear hb);(try clear hb2);(try clear hk);(try clear hi))|((with_reducible refine zH (f:=110) rfl ?_);refine zT (some 47) rfl rfl Tryz.func110 (by kernel_rfl) rfl #[.string t791,.string t791] rfl MP ?_;(with_reducible refine (zV.calls kj4 t791 t791 t795 _ A33.out).mono ?_);rintro e w41 ⟨rfl,hb⟩;refine⟨_,rfl,?_⟩;replace BK785:=zC BK785 hb;replace BK786:=zC BK786 hb;replace HB:=zF HB hb;(try clear hb);(try clear hb2);(try clear hk);(try clear hi))|((with_reducible refine zH (f:=43) rfl ?_);refine zT (some 50) rfl rfl Tryz.func43 (by kernel_rfl) rfl #[.string t795,.string (t787++t788)] rfl MP ?_;(with_reducible refine (yZ.calls t795 (t787++t788) t796 _ A34.out).mono ?_);rintro e w' ⟨rfl,⟨nd,rfl⟩⟩;refine⟨_,rfl,?_⟩))
  (try simp only[Act.put,List.setIfInBounds_toArray,List.set_cons_zero,List.set_cons_succ])
  go_cut [15] (fun v15 wc=>∃ (kq:Nat) (x15_34:Int),v15=.int .i64 x15_34∧Aside0 (zJ.j1 kq a0 x10_4 (t787++t788) t790 t795 x15_34 a1_0 a1_1 a1_2=some (r1,r2,r3,r4))∧Aside0 (kq≤kj4)∧Aside0 (wc.heap[gb785]?=some (.cells #[.bool a1_0,.string a1_1,.int .i64 a1_2] 23 (0,0)))∧Aside0 (wc.heap[gb786]?=some (.cells #[.bool false,.string (⟨#[]⟩:ByteArray),.int .i64 0] 23 (0,0)))∧Aside0 (Below w.heap.size w wc))
  case first =>
   have H:=HC35.out;clear HC35;by_cases c42:t796=true
   ·subst c42
    rw[if_pos rfl] at H;have H':=K_ H;clear H;go_wp2
    go_meet
    case rel=>exact⟨_,((-1)),SR,H',⟨by have:=HJ4.out;first|omega|exact Nat.le_refl _⟩,⟨BK BK785⟩,⟨BK BK786⟩,⟨BL HB⟩⟩
   replace c42:=Bool.eq_false_iff.mpr c42;subst c42;rw[if_neg (show ¬ (false=true) by decide)] at H;have H':=K_ H;clear H;go_wp2
   go_meet
   case rel=>exact⟨_,(0),SR,H',⟨by have:=HJ4.out;first|omega|exact Nat.le_refl _⟩,⟨BK BK785⟩,⟨BK BK786⟩,⟨BL HB⟩⟩
  clear HC35;try clear c13
  try clear c13b0
  try clear c13b1
  try clear c13b2
  try clear c16
  try clear c16b0
  try clear c16b1
  try clear c26
  try clear c26b0
  try clear c26b1
  try clear hcz38_0
  try clear hcz38_1
  try clear hcz38_2
  try clear hfz38_0
  try clear hfz38_1
  try clear hfz38_2
  obtain⟨kq,x15_34,rfl,HA,HJ34,BK785,BK786,HB⟩:=hcut;obtain _|kj34:=kq
  ·exact absurd HA.out (by simp[zJ.j1])
  have H:=HA.out;clear HA;simp only[zJ.j1] at H
  obtain⟨t797,A430,H⟩:=Option.bind_eq_some_iff.mp H
  (try dsimp -simprocs only at H)
  have A43:=K_ A430;clear A430;have HC44:=K_ H;clear H;go_upto_if 53 with (first|((with_reducible refine zH (f:=43) rfl ?_);refine zT (some 53) rfl rfl Tryz.func43 (by kernel_rfl) rfl #[.string (t787++t788),.string t795] rfl MP ?_;(with_reducible refine (yZ.calls (t787++t788) t795 t797 _ A43.out).mono ?_);rintro e w' ⟨rfl,⟨nd,rfl⟩⟩;refine⟨_,rfl,?_⟩))
  (try simp only[Act.put,List.setIfInBounds_toArray,List.set_cons_zero,List.set_cons_succ])
  go_cut [15] (fun v15 wc=>∃ (kq:Nat) (x15_43:Int),v15=.int .i64 x15_43∧Aside0 (zJ.j2 kq a0 x10_4 (t787++t788) t790 x15_43 a1_0 a1_1 a1_2=some (r1,r2,r3,r4))∧Aside0 (kq≤kj34)∧Aside0 (wc.heap[gb785]?=some (.cells #[.bool a1_0,.string a1_1,.int .i64 a1_2] 23 (0,0)))∧Aside0 (wc.heap[gb786]?=some (.cells #[.bool false,.string (⟨#[]⟩:ByteArray),.int .i64 0] 23 (0,0)))∧Aside0 (Below w.heap.size w wc))
  case first =>
   have H:=HC44.out;clear HC44;by_cases c45:t797=true
   ·subst c45
    rw[if_pos rfl] at H;have H':=K_ H;clear H;go_wp2
    go_meet
    case rel=>exact⟨_,(1),SR,H',⟨by have:=HJ4.out;have:=HJ34.out;first|omega|exact Nat.le_refl _⟩,⟨BK BK785⟩,⟨BK BK786⟩,⟨BL HB⟩⟩
   replace c45:=Bool.eq_false_iff.mpr c45;subst c45;rw[if_neg (show ¬ (false=true) by decide)] at H;have H':=K_ H;clear H;go_wp2
   go_meet
   case rel=>exact⟨_,(x15_34),SR,H',⟨by have:=HJ4.out;have:=HJ34.out;first|omega|exact Nat.le_refl _⟩,⟨BK BK785⟩,⟨BK BK786⟩,⟨BL HB⟩⟩
  clear HC44;obtain⟨kq,x15_43,rfl,HA,HJ43,BK785,BK786,HB⟩:=hcut;obtain _|kj43:=kq
  ·exact absurd HA.out (by simp[zJ.j2])
  have H:=HA.out;clear HA;simp only[zJ.j2] at H
  have HC46:=K_ H;clear H;go_upto_region 16 with (fail)
  go_cut [16] (fun v16 wc=>∃ (kq:Nat) (x16_45:Bool),v16=.bool x16_45∧Aside0 (zJ.j3 kq a0 x10_4 (t787++t788) t790 x15_43 x16_45 a1_0 a1_1 a1_2=some (r1,r2,r3,r4))∧Aside0 (kq≤kj43)∧Aside0 (wc.heap[gb785]?=some (.cells #[.bool a1_0,.string a1_1,.int .i64 a1_2] 23 (0,0)))∧Aside0 (wc.heap[gb786]?=some (.cells #[.bool false,.string (⟨#[]⟩:ByteArray),.int .i64 0] 23 (0,0)))∧Aside0 (Below w.heap.size w wc))
  case first =>
   have H:=HC46.out;clear HC46;by_cases c47:(t790.size:Int)>0
   ·rw[if_pos c47] at H
    have c47b0:decide (0<(t790.size:Int))=true:=decide_eq_true c47;have c47b1:decide (0<t790.size)=true:=decide_eq_true (by omega);clear c47;(first|rw[c47b0]|(simp only[vY,xD];rw[c47b0])|skip)
    obtain⟨ji48,hji48⟩:∃ j_:Int,(wrap64 ((t790.size:Int)-1))=j_:=⟨_,rfl⟩
    replace H:(if 0≤(ji48) then (if (ji48)<(t790.size:Int) then (zJ.j3 kj43 a0 x10_4 (t787++t788) t790 x15_43 (((((bt t790 (ji48))-48) % 256) % 2)==1) a1_0 a1_1 a1_2) else (none)) else (none))=some (r1,r2,r3,r4):=by first|(rw[hji48] at H;exact H)|(simp only[hji48] at H ⊢;exact H)
    have hji48w:(IntKind.i64.wrap ((t790.size:Int)-1))=ji48:=(vY _).trans hji48;by_cases c49:0≤(ji48)
    ·rw[if_pos c49] at H
     have c49b0:decide (0≤(ji48))=true:=decide_eq_true c49;clear c49;by_cases c50:(ji48)<(t790.size:Int)
     ·rw[if_pos c50] at H
      have c50b0:decide ((ji48)<(t790.size:Int))=true:=decide_eq_true c50;clear c50;have H':=K_ H;clear H;have p51:0≤((ji48):Int):=of_decide_eq_true (by first|(with_reducible assumption)|assumption);have q51:(ji48)<(t790.size:Int):=of_decide_eq_true (by first|(with_reducible assumption)|assumption);have hx51:=zap t790 (ji48);replace p51:=eq_true p51;replace q51:=eq_true q51;go_wp2
      go_meet
      case rel=>exact⟨_,((((((bt t790 (ji48))-48) % 256) % 2)==1)),(by first|rfl|(simp;done)|(simp only[←hji48] <;> (first|rfl|simp))|(simp[*];done)|(simp[*,Fig.bne_nil];done)),H',⟨by have:=HJ4.out;have:=HJ34.out;have:=HJ43.out;first|omega|exact Nat.le_refl _⟩,⟨BK BK785⟩,⟨BK BK786⟩,⟨BL HB⟩⟩
     rw[if_neg c50] at H;exact absurd H (by simp)
    rw[if_neg c49] at H;exact absurd H (by simp)
   rw[if_neg c47] at H;have c47b0:decide (0<(t790.size:Int))=false:=decide_eq_false c47;have c47b1:decide (0<t790.size)=false:=decide_eq_false (by omega);clear c47;(first|rw[c47b0]|(simp only[vY,xD];rw[c47b0])|skip)
   have H':=K_ H;clear H;go_wp2
   go_meet
   case rel=>exact⟨_,(false),SR,H',⟨by have:=HJ4.out;have:=HJ34.out;have:=HJ43.out;first|omega|exact Nat.le_refl _⟩,⟨BK BK785⟩,⟨BK BK786⟩,⟨BL HB⟩⟩
  clear HC46;obtain⟨kq,x16_45,rfl,HA,HJ45,BK785,BK786,HB⟩:=hcut;obtain _|kj45:=kq
  ·exact absurd HA.out (by simp[zJ.j3])
  have H:=HA.out;clear HA;simp only[zJ.j3] at H
  obtain⟨t798,A520,H⟩:=Option.bind_eq_some_iff.mp H
  (try dsimp -simprocs only at H)
  have A52:=K_ A520;clear A520;by_cases c53:t798=true
  ·subst c53
   rw[if_pos rfl] at H;obtain⟨t799,A540,H⟩:=Option.bind_eq_some_iff.mp H
   (try dsimp -simprocs only at H)
   have A54:=K_ A540;clear A540;obtain⟨t800,A550,H⟩:=Option.bind_eq_some_iff.mp H
   (try dsimp -simprocs only at H)
   have A55:=K_ A550;clear A550;obtain⟨⟨t801,t802,t803⟩,A560,H⟩:=Option.bind_eq_some_iff.mp H
   (try dsimp -simprocs only at H)
   have A56:=K_ A560;clear A560;simp only[Option.some.injEq,Prod.mk.injEq] at H
   obtain⟨rfl,rfl,rfl,rfl⟩:=H;have hnb57:=NB785_786.out;have hnc57:=NB786_785.out;obtain⟨⟨hcz58_0,hcz58_1,hcz58_2⟩,hfz58_0,hfz58_1,hfz58_2⟩:=ce3 BK785;try go_wp2_with (first|((with_reducible refine zH (f:=111) rfl ?_);refine zT (some 72) rfl rfl Tryz.func111 (by kernel_rfl) rfl #[.int .i64 a0,.bool a1_0,.bool x16_45,.int .i64 x15_43] rfl MP ?_;(with_reducible refine (uY.calls a0 a1_0 x16_45 x15_43 true _ A52.out).mono ?_);rintro e w' ⟨rfl,⟨nd,rfl⟩⟩;refine⟨_,rfl,?_⟩;(try (rw[zah wc];generalize hq_:World.drewN wc _=wc;replace BK785:=zbR BK785 hq_;replace BK786:=zbR BK786 hq_;replace HB:=zdt HB hq_;clear hq_));(try (obtain⟨⟨hcz9072_0,hcz9072_1,hcz9072_2⟩,hfz9072_0,hfz9072_1,hfz9072_2⟩:=ce3 BK785));(try (obtain⟨⟨hcz9073_0,hcz9073_1,hcz9073_2⟩,hfz9073_0,hfz9073_1,hfz9073_2⟩:=ce3 BK786)))|((with_reducible refine zH (f:=110) rfl ?_);refine zT (some 74) rfl rfl Tryz.func110 (by kernel_rfl) rfl #[.string t790,.string (⟨#[49]⟩:ByteArray)] rfl MP ?_;(with_reducible refine (zV.calls kj45 t790 (⟨#[49]⟩:ByteArray) t799 _ A54.out).mono ?_);rintro e w59 ⟨rfl,hb⟩;refine⟨_,rfl,?_⟩;replace BK785:=zC BK785 hb;replace BK786:=zC BK786 hb;replace HB:=zF HB hb;(try clear hb);(try clear hb2);(try clear hk);(try clear hi)))
   (try (rw[zah w59];generalize hq_:World.drewN w59 _=w59;replace BK785:=zbR BK785 hq_;replace BK786:=zbR BK786 hq_;replace HB:=zdt HB hq_;clear hq_))
   replace BK785:=K_ (jS BK785.out);replace BK786:=K_ (jS BK786.out);replace HB:=K_ (yM HB.out);refine yI (n:=9) (S:=fun w'=>w'.cell? ⟨gb785,0,none⟩=some (.bool a1_0)∧w'.cell? ⟨gb785,1,none⟩=some (.string a1_1)∧w'.cell? ⟨gb785,2,none⟩=some (.int .i64 a1_2)) (ds:=[]) #[false,false,false,false,false,false,false,false,false] (by kernel_rfl) rfl rfl CE (fun hHeld=>?_);refine zcr zJ.tab19 zJ.bits19 (fun HT_ HW_=>?_);generalize w59.drew=w60 at BK785 BK786 HB hHeld ⊢
   refine pu_ 0 (some 75) (bb 9 1) (jP HT_.out (by kernel_rfl)) ?_;refine pu_ 2 (some 77) (bb 9 5) (jP HT_.out (by kernel_rfl)) ?_;refine pu_ 3 (some 78) (bb 9 13) (jP HT_.out (by kernel_rfl)) ?_;refine pu_ 5 (some 80) (bb 9 45) (jP HT_.out (by kernel_rfl)) ?_;refine tk_ 1 (some 76) (bb 9 47) (zci HT_.out HW_.out (by kernel_rfl)) hHeld ?_;refine zbM (i:=4) (N:=some 79) (bb 9 63) rfl rfl (zax HT_.out (by kernel_rfl)) (by decide) (fun K hK=>?_);refine gq_ Tryz.func112 #[.string t799,.string (t787++t788)] ?_;with_reducible refine (zK.calls kj45 t799 (t787++t788) t800 _ A55.out).mono ?_
   rintro e w61 ⟨rfl,hb⟩;refine⟨_,rfl,?_⟩;replace BK785:=zC BK785 hb;replace BK786:=zC BK786 hb;replace HB:=zF HB hb
   (try clear hb)
   (try clear hb2)
   (try clear hk)
   (try clear hi)
   refine hK.out _ _ CE (fun hHeld=>?_);clear hK K;refine no_ (some 79) ?_;refine zbM (i:=6) (N:=some 81) (bb 9 127) rfl rfl (zax HT_.out (by kernel_rfl)) (by decide) (fun K hK=>?_);refine gq_ Tryz.func29 #[.bool a1_0,.string t800,.int .i64 x10_4] ?_;with_reducible refine (vX.calls kj45 a1_0 t800 x10_4 t801 t802 t803 _ A56.out).mono ?_
   rintro e w62 ⟨rfl,hb⟩;refine⟨_,rfl,?_⟩;replace BK785:=zC BK785 hb;replace BK786:=zC BK786 hb;replace HB:=zF HB hb
   (try clear hb)
   (try clear hb2)
   (try clear hk)
   (try clear hi)
   refine hK.out _ _ CE (fun hHeld=>?_);clear hK K;refine no_ (some 81) ?_;refine zbM (i:=7) (N:=none) (bb 9 255) rfl rfl (zax HT_.out (by kernel_rfl)) (by decide) (fun K hK=>?_);have hs63:w62.cell? ⟨gb786,0,none⟩=some (.bool false):=(zA BK786.out 0).trans rfl;have hfs63:=zM BK786.out 0;have hns63_0:=NB785_786.out;have hms63_0:=NB786_785.out;have hs64:w62.cell? ⟨gb786,1,none⟩=some (.string (⟨#[]⟩:ByteArray)):=(zA BK786.out 1).trans rfl;have hfs64:=zM BK786.out 1;have hns64_0:=NB785_786.out;have hms64_0:=NB786_785.out;have hs65:w62.cell? ⟨gb786,2,none⟩=some (.int .i64 0):=(zA BK786.out 2).trans rfl;have hfs65:=zM BK786.out 2;have hns65_0:=NB785_786.out;have hms65_0:=NB786_785.out;refine zaU (w1:=?_) (by rfl) rfl ?_ ?_;rotate_left
   ·go_simp
    rfl
   refine hK.out _ _ ⟨((yT (p:=⟨gb786,_,none⟩) NB785_786.out _).trans (((yT (p:=⟨gb786,_,none⟩) NB785_786.out _).trans (((yT (p:=⟨gb786,_,none⟩) NB785_786.out _).trans (hHeld.1)))))),((yT (p:=⟨gb786,_,none⟩) NB785_786.out _).trans (((yT (p:=⟨gb786,_,none⟩) NB785_786.out _).trans (((yT (p:=⟨gb786,_,none⟩) NB785_786.out _).trans (hHeld.2.1)))))),((yT (p:=⟨gb786,_,none⟩) NB785_786.out _).trans (((yT (p:=⟨gb786,_,none⟩) NB785_786.out _).trans (((yT (p:=⟨gb786,_,none⟩) NB785_786.out _).trans (hHeld.2.2))))))⟩ (fun hHeld=>?_);clear hK K;refine pu_ 8 (some 9) (bb 9 511) (jP HT_.out (by kernel_rfl)) ?_;refine vF (zcs HT_.out (by kernel_rfl)) ?_;try go_wp2
   refine bodyPost_ret (jA rfl _ _ gb786 23 #[.bool t801,.string t802,.int .i64 t803] (0,0) _ rfl (BP BK786) Tryz.underlying23 rfl (by kernel_rfl)) rfl ?_;exact⟨ER,BL HB⟩
  replace c53:=Bool.eq_false_iff.mpr c53;subst c53;rw[if_neg (show ¬ (false=true) by decide)] at H;obtain⟨t804,A660,H⟩:=Option.bind_eq_some_iff.mp H
  (try dsimp -simprocs only at H)
  have A66:=K_ A660;clear A660;obtain⟨⟨t805,t806,t807⟩,A670,H⟩:=Option.bind_eq_some_iff.mp H
  (try dsimp -simprocs only at H)
  have A67:=K_ A670;clear A670;simp only[Option.some.injEq,Prod.mk.injEq] at H
  obtain⟨rfl,rfl,rfl,rfl⟩:=H;have hnb68:=NB785_786.out;have hnc68:=NB786_785.out;obtain⟨⟨hcz69_0,hcz69_1,hcz69_2⟩,hfz69_0,hfz69_1,hfz69_2⟩:=ce3 BK785;try go_wp2_with (first|((with_reducible refine zH (f:=111) rfl ?_);refine zT (some 72) rfl rfl Tryz.func111 (by kernel_rfl) rfl #[.int .i64 a0,.bool a1_0,.bool x16_45,.int .i64 x15_43] rfl MP ?_;(with_reducible refine (uY.calls a0 a1_0 x16_45 x15_43 false _ A52.out).mono ?_);rintro e w' ⟨rfl,⟨nd,rfl⟩⟩;refine⟨_,rfl,?_⟩;(try (rw[zah wc];generalize hq_:World.drewN wc _=wc;replace BK785:=zbR BK785 hq_;replace BK786:=zbR BK786 hq_;replace HB:=zdt HB hq_;clear hq_));(try (obtain⟨⟨hcz9074_0,hcz9074_1,hcz9074_2⟩,hfz9074_0,hfz9074_1,hfz9074_2⟩:=ce3 BK785));(try (obtain⟨⟨hcz9075_0,hcz9075_1,hcz9075_2⟩,hfz9075_0,hfz9075_1,hfz9075_2⟩:=ce3 BK786))))
  (try (rw[zah wc];generalize hq_:World.drewN wc _=wc;replace BK785:=zbR BK785 hq_;replace BK786:=zbR BK786 hq_;replace HB:=zdt HB hq_;clear hq_))
  replace BK785:=K_ (jS BK785.out);replace BK786:=K_ (jS BK786.out);replace HB:=K_ (yM HB.out);refine yI (n:=9) (S:=fun w'=>w'.cell? ⟨gb785,0,none⟩=some (.bool a1_0)∧w'.cell? ⟨gb785,1,none⟩=some (.string a1_1)∧w'.cell? ⟨gb785,2,none⟩=some (.int .i64 a1_2)) (ds:=[]) #[false,false,false,false,false,false,false,false,false] (by kernel_rfl) rfl rfl CE (fun hHeld=>?_);refine zcr zJ.tab19 zJ.bits19 (fun HT_ HW_=>?_);generalize wc.drew=w70 at BK785 BK786 HB hHeld ⊢
  refine pu_ 0 (some 75) (bb 9 1) (jP HT_.out (by kernel_rfl)) ?_;refine pu_ 2 (some 77) (bb 9 5) (jP HT_.out (by kernel_rfl)) ?_;refine pu_ 3 (some 78) (bb 9 13) (jP HT_.out (by kernel_rfl)) ?_;refine pu_ 5 (some 80) (bb 9 45) (jP HT_.out (by kernel_rfl)) ?_;refine tk_ 1 (some 76) (bb 9 47) (zci HT_.out HW_.out (by kernel_rfl)) hHeld ?_;refine zbM (i:=4) (N:=some 79) (bb 9 63) rfl rfl (zax HT_.out (by kernel_rfl)) (by decide) (fun K hK=>?_);refine gq_ Tryz.func112 #[.string t790,.string (t787++t788)] ?_;with_reducible refine (zK.calls kj45 t790 (t787++t788) t804 _ A66.out).mono ?_
  rintro e w71 ⟨rfl,hb⟩;refine⟨_,rfl,?_⟩;replace BK785:=zC BK785 hb;replace BK786:=zC BK786 hb;replace HB:=zF HB hb
  (try clear hb)
  (try clear hb2)
  (try clear hk)
  (try clear hi)
  refine hK.out _ _ CE (fun hHeld=>?_);clear hK K;refine no_ (some 79) ?_;refine zbM (i:=6) (N:=some 81) (bb 9 127) rfl rfl (zax HT_.out (by kernel_rfl)) (by decide) (fun K hK=>?_);refine gq_ Tryz.func29 #[.bool a1_0,.string t804,.int .i64 x10_4] ?_;with_reducible refine (vX.calls kj45 a1_0 t804 x10_4 t805 t806 t807 _ A67.out).mono ?_
  rintro e w72 ⟨rfl,hb⟩;refine⟨_,rfl,?_⟩;replace BK785:=zC BK785 hb;replace BK786:=zC BK786 hb;replace HB:=zF HB hb
  (try clear hb)
  (try clear hb2)
  (try clear hk)
  (try clear hi)
  refine hK.out _ _ CE (fun hHeld=>?_);clear hK K;refine no_ (some 81) ?_;refine zbM (i:=7) (N:=none) (bb 9 255) rfl rfl (zax HT_.out (by kernel_rfl)) (by decide) (fun K hK=>?_);have hs73:w72.cell? ⟨gb786,0,none⟩=some (.bool false):=(zA BK786.out 0).trans rfl;have hfs73:=zM BK786.out 0;have hns73_0:=NB785_786.out;have hms73_0:=NB786_785.out;have hs74:w72.cell? ⟨gb786,1,none⟩=some (.string (⟨#[]⟩:ByteArray)):=(zA BK786.out 1).trans rfl;have hfs74:=zM BK786.out 1;have hns74_0:=NB785_786.out;have hms74_0:=NB786_785.out;have hs75:w72.cell? ⟨gb786,2,none⟩=some (.int .i64 0):=(zA BK786.out 2).trans rfl;have hfs75:=zM BK786.out 2;have hns75_0:=NB785_786.out;have hms75_0:=NB786_785.out;refine zaU (w1:=?_) (by rfl) rfl ?_ ?_;rotate_left
  ·go_simp
   rfl
  refine hK.out _ _ ⟨((yT (p:=⟨gb786,_,none⟩) NB785_786.out _).trans (((yT (p:=⟨gb786,_,none⟩) NB785_786.out _).trans (((yT (p:=⟨gb786,_,none⟩) NB785_786.out _).trans (hHeld.1)))))),((yT (p:=⟨gb786,_,none⟩) NB785_786.out _).trans (((yT (p:=⟨gb786,_,none⟩) NB785_786.out _).trans (((yT (p:=⟨gb786,_,none⟩) NB785_786.out _).trans (hHeld.2.1)))))),((yT (p:=⟨gb786,_,none⟩) NB785_786.out _).trans (((yT (p:=⟨gb786,_,none⟩) NB785_786.out _).trans (((yT (p:=⟨gb786,_,none⟩) NB785_786.out _).trans (hHeld.2.2))))))⟩ (fun hHeld=>?_);clear hK K;refine pu_ 8 (some 9) (bb 9 511) (jP HT_.out (by kernel_rfl)) ?_;refine vF (zcs HT_.out (by kernel_rfl)) ?_;try go_wp2
  refine bodyPost_ret (jA rfl _ _ gb786 23 #[.bool t805,.string t806,.int .i64 t807] (0,0) _ rfl (BP BK786) Tryz.underlying23 rfl (by kernel_rfl)) rfl ?_;exact⟨ER,BL HB⟩
 rw[if_neg c13] at H;exact absurd H (by simp)
theorem zgV (m:Nat) (hm:m≤1000000):∀ (d n:Nat),m-n=d→n≤m→Ev (fun k=>jG.l0 k (m:Int) (List.replicate n 48) (n:Int)) (strOfNums (List.replicate m 48))
 | 0,n,hd,hn=>by
  obtain rfl:n=m:=by omega
  refine zaE (r':=strOfNums (List.replicate n 48)) (fun k=>?_) rfl
  simp only[jG.l0];rw[if_neg (by omega)]
 | d+1,n,hd,hn=>by
  refine Ev.step (f:=fun k=>jG.l0 k (m:Int) (List.replicate (n+1) 48) ((n+1:Nat):Int)) (fun k=>?_) (zgV m hm d (n+1) (by omega) (by omega));simp only[jG.l0]
  rw[if_pos (by omega),if_pos (by rw[List.length_replicate];omega),List.replicate_succ',w64 (by omega) (by omega)];rfl
def zeq (m:Nat):ByteArray:=strOfNums (List.replicate m 48)
theorem zjp {m:Nat} (hm:m≤1000000):Ev (fun k=>jG.f k (m:Int)) (zeq m):=zgV m hm m 0 (by omega) (by omega)
theorem zdY (m:Nat):(zeq m).data.toList=List.replicate m 48:=by rw[zeq,zdy,List.map_replicate];rfl
theorem zgf (m:Nat):(zeq m).size=m:=by rw[zR,zdY,List.length_replicate]
theorem zoH {b:Bool} {s:ByteArray} {e x:Int} (h:OkD s e) (h1:x≤e) (h2:-100000≤x):Ev (fun k=>uX.f k b s e x) (zU (atE (vB s) e x)):=by
 have hs:=h.sz;have hl:=h.lo;have hh:=h.hi;have hz:=h.val;unfold uX.f;refine Ev.bind (zbP (by omega) h.d) ?_;by_cases h0:vB s=0
 ·simp only[uV.2 h0,if_true]
  rw[h0,zoa,zdX];exact Ev.now _
 have h3:¬ (zU (vB s)).toList=([]:List UInt8):=fun hh=>h0 (uV.1 hh)
 obtain⟨m,hm⟩:∃ m:Nat,m=(e-x).toNat:=⟨_,rfl⟩
 have hw:wrap64 (e-x)=(m:Int):=by rw[w64 (by omega) (by omega)];omega
 simp only[h3,if_false,hw]
 refine Ev.bind (zjp (by omega)) ?_;have hc:(zU (vB s)).size+(zeq m).size≤9223372036854775807:=by rw[zgf];omega
 simp only[hc,if_true]
 refine zaw (Ev.now _) ?_;apply xN
 rw[zdB,zam,zam,zdY];unfold atE;rw[zer h0,←hm]
theorem zfJ (m n:Nat):yZ.f (zU m) (zU n)=some (decide (m<n)):=by
 unfold yZ.f;rw[zae,zae];by_cases h:(vU m).length=(vU n).length
 ·rw[if_pos (by omega)]
  rw[ByteArray.toList_eq,ByteArray.toList_eq,zam,zam,zij (zbN m) (zbN n) h,zbt,zbt]
 rw[if_neg (by omega)];congr 1
 rw[decide_eq_decide];constructor
 ·intro h1;exact zfV (by omega)
 intro h1;rcases Nat.lt_or_ge (vU m).length (vU n).length with h2|h2
 ·omega
 have:=zfV (m:=n) (n:=m) (by omega);omega
theorem zgu (s:ByteArray):vB ((⟨#[48]⟩:ByteArray)++s)=vB s:=by
 rw[zdS,show vB (⟨#[48]⟩:ByteArray)=0 from rfl,Nat.zero_mul,Nat.zero_add]
theorem zpm {b:Bool} {s:ByteArray} {e:Int} (hd:dB s=true) (hz:s.size≤900000) (h1:-1000000≤e) (h2:e≤1000000):Ev (fun k=>vX.f k b s e) (b,nD (vB s),nE (vB s) e):=by
 unfold vX.f;refine evT (by omega) ?_;have hs:((⟨#[48]⟩:ByteArray)++s).size=1+s.size:=by rw[ByteArray.size_append];rfl
 have:=zha (b:=b) (s:=(⟨#[48]⟩:ByteArray)++s) (e:=e) (zeZ.2 ⟨rfl,hd⟩) (by omega) h1 h2
 rw[zgu] at this;exact Ev.bind this (Ev.now _)
theorem zjv {b:Bool} {n:Nat} {e:Int} (hz:(zU n).size≤900000) (h1:-1000000≤e) (h2:e≤1000000):Ev (fun k=>vX.f k b (zU n) e) (b,nD n,nE n e):=by
 have:=zpm (b:=b) (s:=zU n) (e:=e) (zal n) hz h1 h2
 rwa [xT] at this
theorem zjE (p q c:Nat) (hp:p≤9) (hq:q≤9) (hc:c≤1):wrap64 (wrap64 ((p:Int)-(q:Int))-(c:Int))=(p:Int)-(q:Int)-(c:Int):=by
 rw[w64 (x:=(p:Int)-(q:Int)) (by omega) (by omega),w64 (by omega) (by omega)]
theorem zoU (p q c:Nat) (hp:p≤9) (hq:q≤9) (hc:c≤1) (h:p<q+c):(wrap64 (48+wrap64 ((p:Int)-(q:Int)-(c:Int)+10))) % 256=((48+(p+10-q-c):Nat):Int):=by
 rw[w64 (x:=(p:Int)-(q:Int)-(c:Int)+10) (by omega) (by omega),w64 (by omega) (by omega)];omega
theorem zoK (p q c:Nat) (hp:p≤9) (hq:q≤9) (hc:c≤1) (h:q+c≤p):(wrap64 (48+((p:Int)-(q:Int)-(c:Int)))) % 256=((48+(p-q-c):Nat):Int):=by
 rw[w64 (by omega) (by omega)];omega
theorem zeH (a b:ByteArray) (ha:dB a=true) (hb:dB b=true) (la:a.size≤100000000000) (lb:b.size≤100000000000):∀ (d k:Nat) (x:List Int) (c:Nat),a.size-k=d→k≤a.size→c≤1→x.length=k→yH (ob x)=true→c+rv ((rs b).drop k)≤rv ((rs a).drop k) →
  Ev (fun j=>jF.l0 j a b x (c:Int) (k:Int)) (zU (rv (ob x)+10 ^ k * (rv ((rs a).drop k)-rv ((rs b).drop k)-c)))
 | 0,k,x,c,h1,h2,hc,hx,hd,hle=>by
  refine zaw (Ev.step (fun j=>?_) (zbT (l:=x) (by omega) hd)) ?_
  ·simp only[jF.l0];rw[if_neg (by omega)]
  rw[zbe (s:=a) (by omega)];simp
 | d+1,k,x,c,h1,h2,hc,hx,hd,hle=>by
  have da:=zfT ha k;have db:=zfT hb k;rw[zdk a k,zdk b k] at hle ⊢;by_cases hneg:dg a k<dg b k+c
  ·obtain⟨o1,o2⟩:=zfQ x (c:=dg a k+10-dg b k-c) (by omega) hd
   refine Ev.step (f:=fun j=>jF.l0 j a b (x++[((48+(dg a k+10-dg b k-c):Nat):Int)]) ((1:Nat):Int) ((k+1:Nat):Int)) (fun j=>?_) ?_
   ·simp only[jF.l0]
    rw[if_pos (by omega),zbJ ha (by omega) (by omega),zbJ hb (by omega) (by omega)];simp only[Option.bind_some]
    rw[zjE _ _ _ da db hc,if_pos (by omega),if_pos (by omega),zoU _ _ _ da db hc hneg,w64 (by omega) (by omega)];rfl
   refine zaw (zeH a b ha hb la lb d (k+1) _ 1 (by omega) (by omega) (by omega) (by simp[hx]) o1 (by omega)) ?_;rw[o2,hx,Nat.pow_succ,Nat.mul_assoc,Nat.add_assoc,←Nat.mul_add];congr 2;congr 1;omega
  obtain⟨o1,o2⟩:=zfQ x (c:=dg a k-dg b k-c) (by omega) hd;refine Ev.step (f:=fun j=>jF.l0 j a b (x++[((48+(dg a k-dg b k-c):Nat):Int)]) ((0:Nat):Int) ((k+1:Nat):Int)) (fun j=>?_) ?_
  ·simp only[jF.l0]
   rw[if_pos (by omega),zbJ ha (by omega) (by omega),zbJ hb (by omega) (by omega)];simp only[Option.bind_some]
   rw[zjE _ _ _ da db hc,if_neg (by omega),if_pos (by omega),zoK _ _ _ da db hc (by omega),w64 (by omega) (by omega)];rfl
  refine zaw (zeH a b ha hb la lb d (k+1) _ 0 (by omega) (by omega) (by omega) (by simp[hx]) o1 (by omega)) ?_;rw[o2,hx,Nat.pow_succ,Nat.mul_assoc,Nat.add_assoc,←Nat.mul_add];congr 2;congr 1;omega
theorem znn {a b:ByteArray} (ha:dB a=true) (hb:dB b=true) (la:a.size≤100000000000) (lb:b.size≤100000000000) (hle:vB b≤vB a):Ev (fun k=>jF.f k a b) (zU (vB a-vB b)):=by
 refine zaw (zeH a b ha hb la lb a.size 0 [] 0 (by omega) (by omega) (by omega) rfl rfl (by simpa [rs,vB] using hle)) ?_;simp[ob,rv,vB,rs]
theorem znF (j:Nat) (h:j≤9):(wrap64 (48+(j:Int))) % 256=((48+j:Nat):Int):=by rw[w64 (by omega) (by omega)];omega
theorem ziH {c:Nat} (h:c≤9):dB (strOfNums [((48+c:Nat):Int)])=true∧vB (strOfNums [((48+c:Nat):Int)])=c∧(strOfNums [((48+c:Nat):Int)]).size=1:=by
  have e2:(UInt8.ofNat (48+c)).toNat=48+c:=by rw[UInt8.toNat_ofNat'];omega
  refine⟨?_,?_,?_⟩
  · unfold dB;rw[zdy];simp only[List.map_cons,List.map_nil,Int.toNat_natCast];rw[xG,uU,e2];exact⟨by omega,rfl⟩
  · unfold vB;rw[zdy];simp only[List.map_cons,List.map_nil,Int.toNat_natCast,List.reverse_singleton,rv,e2];omega
  rw[strOfNums_size];rfl
theorem zkO (a:ByteArray) (n:Nat) (hn:0<n) (ln:(zU n).size≤1000000) (q:ByteArray) (hq:q.size≤1000000000000) (i:Nat) (hi:i<1000000000000) (t:Nat) (ht:t<10 * n) (r:ByteArray×ByteArray):∀ (d j:Nat),t / n-j=d→j≤t / n →
    Ev (fun k=>zX.l0 k a (zU n) (q++strOfNums [((48+t / n:Nat):Int)]) (zU (t % n)) ((i+1:Nat):Int)) r→Ev (fun k=>zX.l1 k a (zU n) q (zU (t-j * n)) (i:Int) (j:Int)) r
  | 0,j,h1,h2,h=>by
    have hj:j=t / n:=by omega
    have hq9 : t / n ≤ 9 := by have:t / n<10:=by rw[Nat.div_lt_iff_lt_mul hn];exact ht
                               omega
    have e:t-j * n=t % n:=by
      have:=Nat.div_add_mod t n
      rw[←hj,Nat.mul_comm] at this;omega
    rw[e];refine Ev.step (fun k=>?_) h;have hm:=Nat.mod_lt t hn;obtain⟨c1,c2,c3⟩:=ziH hq9;simp only[zX.l1,zfJ,hm,decide_true,Option.bind_some,if_true]
    rw[hj,znF _ hq9,if_pos (by omega),xU _ (by omega)]
  | d+1,j,h1,h2,h=>by
    have hjn:j * n+n≤t:=by
      have h3:(j+1) * n≤t / n * n:=Nat.mul_le_mul_right _ (by omega);have:=Nat.div_mul_le_self t n
      rw[Nat.add_mul] at h3;omega
    have hnl:¬ t-j * n<n:=by omega
    have lz:(zU (t-j * n)).size≤1000001:=znP ln (by omega)
    have hj9 : j ≤ 9 := by have:t / n<10:=by rw[Nat.div_lt_iff_lt_mul hn];exact ht
                           omega
    refine Ev.step (f:=fun k=>(jF.f k (zU (t-j * n)) (zU n)).bind fun t2=>zX.l1 k a (zU n) q t2 (i:Int) ((j+1:Nat):Int)) (fun k=>?_) (Ev.bind (znn (zal _) (zal _) (by omega) (by omega) (by rw[xT,xT];omega)) ?_)
    · simp only[zX.l1,zfJ,hnl,decide_false,Option.bind_some,Bool.false_eq_true,if_false]
      rw[xU _ (by omega)]
    rw[xT,xT,Nat.sub_sub,show j * n+n=(j+1) * n by rw[Nat.add_mul];omega];exact zkO a n hn ln q hq i hi t ht r d (j+1) (by omega) (by omega) h
theorem zid (a:ByteArray) (ha:dB a=true) (la:a.size≤1000000) (n:Nat) (hn:0<n) (ln:(zU n).size≤1000000):∀ (d i:Nat) (q:ByteArray) (m:Nat),a.size-i=d→i≤a.size→dB q=true→q.size=i→m<n→vB q * n+m=vB (a.extract 0 i) →
    Ev (fun k=>zX.l0 k a (zU n) q (zU m) (i:Int)) (zU (vB a / n),zU (vB a % n))
  | 0,i,q,m,h1,h2,hq,zq,hm,hv=>by
    have e0:a.extract 0 i=a:=by apply xN;rw[zjM,List.take_of_length_le (by rw[←zR];omega)]
    rw[e0] at hv;have e1:vB q=vB a / n:=by rw[←hv,Nat.mul_comm,Nat.mul_add_div hn,Nat.div_eq_of_lt hm];rfl
    have e2:m=vB a % n:=by rw[←hv,Nat.mul_comm,Nat.mul_add_mod,Nat.mod_eq_of_lt hm]
    rw[←e1,←e2];refine Ev.step (f:=fun k=>(zO.f k q).bind fun t=>some (t,zU m)) (fun k=>?_) (Ev.bind (zbP (by omega) hq) (Ev.now _))
    simp only[zX.l0];rw[if_neg (by omega)]
  | d+1,i,q,m,h1,h2,hq,zq,hm,hv=>by
    have hlt:i<a.size:=by omega
    have hl:i<a.data.toList.length:=by rw[←zR];exact hlt
    have hdig:=uU.1 (zcj.1 ha _ (List.getElem_mem hl));have ec:(a.extract i (i+1)).data.toList=[a.data.toList[i]]:=by
      rw[zan,show i+1-i=1 by omega,List.drop_eq_getElem_cons hl];rfl
    have zc:(a.extract i (i+1)).size=1:=by rw[zR,ec];rfl
    have dc:dB (a.extract i (i+1))=true:=by unfold dB;rw[ec,xG];exact⟨uU.2 hdig,rfl⟩
    obtain⟨c,hc⟩:∃ c,c=vB (a.extract i (i+1)):=⟨_,rfl⟩
    have hc9:c≤9:=by have:=zdH dc;rw[zc,←hc] at this;omega
    have hv2:vB (a.extract 0 (i+1))=vB (a.extract 0 i) * 10+c:=by
      have:a.extract 0 (i+1)=a.extract 0 i++a.extract i (i+1):=by
        apply xN
        rw[zdB,zjM,zjM,ec,List.take_succ_eq_append_getElem hl]
      rw[this,zdS,zc,←hc,Nat.pow_one]
    have lm:(zU m).size≤1000000:=xO (by omega) ln;have ht:m * 10+c<10 * n:=by omega
    refine Ev.step (f:=fun k=>(zO.f k (zU m++a.extract i (i+1))).bind fun t=>zX.l1 k a (zU n) q t (i:Int) ((0:Nat):Int)) (fun k=>?_) (Ev.bind (zbP (by rw[ByteArray.size_append];omega) (zeZ.2 ⟨zal _,dc⟩)) ?_)
    · simp only[zX.l0]
      rw[if_pos (by omega),if_pos (by omega),xU _ (by omega),if_pos (by omega),if_pos (by omega),Int.toNat_natCast,Int.toNat_natCast,if_pos (by omega)];rfl
    rw[zdS,zc,xT,Nat.pow_one,←hc]
    have hq9 : (m * 10 + c) / n ≤ 9 := by have:(m * 10+c) / n<10:=by rw[Nat.div_lt_iff_lt_mul hn];exact ht
                                          omega
    obtain⟨c1,c2,c3⟩:=ziH hq9;have:=zkO a n hn ln q (by omega) i (by omega) (m * 10+c) ht _ _ 0 rfl (by omega) (zid a ha la n hn ln d (i+1) (q++strOfNums [((48+(m * 10+c) / n:Nat):Int)]) ((m * 10+c) % n) (by omega) (by omega) (zeZ.2 ⟨hq,c1⟩) (by rw[ByteArray.size_append];omega) (Nat.mod_lt _ hn) ?_)
    · rwa [Nat.zero_mul,Nat.sub_zero] at this
    rw[zdS,c2,c3,hv2,←hv,Nat.pow_one];have:=Nat.div_add_mod (m * 10+c) n
    rw[Nat.add_mul,Nat.mul_comm ((m * 10+c) / n) n,Nat.add_mul,Nat.mul_right_comm (vB q) 10 n];omega
theorem zoF {a:ByteArray} {n:Nat} (ha:dB a=true) (la:a.size≤1000000) (hn:0<n) (ln:(zU n).size≤1000000):Ev (fun k=>zX.f k a (zU n)) (zU (vB a / n),zU (vB a % n)):=by
  have e0:(⟨#[]⟩:ByteArray)=zU 0:=zdX.symm;have:=zid a ha la n hn ln a.size 0 (zU 0) 0 (by omega) (by omega) (zal _) (by rw[zdX];rfl) hn (by
    rw[xT];have:(a.extract 0 0).data.toList=[]:=by rw[zjM];rfl
    unfold vB;rw[this];simp[rv])
  unfold zX.f;rw[e0];exact this
theorem zqy (m:Int) (neg odd:Bool) (half:Int):uY.f m neg odd half=some (zbq m neg odd half):=by
 unfold uY.f zbq;by_cases h0:m=0 <;> by_cases h1:m=1 <;> by_cases h2:m=2 <;> by_cases h3:m=3 <;> by_cases h4:m=4 <;> by_cases h5:m=5 <;> by_cases h6:m=6 <;> simp_all
 by_cases hp:0<half
 ·simp[hp]
 by_cases hz:half=0 <;> simp[hp,hz]
theorem ziS {n:Nat} (h:n≠0):bt (zU n) (((zU n).size:Int)-1)=((48+n % 10:Nat):Int):=zkH h
theorem zhh {m:Int} {b:Bool} {s:ByteArray} {e E:Int} {B q:Nat} {half:Int} {odd:Bool} (hq:(zU q).size≤100000) (hB:(zU B).size≤100000) (h1:-100000≤E) (h2:E≤100000):Ev (fun k=>zJ.j3 k m E (zU B) (zU q) half odd b s e) (b,nD ((q+if upB m b odd half=true then 1 else 0) * B),nE ((q+if upB m b odd half=true then 1 else 0) * B) E,0):=by
 have hu:uY.f m b odd half=some (upB m b odd half):=(zqy m b odd half)
 refine Ev.step (fun k=>by simp only[zJ.j3];rfl) (evE hu ?_);cases upB m b odd half
 ·refine evF (by decide) (Ev.bind (ziM (zal _) (zal _) (by omega) (by omega)) ?_)
  rw[xT,xT];have:=zcK hq hB
  refine Ev.bind (zjv (by omega) (by omega) (by omega)) (zaw (Ev.now _) (by simp))
 have d1:dB (⟨#[49]⟩:ByteArray)=true:=by decide
 have v1:vB (⟨#[49]⟩:ByteArray)=1:=by decide
 refine evT rfl (Ev.bind (zkJ (zal q) d1 (by omega) (by decide)) ?_);rw[xT,v1];have h3:=zbE (m:=q) (n:=1) (p:=100000) hq (by rw[zaW];omega);refine Ev.bind (ziM (zal _) (zal _) (by omega) (by omega)) ?_;rw[xT,xT];have:=zcK h3 hB
 refine Ev.bind (zjv (by omega) (by omega) (by omega)) (zaw (Ev.now _) (by simp))
theorem zhc {m:Int} {b:Bool} {s:ByteArray} {e E:Int} {B q:Nat} {half:Int} (hq:(zU q).size≤100000) (hB:(zU B).size≤100000) (h1:-100000≤E) (h2:E≤100000):Ev (fun k=>zJ.j2 k m E (zU B) (zU q) half b s e) (b,nD ((q+if upB m b (q % 2==1) half=true then 1 else 0) * B),nE ((q+if upB m b (q % 2==1) half=true then 1 else 0) * B) E,0):=by
 by_cases h0:q=0
 ·subst h0
  refine Ev.step (f:=fun k=>zJ.j3 k m E (zU B) (zU 0) half false b s e) (fun k=>?_) (zhh hq hB h1 h2);simp only[zJ.j2]
  rw[if_neg (by rw[zac.2 rfl];decide)]
 have hs:=zcY h0;refine Ev.step (f:=fun k=>zJ.j3 k m E (zU B) (zU q) half (q % 2==1) b s e) (fun k=>?_) (zhh hq hB h1 h2);simp only[zJ.j2]
 rw[if_pos (by omega),w64 (x:=((zU q).size:Int)-1) (by omega) (by omega),if_pos (by omega),if_pos (by omega),ziS h0];congr 1
 rw[Bool.eq_iff_iff,beq_iff_eq,beq_iff_eq];omega
theorem zgQ {m:Int} {b:Bool} {s:ByteArray} {e E:Int} {B q t:Nat} {x:Int} (hx:x=if t<B then -1 else 0) (hq:(zU q).size≤100000) (hB:(zU B).size≤100000) (h1:-100000≤E) (h2:E≤100000):Ev (fun k=>zJ.j1 k m E (zU B) (zU q) (zU t) x b s e) (b,nD ((q+if upB m b (q % 2==1) (vN t B)=true then 1 else 0) * B),nE ((q+if upB m b (q % 2==1) (vN t B)=true then 1 else 0) * B) E,0):=by
 refine Ev.step (fun k=>by simp only[zJ.j1];rfl) (evE (zfJ B t) ?_);by_cases hl:B<t
 ·have hc:vN t B=1:=by unfold vN;rw[if_neg (by omega),if_pos hl]
  rw[hc];exact evT (decide_eq_true hl) (zhc hq hB h1 h2)
 have hc:vN t B=x:=by unfold vN;rw[hx];split <;> simp[hl]
 rw[hc];exact evF (by simpa using hl) (zhc hq hB h1 h2)
theorem zhd {m:Int} {b:Bool} {s st:ByteArray} {e p E:Int} (h:OkS s e) (hd:dB st=true) (hs0:vB st≠0) (hsz:st.size≤10000) (h1:-10000≤p) (h2:p≤10000) (hE:E=min e p):Ev (fun k=>zJ.j0 k m st p E b s e) (zaa m b (vB s) e (vB st) p):=by
 have hv:=h.ok.val;have hz:=h.sz;have hlo:=h.lo;have hhi:=h.hi;have hst:=zaj (zdH hd);obtain⟨u,hu⟩:∃ u:Nat,u=(p-E).toNat:=⟨_,rfl⟩
 have hw:wrap64 (p-E)=(u:Int):=by rw[w64 (by omega) (by omega)];omega
 have hB:zU (vB st)++zeq u=zU (atE (vB st) p E):=by
  apply xN
  rw[zdB,zam,zam,zdY];unfold atE;rw[zer hs0,←hu]
 have zB:(zU (atE (vB st) p E)).size≤40000:=by
  unfold atE;rw[zbS hs0];omega
 have zN:=zfN b (n:=vB s) (p:=10000) e E (by omega);rw[zdG] at zN;have hB0:=zhE hs0 p E;refine Ev.step (fun k=>by simp only[zJ.j0];rfl) ?_;refine Ev.bind (zbP (by omega) hd) ?_;rw[hw];refine Ev.bind (zjp (by omega)) (evT (by rw[zgf];omega) ?_);rw[hB];refine Ev.bind (zoH h.ok (by omega) (by omega)) (Ev.bind (zoF (zal _) (by omega) hB0 (by omega)) ?_);rw[xT];obtain⟨N,hN⟩:∃ N,N=atE (vB s) e E:=⟨_,rfl⟩
 obtain⟨B,hBB⟩:∃ B,B=atE (vB st) p E:=⟨_,rfl⟩
 rw[←hN,←hBB];rw[←hN] at zN;rw[←hBB] at zB hB0;dsimp only;have zN2:(zU N).size≤30000:=by omega
 have zr:=xO (Nat.mod_le N B) zN2;have zq:=xO (Nat.div_le_self N B) zN2;by_cases hf:N % B=0
 ·have hf2:atE (vB s) e (min e p) % atE (vB st) p (min e p)=0:=by rw[←hE,←hN,←hBB];exact hf
  rw[zdi hf2];exact evT (uV.2 hf) (Ev.bind (zfa h.ok) (Ev.now _))
 have hf2:¬ atE (vB s) e (min e p) % atE (vB st) p (min e p)=0:=by rw[←hE,←hN,←hBB];exact hf
 refine evF (fun hh=>hf (uV.1 hh)) ?_;by_cases h7:m=7
 ·subst h7
  rw[zbI hf2];exact evT rfl (Ev.now _)
 refine evF h7 (Ev.bind (zkJ (zal _) (zal _) (by omega) (by omega)) ?_);rw[xT];have hres:zaa m b (vB s) e (vB st) p=(b,nD ((N / B+if upB m b (N / B % 2==1) (vN (N % B+N % B) B)=true then 1 else 0) * B),nE ((N / B+if upB m b (N / B % 2==1) (vN (N % B+N % B) B)=true then 1 else 0) * B) E,0):=by
  rw[zdL h7,←hE];unfold rv0;rw[←hN,←hBB];have hq:rq m b N B=N / B+if upB m b (N / B % 2==1) (vN (N % B+N % B) B)=true then 1 else 0:=by
   unfold rq;simp only[ne_eq,hf,not_false_eq_true,true_and]
  rw[hq]
 rw[hres];refine evE (zfJ _ _) ?_;by_cases hl:N % B+N % B<B
 ·exact evT (decide_eq_true hl) (zgQ (by rw[if_pos hl]) (by omega) (by omega) (by omega) (by omega))
 exact evF (by simpa using hl) (zgQ (by rw[if_neg hl]) (by omega) (by omega) (by omega) (by omega))
theorem zeK {m:Int} {b:Bool} {s st:ByteArray} {e p:Int} (h:OkS s e) (hd:dB st=true) (hs0:vB st≠0) (hsz:st.size≤10000) (h1:-10000≤p) (h2:p≤10000):Ev (fun k=>zJ.f k m b s e st p) (zaa m b (vB s) e (vB st) p):=by
 unfold zJ.f;by_cases hc:p<e
 ·exact evT hc (zhd h hd hs0 hsz h1 h2 (by omega))
 exact evF hc (zhd h hd hs0 hsz h1 h2 (by omega))
def vE.f (k:Nat) (a0_0:Bool) (a0_1:ByteArray) (a0_2:Int) (a1:Int):Option (Bool×ByteArray×Int):=(zY.f k a0_0 a0_1 (wrap64 (a0_2+a1))).bind fun bt727=>(some (bt727.1,bt727.2.1,bt727.2.2))
set_option maxHeartbeats 8000000 in
set_option maxRecDepth 100000 in
theorem vE.calls (k:Nat) (a0_0:Bool) (a0_1:ByteArray) (a0_2:Int) (a1:Int) (r1:Bool) (r2:ByteArray) (r3:Int) (w:World) (h:vE.f k a0_0 a0_1 a0_2 a1=some (r1,r2,r3)) :
  Calls Tryz.prog 23 #[.agg #[.bool a0_0,.string a0_1,.int .i64 a0_2],.int .i64 a1] w fun e w'=>e=.returned (.agg #[.bool r1,.string r2,.int .i64 r3])∧Below w.heap.size w w':=by
 have hu23:=Tryz.underlying23;have HB:=K_ (Below.refl w.heap.size w);have H:((zY.f k a0_0 a0_1 (wrap64 (a0_2+a1))).bind fun bt727=>(some (bt727.1,bt727.2.1,bt727.2.2)))=some (r1,r2,r3):=h;clear h;obtain⟨⟨t727,t728,t729⟩,A30,H⟩:=Option.bind_eq_some_iff.mp H
 (try dsimp -simprocs only at H)
 have A3:=K_ A30;clear A30;simp only[Option.some.injEq,Prod.mk.injEq] at H
 obtain⟨rfl,rfl,rfl⟩:=H;go_enter Tryz.func23,Tryz.ntmps23
 go_wp2_with (first|(refine be_ 2 #[.bool a0_0,.string a0_1,.int .i64 a0_2] 23 ?_;intro gb725 hg w4 hbox hb;have BK725:=K_ (hbox);have GW725:=ge_ hg HB;have GE725:=ge_ hg HB;replace HB:=zF HB hb;clear hb hbox hg)|(refine be_ 4 #[.bool false,.string (⟨#[]⟩:ByteArray),.int .i64 0] 23 ?_;intro gb726 hg w5 hbox hb;have BK726:=K_ (hbox);have GW726:=ge_ hg HB;have GE726:=ge_ hg HB;replace HB:=zF HB hb;have NB725_726:=nb_ hg BK725;have NB726_725:=nc_ hg BK725;replace BK725:=zC BK725 hb;clear hb hbox hg;have hnb6:=NB725_726.out;have hnc6:=NB726_725.out;obtain⟨⟨hcz7_0,hcz7_1,hcz7_2⟩,hfz7_0,hfz7_1,hfz7_2⟩:=ce3 BK725)|((with_reducible refine zH (f:=50) rfl ?_);refine zT (some 11) rfl rfl Tryz.func50 (by kernel_rfl) rfl #[.agg #[.bool a0_0,.string a0_1,.int .i64 (wrap64 (a0_2+a1))]] rfl MP ?_;(with_reducible refine (zY.calls k a0_0 a0_1 (wrap64 (a0_2+a1)) t727 t728 t729 _ A3.out).mono ?_);rintro e w8 ⟨rfl,hb⟩;refine⟨_,rfl,?_⟩;replace BK725:=K_ (zcq (g:=gb725) (o:=.cells #[.bool a0_0,.string a0_1,.int .i64 (wrap64 (a0_2+a1))] 23 (0,0)) (BP BK725) hb);replace BK726:=K_ (zcq (g:=gb726) (o:=.cells #[.bool false,.string (⟨#[]⟩:ByteArray),.int .i64 0] 23 (0,0)) (by (with_reducible repeat (first|refine jU ?_ _|refine jS ?_|refine jT ?_ _));refine zS ?_ NB726_725.out _;(with_reducible repeat (first|refine jU ?_ _|refine jS ?_|refine jT ?_ _));exact BK726.out) hb);replace HB:=zF HB hb;(try clear hb);(try clear hb2);(try clear hk);(try clear hi);obtain⟨⟨hcz9_0,hcz9_1,hcz9_2⟩,hfz9_0,hfz9_1,hfz9_2⟩:=ce3 BK726))
 refine bodyPost_ret (results_cell_row rfl _ _ gb726 23 #[.bool t727,.string t728,.int .i64 t729] (0,0) _ rfl (BP BK726) Tryz.underlying23 rfl (by kernel_rfl)) rfl ?_;exact⟨ER,BL HB⟩
def xS.f (k:Nat) (a0_0:Bool) (a0_1:ByteArray) (a0_2:Int):Option (Int):=(zO.f k a0_1).bind fun t739=>(if t739.toList=([]:List UInt8) then (some 0) else (some (wrap64 ((wrap64 (a0_2+(t739.size:Int)))-1))))
set_option maxHeartbeats 8000000 in
set_option maxRecDepth 100000 in
theorem xS.calls (k:Nat) (a0_0:Bool) (a0_1:ByteArray) (a0_2:Int) (r:Int) (w:World) (h:xS.f k a0_0 a0_1 a0_2=some r) :
  Calls Tryz.prog 51 #[.agg #[.bool a0_0,.string a0_1,.int .i64 a0_2]] w fun e w'=>e=.returned (.int .i64 r)∧Below w.heap.size w w':=by
 have hu23:=Tryz.underlying23;have HB:=K_ (Below.refl w.heap.size w);have H:((zO.f k a0_1).bind fun t739=>(if t739.toList=([]:List UInt8) then (some 0) else (some (wrap64 ((wrap64 (a0_2+(t739.size:Int)))-1)))))=some r:=h;clear h;replace H:=Option.bind_eq_some_iff.mp H;obtain⟨t739,A20,H⟩:=H;replace H:(if t739.toList=([]:List UInt8) then (some 0) else (some (wrap64 ((wrap64 (a0_2+(t739.size:Int)))-1))))=some r:=H;have A2:=K_ A20;clear A20;by_cases c3:t739.toList=([]:List UInt8)
 ·rw[if_pos c3] at H
  have c3b0:(t739.toList==([]:List UInt8))=true:=beq_iff_eq.mpr c3;have c3b1:(t739.toList !=([]:List UInt8))=false:=bne_eq_false_iff_eq.mpr c3;clear c3;obtain rfl:=Option.some.inj H;go_enter Tryz.func51,Tryz.ntmps51
  go_wp2_with (first|((with_reducible refine zE (N:=1) rfl ?_);refine zdC ?hg (N:=1) ?hd (cs:=#[.bool a0_0,.string a0_1,.int .i64 a0_2]) (t:=23) ?hr ?_;(case hd=>rfl);(case hg=>rfl);(case hr=>first|(go_simp;done)|(go_simp;rfl));intro gb738 hg w4 hbox hb;have n0_:=K_ (zeB (by repeat (first|(with_reducible first|exact HB.out|apply yC|apply jK|apply yM)|exact HB.out)) hb);have n1_:=K_ (hbox);have n2_:=K_ ((by rw[hg];exact (zQ (by repeat (first|(with_reducible first|exact HB.out|apply yC|apply jK|apply yM)|exact HB.out))):w.heap.size≤gb738));have n3_:=K_ ((by rw[hg];exact (zQ (by repeat (first|(with_reducible first|exact HB.out|apply yC|apply jK|apply yM)|exact HB.out))):w.heap.size≤gb738));clear HB;have HB:=n0_;have BK738:=n1_;have GW738:=n2_;have GE738:=n3_;clear n0_ n1_ n2_ n3_;clear hb hbox hg;have hcz5_0:w4.cell? ⟨gb738,0,none⟩=some (.bool a0_0):=(zA BK738.out 0).trans rfl;have hcz5_1:w4.cell? ⟨gb738,1,none⟩=some (.string a0_1):=(zA BK738.out 1).trans rfl;have hcz5_2:w4.cell? ⟨gb738,2,none⟩=some (.int .i64 a0_2):=(zA BK738.out 2).trans rfl;have hfz5_0:=zM BK738.out 0;have hfz5_1:=zM BK738.out 1;have hfz5_2:=zM BK738.out 2)|((with_reducible refine zH (f:=69) rfl ?_);refine zT (some 6) rfl rfl Tryz.func69 (by kernel_rfl) rfl #[.string a0_1] rfl (by (try simp only[List.map_toArray]);(try simp only[List.map_cons]);(try simp only[List.map_nil]);first|done|rfl|(simp only[List.length_drop,List.length_take];rfl)) ?_;(with_reducible refine (zO.calls k a0_1 t739 _ A2.out).mono ?_);rintro e w' ⟨rfl,⟨nd,rfl⟩⟩;refine⟨_,rfl,?_⟩))
  go_ret
  exact⟨by first|rfl|(simp[yR,yO] <;> rfl)|(simp[*,yR,yO] <;> rfl),by repeat (first|(with_reducible first|exact HB.out|apply yC|apply jK|apply yM|refine xR ?_ GE738.out)|exact HB.out)⟩
 rw[if_neg c3] at H;have c3b0:(t739.toList==([]:List UInt8))=false:=beq_eq_false_iff_ne.mpr c3;have c3b1:(t739.toList !=([]:List UInt8))=true:=bne_iff_ne.mpr c3;obtain rfl:=Option.some.inj H;go_enter Tryz.func51,Tryz.ntmps51
 go_wp2_with (first|((with_reducible refine zE (N:=1) rfl ?_);refine zdC ?hg (N:=1) ?hd (cs:=#[.bool a0_0,.string a0_1,.int .i64 a0_2]) (t:=23) ?hr ?_;(case hd=>rfl);(case hg=>rfl);(case hr=>first|(go_simp;done)|(go_simp;rfl));intro gb738 hg w6 hbox hb;have n0_:=K_ (zeB (by repeat (first|(with_reducible first|exact HB.out|apply yC|apply jK|apply yM)|exact HB.out)) hb);have n1_:=K_ (hbox);have n2_:=K_ ((by rw[hg];exact (zQ (by repeat (first|(with_reducible first|exact HB.out|apply yC|apply jK|apply yM)|exact HB.out))):w.heap.size≤gb738));have n3_:=K_ ((by rw[hg];exact (zQ (by repeat (first|(with_reducible first|exact HB.out|apply yC|apply jK|apply yM)|exact HB.out))):w.heap.size≤gb738));clear HB;have HB:=n0_;have BK738:=n1_;have GW738:=n2_;have GE738:=n3_;clear n0_ n1_ n2_ n3_;clear hb hbox hg;have hcz7_0:w6.cell? ⟨gb738,0,none⟩=some (.bool a0_0):=(zA BK738.out 0).trans rfl;have hcz7_1:w6.cell? ⟨gb738,1,none⟩=some (.string a0_1):=(zA BK738.out 1).trans rfl;have hcz7_2:w6.cell? ⟨gb738,2,none⟩=some (.int .i64 a0_2):=(zA BK738.out 2).trans rfl;have hfz7_0:=zM BK738.out 0;have hfz7_1:=zM BK738.out 1;have hfz7_2:=zM BK738.out 2)|((with_reducible refine zH (f:=69) rfl ?_);refine zT (some 6) rfl rfl Tryz.func69 (by kernel_rfl) rfl #[.string a0_1] rfl (by (try simp only[List.map_toArray]);(try simp only[List.map_cons]);(try simp only[List.map_nil]);first|done|rfl|(simp only[List.length_drop,List.length_take];rfl)) ?_;(with_reducible refine (zO.calls k a0_1 t739 _ A2.out).mono ?_);rintro e w' ⟨rfl,⟨nd,rfl⟩⟩;refine⟨_,rfl,?_⟩))
 go_ret
 exact⟨by first|rfl|(simp[yR,yO] <;> rfl)|(simp[*,yR,yO] <;> rfl),by repeat (first|(with_reducible first|exact HB.out|apply yC|apply jK|apply yM|refine xR ?_ GE738.out)|exact HB.out)⟩
theorem znW {b:Bool} {s:ByteArray} {e:Int} (h:OkD s e):Ev (fun k=>xS.f k b s e) (yD (vB s) e):=by
 have h1:=h.sz;have h2:=h.lo;have h3:=h.hi;have hz:=h.val;unfold xS.f;refine Ev.bind (zbP (by omega) h.d) ?_;by_cases h0:vB s=0
 ·simp only[uV.2 h0,if_true]
  rw[h0];exact Ev.now _
 have h3:¬ (zU (vB s)).toList=([]:List UInt8):=fun hh=>h0 (uV.1 hh)
 simp only[h3,if_false]
 have hw:wrap64 (wrap64 (e+((zU (vB s)).size:Int))-1)=e+((zU (vB s)).size:Int)-1:=by
  rw[w64 (x:=e+((zU (vB s)).size:Int)) (by omega) (by omega),w64 (by omega) (by omega)]
 rw[hw];unfold yD;rw[if_neg h0];exact Ev.now _
end Go.Proofs.YtcmgdjnjmobkoaaGreatDoor.Px
namespace Go.Proofs.YtcmgdjnjmobkoaaGreatDoor.Px
set_option linter.all false
open Fig Go.RowKit Go.Proofs.YtcmgdjnjmobkoaaGreatDoorW.PrintWords Go.Proofs.YtcmgdjnjmobkoaaGreatDoorW.PrintLast Go.Proofs.YtcmgdjnjmobkoaaGreatDoorW.PrintMore
attribute [local go_sem] vK vL uE uD yS yP vM vJ
set_option maxHeartbeats 4000000 in
set_option maxRecDepth 100000 in
theorem zlD (q:Pat) (w:World) (hr:zaR q w):Calls Tryz.prog 24 #[.agg q.cs] w fun e w'=>e=.returned (.int .i64 q.mult)∧Below w.heap.size w w':=by
 have HB:=K_ (Below.refl w.heap.size w);have HK:=K_ hr;have HM:=K_ (show q.mult=if 0<q.sg 4 then 2 else if 0<q.sg 5 then 3 else 0 from rfl);obtain⟨n4,hn4⟩:∃ n4,n4=q.sg 4:=⟨_,rfl⟩
 obtain⟨n5,hn5⟩:∃ n5,n5=q.sg 5:=⟨_,rfl⟩
 have H4:∀ W,zaR q W→Aside0 (Calls Tryz.prog 53 #[.agg q.cs,.int .i64 4] W fun e w'=>e=.returned (.int .i64 ((n4:Nat):Int))∧Below W.heap.size W w'):=fun W h=>K_ (by rw[hn4];exact zeD q 4 W h.r0 h.r1 h.r3 h.r4 h.s0 h.s1 h.s3 h.s4)
 have H5:∀ W,zaR q W→Aside0 (Calls Tryz.prog 53 #[.agg q.cs,.int .i64 5] W fun e w'=>e=.returned (.int .i64 ((n5:Nat):Int))∧Below W.heap.size W w'):=fun W h=>K_ (by rw[hn5];exact zeD q 5 W h.r0 h.r1 h.r3 h.r4 h.s0 h.s1 h.s3 h.s4)
 rw[←hn4,←hn5] at HM;clear hr hn4 hn5;go_enter Tryz.func24,Tryz.ntmps24
 go_upto_region 1 with ((with_reducible refine zE (N:=1) rfl ?_);refine bx_ 1 (q.cs) 26 ?_ rfl rfl rfl rfl rfl;intro g1 hg w2 hbox hb;have BK1:=K_ hbox;have GE1:=ge_ hg HB;replace HB:=zF HB hb;clear hb hbox hg)
 by_cases h4:0<n4
 ·rw[if_pos h4] at HM
  have d4:decide (0<n4)=true:=decide_eq_true h4;go_wp2_with (first|((with_reducible refine zE (N:=3) rfl ?_);refine lo_ (g:=g1) (cs:=q.cs) _ ⟨BK BK1⟩ ?_ rfl rfl rfl Tryz.underlying26 rfl jX)|((with_reducible refine zE (N:=6) rfl ?_);refine lo_ (g:=g1) (cs:=q.cs) _ ⟨BK BK1⟩ ?_ rfl rfl rfl Tryz.underlying26 rfl jX)|(go_at_call 53;with_reducible refine ((H4 _ (HK.out.below (BL HB))).out).mono ?_;rintro e w' ⟨rfl,hb⟩;replace HB:=zF HB hb;replace BK1:=zC BK1 hb;clear hb)|(go_at_call 53;with_reducible refine ((H5 _ (HK.out.below (BL HB))).out).mono ?_;rintro e w' ⟨rfl,hb⟩;replace HB:=zF HB hb;replace BK1:=zC BK1 hb;clear hb))
  go_ret
  exact⟨by rw[HM.out];rfl,BL HB⟩
 rw[if_neg h4] at HM;have d4:decide (0<n4)=false:=decide_eq_false h4;by_cases h5:0<n5
 ·rw[if_pos h5] at HM
  have d5:decide (0<n5)=true:=decide_eq_true h5;go_wp2_with (first|((with_reducible refine zE (N:=3) rfl ?_);refine lo_ (g:=g1) (cs:=q.cs) _ ⟨BK BK1⟩ ?_ rfl rfl rfl Tryz.underlying26 rfl jX)|((with_reducible refine zE (N:=6) rfl ?_);refine lo_ (g:=g1) (cs:=q.cs) _ ⟨BK BK1⟩ ?_ rfl rfl rfl Tryz.underlying26 rfl jX)|(go_at_call 53;with_reducible refine ((H4 _ (HK.out.below (BL HB))).out).mono ?_;rintro e w' ⟨rfl,hb⟩;replace HB:=zF HB hb;replace BK1:=zC BK1 hb;clear hb)|(go_at_call 53;with_reducible refine ((H5 _ (HK.out.below (BL HB))).out).mono ?_;rintro e w' ⟨rfl,hb⟩;replace HB:=zF HB hb;replace BK1:=zC BK1 hb;clear hb))
  go_ret
  exact⟨by rw[HM.out];rfl,BL HB⟩
 rw[if_neg h5] at HM;have d5:decide (0<n5)=false:=decide_eq_false h5;go_wp2_with (first|((with_reducible refine zE (N:=3) rfl ?_);refine lo_ (g:=g1) (cs:=q.cs) _ ⟨BK BK1⟩ ?_ rfl rfl rfl Tryz.underlying26 rfl jX)|((with_reducible refine zE (N:=6) rfl ?_);refine lo_ (g:=g1) (cs:=q.cs) _ ⟨BK BK1⟩ ?_ rfl rfl rfl Tryz.underlying26 rfl jX)|(go_at_call 53;with_reducible refine ((H4 _ (HK.out.below (BL HB))).out).mono ?_;rintro e w' ⟨rfl,hb⟩;replace HB:=zF HB hb;replace BK1:=zC BK1 hb;clear hb)|(go_at_call 53;with_reducible refine ((H5 _ (HK.out.below (BL HB))).out).mono ?_;rintro e w' ⟨rfl,hb⟩;replace HB:=zF HB hb;replace BK1:=zC BK1 hb;clear hb))
 go_ret
 exact⟨by rw[HM.out];rfl,BL HB⟩
theorem zex {b:Bool} {s:ByteArray} {e n:Int} (h:OkD s (e+n)) (h1:-1000000≤e) (h2:e≤1000000) (h3:-1000000≤n) (h4:n≤1000000):Ev (fun k=>vE.f k b s e n) (b,nD (vB s),nE (vB s) (e+n)):=by
 unfold vE.f;rw[w64 (x:=e+n) (by omega) (by omega)];exact Ev.bind (zfa h) (Ev.now _)
set_option maxHeartbeats 8000000 in
set_option maxRecDepth 100000 in
theorem zeR (q:Pat) (hq:zbh q) (m:Int) (h0:0≤m) (h7:m≤7) (b:Bool) (s:ByteArray) (e:Int) (ok:OkS s e) (ht1:yD (vB s) e≤10000) (ht2:-5000≤yD (vB s) e) (r1:Bool) (r2:ByteArray) (r3 r4:Int)
  (hr:zaa m b (vB s) e (stP q.P (yD (vB s) e)).1 (stP q.P (yD (vB s) e)).2=(r1,r2,r3,r4)) (w:World) :
  Calls Tryz.prog 49 #[.agg q.cs,.int .i64 m,.agg #[.bool b,.string s,.int .i64 e]] w fun e w'=>e=.returned (.tuple #[.agg #[.bool r1,.string r2,.int .i64 r3],.int .i64 r4])∧Below w.heap.size w w':=by
 have HB:=K_ (Below.refl w.heap.size w);have HGD:=K_ hq.good;have HQM:=K_ hq.more;obtain⟨c1,c2,c3⟩:=zlv hq.good;have hxf:=hq.good.mf0;have hxf2:=hq.good.mfx;have hxf3:=hq.good.xf4;have hi4:=hq.good.inc4;obtain⟨tp,htp⟩:∃ tp,tp=yD (vB s) e:=⟨_,rfl⟩
 obtain⟨kt,hkt⟩:=Ev.rounds (znW (b:=b) ok.ok);rw[←htp] at hr ht1 ht2 hkt;have HT:=K_ hkt;obtain⟨mx9,hmx⟩:∃ mx9,mx9=(zaV q.P).2:=⟨_,rfl⟩
 have hwn:wrap64 (-q.P.xf)=-q.P.xf:=w64 (by omega) (by omega);have one:vB ⟨#[49]⟩=1:=rfl;by_cases hs:q.P.sci=true∨0<q.P.ms
 ·have e1:stP q.P tp=(1,tp-(cS q.P:Int)+1):=by unfold stP;rw[if_pos hs]
  rw[e1] at hr;have hw:wrap64 (wrap64 (tp-mx9)+1)=tp-(cS q.P:Int)+1:=by rw[hmx,c3,w64 (x:=tp-(cS q.P:Int)) (by omega) (by omega),w64 (by omega) (by omega)]
  obtain⟨k,hk⟩:=Ev.rounds (zeK (m:=m) (b:=b) (st:=⟨#[49]⟩) (p:=tp-(cS q.P:Int)+1) ok rfl (by decide) (by decide) (by omega) (by omega));rw[one,hr,←hw] at hk;have HR:=K_ hk;have HMX:=K_ hmx;clear hk hr hw e1 one ok hmx hkt htp c3;go_enter Tryz.func49,Tryz.ntmps49
  go_upto_region 1 with (first|((with_reducible refine zE (N:=3) rfl ?_);refine bx_ 3 (q.cs) 26 ?_ rfl rfl rfl rfl rfl;intro g3 hg w2 hbox hb;have BK3:=K_ hbox;have GE3:=ge_ hg HB;replace HB:=zF HB hb;clear hb hbox hg)|((with_reducible refine zE (N:=5) rfl ?_);refine bx_ 5 (#[.bool b,.string s,.int .i64 e]) 23 ?_ rfl rfl rfl rfl rfl;intro g5 hg w2 hbox hb;have BK5:=K_ hbox;have GE5:=ge_ hg HB;have NB3_5:=nb_ hg BK3;replace BK3:=zC BK3 hb;replace HB:=zF HB hb;clear hb hbox hg)|((with_reducible refine zE (N:=6) rfl ?_);refine be_ 6 (#[.bool false,.string (⟨#[]⟩:ByteArray),.int .i64 0]) 23 ?_;intro g6 hg w2 hbox hb;have BK6:=K_ hbox;have GE6:=ge_ hg HB;have NB3_6:=nb_ hg BK3;replace BK3:=zC BK3 hb;have NB5_6:=nb_ hg BK5;replace BK5:=zC BK5 hb;replace HB:=zF HB hb;clear hb hbox hg))
  have e14:=(show w2.cell? ⟨g3,14,none⟩=some (.bool q.P.sci) from (zA BK3.out 14).trans rfl)
  have e9:=(show w2.cell? ⟨g3,9,none⟩=some (.int .i64 q.P.ms) from (zA BK3.out 9).trans rfl)
  rcases hs with hs|hs
  ·rw[hs] at e14
   clear hs;go_upto_region 3 with (first|((with_reducible refine zE (N:=18) rfl ?_);refine lo_ (g:=g3) (cs:=q.cs) _ ⟨BK BK3⟩ ?_ rfl rfl rfl Tryz.underlying26 rfl jX)|(go_at_call 26;refine (zig q HGD.out _).mono ?_;rintro e9 w' ⟨rfl,hb⟩;replace HB:=zF HB hb;replace BK3:=zC BK3 hb;replace BK5:=zC BK5 hb;replace BK6:=zC BK6 hb;clear hb))
   simp only[←HMX.out]
   refine yI (n:=12) (S:=fun W=>W.heap[g5]?=some (.cells #[.bool b,.string s,.int .i64 e] 23 (0,0))) (ds:=[]) #[false,false,false,false,false,false,false,false,false,false,false,false] (by kernel_rfl) rfl rfl (BK BK5) (fun hHeld=>?_);refine jL (fun W=>W.heap[g5]?=some (.cells #[.bool b,.string s,.int .i64 e] 23 (0,0))∧W.heap[g6]?=some (.cells #[.bool false,.string (⟨#[]⟩:ByteArray),.int .i64 0] 23 (0,0))∧Below w.heap.size w W) ⟨BK BK5,BK BK6,BL HB⟩ ?_;clear hHeld BK3 BK5 BK6 HB;rintro W ⟨hb5,hb6,hbw⟩;have BK5:=K_ hb5;have BK6:=K_ hb6;have HB:=K_ hbw;clear hb5 hb6 hbw;have hHeld:=(show W.heap[g5]?=some (.cells #[.bool b,.string s,.int .i64 e] 23 (0,0)) from BK5.out)
   refine pw_ 0 22 (bb 12 1) ?_;refine tr_ 1 23 (bb 12 3) (#[.bool b,.string s,.int .i64 e]) (fun _ hs=>⟨hs⟩) Tryz.underlying23 jI hHeld ?_;refine tr_ 2 24 (bb 12 7) (#[.bool b,.string s,.int .i64 e]) (fun _ hs=>⟨hs⟩) Tryz.underlying23 jI hHeld ?_;refine pw_ 4 26 (bb 12 23) ?_;refine on_ 3 (some 25) (bb 12 31) (fun K hK=>?_);refine gq_ Tryz.func51 #[.agg #[.bool b,.string s,.int .i64 e]] ?_;refine (xS.calls kt b s e tp _ HT.out).mono ?_;rintro e9 w' ⟨rfl,hb⟩;refine⟨_,rfl,?_⟩;replace HB:=zF HB hb;replace BK5:=zC BK5 hb;replace BK6:=zC BK6 hb;clear hb;clear hHeld;refine hK.out _ _ BK5.out (fun hHeld=>?_);clear hK K;refine no_ (some 25) ?_;refine pw_ 5 27 (bb 12 63) ?_;refine pw_ 6 28 (bb 12 127) ?_;refine on_ 7 (some 29) (bb 12 255) (fun K hK=>?_);refine gq_ Tryz.func83 #[.int .i64 m,.agg #[.bool b,.string s,.int .i64 e],.string (⟨#[49]⟩:ByteArray),.int .i64 (wrap64 (wrap64 (tp-mx9)+1))] ?_;refine (zJ.calls k m b s e ⟨#[49]⟩ (wrap64 (wrap64 (tp-mx9)+1)) r1 r2 r3 r4 _ HR.out).mono ?_;rintro e9 w' ⟨rfl,hb⟩;refine⟨_,rfl,?_⟩;replace HB:=zF HB hb;replace BK5:=zC BK5 hb;replace BK6:=zC BK6 hb;clear hb;clear hHeld;refine hK.out _ _ BK5.out (fun hHeld=>?_);clear hK K;refine no_ (some 29) ?_;refine pw_ 8 30 (bb 12 511) ?_;refine pw_ 9 31 (bb 12 1023) ?_;refine on_ 10 none (bb 12 2047) (fun K hK=>?_);refine yX (g:=g6) (cs:=#[.bool false,.string (⟨#[]⟩:ByteArray),.int .i64 0]) (#[.bool r1,.string r2,.int .i64 r3]) BK6 ?_ rfl rfl rfl rfl rfl jI rfl rfl;intro w9 hbk hfar hbel;replace BK5:=K_ (hfar _ _ NB5_6.out BK5.out)
   replace BK6:=K_ hbk;replace HB:=K_ (hbel _ _ GE6.out HB.out);refine hK.out _ _ BK5.out (fun _=>?_);clear hK K hbk hfar hbel;refine pw_ 11 7 (bb 12 4095) ?_;refine vF (by kernel_rfl) ?_;go_wp2_with (fail)
   refine bodyPost_ret (jA rfl _ _ g6 23 #[.bool r1,.string r2,.int .i64 r3] (0,0) _ rfl BK6.out Tryz.underlying23 rfl jI) rfl ?_;exact⟨rfl,BL HB⟩
  have d9:decide (0<q.P.ms)=true:=decide_eq_true hs;cases hsc:q.P.sci
  all_goals
   rw[hsc] at e14;clear hsc;go_upto_region 3 with (first|((with_reducible refine zE (N:=18) rfl ?_);refine lo_ (g:=g3) (cs:=q.cs) _ ⟨BK BK3⟩ ?_ rfl rfl rfl Tryz.underlying26 rfl jX)|(go_at_call 26;refine (zig q HGD.out _).mono ?_;rintro e9 w' ⟨rfl,hb⟩;replace HB:=zF HB hb;replace BK3:=zC BK3 hb;replace BK5:=zC BK5 hb;replace BK6:=zC BK6 hb;clear hb))
   simp only[←HMX.out]
   refine yI (n:=12) (S:=fun W=>W.heap[g5]?=some (.cells #[.bool b,.string s,.int .i64 e] 23 (0,0))) (ds:=[]) #[false,false,false,false,false,false,false,false,false,false,false,false] (by kernel_rfl) rfl rfl (BK BK5) (fun hHeld=>?_);refine jL (fun W=>W.heap[g5]?=some (.cells #[.bool b,.string s,.int .i64 e] 23 (0,0))∧W.heap[g6]?=some (.cells #[.bool false,.string (⟨#[]⟩:ByteArray),.int .i64 0] 23 (0,0))∧Below w.heap.size w W) ⟨BK BK5,BK BK6,BL HB⟩ ?_;clear hHeld BK3 BK5 BK6 HB;rintro W ⟨hb5,hb6,hbw⟩;have BK5:=K_ hb5;have BK6:=K_ hb6;have HB:=K_ hbw;clear hb5 hb6 hbw;have hHeld:=(show W.heap[g5]?=some (.cells #[.bool b,.string s,.int .i64 e] 23 (0,0)) from BK5.out)
   refine pw_ 0 22 (bb 12 1) ?_;refine tr_ 1 23 (bb 12 3) (#[.bool b,.string s,.int .i64 e]) (fun _ hs=>⟨hs⟩) Tryz.underlying23 jI hHeld ?_;refine tr_ 2 24 (bb 12 7) (#[.bool b,.string s,.int .i64 e]) (fun _ hs=>⟨hs⟩) Tryz.underlying23 jI hHeld ?_;refine pw_ 4 26 (bb 12 23) ?_;refine on_ 3 (some 25) (bb 12 31) (fun K hK=>?_);refine gq_ Tryz.func51 #[.agg #[.bool b,.string s,.int .i64 e]] ?_;refine (xS.calls kt b s e tp _ HT.out).mono ?_;rintro e9 w' ⟨rfl,hb⟩;refine⟨_,rfl,?_⟩;replace HB:=zF HB hb;replace BK5:=zC BK5 hb;replace BK6:=zC BK6 hb;clear hb;clear hHeld;refine hK.out _ _ BK5.out (fun hHeld=>?_);clear hK K;refine no_ (some 25) ?_;refine pw_ 5 27 (bb 12 63) ?_;refine pw_ 6 28 (bb 12 127) ?_;refine on_ 7 (some 29) (bb 12 255) (fun K hK=>?_);refine gq_ Tryz.func83 #[.int .i64 m,.agg #[.bool b,.string s,.int .i64 e],.string (⟨#[49]⟩:ByteArray),.int .i64 (wrap64 (wrap64 (tp-mx9)+1))] ?_;refine (zJ.calls k m b s e ⟨#[49]⟩ (wrap64 (wrap64 (tp-mx9)+1)) r1 r2 r3 r4 _ HR.out).mono ?_;rintro e9 w' ⟨rfl,hb⟩;refine⟨_,rfl,?_⟩;replace HB:=zF HB hb;replace BK5:=zC BK5 hb;replace BK6:=zC BK6 hb;clear hb;clear hHeld;refine hK.out _ _ BK5.out (fun hHeld=>?_);clear hK K;refine no_ (some 29) ?_;refine pw_ 8 30 (bb 12 511) ?_;refine pw_ 9 31 (bb 12 1023) ?_;refine on_ 10 none (bb 12 2047) (fun K hK=>?_);refine yX (g:=g6) (cs:=#[.bool false,.string (⟨#[]⟩:ByteArray),.int .i64 0]) (#[.bool r1,.string r2,.int .i64 r3]) BK6 ?_ rfl rfl rfl rfl rfl jI rfl rfl;intro w9 hbk hfar hbel;replace BK5:=K_ (hfar _ _ NB5_6.out BK5.out)
   replace BK6:=K_ hbk;replace HB:=K_ (hbel _ _ GE6.out HB.out);refine hK.out _ _ BK5.out (fun _=>?_);clear hK K hbk hfar hbel;refine pw_ 11 7 (bb 12 4095) ?_;refine vF (by kernel_rfl) ?_;go_wp2_with (fail)
   refine bodyPost_ret (jA rfl _ _ g6 23 #[.bool r1,.string r2,.int .i64 r3] (0,0) _ rfl BK6.out Tryz.underlying23 rfl jI) rfl ?_;exact⟨rfl,BL HB⟩
 have hsc:q.P.sci=false:=by cases h:q.P.sci;rfl;exact absurd (.inl h) hs
 have d9:decide (0<q.P.ms)=false:=decide_eq_false (fun h=>hs (.inr h));by_cases hi:q.P.inc.size=0
 ·have e1:stP q.P tp=(1,-q.P.xf):=by unfold stP;rw[if_neg hs,if_neg (by omega)]
  rw[e1] at hr;obtain⟨k,hk⟩:=Ev.rounds (zeK (m:=m) (b:=b) (st:=⟨#[49]⟩) (p:=-q.P.xf) ok rfl (by decide) (by decide) (by omega) (by omega));rw[one,hr] at hk;have HR:=K_ hk;have hie:q.P.inc=⟨#[]⟩:=zon hi;clear hk hr e1 one ok hmx hkt htp hi hs;go_enter Tryz.func49,Tryz.ntmps49
  go_upto_region 1 with (first|((with_reducible refine zE (N:=3) rfl ?_);refine bx_ 3 (q.cs) 26 ?_ rfl rfl rfl rfl rfl;intro g3 hg w2 hbox hb;have BK3:=K_ hbox;have GE3:=ge_ hg HB;replace HB:=zF HB hb;clear hb hbox hg)|((with_reducible refine zE (N:=5) rfl ?_);refine bx_ 5 (#[.bool b,.string s,.int .i64 e]) 23 ?_ rfl rfl rfl rfl rfl;intro g5 hg w2 hbox hb;have BK5:=K_ hbox;have GE5:=ge_ hg HB;have NB3_5:=nb_ hg BK3;replace BK3:=zC BK3 hb;replace HB:=zF HB hb;clear hb hbox hg)|((with_reducible refine zE (N:=6) rfl ?_);refine be_ 6 (#[.bool false,.string (⟨#[]⟩:ByteArray),.int .i64 0]) 23 ?_;intro g6 hg w2 hbox hb;have BK6:=K_ hbox;have GE6:=ge_ hg HB;have NB3_6:=nb_ hg BK3;replace BK3:=zC BK3 hb;have NB5_6:=nb_ hg BK5;replace BK5:=zC BK5 hb;replace HB:=zF HB hb;clear hb hbox hg))
  have e14:=(show w2.cell? ⟨g3,14,none⟩=some (.bool q.P.sci) from (zA BK3.out 14).trans rfl)
  have e9:=(show w2.cell? ⟨g3,9,none⟩=some (.int .i64 q.P.ms) from (zA BK3.out 9).trans rfl)
  have e13:=(show w2.cell? ⟨g3,13,none⟩=some (.string q.P.inc) from (zA BK3.out 13).trans rfl)
  have e8:=(show w2.cell? ⟨g3,8,none⟩=some (.int .i64 q.P.xf) from (zA BK3.out 8).trans rfl)
  rw[hsc] at e14;rw[hie] at e13;clear hsc hie;go_wp2_with (first|((with_reducible refine zE (N:=46) rfl ?_);refine lo_ (g:=g5) (cs:=#[.bool b,.string s,.int .i64 e]) _ ⟨BK BK5⟩ ?_ rfl rfl rfl Tryz.underlying23 rfl jI)|(go_at_call 83;refine (zJ.calls k m b s e ⟨#[49]⟩ (-q.P.xf) r1 r2 r3 r4 _ HR.out).mono ?_;rintro e9 w' ⟨rfl,hb⟩;replace HB:=zF HB hb;replace BK5:=zC BK5 hb;replace BK6:=zC BK6 hb;clear hb)|((with_reducible refine zW (p:=6) rfl ?_);refine so_ (g:=g6) (cs:=#[.bool false,.string (⟨#[]⟩:ByteArray),.int .i64 0]) (#[.bool r1,.string r2,.int .i64 r3]) ⟨BK BK6⟩ ?_ rfl rfl rfl rfl rfl jI rfl rfl;intro w9 hbk hfar hbel;replace BK6:=K_ hbk;replace HB:=K_ (hbel _ _ GE6.out (BL HB));clear hbk hfar hbel))
  refine bodyPost_ret (jA rfl _ _ g6 23 #[.bool r1,.string r2,.int .i64 r3] (0,0) _ rfl BK6.out Tryz.underlying23 rfl jI) rfl ?_;exact⟨rfl,BL HB⟩
 have e1:stP q.P tp=(vB q.P.inc,-q.P.xf):=by unfold stP;rw[if_neg hs,if_pos hi]
 rw[e1] at hr;obtain⟨k,hk⟩:=Ev.rounds (zeK (m:=m) (b:=b) (st:=q.P.inc) (p:=-q.P.xf) ok (HQM.out.dig hi).1 (HQM.out.dig hi).2 (by omega) (by omega) (by omega));rw[hr] at hk;have HR:=K_ hk;have hie2:=zdv (Nat.pos_of_ne_zero hi);clear hk hr e1 one ok hmx hkt htp hi hs;go_enter Tryz.func49,Tryz.ntmps49
 go_upto_region 1 with (first|((with_reducible refine zE (N:=3) rfl ?_);refine bx_ 3 (q.cs) 26 ?_ rfl rfl rfl rfl rfl;intro g3 hg w2 hbox hb;have BK3:=K_ hbox;have GE3:=ge_ hg HB;replace HB:=zF HB hb;clear hb hbox hg)|((with_reducible refine zE (N:=5) rfl ?_);refine bx_ 5 (#[.bool b,.string s,.int .i64 e]) 23 ?_ rfl rfl rfl rfl rfl;intro g5 hg w2 hbox hb;have BK5:=K_ hbox;have GE5:=ge_ hg HB;have NB3_5:=nb_ hg BK3;replace BK3:=zC BK3 hb;replace HB:=zF HB hb;clear hb hbox hg)|((with_reducible refine zE (N:=6) rfl ?_);refine be_ 6 (#[.bool false,.string (⟨#[]⟩:ByteArray),.int .i64 0]) 23 ?_;intro g6 hg w2 hbox hb;have BK6:=K_ hbox;have GE6:=ge_ hg HB;have NB3_6:=nb_ hg BK3;replace BK3:=zC BK3 hb;have NB5_6:=nb_ hg BK5;replace BK5:=zC BK5 hb;replace HB:=zF HB hb;clear hb hbox hg))
 have e14:=(show w2.cell? ⟨g3,14,none⟩=some (.bool q.P.sci) from (zA BK3.out 14).trans rfl)
 have e9:=(show w2.cell? ⟨g3,9,none⟩=some (.int .i64 q.P.ms) from (zA BK3.out 9).trans rfl)
 have e13:=(show w2.cell? ⟨g3,13,none⟩=some (.string q.P.inc) from (zA BK3.out 13).trans rfl)
 have e8:=(show w2.cell? ⟨g3,8,none⟩=some (.int .i64 q.P.xf) from (zA BK3.out 8).trans rfl)
 rw[hsc] at e14;clear hsc;go_wp2_with (first|((with_reducible refine zE (N:=36) rfl ?_);refine lo_ (g:=g5) (cs:=#[.bool b,.string s,.int .i64 e]) _ ⟨BK BK5⟩ ?_ rfl rfl rfl Tryz.underlying23 rfl jI)|(go_at_call 83;refine (zJ.calls k m b s e q.P.inc (-q.P.xf) r1 r2 r3 r4 _ HR.out).mono ?_;rintro e9 w' ⟨rfl,hb⟩;replace HB:=zF HB hb;replace BK5:=zC BK5 hb;replace BK6:=zC BK6 hb;clear hb)|((with_reducible refine zW (p:=6) rfl ?_);refine so_ (g:=g6) (cs:=#[.bool false,.string (⟨#[]⟩:ByteArray),.int .i64 0]) (#[.bool r1,.string r2,.int .i64 r3]) ⟨BK BK6⟩ ?_ rfl rfl rfl rfl rfl jI rfl rfl;intro w9 hbk hfar hbel;replace BK6:=K_ hbk;replace HB:=K_ (hbel _ _ GE6.out (BL HB));clear hbk hfar hbel))
 refine bodyPost_ret (jA rfl _ _ g6 23 #[.bool r1,.string r2,.int .i64 r3] (0,0) _ rfl BK6.out Tryz.underlying23 rfl jI) rfl ?_;exact⟨rfl,BL HB⟩
theorem zmj {q:Pat} (hq:zbh q) {m:Int} (h0:0≤m) (h7:m≤7) (b:Bool) {s:ByteArray} {e:Int} (hg:zbH s e=true) (hrg:zaM (vB s) e=true) :
  ∃ (x2:ByteArray) (x3:Int) (y1:Bool) (y2:ByteArray) (y3 y4:Int),Ev (fun k=>vE.f k b s e q.mult) (b,x2,x3)∧(OkS x2 x3∧yD (vB x2) x3≤10000∧-5000≤yD (vB x2) x3)∧zaa m b (vB x2) x3 (stP q.P (yD (vB x2) x3)).1 (stP q.P (yD (vB x2) x3)).2=(y1,y2,y3,y4) ∧
   ((y4≠0∧zbd q m b s e=(false,⟨#[]⟩,0,y4))∨(y4=0∧∃ (z2:ByteArray) (z3:Int) (g:Bool),Ev (fun k=>vE.f k y1 y2 y3 (-q.mult)) (b,z2,z3)∧Ev (fun k=>vP.f k b z2 z3) g∧zbd q m b s e=if g=true then (b,z2,z3,0) else (false,⟨#[]⟩,0,10))):=by
 obtain⟨g1,g2,g3,g4,g5⟩:=zcO.1 hg;obtain⟨m0,m3⟩:=zhJ q;have okd:=OkD.of_good hg;have hn:(zU (vB s)).size≤1000:=Nat.le_trans okd.val g3;have okE:OkD s (e+q.mult):=⟨g1,g2,by omega,by omega,by omega⟩
 have okS:=OkS.norm (n:=vB s) (e:=e+q.mult) (by omega) (by omega) (by omega);have hc:vB (nD (vB s))=yJ (vB s):=zdQ _;have ht:=zjm (n:=vB s) (e:=e+q.mult) (by omega) (by omega) (by omega);have hF:zbd q m b s e=zft q m b (vB s) e:=by unfold zbd;rw[if_pos ⟨h0,h7⟩,if_pos hg,if_pos hrg]
 rw[hF];by_cases hx:m=7∧zfi q (vB s) e=false
 ·obtain⟨rfl,hf⟩:=hx
  have hf2:¬ atE (yJ (vB s)) (nE (vB s) (e+q.mult)) (rK q (vB s) e) % atE (stP q.P (yD (vB s) (e+q.mult))).1 (stP q.P (yD (vB s) (e+q.mult))).2 (rK q (vB s) e)=0:=of_decide_eq_false hf;refine⟨nD (vB s),nE (vB s) (e+q.mult),false,⟨#[]⟩,0,11,zex okE (by omega) (by omega) (by omega) (by omega),⟨okS,by rw[hc,zaL];omega,by rw[hc,zaL];omega⟩,?_,.inl ⟨by decide,?_⟩⟩
  ·rw[hc,zaL];exact zbI hf2
  unfold zft;rw[if_pos ⟨rfl,hf⟩]
 obtain⟨k1,k2,k3⟩:=zmw hq m b (n:=vB s) (e:=e) hn (by omega) (by omega);obtain⟨N,hN⟩:∃ N,N=rN q m b (vB s) e:=⟨_,rfl⟩
 obtain⟨k,hk⟩:∃ k,k=rK q (vB s) e:=⟨_,rfl⟩
 have e1:rX q m b (vB s) e=nE (yJ N) (nE N k + -q.mult):=by unfold rX;rw[←hN,←hk]
 rw[←hN] at k1;rw[←hk] at k2 k3;have a1:=zdd N k k1;have a2:=zcA N k;have a3:=zgJ (n:=N) k1 (by omega);have hcz:(zU (yJ N)).size≤8000:=xO (zfH N) k1;have b1:=zdd (yJ N) (nE N k + -q.mult) hcz;have b2:=zcA (yJ N) (nE N k + -q.mult);refine⟨nD (vB s),nE (vB s) (e+q.mult),b,nD N,nE N k,0,zex okE (by omega) (by omega) (by omega) (by omega),⟨okS,by rw[hc,zaL];omega,by rw[hc,zaL];omega⟩,?_,.inr ⟨rfl,nD N,nE (yJ N) (nE N k + -q.mult),zaM (yJ N) (nE (yJ N) (nE N k + -q.mult)),?_,?_,?_⟩⟩
 ·rw[hc,zaL,hN,hk]
  exact zgK hq b (fun h=>by cases hh:zfi q (vB s) e;exact absurd ⟨h,hh⟩ hx;rfl)
 ·have h:=zex (b:=b) (s:=nD N) (e:=nE N k) (n:=-q.mult) ⟨zeC N,zew N,by omega,by omega,by omega⟩ (by omega) (by omega) (by omega) (by omega)
  rw[zdQ,zhM] at h;exact h
 ·have h:=zfY (b:=b) (s:=nD N) (e:=nE (yJ N) (nE N k + -q.mult)) ⟨zeC N,zew N,by omega,by omega,by omega⟩
  rw[zdQ] at h;exact h
 unfold zft zkU;rw[if_neg hx,e1,←hN]
set_option maxHeartbeats 8000000 in
set_option maxRecDepth 100000 in
theorem zkb (q:Pat) (hq:zbh q) (m:Int) (b:Bool) (s:ByteArray) (e:Int) (hs:s.size≤4611686018427387904) (w:World) (hr:zaR q w) :
  Calls Tryz.prog 21 #[.agg q.cs,.int .i64 m,.agg #[.bool b,.string s,.int .i64 e]] w fun e' w'=>e'=.returned (.tuple #[.agg #[.bool (zbd q m b s e).1,.string (zbd q m b s e).2.1,.int .i64 (zbd q m b s e).2.2.1],.int .i64 (zbd q m b s e).2.2.2])∧Below w.heap.size w w':=by
 have HB:=K_ (Below.refl w.heap.size w);have HQ:=K_ hq;have HRW:=K_ hr;clear hq hr;by_cases h0:m<0
 ·have d0:decide (m<0)=true:=decide_eq_true h0
  rw[show zbd q m b s e=(false,⟨#[]⟩,0,1) by unfold zbd;rw[if_neg (by omega)]];clear h0;go_enter Tryz.func21,Tryz.ntmps21
  go_upto_region 1 with (first|((with_reducible refine zE (N:=3) rfl ?_);refine bx_ 3 (q.cs) 26 ?_ rfl rfl rfl rfl rfl;intro g3 hg w2 hbox hb;have BK3:=K_ hbox;have GE3:=ge_ hg HB;replace HB:=zF HB hb;clear hb hbox hg)|((with_reducible refine zE (N:=5) rfl ?_);refine bx_ 5 (#[.bool b,.string s,.int .i64 e]) 23 ?_ rfl rfl rfl rfl rfl;intro g5 hg w2 hbox hb;have BK5:=K_ hbox;have GE5:=ge_ hg HB;have NB3_5:=nb_ hg BK3;replace BK3:=zC BK3 hb;replace HB:=zF HB hb;clear hb hbox hg)|((with_reducible refine zE (N:=6) rfl ?_);refine be_ 6 (#[.bool false,.string (⟨#[]⟩:ByteArray),.int .i64 0]) 23 ?_;intro g6 hg w2 hbox hb;have BK6:=K_ hbox;have GE6:=ge_ hg HB;have NB3_6:=nb_ hg BK3;replace BK3:=zC BK3 hb;have NB5_6:=nb_ hg BK5;replace BK5:=zC BK5 hb;replace HB:=zF HB hb;clear hb hbox hg))
  go_wp2_with ((with_reducible refine zW (p:=6) rfl ?_);refine so_ (g:=g6) (cs:=#[.bool false,.string (⟨#[]⟩:ByteArray),.int .i64 0]) (#[.bool false,.string (⟨#[]⟩:ByteArray),.int .i64 0]) ⟨BK BK6⟩ ?_ rfl rfl rfl rfl rfl jI rfl rfl;intro w9 hbk hfar hbel;replace BK3:=K_ (hfar _ _ (by first|exact NB3_6.out|exact Ne.symm NB6_3.out) (BK BK3));replace BK5:=K_ (hfar _ _ (by first|exact NB5_6.out|exact Ne.symm NB6_5.out) (BK BK5));replace BK6:=K_ hbk;replace HB:=K_ (hbel _ _ GE6.out (BL HB));clear hbk hfar hbel)
  refine bodyPost_ret (jA rfl _ _ g6 23 #[.bool false,.string (⟨#[]⟩:ByteArray),.int .i64 0] (0,0) _ rfl BK6.out Tryz.underlying23 rfl jI) rfl ?_;exact⟨rfl,BL HB⟩
 have d0:decide (m<0)=false:=decide_eq_false h0;by_cases h7:m>7
 ·have d7:decide (m>7)=true:=decide_eq_true h7
  rw[show zbd q m b s e=(false,⟨#[]⟩,0,1) by unfold zbd;rw[if_neg (by omega)]];clear h0 h7;go_enter Tryz.func21,Tryz.ntmps21
  go_upto_region 1 with (first|((with_reducible refine zE (N:=3) rfl ?_);refine bx_ 3 (q.cs) 26 ?_ rfl rfl rfl rfl rfl;intro g3 hg w2 hbox hb;have BK3:=K_ hbox;have GE3:=ge_ hg HB;replace HB:=zF HB hb;clear hb hbox hg)|((with_reducible refine zE (N:=5) rfl ?_);refine bx_ 5 (#[.bool b,.string s,.int .i64 e]) 23 ?_ rfl rfl rfl rfl rfl;intro g5 hg w2 hbox hb;have BK5:=K_ hbox;have GE5:=ge_ hg HB;have NB3_5:=nb_ hg BK3;replace BK3:=zC BK3 hb;replace HB:=zF HB hb;clear hb hbox hg)|((with_reducible refine zE (N:=6) rfl ?_);refine be_ 6 (#[.bool false,.string (⟨#[]⟩:ByteArray),.int .i64 0]) 23 ?_;intro g6 hg w2 hbox hb;have BK6:=K_ hbox;have GE6:=ge_ hg HB;have NB3_6:=nb_ hg BK3;replace BK3:=zC BK3 hb;have NB5_6:=nb_ hg BK5;replace BK5:=zC BK5 hb;replace HB:=zF HB hb;clear hb hbox hg))
  go_wp2_with ((with_reducible refine zW (p:=6) rfl ?_);refine so_ (g:=g6) (cs:=#[.bool false,.string (⟨#[]⟩:ByteArray),.int .i64 0]) (#[.bool false,.string (⟨#[]⟩:ByteArray),.int .i64 0]) ⟨BK BK6⟩ ?_ rfl rfl rfl rfl rfl jI rfl rfl;intro w9 hbk hfar hbel;replace BK3:=K_ (hfar _ _ (by first|exact NB3_6.out|exact Ne.symm NB6_3.out) (BK BK3));replace BK5:=K_ (hfar _ _ (by first|exact NB5_6.out|exact Ne.symm NB6_5.out) (BK BK5));replace BK6:=K_ hbk;replace HB:=K_ (hbel _ _ GE6.out (BL HB));clear hbk hfar hbel)
  refine bodyPost_ret (jA rfl _ _ g6 23 #[.bool false,.string (⟨#[]⟩:ByteArray),.int .i64 0] (0,0) _ rfl BK6.out Tryz.underlying23 rfl jI) rfl ?_;exact⟨rfl,BL HB⟩
 have d7:decide (m>7)=false:=decide_eq_false h7;replace h0:0≤m:=by omega
 replace h7:m≤7:=by omega
 obtain⟨kg,hkg⟩:=Ev.rounds (zmo (b:=b) (s:=s) (e:=e) hs);cases hg:zbH s e
 ·rw[hg] at hkg
  have HKG:=K_ hkg;rw[show zbd q m b s e=(false,⟨#[]⟩,0,9) by unfold zbd;rw[if_pos ⟨h0,h7⟩,if_neg (by rw[hg];decide)]];clear hkg hg h0 h7;go_enter Tryz.func21,Tryz.ntmps21
  go_upto_region 1 with (first|((with_reducible refine zE (N:=3) rfl ?_);refine bx_ 3 (q.cs) 26 ?_ rfl rfl rfl rfl rfl;intro g3 hg w2 hbox hb;have BK3:=K_ hbox;have GE3:=ge_ hg HB;replace HB:=zF HB hb;clear hb hbox hg)|((with_reducible refine zE (N:=5) rfl ?_);refine bx_ 5 (#[.bool b,.string s,.int .i64 e]) 23 ?_ rfl rfl rfl rfl rfl;intro g5 hg w2 hbox hb;have BK5:=K_ hbox;have GE5:=ge_ hg HB;have NB3_5:=nb_ hg BK3;replace BK3:=zC BK3 hb;replace HB:=zF HB hb;clear hb hbox hg)|((with_reducible refine zE (N:=6) rfl ?_);refine be_ 6 (#[.bool false,.string (⟨#[]⟩:ByteArray),.int .i64 0]) 23 ?_;intro g6 hg w2 hbox hb;have BK6:=K_ hbox;have GE6:=ge_ hg HB;have NB3_6:=nb_ hg BK3;replace BK3:=zC BK3 hb;have NB5_6:=nb_ hg BK5;replace BK5:=zC BK5 hb;replace HB:=zF HB hb;clear hb hbox hg))
  go_wp2_with (first|((with_reducible refine zE (N:=18) rfl ?_);refine lo_ (g:=g5) (cs:=#[.bool b,.string s,.int .i64 e]) _ ⟨BK BK5⟩ ?_ rfl rfl rfl Tryz.underlying23 rfl jI)|(go_at_call 40;refine (qA.calls kg b s e _ _ HKG.out).mono ?_;rintro e9 w' ⟨rfl,hb⟩;replace HB:=zF HB hb;replace BK3:=zC BK3 hb;replace BK5:=zC BK5 hb;replace BK6:=zC BK6 hb;clear hb)|((with_reducible refine zW (p:=6) rfl ?_);refine so_ (g:=g6) (cs:=#[.bool false,.string (⟨#[]⟩:ByteArray),.int .i64 0]) (#[.bool false,.string (⟨#[]⟩:ByteArray),.int .i64 0]) ⟨BK BK6⟩ ?_ rfl rfl rfl rfl rfl jI rfl rfl;intro w9 hbk hfar hbel;replace BK3:=K_ (hfar _ _ (by first|exact NB3_6.out|exact Ne.symm NB6_3.out) (BK BK3));replace BK5:=K_ (hfar _ _ (by first|exact NB5_6.out|exact Ne.symm NB6_5.out) (BK BK5));replace BK6:=K_ hbk;replace HB:=K_ (hbel _ _ GE6.out (BL HB));clear hbk hfar hbel))
  refine bodyPost_ret (jA rfl _ _ g6 23 #[.bool false,.string (⟨#[]⟩:ByteArray),.int .i64 0] (0,0) _ rfl BK6.out Tryz.underlying23 rfl jI) rfl ?_;exact⟨rfl,BL HB⟩
 rw[hg] at hkg;have HKG:=K_ hkg;obtain⟨kr,hkr⟩:=Ev.rounds (zfY (b:=b) (OkD.of_good hg));cases hrg:zaM (vB s) e
 ·rw[hrg] at hkr
  have HKR:=K_ hkr;rw[show zbd q m b s e=(false,⟨#[]⟩,0,10) by unfold zbd;rw[if_pos ⟨h0,h7⟩,if_pos hg,if_neg (by rw[hrg];decide)]];clear hkg hkr hg hrg h0 h7;go_enter Tryz.func21,Tryz.ntmps21
  go_upto_region 1 with (first|((with_reducible refine zE (N:=3) rfl ?_);refine bx_ 3 (q.cs) 26 ?_ rfl rfl rfl rfl rfl;intro g3 hg w2 hbox hb;have BK3:=K_ hbox;have GE3:=ge_ hg HB;replace HB:=zF HB hb;clear hb hbox hg)|((with_reducible refine zE (N:=5) rfl ?_);refine bx_ 5 (#[.bool b,.string s,.int .i64 e]) 23 ?_ rfl rfl rfl rfl rfl;intro g5 hg w2 hbox hb;have BK5:=K_ hbox;have GE5:=ge_ hg HB;have NB3_5:=nb_ hg BK3;replace BK3:=zC BK3 hb;replace HB:=zF HB hb;clear hb hbox hg)|((with_reducible refine zE (N:=6) rfl ?_);refine be_ 6 (#[.bool false,.string (⟨#[]⟩:ByteArray),.int .i64 0]) 23 ?_;intro g6 hg w2 hbox hb;have BK6:=K_ hbox;have GE6:=ge_ hg HB;have NB3_6:=nb_ hg BK3;replace BK3:=zC BK3 hb;have NB5_6:=nb_ hg BK5;replace BK5:=zC BK5 hb;replace HB:=zF HB hb;clear hb hbox hg))
  go_wp2_with (first|((with_reducible refine zE (N:=18) rfl ?_);refine lo_ (g:=g5) (cs:=#[.bool b,.string s,.int .i64 e]) _ ⟨BK BK5⟩ ?_ rfl rfl rfl Tryz.underlying23 rfl jI)|(go_at_call 40;refine (qA.calls kg b s e _ _ HKG.out).mono ?_;rintro e9 w' ⟨rfl,hb⟩;replace HB:=zF HB hb;replace BK3:=zC BK3 hb;replace BK5:=zC BK5 hb;replace BK6:=zC BK6 hb;clear hb)|((with_reducible refine zE (N:=22) rfl ?_);refine lo_ (g:=g5) (cs:=#[.bool b,.string s,.int .i64 e]) _ ⟨BK BK5⟩ ?_ rfl rfl rfl Tryz.underlying23 rfl jI)|(go_at_call 41;refine (vP.calls kr b s e _ _ HKR.out).mono ?_;rintro e9 w' ⟨rfl,hb⟩;replace HB:=zF HB hb;replace BK3:=zC BK3 hb;replace BK5:=zC BK5 hb;replace BK6:=zC BK6 hb;clear hb)|((with_reducible refine zW (p:=6) rfl ?_);refine so_ (g:=g6) (cs:=#[.bool false,.string (⟨#[]⟩:ByteArray),.int .i64 0]) (#[.bool false,.string (⟨#[]⟩:ByteArray),.int .i64 0]) ⟨BK BK6⟩ ?_ rfl rfl rfl rfl rfl jI rfl rfl;intro w9 hbk hfar hbel;replace BK3:=K_ (hfar _ _ (by first|exact NB3_6.out|exact Ne.symm NB6_3.out) (BK BK3));replace BK5:=K_ (hfar _ _ (by first|exact NB5_6.out|exact Ne.symm NB6_5.out) (BK BK5));replace BK6:=K_ hbk;replace HB:=K_ (hbel _ _ GE6.out (BL HB));clear hbk hfar hbel))
  refine bodyPost_ret (jA rfl _ _ g6 23 #[.bool false,.string (⟨#[]⟩:ByteArray),.int .i64 0] (0,0) _ rfl BK6.out Tryz.underlying23 rfl jI) rfl ?_;exact⟨rfl,BL HB⟩
 rw[hrg] at hkr;have HKR:=K_ hkr;obtain⟨x2,x3,y1,y2,y3,y4,hx,hox,hy,hend⟩:=zmj HQ.out h0 h7 b hg hrg;obtain⟨kt,hkt⟩:=Ev.rounds hx;have HX:=K_ hkt;have HOX:=K_ hox;have HY:=K_ hy;have HEND:=K_ hend;clear hkg hkr hg hrg hx hkt hox hy hend;go_enter Tryz.func21,Tryz.ntmps21
 go_upto_region 1 with (first|((with_reducible refine zE (N:=3) rfl ?_);refine bx_ 3 (q.cs) 26 ?_ rfl rfl rfl rfl rfl;intro g3 hg w2 hbox hb;have BK3:=K_ hbox;have GE3:=ge_ hg HB;replace HB:=zF HB hb;clear hb hbox hg)|((with_reducible refine zE (N:=5) rfl ?_);refine bx_ 5 (#[.bool b,.string s,.int .i64 e]) 23 ?_ rfl rfl rfl rfl rfl;intro g5 hg w2 hbox hb;have BK5:=K_ hbox;have GE5:=ge_ hg HB;have NB3_5:=nb_ hg BK3;replace BK3:=zC BK3 hb;replace HB:=zF HB hb;clear hb hbox hg)|((with_reducible refine zE (N:=6) rfl ?_);refine be_ 6 (#[.bool false,.string (⟨#[]⟩:ByteArray),.int .i64 0]) 23 ?_;intro g6 hg w2 hbox hb;have BK6:=K_ hbox;have GE6:=ge_ hg HB;have NB3_6:=nb_ hg BK3;replace BK3:=zC BK3 hb;have NB5_6:=nb_ hg BK5;replace BK5:=zC BK5 hb;replace HB:=zF HB hb;clear hb hbox hg))
 go_upto_region 8 with (first|((with_reducible refine zE (N:=18) rfl ?_);refine lo_ (g:=g5) (cs:=#[.bool b,.string s,.int .i64 e]) _ ⟨BK BK5⟩ ?_ rfl rfl rfl Tryz.underlying23 rfl jI)|(go_at_call 40;refine (qA.calls kg b s e _ _ HKG.out).mono ?_;rintro e9 w' ⟨rfl,hb⟩;replace HB:=zF HB hb;replace BK3:=zC BK3 hb;replace BK5:=zC BK5 hb;replace BK6:=zC BK6 hb;clear hb)|((with_reducible refine zE (N:=22) rfl ?_);refine lo_ (g:=g5) (cs:=#[.bool b,.string s,.int .i64 e]) _ ⟨BK BK5⟩ ?_ rfl rfl rfl Tryz.underlying23 rfl jI)|(go_at_call 41;refine (vP.calls kr b s e _ _ HKR.out).mono ?_;rintro e9 w' ⟨rfl,hb⟩;replace HB:=zF HB hb;replace BK3:=zC BK3 hb;replace BK5:=zC BK5 hb;replace BK6:=zC BK6 hb;clear hb)|((with_reducible refine zE (N:=26) rfl ?_);refine lo_ (g:=g3) (cs:=q.cs) _ ⟨BK BK3⟩ ?_ rfl rfl rfl Tryz.underlying26 rfl jX)|(go_at_call 24;refine (zlD q _ (HRW.out.below (BL HB))).mono ?_;rintro e9 w' ⟨rfl,hb⟩;replace HB:=zF HB hb;replace BK3:=zC BK3 hb;replace BK5:=zC BK5 hb;replace BK6:=zC BK6 hb;clear hb))
 refine yI (n:=12) (S:=fun W=>W.heap[g3]?=some (.cells q.cs 26 (0,0))∧W.heap[g5]?=some (.cells #[.bool b,.string s,.int .i64 e] 23 (0,0))) (ds:=[]) #[false,false,false,false,false,false,false,false,false,false,false,false] (by kernel_rfl) rfl rfl ⟨BK BK3,BK BK5⟩ (fun hHeld=>?_);refine jL (fun W=>W.heap[g3]?=some (.cells q.cs 26 (0,0))∧W.heap[g5]?=some (.cells #[.bool b,.string s,.int .i64 e] 23 (0,0))∧W.heap[g6]?=some (.cells #[.bool false,.string (⟨#[]⟩:ByteArray),.int .i64 0] 23 (0,0))∧Below w.heap.size w W) ⟨BK BK3,BK BK5,BK BK6,BL HB⟩ ?_;clear hHeld BK3 BK5 BK6 HB;rintro W ⟨hb3,hb5,hb6,hbw⟩;have BK3:=K_ hb3;have BK5:=K_ hb5;have BK6:=K_ hb6;have HB:=K_ hbw;have hHeld:=(show W.heap[g3]?=some (.cells q.cs 26 (0,0))∧W.heap[g5]?=some (.cells #[.bool b,.string s,.int .i64 e] 23 (0,0)) from ⟨hb3,hb5⟩)
 clear hb3 hb5 hb6 hbw;refine tr_ 0 29 (bb 12 1) (q.cs) (fun _ hs=>⟨hs.1⟩) Tryz.underlying26 jX hHeld ?_;refine pw_ 1 30 (bb 12 3) ?_;refine tr_ 2 31 (bb 12 7) (#[.bool b,.string s,.int .i64 e]) (fun _ hs=>⟨hs.2⟩) Tryz.underlying23 jI hHeld ?_;refine pw_ 3 32 (bb 12 15) ?_;refine zbV (σ:=Nat) 2 (bb 12 1023) (fun s_=>[(33,(.agg #[.bool b,.string x2,.int .i64 x3])),(34,(.tuple #[.agg #[.bool y1,.string y2,.int .i64 y3],.int .i64 y4])),(28,(.tuple #[.agg #[.bool y1,.string y2,.int .i64 y3],.int .i64 y4])),(35,(.agg #[.bool y1,.string y2,.int .i64 y3])),(36,(.int .i64 y4)),(9,(.pointer (some ⟨s_,0,none⟩)))]) (fun s_ W=>W.heap[s_]?=some (.cells (#[.bool false,.string (⟨#[]⟩:ByteArray),.int .i64 0]) 23 (0,0))∧g3≠s_∧g5≠s_∧g6≠s_∧w.heap.size≤s_∧W.heap[g3]?=some (.cells (q.cs) 26 (0,0))∧W.heap[g5]?=some (.cells (#[.bool b,.string s,.int .i64 e]) 23 (0,0))∧W.heap[g6]?=some (.cells (#[.bool false,.string (⟨#[]⟩:ByteArray),.int .i64 0]) 23 (0,0))∧Below w.heap.size w W) ?hcj ?hrj
 case hrj =>
  intro J_4_5_9;refine zbV (σ:=Unit) 3 (bb 12 511) (fun s_=>[(33,(.agg #[.bool b,.string x2,.int .i64 x3])),(34,(.tuple #[.agg #[.bool y1,.string y2,.int .i64 y3],.int .i64 y4])),(28,(.tuple #[.agg #[.bool y1,.string y2,.int .i64 y3],.int .i64 y4])),(35,(.agg #[.bool y1,.string y2,.int .i64 y3])),(36,(.int .i64 y4))]) (fun s_ W=>W.heap[g3]?=some (.cells (q.cs) 26 (0,0))∧W.heap[g5]?=some (.cells (#[.bool b,.string s,.int .i64 e]) 23 (0,0))∧W.heap[g6]?=some (.cells (#[.bool false,.string (⟨#[]⟩:ByteArray),.int .i64 0]) 23 (0,0))∧Below w.heap.size w W) ?_ ?_
  ·skip
   clear hHeld;rintro _ W8 ⟨hBK3,hBK5,hBK6,hHB⟩;have BK3:=K_ hBK3;have BK5:=K_ hBK5;have BK6:=K_ hBK6;have HB:=K_ hHB;clear hBK3 hBK5 hBK6 hHB;refine np_ ?_;refine on_ 9 (some 9) (bb 12 1023) (fun K hK=>?_);refine bs_ 9 (#[.bool false,.string (⟨#[]⟩:ByteArray),.int .i64 0]) 23 ?_;intro g9 hg w' hbox hb;have BK9:=K_ hbox;have GE9:=ge_ hg HB;have NB3_9:=nb_ hg BK3;have NB5_9:=nb_ hg BK5;have NB6_9:=nb_ hg BK6;replace BK3:=zC BK3 hb;replace BK5:=zC BK5 hb;replace BK6:=zC BK6 hb;replace HB:=zF HB hb;clear hb hbox hg;refine hK.out _ _ ⟨BK3.out,BK5.out⟩ (fun hHeld=>?_);clear hK K;refine no_ (some 9) ?_;exact nj_ (J_4_5_9 g9 _ ⟨BK9.out,(by first|exact NB3_9.out|exact Ne.symm NB9_3.out),(by first|exact NB5_9.out|exact Ne.symm NB9_5.out),(by first|exact NB6_9.out|exact Ne.symm NB9_6.out),GE9.out,BK3.out,BK5.out,BK6.out,HB.out⟩)
  intro J_4_5;refine zbV (σ:=Nat) 6 (bb 12 543) (fun s_=>[(33,(.agg #[.bool b,.string x2,.int .i64 x3])),(9,(.pointer (some ⟨s_,0,none⟩)))]) (fun s_ W=>W.heap[s_]?=some (.cells (#[.bool false,.string (⟨#[]⟩:ByteArray),.int .i64 0]) 23 (0,0))∧g3≠s_∧g5≠s_∧g6≠s_∧w.heap.size≤s_∧W.heap[g3]?=some (.cells (q.cs) 26 (0,0))∧W.heap[g5]?=some (.cells (#[.bool b,.string s,.int .i64 e]) 23 (0,0))∧W.heap[g6]?=some (.cells (#[.bool false,.string (⟨#[]⟩:ByteArray),.int .i64 0]) 23 (0,0))∧Below w.heap.size w W) ?_ ?_
  ·skip
   clear hHeld;rintro g9 W8 ⟨hBK9,hNB3_9,hNB5_9,hNB6_9,hGE9,hBK3,hBK5,hBK6,hHB⟩;have BK9:=K_ hBK9;have NB3_9:=K_ hNB3_9;have NB5_9:=K_ hNB5_9;have NB6_9:=K_ hNB6_9;have GE9:=K_ hGE9;have BK3:=K_ hBK3;have BK5:=K_ hBK5;have BK6:=K_ hBK6;have HB:=K_ hHB;clear hBK9 hNB3_9 hNB5_9 hNB6_9 hGE9 hBK3 hBK5 hBK6 hHB;refine np_ ?_;refine on_ 5 (some 34) (bb 12 575) (fun K hK=>?_);refine gq_ Tryz.func49 #[.agg q.cs,.int .i64 m,.agg #[.bool b,.string x2,.int .i64 x3]] ?_;refine (zeR q HQ.out m h0 h7 b x2 x3 HOX.out.1 HOX.out.2.1 HOX.out.2.2 y1 y2 y3 y4 HY.out _).mono ?_;rintro e9 w' ⟨rfl,hb⟩;refine⟨_,rfl,?_⟩;replace BK9:=zC BK9 hb;replace BK3:=zC BK3 hb;replace BK5:=zC BK5 hb;replace BK6:=zC BK6 hb;replace HB:=zF HB hb;clear hb;refine hK.out _ _ ⟨BK3.out,BK5.out⟩ (fun hHeld=>?_);clear hK K;refine no_ (some 34) ?_;refine pw_ 6 28 (bb 12 639) ?_;refine pw_ 7 35 (bb 12 767) ?_;refine pw_ 8 36 (bb 12 1023) ?_;exact nj_ (J_4_5_9 g9 _ ⟨BK9.out,(by first|exact NB3_9.out|exact Ne.symm NB9_3.out),(by first|exact NB5_9.out|exact Ne.symm NB9_5.out),(by first|exact NB6_9.out|exact Ne.symm NB9_6.out),GE9.out,BK3.out,BK5.out,BK6.out,HB.out⟩)
  intro J_4_9;refine zbV (σ:=Unit) 7 (bb 12 31) (fun s_=>[(33,(.agg #[.bool b,.string x2,.int .i64 x3]))]) (fun s_ W=>W.heap[g3]?=some (.cells (q.cs) 26 (0,0))∧W.heap[g5]?=some (.cells (#[.bool b,.string s,.int .i64 e]) 23 (0,0))∧W.heap[g6]?=some (.cells (#[.bool false,.string (⟨#[]⟩:ByteArray),.int .i64 0]) 23 (0,0))∧Below w.heap.size w W) ?_ ?_
  ·skip
   clear hHeld;rintro _ W8 ⟨hBK3,hBK5,hBK6,hHB⟩;have BK3:=K_ hBK3;have BK5:=K_ hBK5;have BK6:=K_ hBK6;have HB:=K_ hHB;clear hBK3 hBK5 hBK6 hHB;refine np_ ?_;refine zeb (i:=5) (j:=9) (Ni:=some 34) (Nj:=some 9) (bb 12 63) (bb 12 543) rfl rfl rfl rfl (by kernel_rfl) (by decide) (by decide) (fun K hK=>?_) (fun K hK=>?_)
   ·skip
    refine gq_ Tryz.func49 #[.agg q.cs,.int .i64 m,.agg #[.bool b,.string x2,.int .i64 x3]] ?_;refine (zeR q HQ.out m h0 h7 b x2 x3 HOX.out.1 HOX.out.2.1 HOX.out.2.2 y1 y2 y3 y4 HY.out _).mono ?_;rintro e9 w' ⟨rfl,hb⟩;refine⟨_,rfl,?_⟩;replace BK3:=zC BK3 hb;replace BK5:=zC BK5 hb;replace BK6:=zC BK6 hb;replace HB:=zF HB hb;clear hb;refine hK.out _ _ ⟨BK3.out,BK5.out⟩ (fun hHeld=>?_);clear hK K;refine no_ (some 34) ?_;refine pw_ 6 28 (bb 12 127) ?_;refine pw_ 7 35 (bb 12 255) ?_;refine pw_ 8 36 (bb 12 511) ?_;exact nj_ (J_4_5 () _ ⟨BK3.out,BK5.out,BK6.out,HB.out⟩)
   skip
   refine bs_ 9 (#[.bool false,.string (⟨#[]⟩:ByteArray),.int .i64 0]) 23 ?_;intro g9 hg w' hbox hb;have BK9:=K_ hbox;have GE9:=ge_ hg HB;have NB3_9:=nb_ hg BK3;have NB5_9:=nb_ hg BK5;have NB6_9:=nb_ hg BK6;replace BK3:=zC BK3 hb;replace BK5:=zC BK5 hb;replace BK6:=zC BK6 hb;replace HB:=zF HB hb;clear hb hbox hg;refine hK.out _ _ ⟨BK3.out,BK5.out⟩ (fun hHeld=>?_);clear hK K;refine no_ (some 9) ?_;exact nj_ (J_4_9 g9 _ ⟨BK9.out,(by first|exact NB3_9.out|exact Ne.symm NB9_3.out),(by first|exact NB5_9.out|exact Ne.symm NB9_5.out),(by first|exact NB6_9.out|exact Ne.symm NB9_6.out),GE9.out,BK3.out,BK5.out,BK6.out,HB.out⟩)
  intro J_4;refine zbV (σ:=Nat) 7 (bb 12 527) (fun s_=>[(9,(.pointer (some ⟨s_,0,none⟩)))]) (fun s_ W=>W.heap[s_]?=some (.cells (#[.bool false,.string (⟨#[]⟩:ByteArray),.int .i64 0]) 23 (0,0))∧g3≠s_∧g5≠s_∧g6≠s_∧w.heap.size≤s_∧W.heap[g3]?=some (.cells (q.cs) 26 (0,0))∧W.heap[g5]?=some (.cells (#[.bool b,.string s,.int .i64 e]) 23 (0,0))∧W.heap[g6]?=some (.cells (#[.bool false,.string (⟨#[]⟩:ByteArray),.int .i64 0]) 23 (0,0))∧Below w.heap.size w W) ?_ ?_
  ·skip
   clear hHeld;rintro g9 W8 ⟨hBK9,hNB3_9,hNB5_9,hNB6_9,hGE9,hBK3,hBK5,hBK6,hHB⟩;have BK9:=K_ hBK9;have NB3_9:=K_ hNB3_9;have NB5_9:=K_ hNB5_9;have NB6_9:=K_ hNB6_9;have GE9:=K_ hGE9;have BK3:=K_ hBK3;have BK5:=K_ hBK5;have BK6:=K_ hBK6;have HB:=K_ hHB;clear hBK9 hNB3_9 hNB5_9 hNB6_9 hGE9 hBK3 hBK5 hBK6 hHB;refine np_ ?_;refine on_ 4 (some 33) (bb 12 543) (fun K hK=>?_);refine gq_ Tryz.func23 #[.agg #[.bool b,.string s,.int .i64 e],.int .i64 q.mult] ?_;refine (vE.calls kt b s e q.mult b x2 x3 _ HX.out).mono ?_;rintro e9 w' ⟨rfl,hb⟩;refine⟨_,rfl,?_⟩;replace BK9:=zC BK9 hb;replace BK3:=zC BK3 hb;replace BK5:=zC BK5 hb;replace BK6:=zC BK6 hb;replace HB:=zF HB hb;clear hb;refine hK.out _ _ ⟨BK3.out,BK5.out⟩ (fun hHeld=>?_);clear hK K;refine no_ (some 33) ?_;exact nj_ (J_4_9 g9 _ ⟨BK9.out,(by first|exact NB3_9.out|exact Ne.symm NB9_3.out),(by first|exact NB5_9.out|exact Ne.symm NB9_5.out),(by first|exact NB6_9.out|exact Ne.symm NB9_6.out),GE9.out,BK3.out,BK5.out,BK6.out,HB.out⟩)
  intro J_9;clear hHeld;refine zeb (i:=4) (j:=9) (Ni:=some 33) (Nj:=some 9) (bb 12 31) (bb 12 527) rfl rfl rfl rfl (by kernel_rfl) (by decide) (by decide) (fun K hK=>?_) (fun K hK=>?_)
  ·skip
   refine gq_ Tryz.func23 #[.agg #[.bool b,.string s,.int .i64 e],.int .i64 q.mult] ?_;refine (vE.calls kt b s e q.mult b x2 x3 _ HX.out).mono ?_;rintro e9 w' ⟨rfl,hb⟩;refine⟨_,rfl,?_⟩;replace BK3:=zC BK3 hb;replace BK5:=zC BK5 hb;replace BK6:=zC BK6 hb;replace HB:=zF HB hb;clear hb;refine hK.out _ _ ⟨BK3.out,BK5.out⟩ (fun hHeld=>?_);clear hK K;refine no_ (some 33) ?_;exact nj_ (J_4 () _ ⟨BK3.out,BK5.out,BK6.out,HB.out⟩)
  skip
  refine bs_ 9 (#[.bool false,.string (⟨#[]⟩:ByteArray),.int .i64 0]) 23 ?_;intro g9 hg w' hbox hb;have BK9:=K_ hbox;have GE9:=ge_ hg HB;have NB3_9:=nb_ hg BK3;have NB5_9:=nb_ hg BK5;have NB6_9:=nb_ hg BK6;replace BK3:=zC BK3 hb;replace BK5:=zC BK5 hb;replace BK6:=zC BK6 hb;replace HB:=zF HB hb;clear hb hbox hg;refine hK.out _ _ ⟨BK3.out,BK5.out⟩ (fun hHeld=>?_);clear hK K;refine no_ (some 9) ?_;exact nj_ (J_9 g9 _ ⟨BK9.out,(by first|exact NB3_9.out|exact Ne.symm NB9_3.out),(by first|exact NB5_9.out|exact Ne.symm NB9_5.out),(by first|exact NB6_9.out|exact Ne.symm NB9_6.out),GE9.out,BK3.out,BK5.out,BK6.out,HB.out⟩)
 case hcj =>
  clear hHeld;rintro g9 W8 ⟨hBK9,hNB3_9,hNB5_9,hNB6_9,hGE9,hBK3,hBK5,hBK6,hHB⟩;have BK9:=K_ hBK9;have NB3_9:=K_ hNB3_9;have NB5_9:=K_ hNB5_9;have NB6_9:=K_ hNB6_9;have GE9:=K_ hGE9;have BK3:=K_ hBK3;have BK5:=K_ hBK5;have BK6:=K_ hBK6;have HB:=K_ hHB;clear hBK9 hNB3_9 hNB5_9 hNB6_9 hGE9 hBK3 hBK5 hBK6 hHB;refine np_ ?_;refine on_ 10 none (bb 12 2047) (fun K hK=>?_);refine yX (g:=g9) (cs:=#[.bool false,.string (⟨#[]⟩:ByteArray),.int .i64 0]) (#[.bool y1,.string y2,.int .i64 y3]) BK9 ?_ rfl rfl rfl rfl rfl jI rfl rfl;intro w9 hbk hfar hbel;replace BK3:=K_ (hfar _ _ NB3_9.out BK3.out);replace BK5:=K_ (hfar _ _ NB5_9.out BK5.out);replace BK6:=K_ (hfar _ _ NB6_9.out BK6.out);replace BK9:=K_ hbk;replace HB:=K_ (hbel _ _ GE9.out HB.out);refine hK.out _ _ ⟨BK3.out,BK5.out⟩ (fun _=>?_);clear hK K hbk hfar hbel;refine pw_ 11 10 (bb 12 4095) ?_;refine vF (by kernel_rfl) ?_;rcases HEND.out with ⟨hne,hr⟩|⟨hz,z2,z3,g,hz1,hz2,hr⟩
  ·have dn:(y4 !=0)=true:=by simpa using hne
   have HRS:=K_ hr;clear hr hne;go_wp2_with (first|((with_reducible refine zW (p:=6) rfl ?_);refine so_ (g:=g6) (cs:=#[.bool false,.string (⟨#[]⟩:ByteArray),.int .i64 0]) (#[.bool false,.string (⟨#[]⟩:ByteArray),.int .i64 0]) ⟨BK BK6⟩ ?_ rfl rfl rfl rfl rfl jI rfl rfl;intro w9 hbk hfar hbel;replace BK9:=K_ (hfar _ _ (by first|exact NB9_6.out|exact Ne.symm NB6_9.out) (BK BK9));replace BK6:=K_ hbk;replace HB:=K_ (hbel _ _ GE6.out (BL HB));clear hbk hfar hbel))
   refine bodyPost_ret (jA rfl _ _ g6 23 #[.bool false,.string (⟨#[]⟩:ByteArray),.int .i64 0] (0,0) _ rfl BK6.out Tryz.underlying23 rfl jI) rfl ?_;exact⟨by rw[HRS.out];rfl,BL HB⟩
  subst hz;obtain⟨kt2,hkt2⟩:=Ev.rounds hz1;have HX2:=K_ hkt2;obtain⟨kr2,hkr2⟩:=Ev.rounds hz2;have HRS:=K_ hr;have hwk:wrap64 (-q.mult)=-q.mult:=by unfold Pat.mult wrap64;split;decide;split <;> decide
  clear hz1 hz2 hr hkt2 HEND;cases g
  ·have HKR2:=K_ hkr2
   clear hkr2;go_wp2_with (first|((with_reducible refine zE (N:=41) rfl ?_);refine lo_ (g:=g9) (cs:=#[.bool y1,.string y2,.int .i64 y3]) _ ⟨BK BK9⟩ ?_ rfl rfl rfl Tryz.underlying23 rfl jI)|(go_at_call 23;refine (vE.calls kt2 y1 y2 y3 (-q.mult) b z2 z3 _ HX2.out).mono ?_;rintro e9 w' ⟨rfl,hb⟩;replace HB:=zF HB hb;replace BK6:=zC BK6 hb;replace BK9:=zC BK9 hb;clear hb)|((with_reducible refine zW (p:=9) rfl ?_);refine so_ (g:=g9) (cs:=#[.bool y1,.string y2,.int .i64 y3]) (#[.bool b,.string z2,.int .i64 z3]) ⟨BK BK9⟩ ?_ rfl rfl rfl rfl rfl jI rfl rfl;intro w9 hbk hfar hbel;replace BK6:=K_ (hfar _ _ (by first|exact NB6_9.out|exact Ne.symm NB9_6.out) (BK BK6));replace BK9:=K_ hbk;replace HB:=K_ (hbel _ _ GE9.out (BL HB));clear hbk hfar hbel)|((with_reducible refine zE (N:=45) rfl ?_);refine lo_ (g:=g9) (cs:=#[.bool b,.string z2,.int .i64 z3]) _ ⟨BK BK9⟩ ?_ rfl rfl rfl Tryz.underlying23 rfl jI)|(go_at_call 41;refine (vP.calls kr2 b z2 z3 _ _ HKR2.out).mono ?_;rintro e9 w' ⟨rfl,hb⟩;replace HB:=zF HB hb;replace BK6:=zC BK6 hb;replace BK9:=zC BK9 hb;clear hb)|((with_reducible refine zW (p:=6) rfl ?_);refine so_ (g:=g6) (cs:=#[.bool false,.string (⟨#[]⟩:ByteArray),.int .i64 0]) (#[.bool false,.string (⟨#[]⟩:ByteArray),.int .i64 0]) ⟨BK BK6⟩ ?_ rfl rfl rfl rfl rfl jI rfl rfl;intro w9 hbk hfar hbel;replace BK9:=K_ (hfar _ _ (by first|exact NB9_6.out|exact Ne.symm NB6_9.out) (BK BK9));replace BK6:=K_ hbk;replace HB:=K_ (hbel _ _ GE6.out (BL HB));clear hbk hfar hbel))
   refine bodyPost_ret (jA rfl _ _ g6 23 #[.bool false,.string (⟨#[]⟩:ByteArray),.int .i64 0] (0,0) _ rfl BK6.out Tryz.underlying23 rfl jI) rfl ?_;exact⟨by rw[HRS.out];rfl,BL HB⟩
  have HKR2:=K_ hkr2;clear hkr2;go_wp2_with (first|((with_reducible refine zE (N:=41) rfl ?_);refine lo_ (g:=g9) (cs:=#[.bool y1,.string y2,.int .i64 y3]) _ ⟨BK BK9⟩ ?_ rfl rfl rfl Tryz.underlying23 rfl jI)|(go_at_call 23;refine (vE.calls kt2 y1 y2 y3 (-q.mult) b z2 z3 _ HX2.out).mono ?_;rintro e9 w' ⟨rfl,hb⟩;replace HB:=zF HB hb;replace BK6:=zC BK6 hb;replace BK9:=zC BK9 hb;clear hb)|((with_reducible refine zW (p:=9) rfl ?_);refine so_ (g:=g9) (cs:=#[.bool y1,.string y2,.int .i64 y3]) (#[.bool b,.string z2,.int .i64 z3]) ⟨BK BK9⟩ ?_ rfl rfl rfl rfl rfl jI rfl rfl;intro w9 hbk hfar hbel;replace BK6:=K_ (hfar _ _ (by first|exact NB6_9.out|exact Ne.symm NB9_6.out) (BK BK6));replace BK9:=K_ hbk;replace HB:=K_ (hbel _ _ GE9.out (BL HB));clear hbk hfar hbel)|((with_reducible refine zE (N:=45) rfl ?_);refine lo_ (g:=g9) (cs:=#[.bool b,.string z2,.int .i64 z3]) _ ⟨BK BK9⟩ ?_ rfl rfl rfl Tryz.underlying23 rfl jI)|(go_at_call 41;refine (vP.calls kr2 b z2 z3 _ _ HKR2.out).mono ?_;rintro e9 w' ⟨rfl,hb⟩;replace HB:=zF HB hb;replace BK6:=zC BK6 hb;replace BK9:=zC BK9 hb;clear hb)|((with_reducible refine zE (N:=49) rfl ?_);refine lo_ (g:=g9) (cs:=#[.bool b,.string z2,.int .i64 z3]) _ ⟨BK BK9⟩ ?_ rfl rfl rfl Tryz.underlying23 rfl jI)|((with_reducible refine zW (p:=6) rfl ?_);refine so_ (g:=g6) (cs:=#[.bool false,.string (⟨#[]⟩:ByteArray),.int .i64 0]) (#[.bool b,.string z2,.int .i64 z3]) ⟨BK BK6⟩ ?_ rfl rfl rfl rfl rfl jI rfl rfl;intro w9 hbk hfar hbel;replace BK9:=K_ (hfar _ _ (by first|exact NB9_6.out|exact Ne.symm NB6_9.out) (BK BK9));replace BK6:=K_ hbk;replace HB:=K_ (hbel _ _ GE6.out (BL HB));clear hbk hfar hbel))
  refine bodyPost_ret (jA rfl _ _ g6 23 #[.bool b,.string z2,.int .i64 z3] (0,0) _ rfl BK6.out Tryz.underlying23 rfl jI) rfl ?_;exact⟨by rw[HRS.out];rfl,BL HB⟩
set_option maxHeartbeats 8000000 in
set_option maxRecDepth 100000 in
theorem rounds_law (s:ByteArray) (hs:s.size≤1048576) (m:Int) (b:Bool) (s2:ByteArray) (e:Int) (hs2:s2.size≤140737488351232) (w:World) (hG:Fig.Glob w) :
  Calls Tryz.prog 8 #[.string s,.int .i64 m,.agg #[.bool b,.string s2,.int .i64 e]] w fun e w'=>e=.returned (.bool true)∧Below w.heap.size w w':=by
 have HB:=K_ (Below.refl w.heap.size w);have HG:=K_ hG;have HS2:=K_ hs2;have HSZ:=K_ (show s2.size≤4611686018427387904 by omega);clear hG hs2;go_enter Tryz.func8,Tryz.ntmps8
 go_upto_region 2 with (first|((with_reducible refine zE (N:=5) rfl ?_);refine bx_ 5 (#[.bool b,.string s2,.int .i64 e]) 23 ?_ rfl rfl rfl rfl rfl;intro g5 hg w2 hbox hb;have BK5:=K_ hbox;have GE5:=ge_ hg HB;replace HB:=zF HB hb;clear hb hbox hg)|((with_reducible refine zE (N:=15) rfl ?_);refine lo_ (g:=g5) (cs:=#[.bool b,.string s2,.int .i64 e]) _ ⟨BK BK5⟩ ?_ rfl rfl rfl Tryz.underlying23 rfl jI)|(go_at_call 12;refine (zkl s hs b s2 e HS2.out _).mono ?_;rintro e9 w' ⟨q,ok,rfl,hrr,hb,hqg⟩;have HRR:=K_ (hrr.lower (zQ (BL HB)));have HQ:=K_ hqg;replace HB:=zF HB hb;replace BK5:=zC BK5 hb;clear hb hrr hqg)|((with_reducible refine zE (N:=7) rfl ?_);refine be_ 7 (Z26) 26 ?_;intro g7 hg w2 hbox hb;have BK7:=K_ hbox;have GE7:=ge_ hg HB;have NB5_7:=nb_ hg BK5;replace BK5:=zC BK5 hb;replace HRR:=K_ (HRR.out.below hb);replace HB:=zF HB hb;clear hb hbox hg)|((with_reducible refine zW (p:=7) rfl ?_);refine so_ (g:=g7) (cs:=Z26) (q.cs) ⟨BK BK7⟩ ?_ rfl rfl rfl rfl rfl jX rfl rfl;intro w9 hbk hfar hbel;replace BK5:=K_ (hfar _ _ (by first|exact NB5_7.out|exact Ne.symm NB7_5.out) (BK BK5));replace HRR:=K_ (HRR.out.so (BK BK7) (by decide) hfar);replace BK7:=K_ hbk;replace HB:=K_ (hbel _ _ GE7.out (BL HB));clear hbk hfar hbel))
 cases ok
 ·go_wp2_with (go_at_call 13;refine (zen _ (Fig.Glob.below HG.out (BL HB))).mono ?_;rintro e9 w' ⟨rfl,hb⟩;replace HB:=zF HB hb;clear hb)
  go_ret
  exact⟨rfl,BL HB⟩
 obtain⟨hq,hsz⟩:=HQ.out rfl;replace HQ:=K_ hq;obtain⟨v,hv⟩:∃ v,v=zbd q m b s2 e:=⟨_,rfl⟩
 have h1:=zhR hq m b (s:=s2) e (by omega);rw[←hv] at h1;have HR1:=K_ h1;have HV:=K_ hv;clear hq hsz h1 hv;go_upto_region 5 with (first|((with_reducible refine zE (N:=23) rfl ?_);refine lo_ (g:=g7) (cs:=q.cs) _ ⟨BK BK7⟩ ?_ rfl rfl rfl Tryz.underlying26 rfl jX)|((with_reducible refine zE (N:=25) rfl ?_);refine lo_ (g:=g5) (cs:=#[.bool b,.string s2,.int .i64 e]) _ ⟨BK BK5⟩ ?_ rfl rfl rfl Tryz.underlying23 rfl jI)|(go_at_call 14;with_reducible refine (zgL q HQ.out.good m b s2 e (v) HR1.out _ (xP.ok HRR.out HQ.out) (Fig.Glob.below HG.out (BL HB))).mono ?_;rintro e9 w' ⟨rfl,hb⟩;replace HRR:=K_ (HRR.out.below hb);replace HB:=zF HB hb;replace BK5:=zC BK5 hb;replace BK7:=zC BK7 hb;clear hb)|((with_reducible refine zE (N:=9) rfl ?_);refine be_ 9 (#[.bool false,.string (⟨#[]⟩:ByteArray),.int .i64 0]) 23 ?_;intro g9 hg w2 hbox hb;have BK9:=K_ hbox;have GE9:=ge_ hg HB;have NB5_9:=nb_ hg BK5;replace BK5:=zC BK5 hb;have NB7_9:=nb_ hg BK7;replace BK7:=zC BK7 hb;replace HRR:=K_ (HRR.out.below hb);replace HB:=zF HB hb;clear hb hbox hg)|((with_reducible refine zW (p:=9) rfl ?_);refine so_ (g:=g9) (cs:=#[.bool false,.string (⟨#[]⟩:ByteArray),.int .i64 0]) (#[.bool v.1,.string v.2.1,.int .i64 v.2.2.1]) ⟨BK BK9⟩ ?_ rfl rfl rfl rfl rfl jI rfl rfl;intro w9 hbk hfar hbel;replace BK5:=K_ (hfar _ _ (by first|exact NB5_9.out|exact Ne.symm NB9_5.out) (BK BK5));replace BK7:=K_ (hfar _ _ (by first|exact NB7_9.out|exact Ne.symm NB9_7.out) (BK BK7));replace HRR:=K_ (HRR.out.so (BK BK9) (by decide) hfar);replace BK9:=K_ hbk;replace HB:=K_ (hbel _ _ GE9.out (BL HB));clear hbk hfar hbel))
 go_upto_region 6 with (first|((with_reducible refine zE (N:=30) rfl ?_);refine lo_ (g:=g7) (cs:=q.cs) _ ⟨BK BK7⟩ ?_ rfl rfl rfl Tryz.underlying26 rfl jX)|((with_reducible refine zE (N:=32) rfl ?_);refine lo_ (g:=g5) (cs:=#[.bool b,.string s2,.int .i64 e]) _ ⟨BK BK5⟩ ?_ rfl rfl rfl Tryz.underlying23 rfl jI)|(go_at_call 21;refine (zkb q HQ.out m b s2 e HSZ.out _ (xP.ok HRR.out HQ.out)).mono ?_;rintro e9 w' ⟨he9,hb⟩;rw[←HV.out] at he9;subst he9;replace HRR:=K_ (HRR.out.below hb);replace HB:=zF HB hb;replace BK5:=zC BK5 hb;replace BK7:=zC BK7 hb;replace BK9:=zC BK9 hb;clear hb)|((with_reducible refine zE (N:=11) rfl ?_);refine be_ 11 (#[.bool false,.string (⟨#[]⟩:ByteArray),.int .i64 0]) 23 ?_;intro g11 hg w2 hbox hb;have BK11:=K_ hbox;have GE11:=ge_ hg HB;have NB5_11:=nb_ hg BK5;replace BK5:=zC BK5 hb;have NB7_11:=nb_ hg BK7;replace BK7:=zC BK7 hb;have NB9_11:=nb_ hg BK9;replace BK9:=zC BK9 hb;replace HRR:=K_ (HRR.out.below hb);replace HB:=zF HB hb;clear hb hbox hg)|((with_reducible refine zW (p:=11) rfl ?_);refine so_ (g:=g11) (cs:=#[.bool false,.string (⟨#[]⟩:ByteArray),.int .i64 0]) (#[.bool v.1,.string v.2.1,.int .i64 v.2.2.1]) ⟨BK BK11⟩ ?_ rfl rfl rfl rfl rfl jI rfl rfl;intro w9 hbk hfar hbel;replace BK5:=K_ (hfar _ _ (by first|exact NB5_11.out|exact Ne.symm NB11_5.out) (BK BK5));replace BK7:=K_ (hfar _ _ (by first|exact NB7_11.out|exact Ne.symm NB11_7.out) (BK BK7));replace BK9:=K_ (hfar _ _ (by first|exact NB9_11.out|exact Ne.symm NB11_9.out) (BK BK9));replace HRR:=K_ (HRR.out.so (BK BK11) (by decide) hfar);replace BK11:=K_ hbk;replace HB:=K_ (hbel _ _ GE11.out (BL HB));clear hbk hfar hbel))
 go_wp2_with (first|(go_at_call 13;refine (zen _ (Fig.Glob.below HG.out (BL HB))).mono ?_;rintro e9 w' ⟨rfl,hb⟩;replace HB:=zF HB hb;replace BK9:=zC BK9 hb;replace BK11:=zC BK11 hb;clear hb)|((with_reducible refine zE (N:=43) rfl ?_);refine zcT (g:=g9) (cs:=#[.bool v.1,.string v.2.1,.int .i64 v.2.2.1]) _ ⟨BK BK9⟩ ?_ (by rfl) rfl rfl Tryz.underlying23 rfl jI)|((with_reducible refine zE (N:=44) rfl ?_);refine zcT (g:=g11) (cs:=#[.bool v.1,.string v.2.1,.int .i64 v.2.2.1]) _ ⟨BK BK11⟩ ?_ (by rfl) rfl rfl Tryz.underlying23 rfl jI))
 go_ret
 exact⟨rfl,BL HB⟩
end Go.Proofs.YtcmgdjnjmobkoaaGreatDoor.Px
section
namespace Go.Proofs.YtcmgdjnjmobkoaaGreatDoorW.PrintWords
open Go.ChangeShapes Go.WideShapes
end Go.Proofs.YtcmgdjnjmobkoaaGreatDoorW.PrintWords
end
