/- The functions that the law ShapeRoundsUpto reaches, told as plain functions, with what is proved of them, and the words they need (part 1). -/
import Derived.Test.YtcmgdjnjmobkoaaGreatDoorCShapeRoundsUpto0
import Derived.Deep.QuietTactic
import Derived.BigQuiet
import Derived.RegionTactic
import Derived.Deep.DeepCutAuto
import Derived.Deep.MidRow
import Derived.Shelf.Strings.BuilderK
import Derived.Shelf.Strings.Trim
import Derived.Test.YtcmgdjnjmobkoaaGreatDoorProg
set_option linter.unusedVariables false
set_option linter.unusedSimpArgs false
namespace Go.Proofs.YtcmgdjnjmobkoaaGreatDoor.Px
set_option linter.all false
open Fig Go.RowKit Go.Proofs.YtcmgdjnjmobkoaaGreatDoorW.PrintWords Go.Proofs.YtcmgdjnjmobkoaaGreatDoorW.PrintLast Go.Proofs.YtcmgdjnjmobkoaaGreatDoorW.PrintMore
attribute [local go_sem] vK vL uE uD yS yP vM vJ
section
section
variable {P:Program} {ops:Array Oper} {rest:List Oper} {o:Oper} {a:Act} {Q:Exit→Act→World→Prop}
theorem zeE (W:World) (g:Nat) (vs:Array Value) {k:Nat} (h:k≠g):(W.setRow g vs).heap[k]?=W.heap[k]?:=by
 unfold World.setRow;simp[Array.getElem?_modify,Ne.symm h]
theorem zfk {W w0:World} {g n:Nat} {vs:Array Value} (h:Below n w0 W) (hn:n≤g):Below n w0 (W.setRow g vs):=by
 refine h.trans ⟨rfl,rfl,rfl,by simp[World.setRow],fun k hk=>zeE _ _ _ (by omega)⟩
theorem so_ {W:World} {g:Nat} {cs:Array Value} {t:TypeId} (vs:Array Value) (hb:Aside0 (W.heap[g]?=some (.cells cs t (0,0))))
  (h:∀ w1:World,w1.heap[g]?=some (.cells vs t (0,0))→(∀ k o,k≠g→W.heap[k]?=some o→w1.heap[k]?=some o)→(∀ n w0,n≤g→Below n w0 W→Below n w0 w1)→wpList P ops Q rest a w1)
  (hd:o.dst=none) (hgd:o.guard=none) {x y:Operand} (hop:o.op=.store t x y) (hx:a.eval x=.pointer (some ⟨g,0,none⟩)) (hy:a.eval y=.agg vs)
  (hi:(P.info? t).map (·.size)=some vs.size) (hs:vs.size=cs.size) (h1:vs.toList.all (·.oneCell')=true):wpList P ops Q (o :: rest) a W:=by
 have hst:(execOp a.eval o).run P W=.ok .skip (W.setRow g vs):=by
  have hr:=run_storeCells_from (P:=P) g t vs.toList 0 cs W hb.out (by simp[hs]) (by intro v hv;exact List.all_eq_true.1 h1 v hv);rw[List.take_zero,List.nil_append,Array.toArray_toList] at hr
  cases hq:P.info? t with
  | none=>simp[hq] at hi
  | some i =>
   have hs2:i.size=vs.size:=by simpa [hq] using hi
   have e:execOp a.eval o=(do Instr.storeAt t (.pointer (some ⟨g,0,none⟩)) (.agg vs);pure Next.skip):=by
    unfold execOp;rw[hop];simp only[hx,hy]
   rw[e];simp[Instr.storeAt,storeVar,sizeOf,typeInfo,hq,Value.cells,hs2,Instr.sureAddr,hr]
 refine wpList_plain hgd fun K hK=>?_
 unfold Oper.wp;rw[hst,Oper.upon_skip,hd];refine hK _ _ ?_;exact h _ (setRow_heap W g cs vs t (0,0) hb.out) (fun k o hk e=>by rw[zeE W g vs hk];exact e) (fun n w0 hn hB=>zfk hB hn)
theorem lo_ {W:World} {g:Nat} {cs:Array Value} {u:TypeId} {t:TypeId} (d:TypeDesc) (hb:Aside0 (W.heap[g]?=some (.cells cs u (0,0)))) (h:wpList P ops Q rest (a.put o.dst (.agg cs)) W)
  (hgd:o.guard=none) {x:Operand} (hop:o.op=.load t x) (hx:a.eval x=.pointer (some ⟨g,0,none⟩))
  (hu:P.underlying t=some d) (hd:(match d with | .struct _ | .array _ _=>true|_=>false)=true) (hi:(P.info? t).map (·.size)=some cs.size):wpList P ops Q (o :: rest) a W:=by
 have hst:(execOp a.eval o).run P W=.ok (.value (.agg cs)) W:=by
  have e:execOp a.eval o=(do pure (Next.value (←Instr.loadAt t (.pointer (some ⟨g,0,none⟩))))):=by
   unfold execOp;rw[hop];simp only[hx]
  rw[e];simp[Instr.loadAt,Instr.sureAddr,run_loadVar_row W g u t cs (0,0) d hb.out hu hd hi]
 exact Kd.event_run hgd hst h
theorem zpE {W:World} {g:Nat} {cs:Array Value} {t:TypeId} (vs:Array Value) (hb:Aside0 (W.heap[g]?=some (.cells cs t (0,0)))) {x y:Operand} (hop:o.op=.store t x y) (hx:a.eval x=.pointer (some ⟨g,0,none⟩)) (hy:a.eval y=.agg vs)
  (hi:(P.info? t).map (·.size)=some vs.size) (hs:vs.size=cs.size) (h1:vs.toList.all (·.oneCell')=true):(execOp a.eval o).run P W=.ok .skip (W.setRow g vs):=by
 have hr:=run_storeCells_from (P:=P) g t vs.toList 0 cs W hb.out (by simp[hs]) (by intro v hv;exact List.all_eq_true.1 h1 v hv);rw[List.take_zero,List.nil_append,Array.toArray_toList] at hr
 cases hq:P.info? t with
 | none=>simp[hq] at hi
 | some i =>
  have hs2:i.size=vs.size:=by simpa [hq] using hi
  have e:execOp a.eval o=(do Instr.storeAt t (.pointer (some ⟨g,0,none⟩)) (.agg vs);pure Next.skip):=by
   unfold execOp;rw[hop];simp only[hx,hy]
  rw[e];simp[Instr.storeAt,storeVar,sizeOf,typeInfo,hq,Value.cells,hs2,Instr.sureAddr,hr]
theorem yX {W:World} {K:Act→World→Prop} {g:Nat} {cs:Array Value} {t:TypeId} (vs:Array Value) (hb:Aside0 (W.heap[g]?=some (.cells cs t (0,0))))
  (h:∀ w1:World,w1.heap[g]?=some (.cells vs t (0,0))→(∀ k o,k≠g→W.heap[k]?=some o→w1.heap[k]?=some o)→(∀ n w0,n≤g→Below n w0 W→Below n w0 w1)→K a w1)
  (hw:Region.wanted o (yielded ops a.tmps)=true) (hd:o.dst=none) {x y:Operand} (hop:o.op=.store t x y) (hx:a.eval x=.pointer (some ⟨g,0,none⟩)) (hy:a.eval y=.agg vs)
  (hi:(P.info? t).map (·.size)=some vs.size) (hs:vs.size=cs.size) (h1:vs.toList.all (·.oneCell')=true):if Region.wanted o (yielded ops a.tmps)=true then Oper.wp P o a W K Q else K (a.put none undef) W:=
 zaU hw hd (zpE vs hb hop hx hy hi hs h1) (h _ (setRow_heap W g cs vs t (0,0) hb.out) (fun k o hk e=>by rw[zeE W g vs hk];exact e) (fun n w0 hn hB=>zfk hB hn))
end
theorem zaI {W w1:World} {p:Addr} {v:Value} {g:Nat} (hfar:∀ k o,k≠g→W.heap[k]?=some o→w1.heap[k]?=some o) (hne:p.block≠g) (h:W.cell? p=some v):w1.cell? p=some v:=by
 cases hq:W.heap[p.block]? with
 | none=>simp[World.cell?,hq] at h
 | some o =>
  have h2:=hfar _ _ hne hq;have:w1.cell? p=W.cell? p:=by unfold World.cell?;rw[h2,hq]
  rw[this];exact h
theorem zlR {P:Program} {o:Oper} {a:Act} {W:World} {g:Nat} {cs:Array Value} {u:TypeId} {t:TypeId} (d:TypeDesc) (hb:Aside0 (W.heap[g]?=some (.cells cs u (0,0))))
  {x:Operand} (hop:o.op=.load t x) (hx:a.eval x=.pointer (some ⟨g,0,none⟩))
  (hu:P.underlying t=some d) (hd:(match d with | .struct _ | .array _ _=>true|_=>false)=true) (hi:(P.info? t).map (·.size)=some cs.size):(execOp a.eval o).run P W=.ok (.value (.agg cs)) W:=by
 have e:execOp a.eval o=(do pure (Next.value (←Instr.loadAt t (.pointer (some ⟨g,0,none⟩))))):=by
  unfold execOp;rw[hop];simp only[hx]
 rw[e];simp[Instr.loadAt,Instr.sureAddr,run_loadVar_row W g u t cs (0,0) d hb.out hu hd hi]
theorem jL {P:Program} {md:Region.Mode} {ops:Array Oper} {Q:Exit→Act→World→Prop} {S:World→Prop} {ds:List Nat} {fuel:Nat} {l:Array Bool} {a:Act} {w:World} (I:World→Prop) (h0:I w) (h:∀ w',I w'→jB P md ops Q S ds fuel l a w'):jB P md ops Q S ds fuel l a w:=h w h0
theorem uL {α:Type} {d:Kd α} {e base:Nat} {ok:Nat→Prop} {v:Value} {xs:List α} {W w1:World} {g t:Nat} {cs:Array Value} (h:d.R e W base ok v xs) (hb:W.heap[g]?=some (.cells cs t (0,0))) (ht:∀ q,q∈e :: d.E→q≠t)
  (hfar:∀ k o,k≠g→W.heap[k]?=some o→w1.heap[k]?=some o):d.R e w1 base ok v xs:=
 Kd.R_mono (Kd.R_step (Kd.R_types h hb ht) (fun k hk hlt=>by
  have e1:W.heap[k]?=some W.heap[k]:=Array.getElem?_eq_getElem hlt;rw[hfar k _ hk.2 e1,e1])) (fun _ hk=>hk.1)
theorem zhp {W w0:World} {g n o:Nat} {vs:List Value} (h:Below n w0 W) (hn:n≤g):Below n w0 (W.setCells g o vs):=by
 obtain⟨h1,h2,h3,h4⟩:=zcg g vs o W;refine h.trans ⟨?_,?_,?_,by rw[h4];exact Nat.le_refl _,fun k hk=>zbL _ _ k (by omega)⟩
 all_goals first|exact h1|exact h2|exact h3
theorem zpC {P:Program} {ops:Array Oper} {o:Oper} {a:Act} {Q:Exit→Act→World→Prop} {W:World} {K:Act→World→Prop} {g:Nat} {cs cs':Array Value} {t u:TypeId} (i:Nat) (vs:Array Value) (hb:Aside0 (W.heap[g]?=some (.cells cs u (0,0))))
  (h:∀ w1:World,w1.heap[g]?=some (.cells cs' u (0,0))→(∀ k o,k≠g→W.heap[k]?=some o→w1.heap[k]?=some o)→(∀ n w0,n≤g→Below n w0 W→Below n w0 w1)→K a w1)
  (hw:Region.wanted o (yielded ops a.tmps)=true) (hd:o.dst=none) {x y:Operand} (hop:o.op=.store t x y) (hx:a.eval x=.pointer (some ⟨g,i,none⟩)) (hy:a.eval y=.agg vs)
  (hi:(P.info? t).map (·.size)=some vs.size) (hs:i+vs.size≤cs.size) (h1:vs.toList.all (·.oneCell')=true) (hn:cs'.toList=cs.toList.take i++vs.toList++cs.toList.drop (i+vs.size)):if Region.wanted o (yielded ops a.tmps)=true then Oper.wp P o a W K Q else K (a.put none undef) W:=by
 have ht:W.there g i vs.size:=fun j hj=>⟨by rw[zA hb.out];simp;omega,zM hb.out _⟩
 have hst:(execOp a.eval o).run P W=.ok .skip (W.setCells g i vs.toList):=by
  have e:execOp a.eval o=(do Instr.storeAt t (.pointer (some ⟨g,i,none⟩)) (.agg vs);pure Next.skip):=by
   unfold execOp;rw[hop];simp only[hx,hy]
  rw[e];simp[run_storeAt_mid W g i t vs ht hi (by rw[←Array.all_toList];exact h1)]
 refine zaU hw hd hst (h _ ?_ (fun k o hk e=>by rw[zbL _ _ k hk];exact e) (fun n w0 hn hB=>zhp hB hn));obtain⟨cur,h2,h3,h4⟩:=zcB (e:=u) vs.toList i W cs hb.out (by simpa using hs);rw[h2];congr 2
 apply Array.toList_inj.1
 rw[h4,hn];simp
def zjc (c:UInt8) (s:ByteArray):Nat:=s.data.toList.findIdx (·==c)
def zaf (s:ByteArray) (c:UInt8):ByteArray×ByteArray×Bool:=if zjc c s<s.size then (s.extract 0 (zjc c s),s.extract (zjc c s+1) s.size,true) else (s,⟨#[]⟩,false)
theorem zpM {l:List UInt8} {c:UInt8} {k:Nat} (hk:k<l.length) (h0:∀ j,j<k→∀ h:j<l.length,(l[j]==c)=false) (h1:(l[k]==c)=true):l.findIdx (·==c)=k:=by
 rw[List.findIdx_eq hk];exact⟨h1,fun j hj=>h0 j hj _⟩
theorem zpT {l:List UInt8} {c:UInt8} (h0:∀ j,j<l.length→∀ h:j<l.length,(l[j]==c)=false):l.findIdx (·==c)=l.length:=by
 rw[List.findIdx_eq_length];intro x hx;obtain⟨j,hj,rfl⟩:=List.getElem_of_mem hx;rw[h0 j hj hj]
theorem zbF (a b:UInt8):(((a.toNat:Int))==((b.toNat:Int)))=(a==b):=by
 rw[Bool.eq_iff_iff,beq_iff_eq,beq_iff_eq];constructor
 ·intro h;exact UInt8.toNat_inj.1 (by omega)
 rintro rfl;rfl
set_option maxHeartbeats 1000000 in
theorem zjI (s:ByteArray) (c:UInt8) (hs:s.size≤4611686018427387904) (w:World):Calls Tryz.prog 116 #[.string s,.int .u8 (c.toNat:Int)] w fun e w'=>e=.returned (.tuple #[.string (zaf s c).1,.string (zaf s c).2.1,.bool (zaf s c).2.2])∧zL w w':=by
 have HS:=K_ hs;clear hs;go_enter Tryz.func116,Tryz.ntmps116
 go_wp2
 go_loop [7] (fun i=>∃ k:Nat,k≤s.size∧i=.int .i64 k∧∀ j,j<k→∀ h:j<s.data.toList.length,(s.data.toList[j]==c)=false) (fun i=>s.size-(intOf i).toNat)
 case atStart=>exact⟨0,by omega,rfl,fun j hj=>by omega⟩
 case round =>
  obtain⟨k,hk,rfl,h0⟩:=hrel;have H0:=K_ h0;have hb:=HS.out;clear h0;by_cases hlt:k<s.size
  ·have e:s.data.toList[k]'(by rw[←zR];exact hlt)=s[k]:=rfl
   cases hc:(s[k]==c)
   ·have hd:(((s[k].toNat:Nat):Int)==(c.toNat:Int))=false:=by rw[zbF];exact hc
    have HC:=K_ hc;clear hc;go_wp2
    go_round
    case rel=>exact⟨k+1,by omega,by go_num,fun j hj h=>by
     rcases Nat.lt_succ_iff_lt_or_eq.1 hj with h2|h2
     ·exact H0.out j h2 h
     subst h2;exact HC.out⟩
    case measure=>simp[intOf];omega
   have hd:(((s[k].toNat:Nat):Int)==(c.toNat:Int))=true:=by rw[zbF];exact hc
   have HX:=K_ (show zaf s c=(s.extract 0 k,s.extract (k+1) s.size,true) by
    have hi:zjc c s=k:=zpM (by rw[←zR];exact hlt) H0.out hc;unfold zaf;rw[hi,if_pos hlt])
   clear hc;go_wp2
   go_quiet (fail)
   go_wp2
   go_ret3
   exact⟨by rw[HX.out];rfl,⟨_,rfl⟩⟩
  obtain rfl:k=s.size:=by omega
  have HX:=K_ (show zaf s c=(s,⟨#[]⟩,false) by
   have hi:zjc c s=s.data.toList.length:=zpT (fun j hj h=>H0.out j (by rw[zR];exact hj) h);unfold zaf;rw[if_neg];rw[hi,←zR];omega)
  go_wp2
  go_ret3
  exact⟨by rw[HX.out];rfl,zL.refl _⟩
def uF (s:ByteArray):ByteArray:=⟨(s.data.toList.dropWhile (·==48)).toArray⟩
theorem zkc {s:ByteArray} (h:¬ 0<s.size):uF s=s:=by
 apply xN;show (s.data.toList.dropWhile _)=s.data.toList
 rw[List.eq_nil_of_length_eq_zero (l:=s.data.toList) (by rw[←zR];omega)];rfl
theorem zjO {s:ByteArray} (h:0<s.size) (h2:s[0]=48):uF s=uF (s.extract 1 s.size):=by
 apply xN;show (s.data.toList.dropWhile _)=((s.extract 1 s.size).data.toList.dropWhile _)
 rw[zhk];have e:=List.drop_eq_getElem_cons (l:=s.data.toList) (i:=0) (by rw[←zR];exact h);rw[List.drop_zero] at e;have e0:s.data.toList[0]'(by rw[←zR];exact h)=48:=h2;rw[e0] at e;rw[e,List.dropWhile_cons];rfl
theorem zjD {s:ByteArray} (h:0<s.size) (h2:s[0]≠48):uF s=s:=by
 apply xN;show (s.data.toList.dropWhile _)=_
 have e:=List.drop_eq_getElem_cons (l:=s.data.toList) (i:=0) (by rw[←zR];exact h);rw[List.drop_zero] at e;have e0:(s.data.toList[0]'(by rw[←zR];exact h)==(48:UInt8))=false:=beq_eq_false_iff_ne.2 h2;rw[e,List.dropWhile_cons,e0];rfl
set_option maxHeartbeats 1000000 in
theorem zgg (s:ByteArray) (hs:s.size≤4611686018427387904) (w:World):Calls Tryz.prog 117 #[.string s] w fun e w'=>e=.returned (.string (uF s))∧zL w w':=by
 have HS:=K_ hs;clear hs;go_enter Tryz.func117,Tryz.ntmps117
 go_wp2
 go_loop [0] (fun v=>∃ t:ByteArray,v=.string t∧t.size≤s.size∧uF t=uF s) (fun v=>match v with | .string t=>t.size|_=>0)
 case atStart=>exact⟨s,rfl,Nat.le_refl _,rfl⟩
 case round =>
  obtain⟨t,rfl,hl,he⟩:=hrel;have HE:=K_ he;have hb:=HS.out;clear he;by_cases h0:0<t.size
  ·by_cases h1:t[0]=48
   ·have hd:((t[0].toNat:Int)==48)=true:=by rw[h1];rfl
    have HD:=K_ (zjO h0 h1);clear h1;go_wp2
    go_round
    case rel=>exact⟨_,rfl,by rw[zib];omega,HD.out.symm.trans HE.out⟩
    case measure=>show (t.extract 1 t.size).size<t.size;rw[zib];omega
   have hd:((t[0].toNat:Int)==48)=false:=by
    rw[show (48:Int)=(((48:UInt8).toNat:Nat):Int) from rfl,zbF];exact beq_eq_false_iff_ne.2 h1
   have HD:=K_ (zjD h0 h1);clear h1;go_wp2
   go_ret
   exact⟨by rw[←HE.out,HD.out];rfl,zL.refl _⟩
  have HD:=K_ (zkc h0);go_wp2
  go_ret
  exact⟨by rw[←HE.out,HD.out];rfl,zL.refl _⟩
def xW (c x:UInt8):Bool:=x==c||(c==48&&(decide (48≤x.toNat)&&decide (x.toNat≤57)))
def jO (c:UInt8) (l:List UInt8):Nat:=l.countP (xW c)
theorem zlV {c:UInt8} {l:List UInt8} {k:Nat} (h:k<l.length):jO c (l.take (k+1))=jO c (l.take k)+if xW c l[k]=true then 1 else 0:=by
 unfold jO;rw[List.take_succ_eq_append_getElem h,List.countP_append,List.countP_cons,List.countP_nil,Nat.zero_add]
theorem zoB (c:UInt8) (l:List UInt8) (k:Nat):jO c (l.take k)≤k:=by
 unfold jO;refine Nat.le_trans List.countP_le_length ?_;rw[List.length_take];omega
set_option maxHeartbeats 2000000 in
theorem zaZ (s:ByteArray) (c:UInt8) (hs:s.size≤4611686018427387904) (w:World):Calls Tryz.prog 118 #[.string s,.int .u8 (c.toNat:Int)] w fun e w'=>e=.returned (.int .i64 (jO c s.data.toList:Nat))∧w'=w:=by
 have HS:=K_ hs;clear hs;go_enter Tryz.func118,Tryz.ntmps118
 go_wp2
 go_loop [5,6] (fun n i=>∃ k:Nat,k≤s.size∧i=.int .i64 k∧n=.int .i64 (jO c (s.data.toList.take k):Nat)) (fun _ i=>s.size-(intOf i).toNat)
 case atStart=>exact⟨0,by omega,rfl,rfl⟩
 case round =>
  obtain⟨k,hk,rfl,rfl⟩:=hrel;have hb:=HS.out;have hn:=zoB c s.data.toList k;by_cases hlt:k<s.size
  ·have HC:=K_ (zlV (c:=c) (l:=s.data.toList) (k:=k) (by rw[←zR];exact hlt))
   have hd0:(((s[k].toNat:Nat):Int)==(c.toNat:Int))=(s[k]==c):=zbF _ _;have hd1:(((c.toNat:Nat):Int)==48)=(c==48):=zbF c 48;have hs1:xW c s[k]=(s[k]==c||(c==48&&(decide (48≤s[k].toNat)&&decide (s[k].toNat≤57)))):=rfl;have HS1:=K_ hs1;clear hs1;have HC2:Aside0 (jO c (s.data.toList.take (k+1))=jO c (s.data.toList.take k)+if xW c s[k]=true then 1 else 0):=HC;clear HC;cases h1:(s[k]==c)
   ·rw[h1] at hd0
    cases h2:(c==48)
    ·rw[h2] at hd1
     have e:xW c s[k]=false:=by rw[HS1.out,h1,h2];rfl
     have E:=K_ e;clear e h1 h2;go_wp2
     go_round
     case rel=>exact⟨k+1,by omega,by go_num,by rw[HC2.out,E.out];rfl⟩
     case measure=>simp[intOf];omega
    rw[h2] at hd1;have E:=K_ (show xW c s[k]=(decide (48≤s[k].toNat)&&decide (s[k].toNat≤57)) by rw[HS1.out,h1,h2];rfl);clear h1 h2;by_cases h3:48≤s[k].toNat
    ·by_cases h4:s[k].toNat≤57
     ·have E2:=K_ (show xW c s[k]=true by rw[E.out];simp[h3,h4])
      go_wp2
      go_round
      case rel=>exact⟨k+1,by omega,by go_num,by rw[HC2.out,E2.out];go_num⟩
      case measure=>simp[intOf];omega
     have E2:=K_ (show xW c s[k]=false by rw[E.out];simp[h4]);go_wp2
     go_round
     case rel=>exact⟨k+1,by omega,by go_num,by rw[HC2.out,E2.out];rfl⟩
     case measure=>simp[intOf];omega
    have E2:=K_ (show xW c s[k]=false by rw[E.out];simp[h3]);go_wp2
    go_round
    case rel=>exact⟨k+1,by omega,by go_num,by rw[HC2.out,E2.out];rfl⟩
    case measure=>simp[intOf];omega
   rw[h1] at hd0;have E:=K_ (show xW c s[k]=true by rw[HS1.out,h1];rfl);clear h1;go_wp2
   go_round
   case rel=>exact⟨k+1,by omega,by go_num,by rw[HC2.out,E.out];go_num⟩
   case measure=>simp[intOf];omega
  obtain rfl:k=s.size:=by omega
  go_wp2
  go_ret
  exact⟨by rw[show s.data.toList.take s.size=s.data.toList by rw[zR,List.take_length]];rfl,rfl⟩
def zaH (x:UInt8) (ts:List UInt8):List UInt8:=ts.dropWhile fun t=>!xW t x
def uW:List UInt8→List UInt8→Bool
 | _,[]=>true
 | ts,x :: xs=>!(zaH x ts).isEmpty&&uW (zaH x ts) xs
theorem zoL (t x:UInt8):jO t [x]=if xW t x=true then 1 else 0:=by unfold jO;rw[List.countP_cons,List.countP_nil,Nat.zero_add]
theorem zhD {s:ByteArray} {k:Nat} (h:k<s.size):(s.extract k (k+1)).data.toList=[s[k]]:=by
 rw[show (s.extract k (k+1)).data.toList=(s.data.toList.take (k+1)).drop k by simp[List.drop_take]];rw[List.take_succ_eq_append_getElem (by rw[←zR];exact h),List.drop_left' (by rw[List.length_take,←zR];omega)];rfl
theorem zpx {x:UInt8} {L:List UInt8} {k:Nat} (h:k<L.length) (h2:xW L[k] x=false):zaH x (L.drop k)=zaH x (L.drop (k+1)):=by
 rw[List.drop_eq_getElem_cons h];unfold zaH;rw[List.dropWhile_cons,h2];rfl
theorem zmh {x:UInt8} {L:List UInt8} {k:Nat} (h:k<L.length) (h2:xW L[k] x=true):zaH x (L.drop k)=L.drop k:=by
 rw[List.drop_eq_getElem_cons h];unfold zaH;rw[List.dropWhile_cons,h2];rfl
set_option maxHeartbeats 4000000 in
theorem zfs (s:ByteArray) (a b c:UInt8) (hs:s.size≤4611686018427387904) (w:World):Calls Tryz.prog 119 #[.string s,.int .u8 (a.toNat:Int),.int .u8 (b.toNat:Int),.int .u8 (c.toNat:Int)] w fun e w'=>e=.returned (.bool (uW [a,b,c] s.data.toList))∧Below w.heap.size w w':=by
 have HS:=K_ hs;obtain⟨L,hL⟩:∃ L:List UInt8,L=[a,b,c]:=⟨_,rfl⟩
 rw[←hL];have HL3:=K_ (show L.length=3 by rw[hL];rfl);obtain⟨g,hg⟩:∃ g,g=w.heap.size:=⟨_,rfl⟩
 have hC:∀ W:World,W.heap[g]?=some (.cells #[.int .u8 (a.toNat:Int),.int .u8 (b.toNat:Int),.int .u8 (c.toNat:Int)] 5 (0,0))→∀ k,(h:k<L.length)→W.cell? ⟨g,k,none⟩=some (.int .u8 ((L[k].toNat:Nat):Int)):=by
  intro W hb k hk;subst hL
  match k,hk with
  | 0,_=>exact (zA hb 0).trans rfl
  | 1,_=>exact (zA hb 1).trans rfl
  | 2,_=>exact (zA hb 2).trans rfl
 have HC:=K_ hC;have HG:=K_ hg;clear hs hL hC;go_enter Tryz.func119,Tryz.ntmps119
 go_wp2
 rw[←hg];clear hg;go_loopw [10,11] (fun kv i wr=>∃ (k j:Nat),k≤3∧j≤s.size∧kv=.int .i64 k∧i=.int .i64 j∧uW (L.drop k) (s.data.toList.drop j)=uW L s.data.toList∧wr.heap[g]?=some (.cells #[.int .u8 (a.toNat:Int),.int .u8 (b.toNat:Int),.int .u8 (c.toNat:Int)] 5 (0,0))∧Below w.heap.size w wr) (fun _ i _=>s.size-(intOf i).toNat)
 case atStart =>
  refine⟨0,0,by omega,by omega,rfl,rfl,rfl,?_,?_⟩
  ·rw[HG.out];exact zcl _ _
  exact (Below.refl _ _).alloc (Nat.le_refl _) _
 case round =>
  obtain⟨k,j,hk,hj,rfl,rfl,he,hb,hw⟩:=hrel;have HE:=K_ he;have HB:=K_ hb;have HW:=K_ hw;have hsz:=HS.out;clear he hb hw;by_cases hlt:j<s.size
  ·have hq:∀ k2:Nat,(h:k2<3)→Calls Tryz.prog 118 #[.string (s.extract j (j+1)),.int .u8 ((L[k2]'(by rw[HL3.out];exact h)).toNat:Int)]=Calls Tryz.prog 118 #[.string (s.extract j (j+1)),.int .u8 ((L[k2]'(by rw[HL3.out];exact h)).toNat:Int)]:=fun _ _=>rfl
   clear hq;go_wp2
   go_loopw [10] (fun kv wr=>∃ k2:Nat,k2≤3∧kv=.int .i64 k2∧zaH s[j] (L.drop k2)=zaH s[j] (L.drop k)∧wr.heap[g]?=some (.cells #[.int .u8 (a.toNat:Int),.int .u8 (b.toNat:Int),.int .u8 (c.toNat:Int)] 5 (0,0))∧Below w.heap.size w wr) (fun kv _=>3-(intOf kv).toNat)
   case atStart=>exact⟨k,hk,rfl,rfl,HB.out,HW.out⟩
   case round =>
    obtain⟨k2,hk2,rfl,he2,hb2,hw2⟩:=hrel;have HE2:=K_ he2;have HB2:=K_ hb2;have HW2:=K_ hw2;clear he2 hb2 hw2;have hdrop:s.data.toList.drop j=s[j] :: s.data.toList.drop (j+1):=List.drop_eq_getElem_cons (by rw[←zR];exact hlt);have HD:=K_ hdrop;clear hdrop;by_cases h3:k2<3
    ·have hlen:k2<L.length:=by rw[HL3.out];exact h3
     have hcell:=HC.out _ HB2.out k2 hlen;have hd3:decide ((k2:Int)<3)=true:=decide_eq_true (by omega);have h01:(0:Int)≤(j:Int)+1:=by omega
     have hle1:(j:Int)≤(j:Int)+1:=by omega
     have hle2:(j:Int)+1≤(s.size:Int):=by omega
     have hle3:j+1≤s.size:=hlt;have hn1:((j:Int)+1).toNat=j+1:=by omega
     have hwj:IntKind.i64.wrap ((j:Int)+1)=(j:Int)+1:=by rw[IntKind.wrap_i64];omega
     have hone:(s.extract j (j+1)).size≤4611686018427387904:=by rw[zR,zhD hlt];simp
     have HCT:=fun W=>K_ (zaZ (s.extract j (j+1)) L[k2] hone W)
     have hcnt:jO L[k2] (s.extract j (j+1)).data.toList=if xW L[k2] s[j]=true then 1 else 0:=by rw[zhD hlt];exact zoL _ _
     clear hone;cases hs2:xW L[k2] s[j]
     ·rw[hs2] at hcnt
      have hz:jO L[k2] (s.extract j (j+1)).data.toList=0:=hcnt;rw[hz] at HCT;have HE3:=K_ ((zpx hlen hs2).symm.trans HE2.out);clear hcnt hz hs2;go_wp2
      go_quiet ((go_at_call 118;exact Calls.quiet_of_same (HCT _).out))
      go_wp2
      go_roundw
      case rel=>exact⟨k2+1,by omega,by go_num,HE3.out,HB2.out,BL HW2⟩
      case measure=>simp[intOf];omega
     rw[hs2] at hcnt;have hz:jO L[k2] (s.extract j (j+1)).data.toList=1:=hcnt;rw[hz] at HCT;have HE3:=K_ ((zmh hlen hs2).symm.trans HE2.out);clear hcnt hz hs2;have hk3:((k2:Int)==3)=false:=by rw[beq_eq_false_iff_ne];omega
     go_wp2
     go_quiet ((go_at_call 118;exact Calls.quiet_of_same (HCT _).out))
     go_wp2
     go_roundw
     case rel =>
      refine⟨k2,j+1,by omega,by omega,rfl,by go_num,?_,HB2.out,BL HW2⟩;rw[←HE.out,HD.out];show _=(!(zaH s[j] (L.drop k)).isEmpty&&uW (zaH s[j] (L.drop k)) _)
      rw[←HE3.out,List.drop_eq_getElem_cons hlen];rfl
     case measure=>simp[intOf];omega
    obtain rfl:k2=3:=by omega
    have hd:decide (((3:Nat):Int)<3)=false:=rfl;have HR:=K_ (show uW L s.data.toList=false by
     rw[←HE.out,HD.out];show (!(zaH s[j] (L.drop k)).isEmpty&&uW (zaH s[j] (L.drop k)) _)=false
     rw[←HE2.out,List.drop_of_length_le (by rw[HL3.out];exact Nat.le_refl _)];rfl)
    go_wp2
    go_quiet (fail)
    go_wp2
    go_ret
    exact⟨by rw[HR.out];rfl,BL HW2⟩
  obtain rfl:j=s.size:=by omega
  have HR:=K_ (show uW L s.data.toList=true by
   rw[←HE.out,List.drop_of_length_le (l:=s.data.toList) (by rw[←zR];exact Nat.le_refl _)];cases L.drop k <;> rfl)
  go_wp2
  go_ret
  exact⟨by rw[HR.out];rfl,BL HW⟩
structure jZ where
 mi:Int
 xi:Int
 mf:Int
 xf:Int
 ms:Int
 xs:Int
 pr:Int
 se:Int
 inc:ByteArray
 sci:Bool
 me:Int
 pe:Bool
def jQ:jZ:=⟨0,0,0,0,0,0,0,0,⟨#[]⟩,false,0,false⟩
def jZ.cs (p:jZ):Array Value:=#[.slice none 0 0,.slice none 0 0,.bool false,.slice none 0 0,.slice none 0 0,.int .i64 p.mi,.int .i64 p.xi,.int .i64 p.mf,.int .i64 p.xf,.int .i64 p.ms,.int .i64 p.xs,.int .i64 p.pr,.int .i64 p.se,.string p.inc,.bool p.sci,.int .i64 p.me,.bool p.pe,.int .i64 0,.int .i32 0,.int .i64 0]
def okC (c:UInt8):Bool:=c==35||(c==64||(c==44||(c==46||(decide (48≤c.toNat)&&decide (c.toNat≤57)))))
def szF (a:List Int×Int) (c:UInt8):List Int×Int:=if c==44 then (a.1++[a.2],0) else (a.1,a.2+1)
def szS (l:List UInt8):List Int×Int:=l.foldl szF ([],0)
def xE (c:UInt8) (l:List UInt8):ByteArray:=⟨(l.filter (· !=c)).toArray⟩
def xX (l:List UInt8):Nat:=(l.takeWhile (·==35)).length
def zes (P:jZ):Option jZ:=if P.mi>40∨P.xi>40∨P.xf>40∨P.xs>40∨P.pr>40∨P.se>40∨(P.inc.size:Int)>40 then none else some P
def zbm (sc:Bool) (sz:List Int) (pl:ByteArray) (P:jZ):Option jZ:=if sc=true∧(sz.length>1∨(P.ms>0∧pl.data.toList.headD 0=35)) then none else zes P
def zfg (sc pt:Bool) (sz:List Int) (pl fr:ByteArray) (P:jZ):Option jZ:=
 if (pl++fr).size=0 then none
 else if 0<jO 64 (pl++fr).data.toList then
  if pt=true∨0<jO 48 pl.data.toList then none
  else if uW [35,64,35] pl.data.toList=false then none
  else zbm sc sz pl { P with ms:=(jO 64 pl.data.toList:Nat),xs:=(pl.size:Int)-(xX pl.data.toList:Nat) }
 else if uW [35,48,48] pl.data.toList=false∨uW [48,35,35] fr.data.toList=false then none
 else if (uF (xE 35 (pl++fr).data.toList)).size≠0∧((jO 48 fr.data.toList:Int)<(fr.size:Int)∨sc=true) then none
 else zbm sc sz pl { P with mi:=(jO 48 pl.data.toList:Nat),mf:=(jO 48 fr.data.toList:Nat),xf:=(fr.size:Int),inc:=uF (xE 35 (pl++fr).data.toList),xi:=if sc=true then (pl.size:Int) else P.xi }
def zgy (sc pt:Bool) (wh fr:ByteArray) (P:jZ):Option jZ:=
 if (szS (wh.data.toList++[44])).1.length>1∧0∈(szS (wh.data.toList++[44])).1 then none
 else zfg sc pt (szS (wh.data.toList++[44])).1 (xE 44 wh.data.toList) fr { P with
  pr:=if (szS (wh.data.toList++[44])).1.length>1 then (szS (wh.data.toList++[44])).1.getD ((szS (wh.data.toList++[44])).1.length-1) 0 else P.pr
  se:=if (szS (wh.data.toList++[44])).1.length>2 then (szS (wh.data.toList++[44])).1.getD ((szS (wh.data.toList++[44])).1.length-2) 0 else if (szS (wh.data.toList++[44])).1.length>1 then (szS (wh.data.toList++[44])).1.getD ((szS (wh.data.toList++[44])).1.length-1) 0 else P.se }
def zch (sc:Bool) (b:ByteArray) (P:jZ):Option jZ:=
 if b.data.toList.all okC=false then none
 else if 0<jO 46 (zaf b 46).2.1.data.toList∨((zaf b 46).2.2=true∧(zaf b 46).2.1.size=0) then none
 else if 0<jO 44 (zaf b 46).2.1.data.toList then none
 else zgy sc (zaf b 46).2.2 (zaf b 46).1 (zaf b 46).2.1 P
def zbW (x:ByteArray):Bool:=decide (0<x.size)&&x.data.toList.headD 0==43
def zbp (x:ByteArray):ByteArray:=if zbW x=true then x.extract 1 x.size else x
def vI (s:ByteArray):Option jZ:=
 if (zaf s 69).2.2=true then
  if (zbp (zaf s 69).2.1).size=0∨(uF (zbp (zaf s 69).2.1)).size≠0 then none
  else if (zbp (zaf s 69).2.1).size>9 then none
  else zch true (zaf s 69).1 { jQ with sci:=true,me:=((zbp (zaf s 69).2.1).size:Int),pe:=zbW (zaf s 69).2.1 }
 else zch false (zaf s 69).1 jQ
def zoR (s:ByteArray) (w:World) (e:Ending) (w':World):Prop:=
 ∃ (p:jZ) (E:Int),e=.returned (.tuple #[.agg p.cs,.int .i64 E])∧Below w.heap.size w w'∧((E=0∧vI s=some p)∨(E≠0∧vI s=none))
abbrev Z26:Array Value:=#[Value.slice none 0 0,Value.slice none 0 0,Value.bool false,Value.slice none 0 0,Value.slice none 0 0,Value.int .i64 0,Value.int .i64 0,Value.int .i64 0,Value.int .i64 0,Value.int .i64 0,Value.int .i64 0,Value.int .i64 0,Value.int .i64 0,Value.string ⟨#[]⟩,Value.bool false,Value.int .i64 0,Value.bool false,Value.int .i64 0,Value.int .i32 0,Value.int .i64 0]
theorem zjG {x:ByteArray} (h:¬ 0<x.size):zbW x=false:=by unfold zbW;rw[decide_eq_false h];rfl
theorem zkM {x:ByteArray} (h:0<x.size):x.data.toList.headD 0=x[0]:=by
 have e:=List.drop_eq_getElem_cons (l:=x.data.toList) (i:=0) (by rw[←zR];exact h);rw[List.drop_zero] at e;rw[e];rfl
theorem zoi {x:ByteArray} (h:0<x.size):zbW x=(x[0]==43):=by unfold zbW;rw[decide_eq_true h,zkM h];rfl
theorem zhT {x:ByteArray} (h:¬ 0<x.size):x=⟨#[]⟩:=by
 apply xN;show x.data.toList=[];exact List.eq_nil_of_length_eq_zero (by rw[←zR];omega)
theorem zik (s:ByteArray) (c:UInt8):(zaf s c).1.size≤s.size∧(zaf s c).2.1.size≤s.size:=by
 unfold zaf;split
 ·rename_i h
  refine⟨?_,?_⟩
  ·show (s.extract 0 _).size≤_;rw[ByteArray.size_extract];omega
  show (s.extract _ _).size≤_;rw[ByteArray.size_extract];omega
 exact⟨Nat.le_refl _,Nat.zero_le _⟩
theorem zlg (s:ByteArray):(uF s).size≤s.size:=by
 rw[zR,zR];exact (List.dropWhile_sublist _).length_le
theorem zdv {x:ByteArray} (h:0<x.size):x.toList.isEmpty=false:=by
 rw[ByteArray.toList_eq,List.isEmpty_eq_false_iff];intro e;rw[zR,e] at h;exact absurd h (by decide)
theorem zfF {x:ByteArray} (h:¬ 0<x.size):x.toList.isEmpty=true:=by
 rw[zhT h,ByteArray.toList_eq];rfl
theorem zqa {l:List UInt8} {k:Nat} (h:k<l.length) (h2:okC l[k]=false):l.all okC=false:=by
 rw[List.all_eq_false];exact⟨_,List.getElem_mem h,by rw[h2];decide⟩
theorem znt {l:List UInt8} {k:Nat} (h:k<l.length) (h1:(l.take k).all okC=true) (h2:okC l[k]=true):(l.take (k+1)).all okC=true:=by
 rw[List.take_succ_eq_append_getElem h,List.all_append,h1,List.all_cons,h2];rfl
theorem zoh {l:List UInt8} {k:Nat} (h:k<l.length):szS (l.take (k+1))=szF (szS (l.take k)) l[k]:=by
 unfold szS;rw[List.take_succ_eq_append_getElem h,List.foldl_append];rfl
theorem zpN (l:List UInt8) (a:List Int×Int) (n:Nat) (h:0≤a.2∧a.2≤n∧a.1.length≤n):0≤(l.foldl szF a).2∧(l.foldl szF a).2≤(n+l.length:Nat)∧(l.foldl szF a).1.length≤n+l.length:=by
 induction l generalizing a n with
 | nil=>exact h
 | cons c l ih =>
  rw[List.foldl_cons,List.length_cons,show n+(l.length+1)=(n+1)+l.length by omega];apply ih
  unfold szF;split
  ·refine⟨Int.le_refl _,by omega,?_⟩
   rw[List.length_append];simp;omega
  exact⟨by show 0≤a.2+1;omega,by show a.2+1≤_;omega,by show a.1.length≤_;omega⟩
theorem zkF (l:List UInt8) (k:Nat):0≤(szS (l.take k)).2∧(szS (l.take k)).2≤k∧(szS (l.take k)).1.length≤k:=by
 have h:=zpN (l.take k) ([],0) 0 ⟨Int.le_refl _,Int.le_refl _,Nat.le_refl _⟩;rw[List.length_take] at h;refine⟨h.1,?_,?_⟩
 ·have:=h.2.1;unfold szS;omega
 have:=h.2.2;unfold szS;omega
theorem zjh {l:List UInt8} {k:Nat} (c:UInt8) (h:k<l.length) (e:l[k]=c):xE c (l.take (k+1))=xE c (l.take k):=by
 unfold xE;rw[List.take_succ_eq_append_getElem h,List.filter_append,List.filter_cons,e];simp
theorem ziV {l:List UInt8} {k:Nat} (c:UInt8) (h:k<l.length) (e:l[k]≠c):xE c (l.take (k+1))=xE c (l.take k)++⟨#[l[k]]⟩:=by
 unfold xE;rw[List.take_succ_eq_append_getElem h,List.filter_append,List.filter_cons,if_pos (by simpa using e)];apply xN;simp
theorem zey (c:UInt8) (l:List UInt8):(xE c l).size≤l.length:=by
 rw[zR];exact List.length_filter_le _ _
theorem zgz {s:ByteArray} {k:Nat} (h:k<s.size):s.extract k (k+1)=⟨#[s[k]]⟩:=by
 apply xN;rw[zhD h]
theorem zoI (s:ByteArray) (c:UInt8) (h:(zaf s c).2.2=false):(zaf s c).2.1=⟨#[]⟩:=by
 unfold zaf at h ⊢;split
 ·rename_i h2;rw[if_pos h2] at h;cases h
 rfl
theorem zcR (c:UInt8) (l:List UInt8):xX (c :: l)=if (c==35)=true then xX l+1 else 0:=by
 unfold xX;rw[List.takeWhile_cons];split <;> rfl
theorem zpo (l:List UInt8):∀ k:Nat,k<xX l→∀ h:k<l.length,l[k]=35:=by
 induction l with
 | nil=>intro k _ h;exact absurd h (Nat.not_lt_zero _)
 | cons c l ih =>
  intro k hk h;rw[zcR] at hk;split at hk
  ·rename_i hc
   cases k with
   | zero=>exact eq_of_beq hc
   | succ k=>exact ih k (by omega) (by simpa using h)
  omega
theorem zmE (l:List UInt8):∀ h:xX l<l.length,l[xX l]≠35:=by
 induction l with
 | nil=>intro h;exact absurd h (Nat.not_lt_zero _)
 | cons c l ih =>
  intro h;by_cases hc:(c==35)=true
  ·have e:xX (c :: l)=xX l+1:=by rw[zcR,if_pos hc]
   have h2:xX l<l.length:=by rw[e] at h;simpa using h
   simp only[e,List.getElem_cons_succ];exact ih h2
  have e:xX (c :: l)=0:=by rw[zcR,if_neg hc]
  simp only[e,List.getElem_cons_zero];intro h3;exact hc (by rw[h3];rfl)
theorem zoy (l:List UInt8) (h:0<jO 64 l):xX l<l.length:=by
 induction l with
 | nil=>exact absurd h (by decide)
 | cons c l ih =>
  rw[zcR,List.length_cons];split
  ·rename_i hc
   have:=ih (by
    rw[eq_of_beq hc] at h;unfold jO at h ⊢;rw[List.countP_cons,show xW 64 35=false by decide] at h;simpa using h)
   omega
  omega
theorem zbO {P:Program} {c:Code} {Q:Exit→Act→World→Prop} {a:Act} {w:World} (I:World→Prop) (h0:I w) (h:∀ w',I w'→Code.wp P c Q a w'):Code.wp P c Q a w:=h w h0
def zbb (p:jZ):List Int:=[p.mi,p.xi,p.xf,p.xs,p.pr,p.se,(p.inc.size:Int)]
theorem znr (p:jZ) (h:∀ x∈zbb p,x≤40):zes p=some p:=by
 unfold zes;rw[if_neg];have h1:=h p.mi (by simp[zbb]);have h2:=h p.xi (by simp[zbb]);have h3:=h p.xf (by simp[zbb]);have h4:=h p.xs (by simp[zbb]);have h5:=h p.pr (by simp[zbb]);have h6:=h p.se (by simp[zbb]);have h7:=h p.inc.size (by simp[zbb]);omega
theorem znz (p:jZ) {x:Int} (hx:x∈zbb p) (h:40<x):zes p=none:=by
 unfold zes;rw[if_pos];simp only[zbb,List.mem_cons,List.not_mem_nil,or_false] at hx
 omega
theorem zin (p:jZ):(zbb p).length=7:=rfl
end
section
section
variable {P:Program} {ops:Array Oper} {Q:Exit→Act→World→Prop} {md:Region.Mode} {S:World→Prop} {ds:List Nat}
theorem np_ {fuel:Nat} {l:Array Bool} {a a':Act} {w:World} (h:jB P md ops Q S ds fuel l a' w)
  (ha:a=a':=by (simp only[zeY,Act.put,List.setIfInBounds_toArray,List.set_cons_zero,List.set_cons_succ];rfl)):jB P md ops Q S ds fuel l a w:=zlq ha h
theorem nj_ {fuel:Nat} {l:Array Bool} {a a':Act} {w:World} (h:jB P md ops Q S ds fuel l a' w)
  (ha:a=a':=by simp only[zeY,Act.put,List.setIfInBounds_toArray,List.set_cons_zero,List.set_cons_succ]):jB P md ops Q S ds fuel l a w:=zlq ha h
theorem pw_ (i N:Nat) {oi:Oper} {v:Value} {fuel:Nat} {l:Array Bool} {a:Act} {w:World} (l':Array Bool) {a':Act} (h:jB P md ops Q S ds fuel l' a' w)
  (hi:ops[i]?=some oi:=by rfl) (hN:oi.dst=some N:=by rfl) (hc:zhu md ops l l' i=true:=by kernel_rfl) (hQ:∀ c a w,Q (.panic c) (a.put oi.dst v) w→Q (.panic c) a w:=by exact (fun _ _ _ h=>h)) (hy:Yields P ops oi v a:=by (refine Or.inl ⟨by rfl,?_⟩;intro w';go_simp;with_reducible rfl))
  (ha:a.put (some N) v=a':=by (simp only[Act.put,List.setIfInBounds_toArray,List.set_cons_zero,List.set_cons_succ];(try simp only[vY]);(try simp only[xD]);rfl)):jB P md ops Q S ds (fuel+1) l a w:=vR l' hi hN hc hQ hy ha h
theorem tw_ (i N:Nat) {oi:Oper} {v:Value} {fuel:Nat} {l:Array Bool} {a:Act} {w:World} (l':Array Bool) (hS:S w) {a':Act} (h:jB P md ops Q S ds fuel l' a' w)
  (hi:ops[i]?=some oi:=by rfl) (hN:oi.dst=some N:=by rfl) (hc:zdF md ops ds l l' i=true:=by kernel_rfl) (hQ:∀ c a w,Q (.panic c) (a.put oi.dst v) w→Q (.panic c) a w:=by exact (fun _ _ _ h=>h)) (hy:YieldsIf P ops S oi v a:=by (refine Or.inl ⟨by rfl,?_⟩;intro w' hs_;(repeat (obtain⟨_,hs_⟩:=hs_));go_simp;with_reducible rfl))
  (ha:a.put (some N) v=a':=by (simp only[Act.put,List.setIfInBounds_toArray,List.set_cons_zero,List.set_cons_succ];(try simp only[vY]);(try simp only[xD]);rfl)):jB P md ops Q S ds (fuel+1) l a w:=take_ l' hi hN hc hQ hy hS ha h
theorem tr_ (i N:Nat) {oi:Oper} {fuel:Nat} {l:Array Bool} {a:Act} {w:World} (l':Array Bool) (cs:Array Value) {g:Nat} {u t:TypeId} {d:TypeDesc} (hb:∀ w',S w'→Aside0 (w'.heap[g]?=some (.cells cs u (0,0)))) (hu:P.underlying t=some d) (hz:(P.info? t).map (·.size)=some cs.size) (hS:S w) {a':Act} (h:jB P md ops Q S ds fuel l' a' w) {x:Operand}
  (hi:ops[i]?=some oi:=by rfl) (hN:oi.dst=some N:=by rfl) (hop:oi.op=.load t x:=by rfl) (hx:a.eval x=.pointer (some ⟨g,0,none⟩):=by rfl) (hd:(match d with | .struct _ | .array _ _=>true|_=>false)=true:=by rfl) (hw:Region.wanted oi (yielded ops a.tmps)=true:=by rfl)
  (hQ:∀ c a w,Q (.panic c) (a.put oi.dst (.agg cs)) w→Q (.panic c) a w:=by exact (fun _ _ _ h=>h)) (hc:zdF md ops ds l l' i=true:=by kernel_rfl) (ha:a.put (some N) (.agg cs)=a':=by (simp only[Act.put,List.setIfInBounds_toArray,List.set_cons_zero,List.set_cons_succ];rfl)):jB P md ops Q S ds (fuel+1) l a w:=
 take_ l' hi hN hc hQ (Or.inl ⟨hw,fun w' hs=>zlR d (hb w' hs) hop hx hu hd hz⟩) hS ha h
theorem on_ (i:Nat) (N:Option Tmp) {oi:Oper} {fuel:Nat} {l:Array Bool} {a:Act} {w:World} (l':Array Bool)
  (h:∀ K:Act→World→Prop,Shut (∀ a' w',S w'→(S w'→jB P md ops Q S ds fuel l' a' w')→K a' w')→if Region.wanted oi (yielded ops a.tmps)=true then Oper.wp P oi a w K Q else K (a.put N undef) w)
  (hi:ops[i]?=some oi:=by rfl) (hN:oi.dst=N:=by rfl) (hc:zds md ops l l' i=true:=by kernel_rfl) (hd:i ∉ ds:=by decide):jB P md ops Q S ds (fuel+1) l a w:=zbM l' hi hN hc hd h
theorem gq_ {oi:Oper} {N:Option Tmp} {a:Act} {w:World} {K:Act→World→Prop} {f:FuncId} {fn:Func} {as_:Array Operand} {ts:Array TypeId} (hf:P.funcs[f]?=some fn) (args:Array Value)
  (h:Calls P f args w fun e w'=>∃ v,e=.returned v∧K (a.put N v) w') (hname:(fn.name== "runtime.NumGoroutine")=false:=by kernel_rfl) (hb:fn.body.isSome=true:=by rfl) (hw:Region.wanted oi (yielded ops a.tmps)=true:=by rfl) (hN:oi.dst=N:=by rfl) (hop:oi.op=.call { callee:=.value (.func f),args:=as_,argTypes:=ts }:=by rfl)
  (hargs:as_.map a.eval=args:=by ((try simp only[List.map_toArray]);(try simp only[List.map_cons]);(try simp only[List.map_nil]);first|done|rfl)):if Region.wanted oi (yielded ops a.tmps)=true then Oper.wp P oi a w K Q else K (a.put N undef) w:=zqo hf hname hb args hw hN hop hargs h
theorem bs_ {o:Oper} {a:Act} {Kc:Act→World→Prop} {W:World} (N:Tmp) (cs:Array Value) (t:TypeId)
  (h:∀ g,g=W.heap.size→∀ w1,w1.heap[g]?=some (.cells cs t (0,0))→Below W.heap.size W w1→Kc (a.put o.dst (.pointer (some ⟨g,0,none⟩))) w1) (hd:o.dst=some N:=by rfl) (hw:Region.wanted o (yielded ops a.tmps)=true:=by rfl)
  (hrun:(execOp a.eval o).run P W=.ok (.value (.pointer (some ⟨W.heap.size,0,none⟩))) (W.alloc (.cells cs t (0,0))):=by (first|(go_simp;done)|(go_simp;rfl))):if Region.wanted o (yielded ops a.tmps)=true then Oper.wp P o a W Kc Q else Kc (a.put o.dst undef) W:=zng hw hd hrun h
end
end
end Go.Proofs.YtcmgdjnjmobkoaaGreatDoor.Px
namespace Go.Proofs.YtcmgdjnjmobkoaaGreatDoor.Px
open Fig Go.RowKit Go.Proofs.YtcmgdjnjmobkoaaGreatDoorW.PrintWords Go.Proofs.YtcmgdjnjmobkoaaGreatDoorW.PrintLast Go.Proofs.YtcmgdjnjmobkoaaGreatDoorW.PrintMore
attribute [local go_sem] vK vL uE uD yS yP vM vJ
attribute [local go_sem] qQ qX qL qW qY qN qZ xA qT qS qU qV xB qO
def yY.f (a0:Int):Option (Bool):=if a0 ≥ 48 then (if a0≤57 then (some true) else (if a0=35 then (some true) else (if a0=64 then (some true) else (if a0=44 then (some true) else (if a0=46 then (some true) else (if a0=59 then (some true) else (some (a0==42)))))))) else (if a0=35 then (some true) else (if a0=64 then (some true) else (if a0=44 then (some true) else (if a0=46 then (some true) else (if a0=59 then (some true) else (some (a0==42)))))))
set_option maxHeartbeats 8000000 in
set_option maxRecDepth 100000 in
theorem yY.calls (a0:Int) (r:Bool) (w:World) (h:yY.f a0=some r) :
  Calls Tryz.prog 114 #[.int .i32 a0] w fun e w'=>e=.returned (.bool r)∧zL w w':=by
 have H:(if a0 ≥ 48 then (if a0≤57 then (some true) else (if a0=35 then (some true) else (if a0=64 then (some true) else (if a0=44 then (some true) else (if a0=46 then (some true) else (if a0=59 then (some true) else (some (a0==42)))))))) else (if a0=35 then (some true) else (if a0=64 then (some true) else (if a0=44 then (some true) else (if a0=46 then (some true) else (if a0=59 then (some true) else (some (a0==42))))))))=some r:=h;clear h;by_cases c2:a0 ≥ 48
 ·rw[if_pos c2] at H
  have c2b0:decide (48≤a0)=true:=decide_eq_true c2;clear c2;by_cases c3:a0≤57
  ·rw[if_pos c3] at H
   have c3b0:decide (a0≤57)=true:=decide_eq_true c3;clear c3;obtain rfl:=Option.some.inj H;go_enter Tryz.func114,Tryz.ntmps114
   go_wp2
   go_ret
   exact⟨by first|rfl|(simp;done)|(simp[*];done)|(simp[*,Fig.bne_nil];done),by repeat (first|exact zL.refl _|apply zL.step)⟩
  rw[if_neg c3] at H;have c3b0:decide (a0≤57)=false:=decide_eq_false c3;clear c3;by_cases c4:a0=35
  ·rw[if_pos c4] at H
   have c4b0:(a0==35)=true:=beq_iff_eq.mpr c4;have c4b1:(a0 !=35)=false:=bne_eq_false_iff_eq.mpr c4;clear c4;obtain rfl:=Option.some.inj H;go_enter Tryz.func114,Tryz.ntmps114
   go_wp2
   go_ret
   exact⟨by first|rfl|(simp;done)|(simp[*];done)|(simp[*,Fig.bne_nil];done),by repeat (first|exact zL.refl _|apply zL.step)⟩
  rw[if_neg c4] at H;have c4b0:(a0==35)=false:=beq_eq_false_iff_ne.mpr c4;have c4b1:(a0 !=35)=true:=bne_iff_ne.mpr c4;by_cases c5:a0=64
  ·rw[if_pos c5] at H
   have c5b0:(a0==64)=true:=beq_iff_eq.mpr c5;have c5b1:(a0 !=64)=false:=bne_eq_false_iff_eq.mpr c5;clear c5;obtain rfl:=Option.some.inj H;go_enter Tryz.func114,Tryz.ntmps114
   go_wp2
   go_ret
   exact⟨by first|rfl|(simp;done)|(simp[*];done)|(simp[*,Fig.bne_nil];done),by repeat (first|exact zL.refl _|apply zL.step)⟩
  rw[if_neg c5] at H;have c5b0:(a0==64)=false:=beq_eq_false_iff_ne.mpr c5;have c5b1:(a0 !=64)=true:=bne_iff_ne.mpr c5;by_cases c6:a0=44
  ·rw[if_pos c6] at H
   have c6b0:(a0==44)=true:=beq_iff_eq.mpr c6;have c6b1:(a0 !=44)=false:=bne_eq_false_iff_eq.mpr c6;clear c6;obtain rfl:=Option.some.inj H;go_enter Tryz.func114,Tryz.ntmps114
   go_wp2
   go_ret
   exact⟨by first|rfl|(simp;done)|(simp[*];done)|(simp[*,Fig.bne_nil];done),by repeat (first|exact zL.refl _|apply zL.step)⟩
  rw[if_neg c6] at H;have c6b0:(a0==44)=false:=beq_eq_false_iff_ne.mpr c6;have c6b1:(a0 !=44)=true:=bne_iff_ne.mpr c6;by_cases c7:a0=46
  ·rw[if_pos c7] at H
   have c7b0:(a0==46)=true:=beq_iff_eq.mpr c7;have c7b1:(a0 !=46)=false:=bne_eq_false_iff_eq.mpr c7;clear c7;obtain rfl:=Option.some.inj H;go_enter Tryz.func114,Tryz.ntmps114
   go_wp2
   go_ret
   exact⟨by first|rfl|(simp;done)|(simp[*];done)|(simp[*,Fig.bne_nil];done),by repeat (first|exact zL.refl _|apply zL.step)⟩
  rw[if_neg c7] at H;have c7b0:(a0==46)=false:=beq_eq_false_iff_ne.mpr c7;have c7b1:(a0 !=46)=true:=bne_iff_ne.mpr c7;by_cases c8:a0=59
  ·rw[if_pos c8] at H
   have c8b0:(a0==59)=true:=beq_iff_eq.mpr c8;have c8b1:(a0 !=59)=false:=bne_eq_false_iff_eq.mpr c8;clear c8;obtain rfl:=Option.some.inj H;go_enter Tryz.func114,Tryz.ntmps114
   go_wp2
   go_ret
   exact⟨by first|rfl|(simp;done)|(simp[*];done)|(simp[*,Fig.bne_nil];done),by repeat (first|exact zL.refl _|apply zL.step)⟩
  rw[if_neg c8] at H;have c8b0:(a0==59)=false:=beq_eq_false_iff_ne.mpr c8;have c8b1:(a0 !=59)=true:=bne_iff_ne.mpr c8;obtain rfl:=Option.some.inj H;go_enter Tryz.func114,Tryz.ntmps114
  go_wp2
  go_ret
  exact⟨by first|rfl|(simp;done)|(simp[*];done)|(simp[*,Fig.bne_nil];done),by repeat (first|exact zL.refl _|apply zL.step)⟩
 rw[if_neg c2] at H;have c2b0:decide (48≤a0)=false:=decide_eq_false c2;clear c2;by_cases c9:a0=35
 ·rw[if_pos c9] at H
  have c9b0:(a0==35)=true:=beq_iff_eq.mpr c9;have c9b1:(a0 !=35)=false:=bne_eq_false_iff_eq.mpr c9;clear c9;obtain rfl:=Option.some.inj H;go_enter Tryz.func114,Tryz.ntmps114
  go_wp2
  go_ret
  exact⟨by first|rfl|(simp;done)|(simp[*];done)|(simp[*,Fig.bne_nil];done),by repeat (first|exact zL.refl _|apply zL.step)⟩
 rw[if_neg c9] at H;have c9b0:(a0==35)=false:=beq_eq_false_iff_ne.mpr c9;have c9b1:(a0 !=35)=true:=bne_iff_ne.mpr c9;by_cases c10:a0=64
 ·rw[if_pos c10] at H
  have c10b0:(a0==64)=true:=beq_iff_eq.mpr c10;have c10b1:(a0 !=64)=false:=bne_eq_false_iff_eq.mpr c10;clear c10;obtain rfl:=Option.some.inj H;go_enter Tryz.func114,Tryz.ntmps114
  go_wp2
  go_ret
  exact⟨by first|rfl|(simp;done)|(simp[*];done)|(simp[*,Fig.bne_nil];done),by repeat (first|exact zL.refl _|apply zL.step)⟩
 rw[if_neg c10] at H;have c10b0:(a0==64)=false:=beq_eq_false_iff_ne.mpr c10;have c10b1:(a0 !=64)=true:=bne_iff_ne.mpr c10;by_cases c11:a0=44
 ·rw[if_pos c11] at H
  have c11b0:(a0==44)=true:=beq_iff_eq.mpr c11;have c11b1:(a0 !=44)=false:=bne_eq_false_iff_eq.mpr c11;clear c11;obtain rfl:=Option.some.inj H;go_enter Tryz.func114,Tryz.ntmps114
  go_wp2
  go_ret
  exact⟨by first|rfl|(simp;done)|(simp[*];done)|(simp[*,Fig.bne_nil];done),by repeat (first|exact zL.refl _|apply zL.step)⟩
 rw[if_neg c11] at H;have c11b0:(a0==44)=false:=beq_eq_false_iff_ne.mpr c11;have c11b1:(a0 !=44)=true:=bne_iff_ne.mpr c11;by_cases c12:a0=46
 ·rw[if_pos c12] at H
  have c12b0:(a0==46)=true:=beq_iff_eq.mpr c12;have c12b1:(a0 !=46)=false:=bne_eq_false_iff_eq.mpr c12;clear c12;obtain rfl:=Option.some.inj H;go_enter Tryz.func114,Tryz.ntmps114
  go_wp2
  go_ret
  exact⟨by first|rfl|(simp;done)|(simp[*];done)|(simp[*,Fig.bne_nil];done),by repeat (first|exact zL.refl _|apply zL.step)⟩
 rw[if_neg c12] at H;have c12b0:(a0==46)=false:=beq_eq_false_iff_ne.mpr c12;have c12b1:(a0 !=46)=true:=bne_iff_ne.mpr c12;by_cases c13:a0=59
 ·rw[if_pos c13] at H
  have c13b0:(a0==59)=true:=beq_iff_eq.mpr c13;have c13b1:(a0 !=59)=false:=bne_eq_false_iff_eq.mpr c13;clear c13;obtain rfl:=Option.some.inj H;go_enter Tryz.func114,Tryz.ntmps114
  go_wp2
  go_ret
  exact⟨by first|rfl|(simp;done)|(simp[*];done)|(simp[*,Fig.bne_nil];done),by repeat (first|exact zL.refl _|apply zL.step)⟩
 rw[if_neg c13] at H;have c13b0:(a0==59)=false:=beq_eq_false_iff_ne.mpr c13;have c13b1:(a0 !=59)=true:=bne_iff_ne.mpr c13;obtain rfl:=Option.some.inj H;go_enter Tryz.func114,Tryz.ntmps114
 go_wp2
 go_ret
 exact⟨by first|rfl|(simp;done)|(simp[*];done)|(simp[*,Fig.bne_nil];done),by repeat (first|exact zL.refl _|apply zL.step)⟩
def qC.f (a0:Int):Option (Int):=if a0=45 then (some 2) else (if a0=43 then (some 3) else (if a0=37 then (some 4) else (if a0=8240 then (some 5) else (if a0=164 then (some 6) else (some 0)))))
set_option maxHeartbeats 8000000 in
set_option maxRecDepth 100000 in
theorem qC.calls (a0:Int) (r:Int) (w:World) (h:qC.f a0=some r) :
  Calls Tryz.prog 115 #[.int .i32 a0] w fun e w'=>e=.returned (.int .i64 r)∧zL w w':=by
 have H:(if a0=45 then (some 2) else (if a0=43 then (some 3) else (if a0=37 then (some 4) else (if a0=8240 then (some 5) else (if a0=164 then (some 6) else (some 0))))))=some r:=h;clear h;by_cases c2:a0=45
 ·rw[if_pos c2] at H
  have c2b0:(a0==45)=true:=beq_iff_eq.mpr c2;have c2b1:(a0 !=45)=false:=bne_eq_false_iff_eq.mpr c2;clear c2;obtain rfl:=Option.some.inj H;go_enter Tryz.func115,Tryz.ntmps115
  go_wp2
  go_ret
  exact⟨by first|rfl|(simp;done)|(simp[*];done)|(simp[*,Fig.bne_nil];done),by repeat (first|exact zL.refl _|apply zL.step)⟩
 rw[if_neg c2] at H;have c2b0:(a0==45)=false:=beq_eq_false_iff_ne.mpr c2;have c2b1:(a0 !=45)=true:=bne_iff_ne.mpr c2;by_cases c3:a0=43
 ·rw[if_pos c3] at H
  have c3b0:(a0==43)=true:=beq_iff_eq.mpr c3;have c3b1:(a0 !=43)=false:=bne_eq_false_iff_eq.mpr c3;clear c3;obtain rfl:=Option.some.inj H;go_enter Tryz.func115,Tryz.ntmps115
  go_wp2
  go_ret
  exact⟨by first|rfl|(simp;done)|(simp[*];done)|(simp[*,Fig.bne_nil];done),by repeat (first|exact zL.refl _|apply zL.step)⟩
 rw[if_neg c3] at H;have c3b0:(a0==43)=false:=beq_eq_false_iff_ne.mpr c3;have c3b1:(a0 !=43)=true:=bne_iff_ne.mpr c3;by_cases c4:a0=37
 ·rw[if_pos c4] at H
  have c4b0:(a0==37)=true:=beq_iff_eq.mpr c4;have c4b1:(a0 !=37)=false:=bne_eq_false_iff_eq.mpr c4;clear c4;obtain rfl:=Option.some.inj H;go_enter Tryz.func115,Tryz.ntmps115
  go_wp2
  go_ret
  exact⟨by first|rfl|(simp;done)|(simp[*];done)|(simp[*,Fig.bne_nil];done),by repeat (first|exact zL.refl _|apply zL.step)⟩
 rw[if_neg c4] at H;have c4b0:(a0==37)=false:=beq_eq_false_iff_ne.mpr c4;have c4b1:(a0 !=37)=true:=bne_iff_ne.mpr c4;by_cases c5:a0=8240
 ·rw[if_pos c5] at H
  have c5b0:(a0==8240)=true:=beq_iff_eq.mpr c5;have c5b1:(a0 !=8240)=false:=bne_eq_false_iff_eq.mpr c5;clear c5;obtain rfl:=Option.some.inj H;go_enter Tryz.func115,Tryz.ntmps115
  go_wp2
  go_ret
  exact⟨by first|rfl|(simp;done)|(simp[*];done)|(simp[*,Fig.bne_nil];done),by repeat (first|exact zL.refl _|apply zL.step)⟩
 rw[if_neg c5] at H;have c5b0:(a0==8240)=false:=beq_eq_false_iff_ne.mpr c5;have c5b1:(a0 !=8240)=true:=bne_iff_ne.mpr c5;by_cases c6:a0=164
 ·rw[if_pos c6] at H
  have c6b0:(a0==164)=true:=beq_iff_eq.mpr c6;have c6b1:(a0 !=164)=false:=bne_eq_false_iff_eq.mpr c6;clear c6;obtain rfl:=Option.some.inj H;go_enter Tryz.func115,Tryz.ntmps115
  go_wp2
  go_ret
  exact⟨by first|rfl|(simp;done)|(simp[*];done)|(simp[*,Fig.bne_nil];done),by repeat (first|exact zL.refl _|apply zL.step)⟩
 rw[if_neg c6] at H;have c6b0:(a0==164)=false:=beq_eq_false_iff_ne.mpr c6;have c6b1:(a0 !=164)=true:=bne_iff_ne.mpr c6;obtain rfl:=Option.some.inj H;go_enter Tryz.func115,Tryz.ntmps115
 go_wp2
 go_ret
 exact⟨by first|rfl|(simp;done)|(simp[*];done)|(simp[*,Fig.bne_nil];done),by repeat (first|exact zL.refl _|apply zL.step)⟩
def vD.f (a0:Int):Option (List Int):=if (wrap64 (a0))<128 then (some (([(wrap64 (a0)) % 256]:List Int))) else (if (wrap64 (a0))<2048 then (some (([(wrap64 (192+(wrap64 (Int.tdiv (wrap64 (a0)) 64)))) % 256,(wrap64 (128+(Int.tmod (wrap64 (a0)) 64))) % 256]:List Int))) else (if (wrap64 (a0))<65536 then (some (([(wrap64 (224+(wrap64 (Int.tdiv (wrap64 (a0)) 4096)))) % 256,(wrap64 (128+(Int.tmod (wrap64 (Int.tdiv (wrap64 (a0)) 64)) 64))) % 256,(wrap64 (128+(Int.tmod (wrap64 (a0)) 64))) % 256]:List Int))) else (some (([(wrap64 (240+(wrap64 (Int.tdiv (wrap64 (a0)) 262144)))) % 256,(wrap64 (128+(Int.tmod (wrap64 (Int.tdiv (wrap64 (a0)) 4096)) 64))) % 256,(wrap64 (128+(Int.tmod (wrap64 (Int.tdiv (wrap64 (a0)) 64)) 64))) % 256,(wrap64 (128+(Int.tmod (wrap64 (a0)) 64))) % 256]:List Int)))))
set_option maxHeartbeats 8000000 in
set_option maxRecDepth 100000 in
theorem vD.calls (a0:Int) (r:List Int) (w:World) (h:vD.f a0=some r) :
  Calls Tryz.prog 88 #[.int .i32 a0] w fun e w'=>∃ v0_:Value,e=.returned (v0_)∧Kd.R (Kd.int .u8) 5 w' w.heap.size (fun _=>True) v0_ r∧Below w.heap.size w w':=by
 have HB:=K_ (Below.refl w.heap.size w);have H:(if (wrap64 (a0))<128 then (some (([(wrap64 (a0)) % 256]:List Int))) else (if (wrap64 (a0))<2048 then (some (([(wrap64 (192+(wrap64 (Int.tdiv (wrap64 (a0)) 64)))) % 256,(wrap64 (128+(Int.tmod (wrap64 (a0)) 64))) % 256]:List Int))) else (if (wrap64 (a0))<65536 then (some (([(wrap64 (224+(wrap64 (Int.tdiv (wrap64 (a0)) 4096)))) % 256,(wrap64 (128+(Int.tmod (wrap64 (Int.tdiv (wrap64 (a0)) 64)) 64))) % 256,(wrap64 (128+(Int.tmod (wrap64 (a0)) 64))) % 256]:List Int))) else (some (([(wrap64 (240+(wrap64 (Int.tdiv (wrap64 (a0)) 262144)))) % 256,(wrap64 (128+(Int.tmod (wrap64 (Int.tdiv (wrap64 (a0)) 4096)) 64))) % 256,(wrap64 (128+(Int.tmod (wrap64 (Int.tdiv (wrap64 (a0)) 64)) 64))) % 256,(wrap64 (128+(Int.tmod (wrap64 (a0)) 64))) % 256]:List Int))))))=some r:=h;clear h;by_cases c2:(wrap64 (a0))<128
 ·rw[if_pos c2] at H
  have c2b0:decide ((wrap64 (a0))<128)=true:=decide_eq_true c2;clear c2;obtain⟨y107,hy107⟩:∃ y_:List Int,y_=(([(wrap64 (a0)) % 256]:List Int)):=⟨_,rfl⟩
  replace H:(some y107)=some r:=by first|(rw[hy107];with_reducible exact H)|(have H2_:=(Option.bind_some _ _).symm.trans H;rw[hy107];with_reducible exact H2_)|(have H2_:=(Option.bind_some _ _).symm.trans H;with_reducible exact H2_)|with_reducible exact H|(rw[hy107];exact H)|exact H
  have Ny107:=K_ hy107;clear hy107;obtain rfl:=Option.some.inj H;go_enter Tryz.func88,Tryz.ntmps88
  go_wp2_with (first|((with_reducible refine zE (N:=11) rfl ?_);refine Kd.R_lit (Kd.int .u8) _ 5 ?hg (N:=11) ?hd (xs:=([(wrap64 (a0)) % 256]:List Int)) (inner:=[.int .u8 ((wrap64 (a0)) % 256)]) (ok:=fun _=>True) (okp:=fun _=>True) ?hr ?hp (fun _ hk=>hk) trivial (Below.refl _ _) (Nat.le_refl _) (by simp) ?_;(case hd=>rfl);(case hg=>rfl);(case hr=>first|(go_simp;done)|(go_simp;rfl));(case hp=>exact (jN.one (show Kd.M (Kd.int .u8) _ _ _ ((wrap64 (a0)) % 256) [.int .u8 ((wrap64 (a0)) % 256)] from rfl) (jN.none _ _)));intro v108 w3 ho4 hb hg_ hnew_;clear hg_ hnew_;(first|rw[←Ny107.out] at ho4|(simp only[Int.reduceToNat] at ho4;rw[←Ny107.out] at ho4));have HO109:=K_ (Kd.R_lower ho4 (zQ (BL HB)));replace HB:=zF HB hb;clear hb ho4))
  go_ret
  exact⟨_,ER,by (with_reducible repeat (first|apply Kd.R_alloc|apply Kd.R_drewN|apply Kd.R_drew));exact HO109.out,BL HB⟩
 rw[if_neg c2] at H;have c2b0:decide ((wrap64 (a0))<128)=false:=decide_eq_false c2;clear c2;by_cases c5:(wrap64 (a0))<2048
 ·rw[if_pos c5] at H
  have c5b0:decide ((wrap64 (a0))<2048)=true:=decide_eq_true c5;clear c5;obtain⟨y110,hy110⟩:∃ y_:List Int,y_=(([(wrap64 (192+(wrap64 (Int.tdiv (wrap64 (a0)) 64)))) % 256,(wrap64 (128+(Int.tmod (wrap64 (a0)) 64))) % 256]:List Int)):=⟨_,rfl⟩
  replace H:(some y110)=some r:=by first|(rw[hy110];with_reducible exact H)|(have H2_:=(Option.bind_some _ _).symm.trans H;rw[hy110];with_reducible exact H2_)|(have H2_:=(Option.bind_some _ _).symm.trans H;with_reducible exact H2_)|with_reducible exact H|(rw[hy110];exact H)|exact H
  have Ny110:=K_ hy110;clear hy110;obtain rfl:=Option.some.inj H;go_enter Tryz.func88,Tryz.ntmps88
  go_wp2_with (first|((with_reducible refine zE (N:=23) rfl ?_);refine Kd.R_lit (Kd.int .u8) _ 5 ?hg (N:=23) ?hd (xs:=([(wrap64 (192+(wrap64 (Int.tdiv (wrap64 (a0)) 64)))) % 256,(wrap64 (128+(Int.tmod (wrap64 (a0)) 64))) % 256]:List Int)) (inner:=[.int .u8 ((wrap64 (192+(wrap64 (Int.tdiv (wrap64 (a0)) 64)))) % 256),.int .u8 ((wrap64 (128+(Int.tmod (wrap64 (a0)) 64))) % 256)]) (ok:=fun _=>True) (okp:=fun _=>True) ?hr ?hp (fun _ hk=>hk) trivial (Below.refl _ _) (Nat.le_refl _) (by simp) ?_;(case hd=>rfl);(case hg=>rfl);(case hr=>first|(go_simp;done)|(go_simp;rfl));(case hp=>exact (jN.one (show Kd.M (Kd.int .u8) _ _ _ ((wrap64 (192+(wrap64 (Int.tdiv (wrap64 (a0)) 64)))) % 256) [.int .u8 ((wrap64 (192+(wrap64 (Int.tdiv (wrap64 (a0)) 64)))) % 256)] from rfl) (jN.one (show Kd.M (Kd.int .u8) _ _ _ ((wrap64 (128+(Int.tmod (wrap64 (a0)) 64))) % 256) [.int .u8 ((wrap64 (128+(Int.tmod (wrap64 (a0)) 64))) % 256)] from rfl) (jN.none _ _))));intro v111 w6 ho7 hb hg_ hnew_;clear hg_ hnew_;(first|rw[←Ny110.out] at ho7|(simp only[Int.reduceToNat] at ho7;rw[←Ny110.out] at ho7));have HO112:=K_ (Kd.R_lower ho7 (zQ (BL HB)));replace HB:=zF HB hb;clear hb ho7))
  go_ret
  exact⟨_,ER,by (with_reducible repeat (first|apply Kd.R_alloc|apply Kd.R_drewN|apply Kd.R_drew));exact HO112.out,BL HB⟩
 rw[if_neg c5] at H;have c5b0:decide ((wrap64 (a0))<2048)=false:=decide_eq_false c5;clear c5;by_cases c8:(wrap64 (a0))<65536
 ·rw[if_pos c8] at H
  have c8b0:decide ((wrap64 (a0))<65536)=true:=decide_eq_true c8;clear c8;obtain⟨y113,hy113⟩:∃ y_:List Int,y_=(([(wrap64 (224+(wrap64 (Int.tdiv (wrap64 (a0)) 4096)))) % 256,(wrap64 (128+(Int.tmod (wrap64 (Int.tdiv (wrap64 (a0)) 64)) 64))) % 256,(wrap64 (128+(Int.tmod (wrap64 (a0)) 64))) % 256]:List Int)):=⟨_,rfl⟩
  replace H:(some y113)=some r:=by first|(rw[hy113];with_reducible exact H)|(have H2_:=(Option.bind_some _ _).symm.trans H;rw[hy113];with_reducible exact H2_)|(have H2_:=(Option.bind_some _ _).symm.trans H;with_reducible exact H2_)|with_reducible exact H|(rw[hy113];exact H)|exact H
  have Ny113:=K_ hy113;clear hy113;obtain rfl:=Option.some.inj H;go_enter Tryz.func88,Tryz.ntmps88
  go_wp2_with (first|((with_reducible refine zE (N:=40) rfl ?_);refine Kd.R_lit (Kd.int .u8) _ 5 ?hg (N:=40) ?hd (xs:=([(wrap64 (224+(wrap64 (Int.tdiv (wrap64 (a0)) 4096)))) % 256,(wrap64 (128+(Int.tmod (wrap64 (Int.tdiv (wrap64 (a0)) 64)) 64))) % 256,(wrap64 (128+(Int.tmod (wrap64 (a0)) 64))) % 256]:List Int)) (inner:=[.int .u8 ((wrap64 (224+(wrap64 (Int.tdiv (wrap64 (a0)) 4096)))) % 256),.int .u8 ((wrap64 (128+(Int.tmod (wrap64 (Int.tdiv (wrap64 (a0)) 64)) 64))) % 256),.int .u8 ((wrap64 (128+(Int.tmod (wrap64 (a0)) 64))) % 256)]) (ok:=fun _=>True) (okp:=fun _=>True) ?hr ?hp (fun _ hk=>hk) trivial (Below.refl _ _) (Nat.le_refl _) (by simp) ?_;(case hd=>rfl);(case hg=>rfl);(case hr=>first|(go_simp;done)|(go_simp;rfl));(case hp=>exact (jN.one (show Kd.M (Kd.int .u8) _ _ _ ((wrap64 (224+(wrap64 (Int.tdiv (wrap64 (a0)) 4096)))) % 256) [.int .u8 ((wrap64 (224+(wrap64 (Int.tdiv (wrap64 (a0)) 4096)))) % 256)] from rfl) (jN.one (show Kd.M (Kd.int .u8) _ _ _ ((wrap64 (128+(Int.tmod (wrap64 (Int.tdiv (wrap64 (a0)) 64)) 64))) % 256) [.int .u8 ((wrap64 (128+(Int.tmod (wrap64 (Int.tdiv (wrap64 (a0)) 64)) 64))) % 256)] from rfl) (jN.one (show Kd.M (Kd.int .u8) _ _ _ ((wrap64 (128+(Int.tmod (wrap64 (a0)) 64))) % 256) [.int .u8 ((wrap64 (128+(Int.tmod (wrap64 (a0)) 64))) % 256)] from rfl) (jN.none _ _)))));intro v114 w9 ho10 hb hg_ hnew_;clear hg_ hnew_;(first|rw[←Ny113.out] at ho10|(simp only[Int.reduceToNat] at ho10;rw[←Ny113.out] at ho10));have HO115:=K_ (Kd.R_lower ho10 (zQ (BL HB)));replace HB:=zF HB hb;clear hb ho10))
  go_ret
  exact⟨_,ER,by (with_reducible repeat (first|apply Kd.R_alloc|apply Kd.R_drewN|apply Kd.R_drew));exact HO115.out,BL HB⟩
 rw[if_neg c8] at H;have c8b0:decide ((wrap64 (a0))<65536)=false:=decide_eq_false c8;clear c8;obtain⟨y116,hy116⟩:∃ y_:List Int,y_=(([(wrap64 (240+(wrap64 (Int.tdiv (wrap64 (a0)) 262144)))) % 256,(wrap64 (128+(Int.tmod (wrap64 (Int.tdiv (wrap64 (a0)) 4096)) 64))) % 256,(wrap64 (128+(Int.tmod (wrap64 (Int.tdiv (wrap64 (a0)) 64)) 64))) % 256,(wrap64 (128+(Int.tmod (wrap64 (a0)) 64))) % 256]:List Int)):=⟨_,rfl⟩
 replace H:(some y116)=some r:=by first|(rw[hy116];with_reducible exact H)|(have H2_:=(Option.bind_some _ _).symm.trans H;rw[hy116];with_reducible exact H2_)|(have H2_:=(Option.bind_some _ _).symm.trans H;with_reducible exact H2_)|with_reducible exact H|(rw[hy116];exact H)|exact H
 have Ny116:=K_ hy116;clear hy116;obtain rfl:=Option.some.inj H;go_enter Tryz.func88,Tryz.ntmps88
 go_wp2_with (first|((with_reducible refine zE (N:=59) rfl ?_);refine Kd.R_lit (Kd.int .u8) _ 5 ?hg (N:=59) ?hd (xs:=([(wrap64 (240+(wrap64 (Int.tdiv (wrap64 (a0)) 262144)))) % 256,(wrap64 (128+(Int.tmod (wrap64 (Int.tdiv (wrap64 (a0)) 4096)) 64))) % 256,(wrap64 (128+(Int.tmod (wrap64 (Int.tdiv (wrap64 (a0)) 64)) 64))) % 256,(wrap64 (128+(Int.tmod (wrap64 (a0)) 64))) % 256]:List Int)) (inner:=[.int .u8 ((wrap64 (240+(wrap64 (Int.tdiv (wrap64 (a0)) 262144)))) % 256),.int .u8 ((wrap64 (128+(Int.tmod (wrap64 (Int.tdiv (wrap64 (a0)) 4096)) 64))) % 256),.int .u8 ((wrap64 (128+(Int.tmod (wrap64 (Int.tdiv (wrap64 (a0)) 64)) 64))) % 256),.int .u8 ((wrap64 (128+(Int.tmod (wrap64 (a0)) 64))) % 256)]) (ok:=fun _=>True) (okp:=fun _=>True) ?hr ?hp (fun _ hk=>hk) trivial (Below.refl _ _) (Nat.le_refl _) (by simp) ?_;(case hd=>rfl);(case hg=>rfl);(case hr=>first|(go_simp;done)|(go_simp;rfl));(case hp=>exact (jN.one (show Kd.M (Kd.int .u8) _ _ _ ((wrap64 (240+(wrap64 (Int.tdiv (wrap64 (a0)) 262144)))) % 256) [.int .u8 ((wrap64 (240+(wrap64 (Int.tdiv (wrap64 (a0)) 262144)))) % 256)] from rfl) (jN.one (show Kd.M (Kd.int .u8) _ _ _ ((wrap64 (128+(Int.tmod (wrap64 (Int.tdiv (wrap64 (a0)) 4096)) 64))) % 256) [.int .u8 ((wrap64 (128+(Int.tmod (wrap64 (Int.tdiv (wrap64 (a0)) 4096)) 64))) % 256)] from rfl) (jN.one (show Kd.M (Kd.int .u8) _ _ _ ((wrap64 (128+(Int.tmod (wrap64 (Int.tdiv (wrap64 (a0)) 64)) 64))) % 256) [.int .u8 ((wrap64 (128+(Int.tmod (wrap64 (Int.tdiv (wrap64 (a0)) 64)) 64))) % 256)] from rfl) (jN.one (show Kd.M (Kd.int .u8) _ _ _ ((wrap64 (128+(Int.tmod (wrap64 (a0)) 64))) % 256) [.int .u8 ((wrap64 (128+(Int.tmod (wrap64 (a0)) 64))) % 256)] from rfl) (jN.none _ _))))));intro v117 w11 ho12 hb hg_ hnew_;clear hg_ hnew_;(first|rw[←Ny116.out] at ho12|(simp only[Int.reduceToNat] at ho12;rw[←Ny116.out] at ho12));have HO118:=K_ (Kd.R_lower ho12 (zQ (BL HB)));replace HB:=zF HB hb;clear hb ho12))
 go_ret
 exact⟨_,ER,by (with_reducible repeat (first|apply Kd.R_alloc|apply Kd.R_drewN|apply Kd.R_drew));exact HO118.out,BL HB⟩
def uB.f (a0:Int):Option (Bool):=if a0 ≥ 0 then (if a0≤1114111 then (if a0<55296 then (some true) else (some (decide (a0>57343)))) else (some false)) else (some false)
set_option maxHeartbeats 8000000 in
set_option maxRecDepth 100000 in
theorem uB.calls (a0:Int) (r:Bool) (w:World) (h:uB.f a0=some r) :
  Calls Tryz.prog 113 #[.int .i32 a0] w fun e w'=>e=.returned (.bool r)∧zL w w':=by
 have H:(if a0 ≥ 0 then (if a0≤1114111 then (if a0<55296 then (some true) else (some (decide (a0>57343)))) else (some false)) else (some false))=some r:=h;clear h;by_cases c2:a0 ≥ 0
 ·rw[if_pos c2] at H
  have c2b0:decide (0≤a0)=true:=decide_eq_true c2;clear c2;by_cases c3:a0≤1114111
  ·rw[if_pos c3] at H
   have c3b0:decide (a0≤1114111)=true:=decide_eq_true c3;clear c3;by_cases c4:a0<55296
   ·rw[if_pos c4] at H
    have c4b0:decide (a0<55296)=true:=decide_eq_true c4;clear c4;obtain rfl:=Option.some.inj H;go_enter Tryz.func113,Tryz.ntmps113
    go_wp2
    go_ret
    exact⟨by first|rfl|(simp;done)|(simp[*];done)|(simp[*,Fig.bne_nil];done),by repeat (first|exact zL.refl _|apply zL.step)⟩
   rw[if_neg c4] at H;have c4b0:decide (a0<55296)=false:=decide_eq_false c4;clear c4;obtain rfl:=Option.some.inj H;go_enter Tryz.func113,Tryz.ntmps113
   go_wp2
   go_ret
   exact⟨by first|rfl|(simp;done)|(simp[*];done)|(simp[*,Fig.bne_nil];done),by repeat (first|exact zL.refl _|apply zL.step)⟩
  rw[if_neg c3] at H;have c3b0:decide (a0≤1114111)=false:=decide_eq_false c3;clear c3;obtain rfl:=Option.some.inj H;go_enter Tryz.func113,Tryz.ntmps113
  go_wp2
  go_ret
  exact⟨by first|rfl|(simp;done)|(simp[*];done)|(simp[*,Fig.bne_nil];done),by repeat (first|exact zL.refl _|apply zL.step)⟩
 rw[if_neg c2] at H;have c2b0:decide (0≤a0)=false:=decide_eq_false c2;clear c2;obtain rfl:=Option.some.inj H;go_enter Tryz.func113,Tryz.ntmps113
 go_wp2
 go_ret
 exact⟨by first|rfl|(simp;done)|(simp[*];done)|(simp[*,Fig.bne_nil];done),by repeat (first|exact zL.refl _|apply zL.step)⟩
mutual
def zD.j2:Nat→ByteArray→Int→Int→Option (Int×Int)
 | 0,_,_,_=>none
 | k+1,x0,x4,x5=>if (x0.size:Int)<x5 then (some (0,0)) else (zD.l0 k x0 x4 x5 1)
def zD.l0:Nat→ByteArray→Int→Int→Int→Option (Int×Int)
 | 0,_,_,_,_=>none
 | k+1,x0,x4,x5,x6=>if x6<x5 then (if 0≤x6 then (if x6<(x0.size:Int) then (if (bt x0 x6)<128 then (some (0,0)) else (if (bt x0 x6)>191 then (some (0,0)) else (zD.l0 k x0 (wrap64 ((wrap64 ((wrap64 (x4 * 64))+(wrap64 (bt x0 x6))))-128)) x5 (wrap64 (x6+1))))) else (none)) else (none)) else ((uB.f (wrap32 (x4))).bind fun t119=>(if t119=true then ((vD.f (wrap32 (x4))).bind fun t120=>(if 0≤x5 then (if x5≤(x0.size:Int) then (if (strOfNums t120).toList=(x0.extract 0 (x5:Int).toNat).toList then (some (wrap32 (x4),x5)) else (some (0,0))) else (none)) else (none))) else (some (0,0))))
def zD.j0:Nat→ByteArray→Int→Bool→Option (Int×Int)
 | 0,_,_,_=>none
 | k+1,x0,x4,x15=>if x15=true then (zD.j2 k x0 (wrap64 (x4-192)) 2) else (if x4 ≥ 224 then (zD.j1 k x0 x4 (decide (x4<240))) else (zD.j1 k x0 x4 false))
def zD.j1:Nat→ByteArray→Int→Bool→Option (Int×Int)
 | 0,_,_,_=>none
 | k+1,x0,x4,x24=>if x24=true then (zD.j2 k x0 (wrap64 (x4-224)) 3) else (if x4 ≥ 240 then (if x4<248 then (zD.j2 k x0 (wrap64 (x4-240)) 4) else (some (0,0))) else (some (0,0)))
end
def zD.f (k:Nat) (a0:ByteArray):Option (Int×Int):=if a0.toList=([]:List UInt8) then (some (0,0)) else (if 0<(a0.size:Int) then (if (wrap64 (bt a0 0))<128 then (zD.j2 k a0 (wrap64 (bt a0 0)) 1) else (if (wrap64 (bt a0 0)) ≥ 192 then (zD.j0 k a0 (wrap64 (bt a0 0)) (decide ((wrap64 (bt a0 0))<224))) else (zD.j0 k a0 (wrap64 (bt a0 0)) false))) else (none))
theorem zD.mono_l:∀ k,(∀ y0 y1 y2,LeO (zD.j2 k y0 y1 y2) (zD.j2 (k+1) y0 y1 y2))∧(∀ y0 y1 y2 y3,LeO (zD.l0 k y0 y1 y2 y3) (zD.l0 (k+1) y0 y1 y2 y3))∧(∀ y0 y1 y2,LeO (zD.j0 k y0 y1 y2) (zD.j0 (k+1) y0 y1 y2))∧(∀ y0 y1 y2,LeO (zD.j1 k y0 y1 y2) (zD.j1 (k+1) y0 y1 y2))
 | 0=>⟨fun _ _ _ r h=>by simp[zD.j2] at h,fun _ _ _ _ r h=>by simp[zD.l0] at h,fun _ _ _ r h=>by simp[zD.j0] at h,fun _ _ _ r h=>by simp[zD.j1] at h⟩
 | k+1=>by
  obtain⟨ih0,ih1,ih2,ih3⟩:=zD.mono_l k;refine⟨?_,?_,?_,?_⟩
  ·intro y0 y1 y2
   unfold zD.j2
   repeat' first
   | (with_reducible exact ih0 _ _ _)
   | (with_reducible exact ih1 _ _ _ _)
   | (with_reducible exact ih2 _ _ _)
   | (with_reducible exact ih3 _ _ _)
   | (with_reducible exact LeO.refl _)
   | (with_reducible exact LeO.none _)
   | (with_reducible refine LeO.ite ?_ ?_)
   | (with_reducible refine LeO.bind ?_ (fun _=>?_))
   | exact ih0 _ _ _
   | exact ih1 _ _ _ _
   | exact ih2 _ _ _
   | exact ih3 _ _ _
   | exact LeO.none _
   | refine LeO.ite ?_ ?_
   | refine LeO.bind ?_ (fun _=>?_)
  ·intro y0 y1 y2 y3
   unfold zD.l0
   repeat' first
   | (with_reducible exact ih0 _ _ _)
   | (with_reducible exact ih1 _ _ _ _)
   | (with_reducible exact ih2 _ _ _)
   | (with_reducible exact ih3 _ _ _)
   | (with_reducible exact LeO.refl _)
   | (with_reducible exact LeO.none _)
   | (with_reducible refine LeO.ite ?_ ?_)
   | (with_reducible refine LeO.bind ?_ (fun _=>?_))
   | exact ih0 _ _ _
   | exact ih1 _ _ _ _
   | exact ih2 _ _ _
   | exact ih3 _ _ _
   | exact LeO.none _
   | refine LeO.ite ?_ ?_
   | refine LeO.bind ?_ (fun _=>?_)
  ·intro y0 y1 y2
   unfold zD.j0
   repeat' first
   | (with_reducible exact ih0 _ _ _)
   | (with_reducible exact ih1 _ _ _ _)
   | (with_reducible exact ih2 _ _ _)
   | (with_reducible exact ih3 _ _ _)
   | (with_reducible exact LeO.refl _)
   | (with_reducible exact LeO.none _)
   | (with_reducible refine LeO.ite ?_ ?_)
   | (with_reducible refine LeO.bind ?_ (fun _=>?_))
   | exact ih0 _ _ _
   | exact ih1 _ _ _ _
   | exact ih2 _ _ _
   | exact ih3 _ _ _
   | exact LeO.none _
   | refine LeO.ite ?_ ?_
   | refine LeO.bind ?_ (fun _=>?_)
  intro y0 y1 y2;unfold zD.j1
  repeat' first
  | (with_reducible exact ih0 _ _ _)
  | (with_reducible exact ih1 _ _ _ _)
  | (with_reducible exact ih2 _ _ _)
  | (with_reducible exact ih3 _ _ _)
  | (with_reducible exact LeO.refl _)
  | (with_reducible exact LeO.none _)
  | (with_reducible refine LeO.ite ?_ ?_)
  | (with_reducible refine LeO.bind ?_ (fun _=>?_))
  | exact ih0 _ _ _
  | exact ih1 _ _ _ _
  | exact ih2 _ _ _
  | exact ih3 _ _ _
  | exact LeO.none _
  | refine LeO.ite ?_ ?_
  | refine LeO.bind ?_ (fun _=>?_)
theorem zD.mono:∀ a0 k,LeO (zD.f k a0) (zD.f (k+1) a0):=by
 intro a0 k;obtain⟨ih0,ih1,ih2,ih3⟩:=zD.mono_l k;unfold zD.f;repeat' first
   | (with_reducible exact ih0 _ _ _)
   | (with_reducible exact ih1 _ _ _ _)
   | (with_reducible exact ih2 _ _ _)
   | (with_reducible exact ih3 _ _ _)
   | (with_reducible exact LeO.refl _)
   | (with_reducible exact LeO.none _)
   | (with_reducible refine LeO.ite ?_ ?_)
   | (with_reducible refine LeO.bind ?_ (fun _=>?_))
   | exact ih0 _ _ _
   | exact ih1 _ _ _ _
   | exact ih2 _ _ _
   | exact ih3 _ _ _
   | exact LeO.none _
   | refine LeO.ite ?_ ?_
   | refine LeO.bind ?_ (fun _=>?_)
def zD.T20:Bool×List (List Nat×List Nat):=(true,[([],[]),([0],[0]),([1],[1]),([2],[2]),([3,2],[3]),([4],[4]),([5,4],[4,5]),([6,4,4],[4,6]),([7,4],[4,7]),([4],[4]),([4],[4]),([9,10,4],[4,9,10]),([8,11,4],[4,8,11]),([4,12],[4,12])])
def zD.B20:List Nat:=[0,1,3,7,15,31,63,127,255,31,31,1567,4095,8191]
theorem zD.tab20:zaC .any (zhj Tryz.f86 20)=zD.T20:=by kernel_rfl
theorem zD.bits20:zbU zD.T20.2 zD.B20=true:=by kernel_rfl
set_option maxHeartbeats 8000000 in
set_option maxRecDepth 100000 in
theorem zD.calls (k:Nat) (a0:ByteArray) (r1:Int) (r2:Int) (w:World) (h:zD.f k a0=some (r1,r2)) :
  Calls Tryz.prog 86 #[.string a0] w fun e w'=>e=.returned (.tuple #[.int .i32 r1,.int .i64 r2])∧Below w.heap.size w w':=by
 have HB:=K_ (Below.refl w.heap.size w);have H:(if a0.toList=([]:List UInt8) then (some (0,0)) else (if 0<(a0.size:Int) then (if (wrap64 (bt a0 0))<128 then (zD.j2 k a0 (wrap64 (bt a0 0)) 1) else (if (wrap64 (bt a0 0)) ≥ 192 then (zD.j0 k a0 (wrap64 (bt a0 0)) (decide ((wrap64 (bt a0 0))<224))) else (zD.j0 k a0 (wrap64 (bt a0 0)) false))) else (none)))=some (r1,r2):=h;clear h;by_cases c2:a0.toList=([]:List UInt8)
 ·rw[if_pos c2] at H
  have c2b0:(a0.toList==([]:List UInt8))=true:=beq_iff_eq.mpr c2;have c2b1:(a0.toList !=([]:List UInt8))=false:=bne_eq_false_iff_eq.mpr c2;clear c2;simp only[Option.some.injEq,Prod.mk.injEq] at H
  obtain⟨rfl,rfl⟩:=H;go_enter Tryz.func86,Tryz.ntmps86
  go_wp2
  go_ret2
  exact⟨ER,BL HB⟩
 rw[if_neg c2] at H;have c2b0:(a0.toList==([]:List UInt8))=false:=beq_eq_false_iff_ne.mpr c2;have c2b1:(a0.toList !=([]:List UInt8))=true:=bne_iff_ne.mpr c2;by_cases c3:0<(a0.size:Int)
 ·rw[if_pos c3] at H
  have c3b0:decide (0<(a0.size:Int))=true:=decide_eq_true c3;have c3b1:decide (0<a0.size)=true:=decide_eq_true (by omega);clear c3;have HC5:=K_ H;clear H;have p4:0≤(0:Int):=(by omega)
  have q4:0<a0.size:=(by have:(0:Int)<(a0.size:Int):=of_decide_eq_true (by first|(with_reducible assumption)|assumption);omega)
  have hx4:∀ h:0<a0.size,((a0[0]'h).toNat:Int)=bt a0 0:=zap a0 0
  clear p4;have qi4:(0<(a0.size:Int))=True:=eq_true (of_decide_eq_true (by first|(with_reducible assumption)|assumption));replace q4:=eq_true q4;go_enter Tryz.func86,Tryz.ntmps86
  go_upto_block 0 with (fail)
  go_cut [4,5] (fun v4 v5 wc=>∃ (kq:Nat) (x4_4:Int) (x5_4:Int),v4=.int .i64 x4_4∧v5=.int .i64 x5_4∧Aside0 (zD.j2 kq a0 x4_4 x5_4=some (r1,r2))∧Aside0 (kq≤k)∧Aside0 (Below w.heap.size w wc))
  case first =>
   have H:=HC5.out;clear HC5;by_cases c6:(wrap64 (bt a0 0))<128
   ·rw[if_pos c6] at H
    have c6b0:decide ((wrap64 (bt a0 0))<128)=true:=decide_eq_true c6;clear c6;(first|rw[c6b0]|(simp only[vY,xD];rw[c6b0])|skip)
    have H':=K_ H;clear H;go_wp2
    go_meet
    case rel=>exact⟨_,(wrap64 (bt a0 0)),(1),SR,SR,H',⟨by first|omega|exact Nat.le_refl _⟩,⟨BL HB⟩⟩
   rw[if_neg c6] at H;have c6b0:decide ((wrap64 (bt a0 0))<128)=false:=decide_eq_false c6;clear c6;(first|rw[c6b0]|(simp only[vY,xD];rw[c6b0])|skip)
   have HC7:=K_ H;clear H;go_upto_region 6 with (fail)
   go_cut [15] (fun v15 wc=>∃ (kq:Nat) (x15_6:Bool),v15=.bool x15_6∧Aside0 (zD.j0 kq a0 (wrap64 (bt a0 0)) x15_6=some (r1,r2))∧Aside0 (kq≤k)∧Aside0 (Below w.heap.size w wc))
   case first =>
    have H:=HC7.out;clear HC7;by_cases c8:(wrap64 (bt a0 0)) ≥ 192
    ·rw[if_pos c8] at H
     have c8b0:decide (192≤(wrap64 (bt a0 0)))=true:=decide_eq_true c8;clear c8;(first|rw[c8b0]|(simp only[vY,xD];rw[c8b0])|skip)
     have H':=K_ H;clear H;go_wp2
     go_meet
     case rel=>exact⟨_,(decide ((wrap64 (bt a0 0))<224)),SR,H',⟨by first|omega|exact Nat.le_refl _⟩,⟨BL HB⟩⟩
    rw[if_neg c8] at H;have c8b0:decide (192≤(wrap64 (bt a0 0)))=false:=decide_eq_false c8;clear c8;(first|rw[c8b0]|(simp only[vY,xD];rw[c8b0])|skip)
    have H':=K_ H;clear H;go_wp2
    go_meet
    case rel=>exact⟨_,(false),SR,H',⟨by first|omega|exact Nat.le_refl _⟩,⟨BL HB⟩⟩
   clear HC7;try clear c2
   try clear c2b0
   try clear c2b1
   try clear c3
   try clear c3b0
   try clear c3b1
   try clear p4
   try clear q4
   try clear hx4
   try clear qi4
   try clear c6
   try clear c6b0
   obtain⟨kq,x15_6,rfl,HA,HJ6,HB⟩:=hcut;obtain _|kj6:=kq
   ·exact absurd HA.out (by simp[zD.j0])
   have H:=HA.out;clear HA;simp only[zD.j0] at H
   by_cases c9:x15_6=true
   ·subst c9
    rw[if_pos rfl] at H;have H':=K_ H;clear H;go_wp2
    go_meet
    case rel=>exact⟨_,(wrap64 ((wrap64 (bt a0 0))-192)),(2),SR,SR,H',⟨by have:=HJ6.out;first|omega|exact Nat.le_refl _⟩,⟨BL HB⟩⟩
   replace c9:=Bool.eq_false_iff.mpr c9;subst c9;rw[if_neg (show ¬ (false=true) by decide)] at H;have HC10:=K_ H;clear H;go_upto_region 8 with (fail)
   go_cut [24] (fun v24 wc=>∃ (kq:Nat) (x24_9:Bool),v24=.bool x24_9∧Aside0 (zD.j1 kq a0 (wrap64 (bt a0 0)) x24_9=some (r1,r2))∧Aside0 (kq≤kj6)∧Aside0 (Below w.heap.size w wc))
   case first =>
    have H:=HC10.out;clear HC10;by_cases c11:(wrap64 (bt a0 0)) ≥ 224
    ·rw[if_pos c11] at H
     have c11b0:decide (224≤(wrap64 (bt a0 0)))=true:=decide_eq_true c11;clear c11;(first|rw[c11b0]|(simp only[vY,xD];rw[c11b0])|skip)
     have H':=K_ H;clear H;go_wp2
     go_meet
     case rel=>exact⟨_,(decide ((wrap64 (bt a0 0))<240)),SR,H',⟨by have:=HJ6.out;first|omega|exact Nat.le_refl _⟩,⟨BL HB⟩⟩
    rw[if_neg c11] at H;have c11b0:decide (224≤(wrap64 (bt a0 0)))=false:=decide_eq_false c11;clear c11;(first|rw[c11b0]|(simp only[vY,xD];rw[c11b0])|skip)
    have H':=K_ H;clear H;go_wp2
    go_meet
    case rel=>exact⟨_,(false),SR,H',⟨by have:=HJ6.out;first|omega|exact Nat.le_refl _⟩,⟨BL HB⟩⟩
   clear HC10;try clear c9
   obtain⟨kq,x24_9,rfl,HA,HJ9,HB⟩:=hcut;obtain _|kj9:=kq
   ·exact absurd HA.out (by simp[zD.j1])
   have H:=HA.out;clear HA;simp only[zD.j1] at H
   by_cases c12:x24_9=true
   ·subst c12
    rw[if_pos rfl] at H;have H':=K_ H;clear H;go_wp2
    go_meet
    case rel=>exact⟨_,(wrap64 ((wrap64 (bt a0 0))-224)),(3),SR,SR,H',⟨by have:=HJ6.out;have:=HJ9.out;first|omega|exact Nat.le_refl _⟩,⟨BL HB⟩⟩
   replace c12:=Bool.eq_false_iff.mpr c12;subst c12;rw[if_neg (show ¬ (false=true) by decide)] at H;by_cases c13:(wrap64 (bt a0 0)) ≥ 240
   ·rw[if_pos c13] at H
    have c13b0:decide (240≤(wrap64 (bt a0 0)))=true:=decide_eq_true c13;clear c13;by_cases c14:(wrap64 (bt a0 0))<248
    ·rw[if_pos c14] at H
     have c14b0:decide ((wrap64 (bt a0 0))<248)=true:=decide_eq_true c14;clear c14;have H':=K_ H;clear H;go_wp2
     go_meet
     case rel=>exact⟨_,(wrap64 ((wrap64 (bt a0 0))-240)),(4),SR,SR,H',⟨by have:=HJ6.out;have:=HJ9.out;first|omega|exact Nat.le_refl _⟩,⟨BL HB⟩⟩
    rw[if_neg c14] at H;have c14b0:decide ((wrap64 (bt a0 0))<248)=false:=decide_eq_false c14;clear c14;simp only[Option.some.injEq,Prod.mk.injEq] at H
    obtain⟨rfl,rfl⟩:=H;go_wp2
    go_ret2
    exact⟨ER,BL HB⟩
   rw[if_neg c13] at H;have c13b0:decide (240≤(wrap64 (bt a0 0)))=false:=decide_eq_false c13;clear c13;simp only[Option.some.injEq,Prod.mk.injEq] at H
   obtain⟨rfl,rfl⟩:=H;go_wp2
   go_ret2
   exact⟨ER,BL HB⟩
  clear HC5;try clear c2
  try clear c2b0
  try clear c2b1
  try clear c3
  try clear c3b0
  try clear c3b1
  try clear p4
  try clear q4
  try clear hx4
  try clear qi4
  obtain⟨kq,x4_4,x5_4,rfl,rfl,HA,HJ4,HB⟩:=hcut;obtain _|kj4:=kq
  ·exact absurd HA.out (by simp[zD.j2])
  have H:=HA.out;clear HA;simp only[zD.j2] at H
  by_cases c15:(a0.size:Int)<x5_4
  ·rw[if_pos c15] at H
   have c15b0:decide ((a0.size:Int)<x5_4)=true:=decide_eq_true c15;clear c15;simp only[Option.some.injEq,Prod.mk.injEq] at H
   obtain⟨rfl,rfl⟩:=H;go_wp2
   go_ret2
   exact⟨ER,BL HB⟩
  rw[if_neg c15] at H;have c15b0:decide ((a0.size:Int)<x5_4)=false:=decide_eq_false c15;clear c15;have H':=K_ H;clear H;go_wp2
  go_loopg [4,6] kj4 (fun kq v4 v6 w'=>∃ (x4_2:Int) (x6_2:Int),v4=.int .i64 x4_2∧v6=.int .i64 x6_2∧Aside0 (zD.l0 kq a0 x4_2 x5_4 x6_2=some (r1,r2))∧Aside0 (kq≤kj4)∧Aside0 (Below w.heap.size w w'))
  case atStart=>exact⟨(x4_4),(1),SR,SR,H',⟨Nat.le_refl _⟩,⟨BL HB⟩⟩
  case round =>
   clear H';try clear c15
   try clear c15b0
   obtain⟨x4_2,x6_2,rfl,rfl,HA,HK2,HB⟩:=hrel;obtain _|k2:=gk
   ·exact absurd HA.out (by simp[zD.l0])
   have H:=HA.out;clear HA;simp only[zD.l0] at H
   by_cases c16:x6_2<x5_4
   ·rw[if_pos c16] at H
    have c16b0:decide (x6_2<x5_4)=true:=decide_eq_true c16;clear c16;by_cases c17:0≤x6_2
    ·rw[if_pos c17] at H
     have c17b0:decide (0≤x6_2)=true:=decide_eq_true c17;clear c17;by_cases c18:x6_2<(a0.size:Int)
     ·rw[if_pos c18] at H
      have c18b0:decide (x6_2<(a0.size:Int))=true:=decide_eq_true c18;clear c18;by_cases c21:(bt a0 x6_2)<128
      ·rw[if_pos c21] at H
       have c21b0:decide ((bt a0 x6_2)<128)=true:=decide_eq_true c21;clear c21;simp only[Option.some.injEq,Prod.mk.injEq] at H
       obtain⟨rfl,rfl⟩:=H;have p19:0≤(x6_2:Int):=of_decide_eq_true (by first|(with_reducible assumption)|assumption);have q19:x6_2<(a0.size:Int):=of_decide_eq_true (by first|(with_reducible assumption)|assumption);have hx19:=zap a0 x6_2;replace p19:=eq_true p19;replace q19:=eq_true q19;have p20:0≤(x6_2:Int):=of_decide_eq_true (by first|(with_reducible assumption)|assumption);have q20:x6_2<(a0.size:Int):=of_decide_eq_true (by first|(with_reducible assumption)|assumption);have hx20:=zap a0 x6_2;replace p20:=eq_true p20;replace q20:=eq_true q20;go_wp2
       go_ret2
       exact⟨ER,BL HB⟩
      rw[if_neg c21] at H;have c21b0:decide ((bt a0 x6_2)<128)=false:=decide_eq_false c21;clear c21;by_cases c23:(bt a0 x6_2)>191
      ·rw[if_pos c23] at H
       have c23b0:decide (191<(bt a0 x6_2))=true:=decide_eq_true c23;clear c23;simp only[Option.some.injEq,Prod.mk.injEq] at H
       obtain⟨rfl,rfl⟩:=H;have p19:0≤(x6_2:Int):=of_decide_eq_true (by first|(with_reducible assumption)|assumption);have q19:x6_2<(a0.size:Int):=of_decide_eq_true (by first|(with_reducible assumption)|assumption);have hx19:=zap a0 x6_2;replace p19:=eq_true p19;replace q19:=eq_true q19;have p20:0≤(x6_2:Int):=of_decide_eq_true (by first|(with_reducible assumption)|assumption);have q20:x6_2<(a0.size:Int):=of_decide_eq_true (by first|(with_reducible assumption)|assumption);have hx20:=zap a0 x6_2;replace p20:=eq_true p20;replace q20:=eq_true q20;have p22:0≤(x6_2:Int):=of_decide_eq_true (by first|(with_reducible assumption)|assumption);have q22:x6_2<(a0.size:Int):=of_decide_eq_true (by first|(with_reducible assumption)|assumption);have hx22:=zap a0 x6_2;replace p22:=eq_true p22;replace q22:=eq_true q22;go_wp2
       go_ret2
       exact⟨ER,BL HB⟩
      rw[if_neg c23] at H;have c23b0:decide (191<(bt a0 x6_2))=false:=decide_eq_false c23;clear c23;have H':=K_ H;clear H;have p19:0≤(x6_2:Int):=of_decide_eq_true (by first|(with_reducible assumption)|assumption);have q19:x6_2<(a0.size:Int):=of_decide_eq_true (by first|(with_reducible assumption)|assumption);have hx19:=zap a0 x6_2;replace p19:=eq_true p19;replace q19:=eq_true q19;have p20:0≤(x6_2:Int):=of_decide_eq_true (by first|(with_reducible assumption)|assumption);have q20:x6_2<(a0.size:Int):=of_decide_eq_true (by first|(with_reducible assumption)|assumption);have hx20:=zap a0 x6_2;replace p20:=eq_true p20;replace q20:=eq_true q20;have p22:0≤(x6_2:Int):=of_decide_eq_true (by first|(with_reducible assumption)|assumption);have q22:x6_2<(a0.size:Int):=of_decide_eq_true (by first|(with_reducible assumption)|assumption);have hx22:=zap a0 x6_2;replace p22:=eq_true p22;replace q22:=eq_true q22;go_wp2
      go_roundg k2
      case measure=>have:=HJ4.out;have:=HK2.out;omega
      case rel=>exact⟨(wrap64 ((wrap64 ((wrap64 (x4_2 * 64))+(wrap64 (bt a0 x6_2))))-128)),(wrap64 (x6_2+1)),SR,SR,H',⟨by have:=HJ4.out;have:=HK2.out;omega⟩,⟨BL HB⟩⟩
     rw[if_neg c18] at H;exact absurd H (by simp)
    rw[if_neg c17] at H;exact absurd H (by simp)
   rw[if_neg c16] at H;have c16b0:decide (x6_2<x5_4)=false:=decide_eq_false c16;clear c16;obtain⟨t119,A240,H⟩:=Option.bind_eq_some_iff.mp H
   (try dsimp -simprocs only at H)
   have A24:=K_ A240;clear A240
   (try have HS5_:=K_ H)
   (try clear H)
   try go_wp2
   (try (rw[zah wr];generalize hq_:World.drewN wr _=wr;replace HB:=zdt HB hq_;clear hq_))
   replace HB:=K_ (yM HB.out);refine yI (n:=14) (S:=fun w'=>True) (ds:=[]) #[false,false,false,false,false,false,false,false,false,false,false,false,false,false] (by kernel_rfl) rfl rfl trivial (fun hHeld=>?_);refine zcr zD.tab20 zD.bits20 (fun HT_ HW_=>?_);generalize wr.drew=w30 at HB hHeld ⊢
   refine pu_ 0 (some 69) (bb 14 1) (jP HT_.out (by kernel_rfl)) ?_;refine pu_ 1 (some 70) (bb 14 3) (jP HT_.out (by kernel_rfl)) ?_;refine zbM (i:=2) (N:=some 71) (bb 14 7) rfl rfl (zax HT_.out (by kernel_rfl)) (by decide) (fun K hK=>?_);refine gq_ Tryz.func113 #[.int .i32 (wrap32 (x4_2))] ?_
   (try have H:=HS5_.out)
   (try clear HS5_)
   by_cases c25:t119=true
   ·subst c25
    rw[if_pos rfl] at H;obtain⟨t120,A260,H⟩:=Option.bind_eq_some_iff.mp H
    (try dsimp -simprocs only at H)
    have A26:=K_ A260;clear A260;by_cases c27:0≤x5_4
    ·rw[if_pos c27] at H
     have c27b0:=eq_true c27;have c27b1:decide (0≤x5_4)=true:=decide_eq_true c27;clear c27;by_cases c28:x5_4≤(a0.size:Int)
     ·rw[if_pos c28] at H
      have c28b0:=eq_true c28;have c28b1:decide (x5_4≤(a0.size:Int))=true:=decide_eq_true c28;clear c28
      (try have HS4_:=K_ H)
      (try clear H)
      with_reducible refine (uB.calls (wrap32 (x4_2)) true _ A24.out).mono ?_
      rintro e w' ⟨rfl,⟨nd,rfl⟩⟩;refine⟨_,rfl,?_⟩;refine hK.out _ _ trivial (fun hHeld=>?_);clear hK K;refine no_ (some 71) ?_;refine pu_ 3 (some 72) (bb 14 15) (jP HT_.out (by kernel_rfl)) ?_;refine pu_ 4 (some 73) (bb 14 31) (jP HT_.out (by kernel_rfl)) ?_;refine pu_ 5 (some 74) (bb 14 63) (jP HT_.out (by kernel_rfl)) ?_;refine pu_ 6 (some 75) (bb 14 127) (jP HT_.out (by kernel_rfl)) ?_;refine pu_ 9 (some 78) (bb 14 639) (jP HT_.out (by kernel_rfl)) ?_;refine pu_ 10 (some 79) (bb 14 1663) (jP HT_.out (by kernel_rfl)) ?_;refine pu_ 11 (some 80) (bb 14 3711) (jP HT_.out (by kernel_rfl)) ?_;refine zbM (i:=7) (N:=some 76) (bb 14 3839) rfl rfl (zax HT_.out (by kernel_rfl)) (by decide) (fun K hK=>?_);refine gq_ Tryz.func88 #[.int .i32 (wrap32 (x4_2))] ?_;with_reducible refine (vD.calls (wrap32 (x4_2)) t120 _ A26.out).mono ?_
      rintro e w31 ⟨v121,rfl,ho0,hb⟩;refine⟨_,rfl,?_⟩;have HO122:=K_ (Kd.R_lower ho0 (zQ (BL HB)));replace HB:=zF HB hb
      (try clear hb)
      (try clear hb2)
      (try clear hk)
      (try clear hi)
      (try clear ho0)
      refine hK.out _ _ trivial (fun hHeld=>?_);clear hK K;refine no_ (some 76) ?_;refine zbM (i:=8) (N:=some 77) (bb 14 4095) rfl rfl (zax HT_.out (by kernel_rfl)) (by decide) (fun K hK=>?_);have hcv32:=zdc (P:=Tryz.prog) Tryz.underlying107 Tryz.underlying5 Tryz.underlying9 (Kd.own_of_R HO122.out);refine zqj (w1:=?_) (v:=?_) (by rfl) rfl ?_ ?_;rotate_left 2
      ·go_simp
       constructor
       ·rfl
       rfl
      clear hcv32;refine hK.out _ _ trivial (fun hHeld=>?_);clear hK K;refine no_ (some 77) ?_
      (try have H:=HS4_.out)
      (try clear HS4_)
      by_cases c29:(strOfNums t120).toList=(a0.extract 0 (x5_4:Int).toNat).toList
      ·rw[if_pos c29] at H
       have c29b0:((strOfNums t120).toList==(a0.extract 0 (x5_4:Int).toNat).toList)=true:=beq_iff_eq.mpr c29;have c29b1:((strOfNums t120).toList !=(a0.extract 0 (x5_4:Int).toNat).toList)=false:=bne_eq_false_iff_eq.mpr c29;clear c29;simp only[Option.some.injEq,Prod.mk.injEq] at H
       obtain⟨rfl,rfl⟩:=H;refine pu_ 12 (some 81) (bb 14 8191) (jP HT_.out (by kernel_rfl)) ?_;refine pu_ 13 (some 82) (bb 14 16383) (jP HT_.out (by kernel_rfl)) ?_;refine vF (zcs HT_.out (by kernel_rfl)) ?_;try go_wp2
       go_ret2
       exact⟨ER,BL HB⟩
      rw[if_neg c29] at H;have c29b0:((strOfNums t120).toList==(a0.extract 0 (x5_4:Int).toNat).toList)=false:=beq_eq_false_iff_ne.mpr c29;have c29b1:((strOfNums t120).toList !=(a0.extract 0 (x5_4:Int).toNat).toList)=true:=bne_iff_ne.mpr c29;simp only[Option.some.injEq,Prod.mk.injEq] at H
      obtain⟨rfl,rfl⟩:=H;refine pu_ 12 (some 81) (bb 14 8191) (jP HT_.out (by kernel_rfl)) ?_;refine pu_ 13 (some 82) (bb 14 16383) (jP HT_.out (by kernel_rfl)) ?_;refine vF (zcs HT_.out (by kernel_rfl)) ?_;try go_wp2
      go_ret2
      exact⟨ER,BL HB⟩
     rw[if_neg c28] at H;exact absurd H (by simp)
    rw[if_neg c27] at H;exact absurd H (by simp)
   replace c25:=Bool.eq_false_iff.mpr c25;subst c25;rw[if_neg (show ¬ (false=true) by decide)] at H;simp only[Option.some.injEq,Prod.mk.injEq] at H
   obtain⟨rfl,rfl⟩:=H;with_reducible refine (uB.calls (wrap32 (x4_2)) false _ A24.out).mono ?_
   rintro e w' ⟨rfl,⟨nd,rfl⟩⟩;refine⟨_,rfl,?_⟩;refine hK.out _ _ trivial (fun hHeld=>?_);clear hK K;refine no_ (some 71) ?_;refine pu_ 3 (some 72) (bb 14 15) (jP HT_.out (by kernel_rfl)) ?_;refine pu_ 4 (some 73) (bb 14 31) (jP HT_.out (by kernel_rfl)) ?_;refine vR (i:=5) (N:=some 74) (v:=undef) (a':=?_) (bb 14 63) rfl rfl (jP HT_.out (by kernel_rfl)) (fun _ _ _ h=>h) (Or.inr ⟨by rfl,rfl⟩) ?_ ?_;rotate_left
   ·simp only[Act.put,List.setIfInBounds_toArray,List.set_cons_zero,List.set_cons_succ];(try simp only[vY]);(try simp only[xD])
    rfl
   refine vR (i:=6) (N:=some 75) (v:=undef) (a':=?_) (bb 14 127) rfl rfl (jP HT_.out (by kernel_rfl)) (fun _ _ _ h=>h) (Or.inr ⟨by rfl,rfl⟩) ?_ ?_;rotate_left
   ·simp only[Act.put,List.setIfInBounds_toArray,List.set_cons_zero,List.set_cons_succ];(try simp only[vY]);(try simp only[xD])
    rfl
   refine vR (i:=7) (N:=some 76) (v:=undef) (a':=?_) (bb 14 255) rfl rfl (jP HT_.out (by kernel_rfl)) (fun _ _ _ h=>h) (Or.inr ⟨by rfl,rfl⟩) ?_ ?_;rotate_left
   ·simp only[Act.put,List.setIfInBounds_toArray,List.set_cons_zero,List.set_cons_succ];(try simp only[vY]);(try simp only[xD])
    rfl
   refine vR (i:=8) (N:=some 77) (v:=undef) (a':=?_) (bb 14 511) rfl rfl (jP HT_.out (by kernel_rfl)) (fun _ _ _ h=>h) (Or.inr ⟨by rfl,rfl⟩) ?_ ?_;rotate_left
   ·simp only[Act.put,List.setIfInBounds_toArray,List.set_cons_zero,List.set_cons_succ];(try simp only[vY]);(try simp only[xD])
    rfl
   refine vR (i:=9) (N:=some 78) (v:=undef) (a':=?_) (bb 14 1023) rfl rfl (jP HT_.out (by kernel_rfl)) (fun _ _ _ h=>h) (Or.inr ⟨by rfl,rfl⟩) ?_ ?_;rotate_left
   ·simp only[Act.put,List.setIfInBounds_toArray,List.set_cons_zero,List.set_cons_succ];(try simp only[vY]);(try simp only[xD])
    rfl
   refine vR (i:=10) (N:=some 79) (v:=undef) (a':=?_) (bb 14 2047) rfl rfl (jP HT_.out (by kernel_rfl)) (fun _ _ _ h=>h) (Or.inr ⟨by rfl,rfl⟩) ?_ ?_;rotate_left
   ·simp only[Act.put,List.setIfInBounds_toArray,List.set_cons_zero,List.set_cons_succ];(try simp only[vY]);(try simp only[xD])
    rfl
   refine vR (i:=11) (N:=some 80) (v:=undef) (a':=?_) (bb 14 4095) rfl rfl (jP HT_.out (by kernel_rfl)) (fun _ _ _ h=>h) (Or.inr ⟨by rfl,rfl⟩) ?_ ?_;rotate_left
   ·simp only[Act.put,List.setIfInBounds_toArray,List.set_cons_zero,List.set_cons_succ];(try simp only[vY]);(try simp only[xD])
    rfl
   refine vR (i:=12) (N:=some 81) (v:=undef) (a':=?_) (bb 14 8191) rfl rfl (jP HT_.out (by kernel_rfl)) (fun _ _ _ h=>h) (Or.inr ⟨by rfl,rfl⟩) ?_ ?_;rotate_left
   ·simp only[Act.put,List.setIfInBounds_toArray,List.set_cons_zero,List.set_cons_succ];(try simp only[vY]);(try simp only[xD])
    rfl
   refine pu_ 13 (some 82) (bb 14 16383) (jP HT_.out (by kernel_rfl)) ?_;refine vF (zcs HT_.out (by kernel_rfl)) ?_;try go_wp2
   go_ret2
   exact⟨ER,BL HB⟩
 rw[if_neg c3] at H;exact absurd H (by simp)
def zP.l0:Nat→ByteArray→List Int→Int→Option (List Int×Int)
 | 0,_,_,_=>none
 | k+1,x0,x4,x5=>if x5<(x0.size:Int) then (if 0≤x5 then (if x5≤(x0.size:Int) then ((zD.f k (x0.extract (x5:Int).toNat x0.size)).bind fun bt123=>(if bt123.2=0 then (some (([]:List Int),x5)) else (if x4.length<35184372088832 then (zP.l0 k x0 (x4++[bt123.1]) (wrap64 (x5+bt123.2))) else (none)))) else (none)) else (none)) else (some (x4,(-1)))
def zP.f (k:Nat) (a0:ByteArray):Option (List Int×Int):=zP.l0 k a0 ([]:List Int) 0
theorem zP.mono_l:∀ k,(∀ y0 y1 y2,LeO (zP.l0 k y0 y1 y2) (zP.l0 (k+1) y0 y1 y2))
 | 0=>fun _ _ _ r h=>by simp[zP.l0] at h
 | k+1=>by
  have ih0:=zP.mono_l k;intro y0 y1 y2;unfold zP.l0
  repeat' first
  | (with_reducible exact ih0 _ _ _)
  | (with_reducible exact zD.mono _ _)
  | (with_reducible exact LeO.refl _)
  | (with_reducible exact LeO.none _)
  | (with_reducible refine LeO.ite ?_ ?_)
  | (with_reducible refine LeO.bind ?_ (fun _=>?_))
  | exact ih0 _ _ _
  | exact zD.mono _ _
  | exact LeO.none _
  | refine LeO.ite ?_ ?_
  | refine LeO.bind ?_ (fun _=>?_)
theorem zP.mono:∀ a0 k,LeO (zP.f k a0) (zP.f (k+1) a0):=by
 intro a0 k;have ih0:=zP.mono_l k;unfold zP.f;repeat' first
   | (with_reducible exact ih0 _ _ _)
   | (with_reducible exact zD.mono _ _)
   | (with_reducible exact LeO.refl _)
   | (with_reducible exact LeO.none _)
   | (with_reducible refine LeO.ite ?_ ?_)
   | (with_reducible refine LeO.bind ?_ (fun _=>?_))
   | exact ih0 _ _ _
   | exact zD.mono _ _
   | exact LeO.none _
   | refine LeO.ite ?_ ?_
   | refine LeO.bind ?_ (fun _=>?_)
set_option maxHeartbeats 8000000 in
set_option maxRecDepth 100000 in
theorem zP.calls (k:Nat) (a0:ByteArray) (r1:List Int) (r2:Int) (w:World) (h:zP.f k a0=some (r1,r2)) :
  Calls Tryz.prog 85 #[.string a0] w fun e w'=>∃ v0_:Value,e=.returned (.tuple #[v0_,.int .i64 r2])∧Kd.R (Kd.int .i32) 21 w' w.heap.size (fun _=>True) v0_ r1∧Below w.heap.size w w':=by
 have HB:=K_ (Below.refl w.heap.size w);have H:(zP.l0 k a0 ([]:List Int) 0)=some (r1,r2):=h;clear h;have H':=K_ H;clear H;go_enter Tryz.func85,Tryz.ntmps85
 go_wp2
 go_loopg [4,5] k (fun kq v4 v5 w'=>∃ (x4_1:List Int) (x5_1:Int),v5=.int .i64 x5_1∧Aside0 (zP.l0 kq a0 x4_1 x5_1=some (r1,r2))∧Aside0 (kq≤k)∧Aside0 (Kd.R (Kd.int .i32) 21 w' w.heap.size (fun _=>True) v4 x4_1)∧Aside0 (Below w.heap.size w w'))
 case atStart=>exact⟨(([]:List Int)),(0),SR,H',⟨Nat.le_refl _⟩,⟨by first|exact Kd.R_nil _ _ _ _ _|exact Kd.N_nil _ _ _ _ _|exact Kd.V_nil _ _ _ _ _|exact Kd.Q_nil _ _ _ _ _|exact Kd.S_nil _ _ _ _ _⟩,⟨BL HB⟩⟩
 case round =>
  clear H';obtain⟨x4_1,x5_1,rfl,HA,HK1,HO_4,HB⟩:=hrel;obtain _|k1:=gk
  ·exact absurd HA.out (by simp[zP.l0])
  have H:=HA.out;clear HA;simp only[zP.l0] at H
  by_cases c2:x5_1<(a0.size:Int)
  ·rw[if_pos c2] at H
   have c2b0:decide (x5_1<(a0.size:Int))=true:=decide_eq_true c2;clear c2;by_cases c3:0≤x5_1
   ·rw[if_pos c3] at H
    have c3b0:=eq_true c3;have c3b1:decide (0≤x5_1)=true:=decide_eq_true c3;clear c3;by_cases c4:x5_1≤(a0.size:Int)
    ·rw[if_pos c4] at H
     have c4b0:=eq_true c4;have c4b1:decide (x5_1≤(a0.size:Int))=true:=decide_eq_true c4;clear c4;obtain⟨⟨t123,t124⟩,A50,H⟩:=Option.bind_eq_some_iff.mp H
     (try dsimp -simprocs only at H)
     have A5:=K_ A50;clear A50;by_cases c6:t124=0
     ·rw[if_pos c6] at H
      have c6b0:(t124==0)=true:=beq_iff_eq.mpr c6;have c6b1:(t124 !=0)=false:=bne_eq_false_iff_eq.mpr c6;clear c6;simp only[Option.some.injEq,Prod.mk.injEq] at H
      obtain⟨rfl,rfl⟩:=H;go_wp2_with (first|((with_reducible refine zH (f:=86) rfl ?_);refine zT (some 16) rfl rfl Tryz.func86 (by kernel_rfl) rfl #[.string (a0.extract (x5_1:Int).toNat a0.size)] rfl MP ?_;(with_reducible refine (zD.calls k1 (a0.extract (x5_1:Int).toNat a0.size) t123 t124 _ A5.out).mono ?_);rintro e w7 ⟨rfl,hb⟩;refine⟨_,rfl,?_⟩;replace HO_4:=K_ (Kd.R_below (RB HO_4.out) hb);replace HB:=zF HB hb;(try clear hb);(try clear hb2);(try clear hk);(try clear hi)))
      go_ret2
      exact⟨_,ER,by first|exact Kd.R_nil _ _ _ _ _|exact Kd.N_nil _ _ _ _ _|exact Kd.V_nil _ _ _ _ _|exact Kd.Q_nil _ _ _ _ _|exact Kd.S_nil _ _ _ _ _,BL HB⟩
     rw[if_neg c6] at H;have c6b0:(t124==0)=false:=beq_eq_false_iff_ne.mpr c6;have c6b1:(t124 !=0)=true:=bne_iff_ne.mpr c6;by_cases c8:x4_1.length<35184372088832
     ·rw[if_pos c8] at H
      have LMc8:=K_ c8;clear c8;obtain⟨y125,hy125⟩:∃ y_:List Int,y_=(x4_1++[t123]):=⟨_,rfl⟩
      replace H:(zP.l0 k1 a0 y125 (wrap64 (x5_1+t124)))=some (r1,r2):=by first|(rw[hy125];with_reducible exact H)|(have H2_:=(Option.bind_some _ _).symm.trans H;rw[hy125];with_reducible exact H2_)|(have H2_:=(Option.bind_some _ _).symm.trans H;with_reducible exact H2_)|with_reducible exact H|(rw[hy125];exact H)|exact H
      have Ny125:=K_ hy125;clear hy125;have H':=K_ H;clear H;go_wp2_with (first|((with_reducible refine zH (f:=86) rfl ?_);refine zT (some 16) rfl rfl Tryz.func86 (by kernel_rfl) rfl #[.string (a0.extract (x5_1:Int).toNat a0.size)] rfl MP ?_;(with_reducible refine (zD.calls k1 (a0.extract (x5_1:Int).toNat a0.size) t123 t124 _ A5.out).mono ?_);rintro e w9 ⟨rfl,hb⟩;refine⟨_,rfl,?_⟩;replace HO_4:=K_ (Kd.R_below (RB HO_4.out) hb);replace HB:=zF HB hb;(try clear hb);(try clear hb2);(try clear hk);(try clear hi))|((with_reducible refine jH (b:=.append) (xs:=#[.tmp 22,.tmp 24]) rfl ?_);at_builtin;refine Kd.R_append (Kd.int .i32) (w0:=w) w.heap.size rfl (.tmp 22) (.tmp 24) 102 21 (.int .i32 0) 4 rfl Tryz.underlying102 zpH rfl (by decide) (by omega) u4 x4_1 t123 [.int .i32 t123] (fun _=>True) (fun _=>False) rfl rfl ?aP (fun _ hk=>hk.elim) ?aF ?aO ?aB ?aS ?aL ?_;(case aP=>exact rfl);(case aB=>exact (BL HB));(case aF=>exact (fun _ _=>trivial));(case aO=>exact (RB HO_4.out));(case aS=>exact (zQ (BL HB)));(case aL=>have:=LMc8.out;omega);intro v126 w10 ho hb hg hat;rw[←Ny125.out] at ho;replace HB:=K_ (hb);have HO127:=K_ (ho);clear HO_4;clear ho hb hg hat))
      go_roundg k1
      case measure=>have:=HK1.out;omega
      case rel=>exact⟨(y125),(wrap64 (x5_1+t124)),SR,H',⟨by have:=HK1.out;omega⟩,⟨RB HO127.out⟩,⟨BL HB⟩⟩
     rw[if_neg c8] at H;exact absurd H (by simp)
    rw[if_neg c4] at H;exact absurd H (by simp)
   rw[if_neg c3] at H;exact absurd H (by simp)
  rw[if_neg c2] at H;have c2b0:decide (x5_1<(a0.size:Int))=false:=decide_eq_false c2;clear c2;simp only[Option.some.injEq,Prod.mk.injEq] at H
  obtain⟨rfl,rfl⟩:=H;go_wp2
  go_ret2
  exact⟨_,ER,by (with_reducible repeat (first|apply Kd.R_alloc|apply Kd.R_drewN|apply Kd.R_drew));exact HO_4.out,BL HB⟩
mutual
def zG.l0:Nat→ByteArray→List (S71)→Int→Int→Option ((List (S71))×Int×Int)
 | 0,_,_,_,_=>none
 | k+1,x0,x6,x7,x8=>if x8<(x0.size:Int) then (if 0≤x8 then (if x8≤(x0.size:Int) then ((zD.f k (x0.extract (x8:Int).toNat x0.size)).bind fun bt133=>(if bt133.1=39 then (if (wrap64 (x8+1))<(x0.size:Int) then (if 0≤(wrap64 (x8+1)) then (zG.j1 k x0 x6 x7 x8 bt133.1 bt133.2 ((bt x0 (wrap64 (x8+1)))==39)) else (none)) else (zG.j1 k x0 x6 x7 x8 bt133.1 bt133.2 false)) else (zG.j1 k x0 x6 x7 x8 bt133.1 bt133.2 false))) else (none)) else (none)) else (if x7 ≥ 0 then (some (([]:List (S71)),3,x7)) else (if (x6.length:Int)>400 then (some (([]:List (S71)),8,0)) else (some (x6,0,0))))
def zG.j1:Nat→ByteArray→List (S71)→Int→Int→Int→Int→Bool→Option ((List (S71))×Int×Int)
 | 0,_,_,_,_,_,_,_=>none
 | k+1,x0,x6,x7,x8,x9,x10,x46=>if x46=true then (if x6.length<8796093022208 then (zG.l0 k x0 (x6++[(⟨x9,true,x8⟩:S71)]) x7 (wrap64 (x8+2))) else (none)) else (if x9=39 then (if x7 ≥ 0 then (zG.l0 k x0 x6 (-1) (wrap64 (x8+x10))) else (zG.l0 k x0 x6 x8 (wrap64 (x8+x10)))) else (if x6.length<8796093022208 then (zG.l0 k x0 (x6++[(⟨x9,decide (x7 ≥ 0),x8⟩:S71)]) x7 (wrap64 (x8+x10))) else (none)))
end
def zG.f (k:Nat) (a0:ByteArray):Option ((List (S71))×Int×Int):=(zP.f k a0).bind fun bt129=>(if bt129.2 ≥ 0 then (some (([]:List (S71)),2,bt129.2)) else (zG.l0 k a0 ([]:List (S71)) (-1) 0))
theorem zG.mono_l:∀ k,(∀ y0 y1 y2 y3,LeO (zG.l0 k y0 y1 y2 y3) (zG.l0 (k+1) y0 y1 y2 y3))∧(∀ y0 y1 y2 y3 y4 y5 y6,LeO (zG.j1 k y0 y1 y2 y3 y4 y5 y6) (zG.j1 (k+1) y0 y1 y2 y3 y4 y5 y6))
 | 0=>⟨fun _ _ _ _ r h=>by simp[zG.l0] at h,fun _ _ _ _ _ _ _ r h=>by simp[zG.j1] at h⟩
 | k+1=>by
  obtain⟨ih0,ih1⟩:=zG.mono_l k;refine⟨?_,?_⟩
  ·intro y0 y1 y2 y3
   unfold zG.l0
   repeat' first
   | (with_reducible exact ih0 _ _ _ _)
   | (with_reducible exact ih1 _ _ _ _ _ _ _)
   | (with_reducible exact zD.mono _ _)
   | (with_reducible exact zP.mono _ _)
   | (with_reducible exact LeO.refl _)
   | (with_reducible exact LeO.none _)
   | (with_reducible refine LeO.ite ?_ ?_)
   | (with_reducible refine LeO.bind ?_ (fun _=>?_))
   | exact ih0 _ _ _ _
   | exact ih1 _ _ _ _ _ _ _
   | exact zD.mono _ _
   | exact zP.mono _ _
   | exact LeO.none _
   | refine LeO.ite ?_ ?_
   | refine LeO.bind ?_ (fun _=>?_)
  intro y0 y1 y2 y3 y4 y5 y6;unfold zG.j1
  repeat' first
  | (with_reducible exact ih0 _ _ _ _)
  | (with_reducible exact ih1 _ _ _ _ _ _ _)
  | (with_reducible exact zD.mono _ _)
  | (with_reducible exact zP.mono _ _)
  | (with_reducible exact LeO.refl _)
  | (with_reducible exact LeO.none _)
  | (with_reducible refine LeO.ite ?_ ?_)
  | (with_reducible refine LeO.bind ?_ (fun _=>?_))
  | exact ih0 _ _ _ _
  | exact ih1 _ _ _ _ _ _ _
  | exact zD.mono _ _
  | exact zP.mono _ _
  | exact LeO.none _
  | refine LeO.ite ?_ ?_
  | refine LeO.bind ?_ (fun _=>?_)
theorem zG.mono:∀ a0 k,LeO (zG.f k a0) (zG.f (k+1) a0):=by
 intro a0 k;obtain⟨ih0,ih1⟩:=zG.mono_l k;unfold zG.f;repeat' first
   | (with_reducible exact ih0 _ _ _ _)
   | (with_reducible exact ih1 _ _ _ _ _ _ _)
   | (with_reducible exact zD.mono _ _)
   | (with_reducible exact zP.mono _ _)
   | (with_reducible exact LeO.refl _)
   | (with_reducible exact LeO.none _)
   | (with_reducible refine LeO.ite ?_ ?_)
   | (with_reducible refine LeO.bind ?_ (fun _=>?_))
   | exact ih0 _ _ _ _
   | exact ih1 _ _ _ _ _ _ _
   | exact zD.mono _ _
   | exact zP.mono _ _
   | exact LeO.none _
   | refine LeO.ite ?_ ?_
   | refine LeO.bind ?_ (fun _=>?_)
set_option maxHeartbeats 8000000 in
set_option maxRecDepth 100000 in
theorem zG.calls (k:Nat) (a0:ByteArray) (r1:List (S71)) (r2:Int) (r3:Int) (w:World) (h:zG.f k a0=some (r1,r2,r3)) :
  Calls Tryz.prog 55 #[.string a0] w fun e w'=>∃ v0_:Value,e=.returned (.tuple #[v0_,.agg #[.int .i64 r2,.int .i64 r3]])∧Kd.R k71 71 w' w.heap.size (fun _=>True) v0_ r1∧Below w.heap.size w w':=by
 have hu51:=Tryz.underlying51;have hu71:=Tryz.underlying71;have HB:=K_ (Below.refl w.heap.size w);have H:((zP.f k a0).bind fun bt129=>(if bt129.2 ≥ 0 then (some (([]:List (S71)),2,bt129.2)) else (zG.l0 k a0 ([]:List (S71)) (-1) 0)))=some (r1,r2,r3):=h;clear h;obtain⟨⟨t129,t130⟩,A20,H⟩:=Option.bind_eq_some_iff.mp H
 (try dsimp -simprocs only at H)
 have A2:=K_ A20;clear A20;by_cases c3:t130 ≥ 0
 ·rw[if_pos c3] at H
  have c3b0:decide (0≤t130)=true:=decide_eq_true c3;clear c3;simp only[Option.some.injEq,Prod.mk.injEq] at H
  obtain⟨rfl,rfl,rfl⟩:=H;go_enter Tryz.func55,Tryz.ntmps55
  go_wp2_with (first|((with_reducible refine zE (N:=3) rfl ?_);(try (refine vQ (by rfl) ?_;dsimp only));refine be_ 3 #[.int .i64 0,.int .i64 0] 51 ?_;intro gb128 hg w4 hbox hb;have BK128:=K_ (hbox);have GW128:=ge_ hg HB;have GE128:=ge_ hg HB;replace HB:=zF HB hb;clear hb hbox hg)|((with_reducible refine zH (f:=85) rfl ?_);refine zT (some 13) rfl rfl Tryz.func85 (by kernel_rfl) rfl #[.string a0] rfl MP ?_;(with_reducible refine (zP.calls k a0 t129 t130 _ A2.out).mono ?_);rintro e w5 ⟨v131,rfl,ho0,hb⟩;refine⟨_,rfl,?_⟩;have HO132:=K_ (Kd.R_lower ho0 (zQ (BL HB)));replace BK128:=zC BK128 hb;replace HB:=zF HB hb;(try clear hb);(try clear hb2);(try clear hk);(try clear hi);(try clear ho0);obtain⟨⟨hcz6_0,hcz6_1⟩,hfz6_0,hfz6_1⟩:=ce2 BK128))
  refine bodyPost_ret (zby rfl _ _ gb128 51 #[.int .i64 2,.int .i64 t130] (0,0) _ rfl (BP BK128) Tryz.underlying51 rfl (by kernel_rfl)) rfl ?_;exact⟨_,ER,by first|exact Kd.R_nil _ _ _ _ _|exact Kd.N_nil _ _ _ _ _|exact Kd.V_nil _ _ _ _ _|exact Kd.Q_nil _ _ _ _ _|exact Kd.S_nil _ _ _ _ _,BL HB⟩
 rw[if_neg c3] at H;have c3b0:decide (0≤t130)=false:=decide_eq_false c3;clear c3;have H':=K_ H;clear H;go_enter Tryz.func55,Tryz.ntmps55
 go_wp2_with (first|((with_reducible refine zE (N:=3) rfl ?_);(try (refine vQ (by rfl) ?_;dsimp only));refine be_ 3 #[.int .i64 0,.int .i64 0] 51 ?_;intro gb128 hg w7 hbox hb;have BK128:=K_ (hbox);have GW128:=ge_ hg HB;have GE128:=ge_ hg HB;replace HB:=zF HB hb;clear hb hbox hg)|((with_reducible refine zH (f:=85) rfl ?_);refine zT (some 13) rfl rfl Tryz.func85 (by kernel_rfl) rfl #[.string a0] rfl MP ?_;(with_reducible refine (zP.calls k a0 t129 t130 _ A2.out).mono ?_);rintro e w8 ⟨v131,rfl,ho0,hb⟩;refine⟨_,rfl,?_⟩;have HO132:=K_ (Kd.R_lower ho0 (zQ (BL HB)));replace BK128:=zC BK128 hb;replace HB:=zF HB hb;(try clear hb);(try clear hb2);(try clear hk);(try clear hi);(try clear ho0)))
 go_loopg [6,7,8] k (fun kq v6 v7 v8 w'=>∃ (x6_1:List (S71)) (x7_1:Int) (x8_1:Int),v7=.int .i64 x7_1∧v8=.int .i64 x8_1∧Aside0 (zG.l0 kq a0 x6_1 x7_1 x8_1=some (r1,r2,r3))∧Aside0 (kq≤k)∧Aside0 (Kd.R k71 71 w' w.heap.size (fun _=>True) v6 x6_1)∧Aside0 (w'.heap[gb128]?=some (.cells #[.int .i64 0,.int .i64 0] 51 (0,0)))∧Aside0 (Below w.heap.size w w'))
 case atStart=>exact⟨(([]:List (S71))),((-1)),(0),SR,SR,H',⟨Nat.le_refl _⟩,⟨by first|exact Kd.R_nil _ _ _ _ _|exact Kd.N_nil _ _ _ _ _|exact Kd.V_nil _ _ _ _ _|exact Kd.Q_nil _ _ _ _ _|exact Kd.S_nil _ _ _ _ _⟩,⟨BK BK128⟩,⟨BL HB⟩⟩
 case round =>
  clear H';try clear c3
  try clear c3b0
  obtain⟨x6_1,x7_1,x8_1,rfl,rfl,HA,HK1,HO_6,BK128,HB⟩:=hrel;obtain _|k1:=gk
  ·exact absurd HA.out (by simp[zG.l0])
  have H:=HA.out;clear HA;simp only[zG.l0] at H
  by_cases c9:x8_1<(a0.size:Int)
  ·rw[if_pos c9] at H
   have c9b0:decide (x8_1<(a0.size:Int))=true:=decide_eq_true c9;clear c9;by_cases c10:0≤x8_1
   ·rw[if_pos c10] at H
    have c10b0:=eq_true c10;have c10b1:decide (0≤x8_1)=true:=decide_eq_true c10;clear c10;by_cases c11:x8_1≤(a0.size:Int)
    ·rw[if_pos c11] at H
     have c11b0:=eq_true c11;have c11b1:decide (x8_1≤(a0.size:Int))=true:=decide_eq_true c11;clear c11;obtain⟨⟨t133,t134⟩,A120,H⟩:=Option.bind_eq_some_iff.mp H
     (try dsimp -simprocs only at H)
     have A12:=K_ A120;clear A120;have HC13:=K_ H;clear H;go_upto_region 9 with (first|((with_reducible refine zH (f:=86) rfl ?_);refine zT (some 28) rfl rfl Tryz.func86 (by kernel_rfl) rfl #[.string (a0.extract (x8_1:Int).toNat a0.size)] rfl MP ?_;(with_reducible refine (zD.calls k1 (a0.extract (x8_1:Int).toNat a0.size) t133 t134 _ A12.out).mono ?_);rintro e w14 ⟨rfl,hb⟩;refine⟨_,rfl,?_⟩;replace HO_6:=K_ (Kd.R_below (RB HO_6.out) hb);replace BK128:=zC BK128 hb;replace HB:=zF HB hb;(try clear hb);(try clear hb2);(try clear hk);(try clear hi)))
     (try simp only[Act.put,List.setIfInBounds_toArray,List.set_cons_zero,List.set_cons_succ])
     go_cut [46] (fun v46 wc=>∃ (kq:Nat) (x46_12:Bool),v46=.bool x46_12∧Aside0 (zG.j1 kq a0 x6_1 x7_1 x8_1 t133 t134 x46_12=some (r1,r2,r3))∧Aside0 (kq≤k1)∧Aside0 (Kd.R k71 71 wc w.heap.size (fun _=>True) u6 x6_1)∧Aside0 (wc.heap[gb128]?=some (.cells #[.int .i64 0,.int .i64 0] 51 (0,0)))∧Aside0 (Below w.heap.size w wc))
     case first =>
      have H:=HC13.out;clear HC13;by_cases c15:t133=39
      ·rw[if_pos c15] at H
       have c15b0:(t133==39)=true:=beq_iff_eq.mpr c15;have c15b1:(t133 !=39)=false:=bne_eq_false_iff_eq.mpr c15;clear c15;(first|rw[c15b0]|(simp only[vY,xD];rw[c15b0])|skip)
       by_cases c16:(wrap64 (x8_1+1))<(a0.size:Int)
       ·rw[if_pos c16] at H
        have c16b0:decide ((wrap64 (x8_1+1))<(a0.size:Int))=true:=decide_eq_true c16;clear c16;obtain⟨ji17,hji17⟩:∃ j_:Int,(wrap64 (x8_1+1))=j_:=⟨_,rfl⟩
        replace H:(if 0≤(ji17) then (zG.j1 k1 a0 x6_1 x7_1 x8_1 t133 t134 ((bt a0 (ji17))==39)) else (none))=some (r1,r2,r3):=by first|(rw[hji17] at H;exact H)|(simp only[hji17] at H ⊢;exact H)
        (try rw[hji17] at c16b0)
        have hji17w:(IntKind.i64.wrap (x8_1+1))=ji17:=(vY _).trans hji17;by_cases c18:0≤(ji17)
        ·rw[if_pos c18] at H
         have c18b0:decide (0≤(ji17))=true:=decide_eq_true c18;clear c18;have H':=K_ H;clear H;have p19:0≤((ji17):Int):=of_decide_eq_true (by first|(with_reducible assumption)|assumption);have q19:(ji17)<(a0.size:Int):=of_decide_eq_true (by first|(with_reducible assumption)|assumption);have hx19:=zap a0 (ji17);replace p19:=eq_true p19;replace q19:=eq_true q19;go_wp2
         go_meet
         case rel=>exact⟨_,(((bt a0 (ji17))==39)),(by first|rfl|(simp;done)|(simp only[←hji17] <;> (first|rfl|simp))|(simp[*];done)|(simp[*,Fig.bne_nil];done)),H',⟨by have:=HK1.out;first|omega|exact Nat.le_refl _⟩,⟨RB HO_6.out⟩,⟨BK BK128⟩,⟨BL HB⟩⟩
        rw[if_neg c18] at H;exact absurd H (by simp)
       rw[if_neg c16] at H;have c16b0:decide ((wrap64 (x8_1+1))<(a0.size:Int))=false:=decide_eq_false c16;clear c16;have H':=K_ H;clear H;go_wp2
       go_meet
       case rel=>exact⟨_,(false),SR,H',⟨by have:=HK1.out;first|omega|exact Nat.le_refl _⟩,⟨RB HO_6.out⟩,⟨BK BK128⟩,⟨BL HB⟩⟩
      rw[if_neg c15] at H;have c15b0:(t133==39)=false:=beq_eq_false_iff_ne.mpr c15;have c15b1:(t133 !=39)=true:=bne_iff_ne.mpr c15;(first|rw[c15b0]|(simp only[vY,xD];rw[c15b0])|skip)
      have H':=K_ H;clear H;go_wp2
      go_meet
      case rel=>exact⟨_,(false),SR,H',⟨by have:=HK1.out;first|omega|exact Nat.le_refl _⟩,⟨RB HO_6.out⟩,⟨BK BK128⟩,⟨BL HB⟩⟩
     clear HC13;try clear c9
     try clear c9b0
     try clear c10
     try clear c10b0
     try clear c10b1
     try clear c11
     try clear c11b0
     try clear c11b1
     obtain⟨kq,x46_12,rfl,HA,HJ12,HO_6,BK128,HB⟩:=hcut;obtain _|kj12:=kq
     ·exact absurd HA.out (by simp[zG.j1])
     have H:=HA.out;clear HA;simp only[zG.j1] at H
     by_cases c20:x46_12=true
     ·subst c20
      rw[if_pos rfl] at H;by_cases c21:x6_1.length<8796093022208
      ·rw[if_pos c21] at H
       have LMc21:=K_ c21;clear c21;obtain⟨y135,hy135⟩:∃ y_:List (S71),y_=(x6_1++[(⟨t133,true,x8_1⟩:S71)]):=⟨_,rfl⟩
       replace H:(zG.l0 kj12 a0 y135 x7_1 (wrap64 (x8_1+2)))=some (r1,r2,r3):=by first|(rw[hy135];with_reducible exact H)|(have H2_:=(Option.bind_some _ _).symm.trans H;rw[hy135];with_reducible exact H2_)|(have H2_:=(Option.bind_some _ _).symm.trans H;with_reducible exact H2_)|with_reducible exact H|(rw[hy135];exact H)|exact H
       have Ny135:=K_ hy135;clear hy135;have H':=K_ H;clear H;go_wp2_with (first|((with_reducible refine jH (b:=.append) (xs:=#[.tmp 47,.tmp 51]) rfl ?_);(try (refine vQ (by rfl) ?_;dsimp only));at_builtin;refine Kd.R_append k71 (w0:=w) w.heap.size rfl (.tmp 47) (.tmp 51) 66 71 (.agg #[(.int .i32 0),(.bool false),(.int .i64 0)]) 16 rfl Tryz.underlying66 zgZ rfl (by decide) (by omega) u6 x6_1 (⟨t133,true,x8_1⟩:S71) [.int .i32 t133,.bool true,.int .i64 x8_1] (fun _=>True) (fun _=>False) rfl rfl ?aP (fun _ hk=>hk.elim) ?aF ?aO ?aB ?aS ?aL ?_;(case aP=>exact zel _ _ _ (⟨t133,true,x8_1⟩:S71));(case aB=>exact (BL HB));(case aF=>exact (fun _ _=>trivial));(case aO=>exact (RB HO_6.out));(case aS=>exact (zQ (BL HB)));(case aL=>have:=LMc21.out;omega);intro v136 w22 ho hb hg hat;rw[←Ny135.out] at ho;replace BK128:=K_ (vC (g:=gb128) (o:=.cells #[.int .i64 0,.int .i64 0] 51 (0,0)) (BK BK128) hg (Kd.R_ne HO_6.out BK128.out (by decide)));replace HB:=K_ (hb);have HO137:=K_ (ho);clear HO_6;clear ho hb hg hat))
       go_roundg kj12
       case measure=>have:=HK1.out;have:=HJ12.out;omega
       case rel=>exact⟨(y135),(x7_1),(wrap64 (x8_1+2)),SR,SR,H',⟨by have:=HK1.out;have:=HJ12.out;omega⟩,⟨RB HO137.out⟩,⟨BK BK128⟩,⟨BL HB⟩⟩
      rw[if_neg c21] at H;exact absurd H (by simp)
     replace c20:=Bool.eq_false_iff.mpr c20;subst c20;rw[if_neg (show ¬ (false=true) by decide)] at H;by_cases c23:t133=39
     ·rw[if_pos c23] at H
      have c23b0:(t133==39)=true:=beq_iff_eq.mpr c23;have c23b1:(t133 !=39)=false:=bne_eq_false_iff_eq.mpr c23;clear c23;by_cases c24:x7_1 ≥ 0
      ·rw[if_pos c24] at H
       have c24b0:decide (0≤x7_1)=true:=decide_eq_true c24;clear c24;have H':=K_ H;clear H;go_wp2
       go_roundg kj12
       case measure=>have:=HK1.out;have:=HJ12.out;omega
       case rel=>exact⟨(x6_1),((-1)),(wrap64 (x8_1+t134)),SR,SR,H',⟨by have:=HK1.out;have:=HJ12.out;omega⟩,⟨RB HO_6.out⟩,⟨BK BK128⟩,⟨BL HB⟩⟩
      rw[if_neg c24] at H;have c24b0:decide (0≤x7_1)=false:=decide_eq_false c24;clear c24;have H':=K_ H;clear H;go_wp2
      go_roundg kj12
      case measure=>have:=HK1.out;have:=HJ12.out;omega
      case rel=>exact⟨(x6_1),(x8_1),(wrap64 (x8_1+t134)),SR,SR,H',⟨by have:=HK1.out;have:=HJ12.out;omega⟩,⟨RB HO_6.out⟩,⟨BK BK128⟩,⟨BL HB⟩⟩
     rw[if_neg c23] at H;have c23b0:(t133==39)=false:=beq_eq_false_iff_ne.mpr c23;have c23b1:(t133 !=39)=true:=bne_iff_ne.mpr c23;by_cases c25:x6_1.length<8796093022208
     ·rw[if_pos c25] at H
      have LMc25:=K_ c25;clear c25;obtain⟨y138,hy138⟩:∃ y_:List (S71),y_=(x6_1++[(⟨t133,decide (x7_1 ≥ 0),x8_1⟩:S71)]):=⟨_,rfl⟩
      replace H:(zG.l0 kj12 a0 y138 x7_1 (wrap64 (x8_1+t134)))=some (r1,r2,r3):=by first|(rw[hy138];with_reducible exact H)|(have H2_:=(Option.bind_some _ _).symm.trans H;rw[hy138];with_reducible exact H2_)|(have H2_:=(Option.bind_some _ _).symm.trans H;with_reducible exact H2_)|with_reducible exact H|(rw[hy138];exact H)|exact H
      have Ny138:=K_ hy138;clear hy138;have H':=K_ H;clear H;go_wp2_with (first|((with_reducible refine jH (b:=.append) (xs:=#[.tmp 60,.tmp 66]) rfl ?_);(try (refine vQ (by rfl) ?_;dsimp only));at_builtin;refine Kd.R_append k71 (w0:=w) w.heap.size rfl (.tmp 60) (.tmp 66) 66 71 (.agg #[(.int .i32 0),(.bool false),(.int .i64 0)]) 16 rfl Tryz.underlying66 zgZ rfl (by decide) (by omega) u6 x6_1 (⟨t133,decide (x7_1 ≥ 0),x8_1⟩:S71) [.int .i32 t133,.bool (decide (x7_1 ≥ 0)),.int .i64 x8_1] (fun _=>True) (fun _=>False) rfl rfl ?aP (fun _ hk=>hk.elim) ?aF ?aO ?aB ?aS ?aL ?_;(case aP=>exact zel _ _ _ (⟨t133,decide (x7_1 ≥ 0),x8_1⟩:S71));(case aB=>exact (BL HB));(case aF=>exact (fun _ _=>trivial));(case aO=>exact (RB HO_6.out));(case aS=>exact (zQ (BL HB)));(case aL=>have:=LMc25.out;omega);intro v139 w26 ho hb hg hat;rw[←Ny138.out] at ho;replace BK128:=K_ (vC (g:=gb128) (o:=.cells #[.int .i64 0,.int .i64 0] 51 (0,0)) (BK BK128) hg (Kd.R_ne HO_6.out BK128.out (by decide)));replace HB:=K_ (hb);have HO140:=K_ (ho);clear HO_6;clear ho hb hg hat))
      go_roundg kj12
      case measure=>have:=HK1.out;have:=HJ12.out;omega
      case rel=>exact⟨(y138),(x7_1),(wrap64 (x8_1+t134)),SR,SR,H',⟨by have:=HK1.out;have:=HJ12.out;omega⟩,⟨RB HO140.out⟩,⟨BK BK128⟩,⟨BL HB⟩⟩
     rw[if_neg c25] at H;exact absurd H (by simp)
    rw[if_neg c11] at H;exact absurd H (by simp)
   rw[if_neg c10] at H;exact absurd H (by simp)
  rw[if_neg c9] at H;have c9b0:decide (x8_1<(a0.size:Int))=false:=decide_eq_false c9;clear c9;by_cases c27:x7_1 ≥ 0
  ·rw[if_pos c27] at H
   have c27b0:decide (0≤x7_1)=true:=decide_eq_true c27;clear c27;simp only[Option.some.injEq,Prod.mk.injEq] at H
   obtain⟨rfl,rfl,rfl⟩:=H;obtain⟨⟨hcz28_0,hcz28_1⟩,hfz28_0,hfz28_1⟩:=ce2 BK128;go_wp2
   refine bodyPost_ret (zby rfl _ _ gb128 51 #[.int .i64 3,.int .i64 x7_1] (0,0) _ rfl (BP BK128) Tryz.underlying51 rfl (by kernel_rfl)) rfl ?_;exact⟨_,ER,by first|exact Kd.R_nil _ _ _ _ _|exact Kd.N_nil _ _ _ _ _|exact Kd.V_nil _ _ _ _ _|exact Kd.Q_nil _ _ _ _ _|exact Kd.S_nil _ _ _ _ _,BL HB⟩
  rw[if_neg c27] at H;have c27b0:decide (0≤x7_1)=false:=decide_eq_false c27;clear c27;by_cases c29:(x6_1.length:Int)>400
  ·rw[if_pos c29] at H
   have c29b0:decide (400<(x6_1.length:Int))=true:=decide_eq_true c29;have c29b1:decide (400<x6_1.length)=true:=decide_eq_true (by omega);clear c29;simp only[Option.some.injEq,Prod.mk.injEq] at H
   obtain⟨rfl,rfl,rfl⟩:=H;obtain⟨Ao30,co30,eo30⟩:=Kd.R_slice HO_6.out;subst eo30;obtain⟨⟨hcz31_0,hcz31_1⟩,hfz31_0,hfz31_1⟩:=ce2 BK128;go_wp2
   refine bodyPost_ret (zby rfl _ _ gb128 51 #[.int .i64 8,.int .i64 0] (0,0) _ rfl (BP BK128) Tryz.underlying51 rfl (by kernel_rfl)) rfl ?_;exact⟨_,ER,by first|exact Kd.R_nil _ _ _ _ _|exact Kd.N_nil _ _ _ _ _|exact Kd.V_nil _ _ _ _ _|exact Kd.Q_nil _ _ _ _ _|exact Kd.S_nil _ _ _ _ _,BL HB⟩
  rw[if_neg c29] at H;have c29b0:decide (400<(x6_1.length:Int))=false:=decide_eq_false c29;have c29b1:decide (400<x6_1.length)=false:=decide_eq_false (by omega);clear c29;simp only[Option.some.injEq,Prod.mk.injEq] at H
  obtain⟨rfl,rfl,rfl⟩:=H;obtain⟨Ao32,co32,eo32⟩:=Kd.R_slice HO_6.out;subst eo32;obtain⟨⟨hcz33_0,hcz33_1⟩,hfz33_0,hfz33_1⟩:=ce2 BK128;go_wp2
  refine bodyPost_ret (zby rfl _ _ gb128 51 #[.int .i64 0,.int .i64 0] (0,0) _ rfl (BP BK128) Tryz.underlying51 rfl (by kernel_rfl)) rfl ?_;exact⟨_,ER,by (with_reducible repeat (first|apply Kd.R_alloc|apply Kd.R_drewN|apply Kd.R_drew));exact Kd.R_mono (Kd.R_far (p:=⟨gb128,1,none⟩) (Kd.R_far (p:=⟨gb128,0,none⟩) (Kd.R_types HO_6.out BK128.out (by decide)) (fun _ hk=>hk.2) (.int .i64 0)) (fun _ hk=>hk.2) (.int .i64 0)) (fun _ hk=>trivial),BL HB⟩
end Go.Proofs.YtcmgdjnjmobkoaaGreatDoor.Px
namespace Go.Proofs.YtcmgdjnjmobkoaaGreatDoor.Px
set_option linter.all false
open Fig Go.RowKit Go.Proofs.YtcmgdjnjmobkoaaGreatDoorW.PrintWords Go.Proofs.YtcmgdjnjmobkoaaGreatDoorW.PrintLast Go.Proofs.YtcmgdjnjmobkoaaGreatDoorW.PrintMore
attribute [local go_sem] vK vL uE uD yS yP vM vJ
section
def zcy (r:Int):Bool:=if 48≤r∧r≤57 then true else r==35||r==64||r==44||r==46||r==59||r==42
theorem zkr (r:Int):yY.f r=some (zcy r):=by
 have key:(if r=35 then (some true) else (if r=64 then (some true) else (if r=44 then (some true) else (if r=46 then (some true) else (if r=59 then (some true) else (some (r==42)))))))=some (r==35||r==64||r==44||r==46||r==59||r==42):=by
  by_cases a:r=35
  ·simp[a]
  by_cases b:r=64
  ·simp[b]
  by_cases c:r=44
  ·simp[c]
  by_cases d:r=46
  ·simp[d]
  by_cases e:r=59
  ·simp[e]
  simp[a,b,c,d,e]
 unfold yY.f zcy;by_cases h1:r ≥ 48
 ·by_cases h2:r≤57
  ·rw[if_pos h1,if_pos h2,if_pos ⟨h1,h2⟩]
  rw[if_pos h1,if_neg h2,key,if_neg (fun h=>h2 h.2)]
 rw[if_neg h1,key,if_neg (fun h=>h1 h.1)]
def zav (r:Int):Int:=if r=45 then 2 else if r=43 then 3 else if r=37 then 4 else if r=8240 then 5 else if r=164 then 6 else 0
theorem zpt (r:Int):qC.f r=some (zav r):=by
 unfold qC.f zav;by_cases a:r=45
 ·simp[a]
 by_cases b:r=43
 ·simp[b]
 by_cases c:r=37
 ·simp[c]
 by_cases d:r=8240
 ·simp[d]
 by_cases e:r=164
 ·simp[e]
 simp[a,b,c,d,e]
def vT (x:S73):Bool:=!x.f1&&(!x.f0.f1&&(zcy x.f0.f0&&(x.f0.f0 !=59&&x.f0.f0 !=42)))
def zaF (x:S73) (r:Int):Bool:=!x.f1&&(!x.f0.f1&&x.f0.f0==r)
set_option maxHeartbeats 1000000 in
theorem zdU (x:S73) (w:World):Calls Tryz.prog 87 #[.agg #[.int .i32 x.f0.f0,.bool x.f0.f1,.int .i64 x.f0.f2,.bool x.f1]] w fun e w'=>e=.returned (.bool (vT x))∧Below w.heap.size w w':=by
 obtain⟨⟨r,q,a⟩,p⟩:=x;have HM:=K_ (zkr r);cases p
 ·cases q
  ·cases hm:zcy r
   ·rw[hm] at HM
    go_enter Tryz.func87,Tryz.ntmps87
    go_wp2_with (go_at_call 114;refine (yY.calls r false _ HM.out).mono ?_;rintro e w' ⟨rfl,⟨nd,rfl⟩⟩)
    go_ret
    exact⟨by simp[vT,hm],BL (K_ (Below.refl _ _))⟩
   rw[hm] at HM;by_cases h1:r=59
   ·have d1:(r !=59)=false:=by simp[h1]
    have H1:=K_ h1;clear h1;go_enter Tryz.func87,Tryz.ntmps87
    go_wp2_with (go_at_call 114;refine (yY.calls r true _ HM.out).mono ?_;rintro e w' ⟨rfl,⟨nd,rfl⟩⟩)
    go_ret
    exact⟨by simp[vT,hm,H1.out],BL (K_ (Below.refl _ _))⟩
   have d1:(r !=59)=true:=by simp[h1]
   have H1:=K_ h1;clear h1;go_enter Tryz.func87,Tryz.ntmps87
   go_wp2_with (go_at_call 114;refine (yY.calls r true _ HM.out).mono ?_;rintro e w' ⟨rfl,⟨nd,rfl⟩⟩)
   go_ret
   exact⟨by simp[vT,hm,H1.out],BL (K_ (Below.refl _ _))⟩
  go_enter Tryz.func87,Tryz.ntmps87
  go_wp2
  go_ret
  exact⟨by simp[vT],BL (K_ (Below.refl _ _))⟩
 go_enter Tryz.func87,Tryz.ntmps87
 go_wp2
 go_ret
 exact⟨by simp[vT],BL (K_ (Below.refl _ _))⟩
set_option maxHeartbeats 1000000 in
theorem zbX (x:S73) (c:Int) (w:World):Calls Tryz.prog 56 #[.agg #[.int .i32 x.f0.f0,.bool x.f0.f1,.int .i64 x.f0.f2,.bool x.f1],.int .i32 c] w fun e w'=>e=.returned (.bool (zaF x c))∧Below w.heap.size w w':=by
 obtain⟨⟨r,q,a⟩,p⟩:=x;cases p
 ·cases q
  ·go_enter Tryz.func56,Tryz.ntmps56
   go_wp2
   go_ret
   exact⟨by simp[zaF],BL (K_ (Below.refl _ _))⟩
  go_enter Tryz.func56,Tryz.ntmps56
  go_wp2
  go_ret
  exact⟨by simp[zaF],BL (K_ (Below.refl _ _))⟩
 go_enter Tryz.func56,Tryz.ntmps56
 go_wp2
 go_ret
 exact⟨by simp[zaF],BL (K_ (Below.refl _ _))⟩
def zbr (t:S71):Option S80:=if t.f1=true then some ⟨1,t.f0⟩ else if zcy t.f0=true then none else if 0<zav t.f0 then some ⟨zav t.f0,0⟩ else some ⟨1,t.f0⟩
def jM (l:List S71):List S80:=l.filterMap zbr
def zbD (l:List S71):Bool:=l.all (fun t=>(zbr t).isSome)&&decide (l.length≤40)
theorem ziw {l:List S71} (h:∀ t∈l,(zbr t).isSome=true):(jM l).length=l.length:=by
 induction l with
 | nil=>rfl
 | cons t l ih =>
  obtain⟨x,hx⟩:=Option.isSome_iff_exists.1 (h t (List.mem_cons_self ..));unfold jM;rw[List.filterMap_cons,hx];show (jM l).length+1=_
  rw[ih (fun t ht=>h t (List.mem_cons_of_mem _ ht))];rfl
theorem znO {l:List S71} {k:Nat} (h:k<l.length):zfv l (k:Int)=l[k]:=by unfold zfv;rw[Int.toNat_natCast,List.getD_eq_getElem?_getD,List.getElem?_eq_getElem h];rfl
theorem ziR {α:Type} {l:List α} {k:Nat} (h:k<l.length):l.take (k+1)=l.take k++[l[k]]:=List.take_succ_eq_append_getElem h
theorem zjS {l:List S71} {k:Nat} (h:k<l.length) {x:S80} (hx:zbr l[k]=some x):jM (l.take (k+1))=jM (l.take k)++[x]:=by
 rw[ziR h];unfold jM;rw[List.filterMap_append,List.filterMap_cons,hx];rfl
theorem zhH (l:List S71) (k:Nat):(jM (l.take k)).length≤k:=by
 unfold jM;refine Nat.le_trans (List.length_filterMap_le ..) ?_;rw[List.length_take];omega
def zmR (l:List S71) (w:World) (e:Ending) (w':World):Prop:=
 ∃ (v:Value) (xs:List S80) (E at_:Int),e=.returned (.tuple #[v,.agg #[.int .i64 E,.int .i64 at_]])∧Kd.R k80 80 w' w.heap.size (fun _=>True) v xs∧Below w.heap.size w w' ∧
  ((E=0∧at_=0∧zbD l=true∧xs=jM l)∨(E≠0∧zbD l=false))
theorem zne {l:List S71} {k:Nat} (h:k<l.length) {x:S80} (hx:zbr l[k]=some x) (ha:∀ t∈l.take k,(zbr t).isSome=true):∀ t∈l.take (k+1),(zbr t).isSome=true:=by
 intro t ht;rw[ziR h,List.mem_append,List.mem_singleton] at ht;rcases ht with ht|rfl
 ·exact ha t ht
 rw[hx];rfl
theorem zlj {l:List S71} {k:Nat} (h:k<l.length) (hx:zbr l[k]=none):zbD l=false:=by
 unfold zbD;rw[Bool.and_eq_false_iff];left;rw[List.all_eq_false];exact⟨l[k],List.getElem_mem h,by rw[hx];simp⟩
theorem zhZ {t:S71} {x:S80} (h:zbr t=some x):(t.f1=true∧x=⟨1,t.f0⟩)∨(t.f1=false∧zcy t.f0=false∧0<zav t.f0∧x=⟨zav t.f0,0⟩)∨(t.f1=false∧zcy t.f0=false∧¬ 0<zav t.f0∧x=⟨1,t.f0⟩):=by
 unfold zbr at h;cases h1:t.f1
 ·rw[h1,if_neg (by decide)] at h
  cases h2:zcy t.f0
  ·rw[h2,if_neg (by decide)] at h
   by_cases h3:0<zav t.f0
   ·rw[if_pos h3] at h;exact .inr (.inl ⟨rfl,rfl,h3,(Option.some.inj h).symm⟩)
   rw[if_neg h3] at h;exact .inr (.inr ⟨rfl,rfl,h3,(Option.some.inj h).symm⟩)
  rw[h2,if_pos rfl] at h;cases h
 rw[h1,if_pos rfl] at h;exact .inl ⟨rfl,(Option.some.inj h).symm⟩
theorem zmF {t:S71} (h:zbr t=none):t.f1=false∧zcy t.f0=true:=by
 unfold zbr at h;cases h1:t.f1
 ·rw[h1,if_neg (by decide)] at h
  cases h2:zcy t.f0
  ·rw[h2,if_neg (by decide)] at h;split at h <;> cases h
  exact⟨rfl,rfl⟩
 rw[h1,if_pos rfl] at h;cases h
theorem zgm (r:Int):0≤zav r∧zav r≤6:=by unfold zav;repeat' split <;> omega
theorem ziB (w:World) (n:Nat) (p:Addr) (v:Value):(w.drewN n).setCell p v=(w.setCell p v).drewN n:=rfl
attribute [local go_sem] ziB
set_option maxHeartbeats 8000000 in
set_option maxRecDepth 100000 in
theorem zhb (A:Option Addr) (c:Nat) (l:List S71) (w:World) (hr:Kd.C k71 w A l.length l) (hc:l.length≤c) (hl:l.length≤100000) :
  Calls Tryz.prog 89 #[.slice A l.length c] w (zmR l w):=by
 have HR:=K_ hr;have HL:=K_ hl;have HB:=K_ (Below.refl w.heap.size w);clear hr hc;go_enter Tryz.func89,Tryz.ntmps89
 go_wp2_with (refine be_ 3 #[.int .i64 0,.int .i64 0] 51 ?_;intro gE hg w2 hbox hb;have BKE:=K_ hbox;have GE:=ge_ hg HB;replace HB:=zF HB hb;clear hb hbox hg)
 go_loopw [4,5] (fun v i wr=>∃ k:Nat,k≤l.length∧i=.int .i64 k∧(∀ t∈l.take k,(zbr t).isSome=true)∧Kd.R k80 80 wr w.heap.size (fun _=>True) v (jM (l.take k))∧wr.heap[gE]?=some (.cells #[.int .i64 0,.int .i64 0] 51 (0,0))∧Below w.heap.size w wr) (fun _ i _=>l.length-(intOf i).toNat)
 case atStart=>exact⟨0,by omega,rfl,by simp,Kd.R_nil _ _ _ _ _,BKE.out,HB.out⟩
 case round =>
  obtain⟨k,hk,rfl,ha,ho,hbe,hb⟩:=hrel;have HA:=K_ ha;have HO:=K_ ho;have BKE2:=K_ hbe;have HB2:=K_ hb;clear ha ho hbe hb BKE HB;by_cases hlt:k<l.length
  ·obtain⟨t,ht⟩:∃ t,t=l[k]:=⟨_,rfl⟩
   obtain⟨ad,ea,h0,h1,h2⟩:=zjt (Kd.C_below HR.out HB2.out) (k:Int) (by omega) (by omega);rw[znO hlt,←ht] at h0 h1 h2;simp only[Int.toNat_natCast] at h0 h1 h2
   subst ea;have HT:=K_ ht;have hlen:=zhH l k;have HM:=K_ (zkr t.f0);have HSg:=K_ (zpt t.f0);have hll:=HL.out;have HLL:=K_ (show ((jM (l.take k)).length+1) * 16≤140737488355328 by omega);clear ht
   cases hx:zbr t with
   | none =>
    obtain⟨hq,hm⟩:=zmF hx;rw[hm] at HM;rw[hq] at h1;have HX:=K_ (zlj hlt (by rw[←HT.out];exact hx));have a1:∀ o:Obj,(wr.alloc o).cell? ⟨(ad.add (k * 3)).block,(ad.add (k * 3)).off+1,none⟩=some (.bool false):=fun o=>(World.cell?_alloc_lt _ _ _ (World.block_lt_of_cell? _ _ h1)).trans h1
    have a2:∀ o:Obj,(wr.alloc o).cell? ⟨(ad.add (k * 3)).block,(ad.add (k * 3)).off+2,none⟩=some (.int .i64 t.f2):=fun o=>(World.cell?_alloc_lt _ _ _ (World.block_lt_of_cell? _ _ h2)).trans h2
    clear hx hq hm;go_wp2_with (go_at_call 114;refine (yY.calls t.f0 true _ HM.out).mono ?_;rintro e w' ⟨rfl,⟨nd,rfl⟩⟩)
    generalize hW:World.drewN (World.alloc wr _) nd=W
    have c2:W.cell? ⟨(ad.add (k * 3)).block,(ad.add (k * 3)).off+2,none⟩=some (.int .i64 t.f2):=by rw[←hW];exact a2 _
    have BKW:Aside0 (W.heap[gE]?=some (.cells #[.int .i64 0,.int .i64 0] 51 (0,0))):=⟨by rw[←hW];exact BK BKE2⟩
    have HBW:Aside0 (Below w.heap.size w W):=⟨by rw[←hW];exact BL HB2⟩
    obtain⟨⟨e0,e1⟩,f0,f1⟩:=ce2 BKW;have hlt2:(k:Int)<(l.length:Int):=by omega
    have hk0:(0:Int)≤(k:Int):=by omega
    clear a1 a2 h0 h1 h2 hW;go_region
    all_goals
     go_wp2
     refine bodyPost_ret (zby rfl _ _ gE 51 #[.int .i64 4,.int .i64 t.f2] (0,0) _ rfl (BP BKW) Tryz.underlying51 rfl (by kernel_rfl)) rfl ?_
     exact⟨_,[],4,t.f2,rfl,Kd.R_nil _ _ _ _ _,BL HBW,.inr ⟨by decide,HX.out⟩⟩
   | some x =>
    have HX:=K_ (zjS hlt (x:=x) (by rw[←HT.out];exact hx));have HA2:=K_ (zne hlt (x:=x) (by rw[←HT.out];exact hx) HA.out);have a0:∀ o:Obj,(wr.alloc o).cell? (ad.add (k * 3))=some (.int .i32 t.f0):=fun o=>(World.cell?_alloc_lt _ _ _ (World.block_lt_of_cell? _ _ h0)).trans h0
    have a1:∀ o:Obj,(wr.alloc o).cell? ⟨(ad.add (k * 3)).block,(ad.add (k * 3)).off+1,none⟩=some (.bool t.f1):=fun o=>(World.cell?_alloc_lt _ _ _ (World.block_lt_of_cell? _ _ h1)).trans h1
    obtain⟨A4,c4,rfl⟩:=Kd.R_slice HO.out;have HNE:=K_ (Kd.R_ne HO.out BKE2.out (by decide));rcases zhZ hx with ⟨hq,hxx⟩|⟨hq,hm,hs,hxx⟩|⟨hq,hm,hs,hxx⟩
    ·rw[hq] at h1 a1
     subst hxx;clear hx hq;go_wp2_with (first
      | (go_at_call 114;refine (yY.calls t.f0 false _ HM.out).mono ?_;rintro e w' ⟨rfl,⟨nd,rfl⟩⟩)
      | (go_at_call 115;refine (qC.calls t.f0 (zav t.f0) _ HSg.out).mono ?_;rintro e w' ⟨rfl,⟨nd2,rfl⟩⟩)
      | ((with_reducible refine jH (b:=.append) (xs:=#[.tmp 42,.tmp 44]) rfl ?_);at_builtin;(refine Kd.R_append k80 (w0:=w) w.heap.size rfl (.tmp 42) (.tmp 44) 24 80 (.agg #[(.int .i64 0),(.int .i32 0)]) 16 rfl Tryz.underlying24 zfb rfl (by decide) (by omega) (.slice A4 (jM (l.take k)).length c4) (jM (l.take k)) (⟨1,t.f0⟩:S80) [.int .i64 (⟨1,t.f0⟩:S80).f0,.int .i32 (⟨1,t.f0⟩:S80).f1] (fun _=>True) (fun _=>False) rfl (by first|(go_simp;done)|(go_simp;rfl)) (zep _ _ _ (⟨1,t.f0⟩:S80)) (fun _ hk=>hk.elim) (fun _ _=>trivial) ?aO ?aB ?aS ?aL ?_;(case aO=>exact RB HO.out);(case aB=>exact BL HB2);(case aS=>exact zQ (BL HB2));(case aL=>exact HLL.out);intro v1 w5 ho2 hb2 hg2 hat2;rw[←HX.out] at ho2;have HO3:=K_ ho2;have HB3:=K_ hb2;have BKE3:=K_ (vC (BK BKE2) hg2 HNE.out);clear ho2 hb2 hg2 hat2)))
     go_roundw
     case rel=>exact⟨k+1,by omega,by go_num,HA2.out,HO3.out,BKE3.out,HB3.out⟩
     case measure=>simp[intOf];omega
    ·rw[hq] at h1 a1
     rw[hm] at HM;have hs6:=zgm t.f0;subst hxx;clear hx hq hm;go_wp2_with (first
      | (go_at_call 114;refine (yY.calls t.f0 false _ HM.out).mono ?_;rintro e w' ⟨rfl,⟨nd,rfl⟩⟩)
      | (go_at_call 115;refine (qC.calls t.f0 (zav t.f0) _ HSg.out).mono ?_;rintro e w' ⟨rfl,⟨nd2,rfl⟩⟩)
      | ((with_reducible refine jH (b:=.append) (xs:=#[.tmp 42,.tmp 44]) rfl ?_);at_builtin;(refine Kd.R_append k80 (w0:=w) w.heap.size rfl (.tmp 42) (.tmp 44) 24 80 (.agg #[(.int .i64 0),(.int .i32 0)]) 16 rfl Tryz.underlying24 zfb rfl (by decide) (by omega) (.slice A4 (jM (l.take k)).length c4) (jM (l.take k)) (⟨zav t.f0,0⟩:S80) [.int .i64 (⟨zav t.f0,0⟩:S80).f0,.int .i32 (⟨zav t.f0,0⟩:S80).f1] (fun _=>True) (fun _=>False) rfl (by first|(go_simp;done)|(go_simp;rfl)) (zep _ _ _ (⟨zav t.f0,0⟩:S80)) (fun _ hk=>hk.elim) (fun _ _=>trivial) ?aO ?aB ?aS ?aL ?_;(case aO=>exact RB HO.out);(case aB=>exact BL HB2);(case aS=>exact zQ (BL HB2));(case aL=>exact HLL.out);intro v1 w5 ho2 hb2 hg2 hat2;rw[←HX.out] at ho2;have HO3:=K_ ho2;have HB3:=K_ hb2;have BKE3:=K_ (vC (BK BKE2) hg2 HNE.out);clear ho2 hb2 hg2 hat2)))
     go_roundw
     case rel=>exact⟨k+1,by omega,by go_num,HA2.out,HO3.out,BKE3.out,HB3.out⟩
     case measure=>simp[intOf];omega
    rw[hq] at h1 a1;rw[hm] at HM;have hs6:=zgm t.f0;have hs0:¬ zav t.f0>0:=hs;subst hxx;clear hx hq hm hs;go_wp2_with (first
     | (go_at_call 114;refine (yY.calls t.f0 false _ HM.out).mono ?_;rintro e w' ⟨rfl,⟨nd,rfl⟩⟩)
     | (go_at_call 115;refine (qC.calls t.f0 (zav t.f0) _ HSg.out).mono ?_;rintro e w' ⟨rfl,⟨nd2,rfl⟩⟩)
     | ((with_reducible refine jH (b:=.append) (xs:=#[.tmp 42,.tmp 44]) rfl ?_);at_builtin;(refine Kd.R_append k80 (w0:=w) w.heap.size rfl (.tmp 42) (.tmp 44) 24 80 (.agg #[(.int .i64 0),(.int .i32 0)]) 16 rfl Tryz.underlying24 zfb rfl (by decide) (by omega) (.slice A4 (jM (l.take k)).length c4) (jM (l.take k)) (⟨1,t.f0⟩:S80) [.int .i64 (⟨1,t.f0⟩:S80).f0,.int .i32 (⟨1,t.f0⟩:S80).f1] (fun _=>True) (fun _=>False) rfl (by first|(go_simp;done)|(go_simp;rfl)) (zep _ _ _ (⟨1,t.f0⟩:S80)) (fun _ hk=>hk.elim) (fun _ _=>trivial) ?aO ?aB ?aS ?aL ?_;(case aO=>exact RB HO.out);(case aB=>exact BL HB2);(case aS=>exact zQ (BL HB2));(case aL=>exact HLL.out);intro v1 w5 ho2 hb2 hg2 hat2;rw[←HX.out] at ho2;have HO3:=K_ ho2;have HB3:=K_ hb2;have BKE3:=K_ (vC (BK BKE2) hg2 HNE.out);clear ho2 hb2 hg2 hat2)))
    go_roundw
    case rel=>exact⟨k+1,by omega,by go_num,HA2.out,HO3.out,BKE3.out,HB3.out⟩
    case measure=>simp[intOf];omega
  obtain rfl:k=l.length:=by omega
  have HLN:=K_ (ziw (l:=l) (fun t ht=>HA.out t (by rw[List.take_length];exact ht)));have hta:l.take l.length=l:=List.take_length ..;rw[hta] at HO;obtain⟨A4,c4,rfl⟩:=Kd.R_slice HO.out;have HNE:=K_ (Kd.R_ne HO.out BKE2.out (by decide));have hll:=HL.out;have hle:(jM l).length≤100000:=by rw[HLN.out];exact hll
  obtain⟨⟨he0,he1⟩,hf0,hf1⟩:=ce2 BKE2;by_cases h40:(jM l).length>40
  ·have HNO:=K_ (show zbD l=false by unfold zbD;rw[Bool.and_eq_false_iff];right;rw[HLN.out] at h40;exact decide_eq_false (by omega))
   go_wp2
   refine bodyPost_ret (zby rfl _ _ gE 51 #[.int .i64 8,.int .i64 0] (0,0) _ rfl (BP BKE2) Tryz.underlying51 rfl (by kernel_rfl)) rfl ?_;exact⟨_,[],8,0,rfl,Kd.R_nil _ _ _ _ _,BL HB2,.inr ⟨by decide,HNO.out⟩⟩
  have HYE:=K_ (show zbD l=true by
   unfold zbD;rw[Bool.and_eq_true];rw[HLN.out] at h40;exact⟨List.all_eq_true.2 (fun t ht=>HA.out t (by rw[List.take_length];exact ht)),decide_eq_true (by omega)⟩)
  go_wp2
  refine bodyPost_ret (zby rfl _ _ gE 51 #[.int .i64 0,.int .i64 0] (0,0) _ rfl (BP BKE2) Tryz.underlying51 rfl (by kernel_rfl)) rfl ?_;exact⟨_,jM l,0,0,rfl,Kd.R_mono (Kd.R_far (Kd.R_far (Kd.R_far1 HO.out rfl HNE.out) (fun _ hk=>hk.2) _) (fun _ hk=>hk.2) _) (fun _ _=>trivial),BL HB2,.inl ⟨rfl,rfl,HYE.out,rfl⟩⟩
end
def xC (f:S73→Bool) (l:List S73) (i:Nat):Nat:=i+((l.drop i).takeWhile f).length
theorem zfe {f:S73→Bool} {l:List S73} {i:Nat} (h:i<l.length) (hf:f l[i]=false):xC f l i=i:=by
 unfold xC;rw[List.drop_eq_getElem_cons h,List.takeWhile_cons,hf];rfl
theorem zho {f:S73→Bool} {l:List S73} {i:Nat} (h:i<l.length) (hf:f l[i]=true):xC f l i=xC f l (i+1):=by
 unfold xC;rw[List.drop_eq_getElem_cons h,List.takeWhile_cons,hf,if_pos rfl,List.length_cons];omega
theorem zjP {f:S73→Bool} {l:List S73} {i:Nat} (h:l.length≤i):xC f l i=i:=by
 unfold xC;rw[List.drop_of_length_le h];rfl
theorem zkS (f:S73→Bool) (l:List S73) (i:Nat):i≤xC f l i:=Nat.le_add_right _ _
theorem zfC (f:S73→Bool) (l:List S73) {i:Nat} (h:i≤l.length):xC f l i≤l.length:=by
 unfold xC;have:=(List.takeWhile_sublist f (l:=l.drop i)).length_le;rw[List.length_drop] at this;omega
theorem zfL (f:S73→Bool) (l:List S73) (i:Nat):∀ j,i≤j→j<xC f l i→∀ h:j<l.length,f l[j]=true:=by
 intro j hj hj2 h;by_cases hf:f (l[i]'(by omega))=true
 ·by_cases he:j=i
  ·subst he;exact hf
  rw[zho (by omega) hf] at hj2;exact zfL f l (i+1) j (by omega) hj2 h
 rw[zfe (by omega) (by simpa using hf)] at hj2;omega
termination_by l.length-i
def qK (l:List S73):Nat:=xC (fun x=>!vT x) l 0
def atS (l:List S73) (i:Nat) (r:Int):Bool:=match l[i]? with|some x=>zaF x r|none=>false
theorem zgX {l:List S73} {i:Nat} (h:i<l.length) (r:Int):atS l i r=zaF l[i] r:=by unfold atS;rw[List.getElem?_eq_getElem h]
theorem zek {l:List S73} {i:Nat} (h:l.length≤i) (r:Int):atS l i r=false:=by unfold atS;rw[List.getElem?_eq_none h]
def zfy (l:List S73) (e:Nat):Nat:=if atS l e 69=true then xC vT l (if atS l (e+1) 43=true then e+2 else e+1) else e
def qF (l:List S73):Nat:=zfy l (xC vT l (qK l))
def zgp (x:S73):Bool:=!x.f1&&(decide (0≤x.f0.f0)&&decide (x.f0.f0<128))
theorem zgx {x:S73} (h:vT x=true):zgp x=true:=by
 unfold vT zcy at h;unfold zgp;simp only[Bool.and_eq_true,Bool.not_eq_true'] at h ⊢
 obtain⟨h1,h2,h3,h4,h5⟩:=h;refine⟨h1,?_⟩;rw[decide_eq_true_iff,decide_eq_true_iff];split at h3
 ·omega
 simp only[Bool.or_eq_true,beq_iff_eq] at h3;omega
theorem ziq {x:S73} {r:Int} (h0:0≤r) (h1:r<128) (h:zaF x r=true):zgp x=true:=by
 unfold zaF at h;unfold zgp;simp only[Bool.and_eq_true,Bool.not_eq_true',beq_iff_eq] at h ⊢
 rw[decide_eq_true_iff,decide_eq_true_iff];exact⟨h.1,by omega,by omega⟩
theorem zpg (l:List S73) (e:Nat):e≤zfy l e:=by
 unfold zfy;split
 ·refine Nat.le_trans ?_ (zkS _ _ _);split <;> omega
 exact Nat.le_refl _
theorem zjd (l:List S73):∀ j,qK l≤j→j<qF l→∀ h:j<l.length,zgp l[j]=true:=by
 intro j hj hj2 h;by_cases h1:j<xC vT l (qK l)
 ·exact zgx (zfL _ _ _ j hj h1 h)
 obtain⟨e,he⟩:∃ e,e=xC vT l (qK l):=⟨_,rfl⟩
 unfold qF at hj2;rw[←he] at h1 hj2;unfold zfy at hj2;split at hj2
 ·rename_i h69
  by_cases h2:j=e
  ·subst h2;rw[zgX h] at h69;exact ziq (by decide) (by decide) h69
  split at hj2
  ·rename_i h43
   by_cases h3:j=e+1
   ·subst h3;rw[zgX h] at h43;exact ziq (by decide) (by decide) h43
   exact zgx (zfL _ _ _ j (by omega) hj2 h)
  exact zgx (zfL _ _ _ j (by omega) hj2 h)
 omega
theorem zpl (l:List S73):qF l≤l.length:=by
 have h1:qK l≤l.length:=zfC _ _ (Nat.zero_le _);have h2:xC vT l (qK l)≤l.length:=zfC _ _ h1;unfold qF zfy;split
 ·rename_i h69
  have h3:xC vT l (qK l)<l.length:=by
   apply Decidable.byContradiction;intro h;rw[zek (by omega)] at h69;cases h69
  split
  ·rename_i h43
   have h4:xC vT l (qK l)+1<l.length:=by
    apply Decidable.byContradiction;intro h;rw[zek (by omega)] at h43;cases h43
   exact zfC _ _ (by omega)
  exact zfC _ _ (by omega)
 exact h2
theorem zpB (l:List S73):qK l≤qF l:=Nat.le_trans (zkS _ _ _) (zpg _ _)
def uO (l:List S73) (n k:Nat):List S71:=((l.take (min k n)).filter (fun x=>!x.f1)).map (·.f0)
def uN (l:List S73) (e k:Nat):List S71:=(((l.take k).drop e).filter (fun x=>!x.f1)).map (·.f0)
def zbk (l:List S73) (n e k:Nat):ByteArray:=⟨(((l.take (min k e)).drop n).map (fun x=>UInt8.ofNat x.f0.f0.toNat)).toArray⟩
theorem zcU {l:List S73} {k:Nat} (h:k<l.length):zei l (k:Int)=l[k]:=by unfold zei;rw[Int.toNat_natCast,List.getD_eq_getElem?_getD,List.getElem?_eq_getElem h];rfl
def zaq (l:List S73) (P:jZ):Prop:=
 qK l<l.length∧zbD (uO l (qK l) l.length)=true∧vI (zbk l (qK l) (qF l) l.length)=some P∧zbD (uN l (qF l) l.length)=true
def qE (v1 v2:Value) (P:jZ) (at_ pad long:Int):Array Value:=#[v1,v2,.slice none 0 0,.slice none 0 0,.bool false,.slice none 0 0,.slice none 0 0,.int .i64 P.mi,.int .i64 P.xi,.int .i64 P.mf,.int .i64 P.xf,.int .i64 P.ms,.int .i64 P.xs,.int .i64 P.pr,.int .i64 P.se,.string P.inc,.bool P.sci,.int .i64 P.me,.bool P.pe,.int .i64 0,.int .i32 0,.int .i64 0,.int .i64 at_,.int .i32 pad,.int .i64 long]
def zna (l:List S73) (w:World) (e:Ending) (w':World):Prop:=
 ∃ (v1 v2:Value) (xs ys:List S80) (P:jZ) (at_ pad long E a:Int),e=.returned (.tuple #[.agg (qE v1 v2 P at_ pad long),.agg #[.int .i64 E,.int .i64 a]]) ∧
  Kd.R k80 80 w' w.heap.size (fun _=>True) v1 xs∧Kd.R k80 80 w' w.heap.size (fun _=>True) v2 ys∧Below w.heap.size w w' ∧
  (E=0→zaq l P∧xs=jM (uO l (qK l) l.length)∧ys=jM (uN l (qF l) l.length)) ∧
  ((∀ x∈l,x.f1=false)→(∃ P,zaq l P)→E=0)
def zaP (l:List S73) (i:Nat):Bool:=match l[i]? with|some x=>vT x|none=>false
theorem zdM {l:List S73} {i:Nat} (h:i<l.length):zaP l i=vT l[i]:=by unfold zaP;rw[List.getElem?_eq_getElem h]
theorem zeF {l:List S73} {i:Nat} (h:l.length≤i):zaP l i=false:=by unfold zaP;rw[List.getElem?_eq_none h]
theorem zfo {l:List S73} {i:Nat} (h:zaP l i=true):i<l.length:=by
 apply Decidable.byContradiction;intro h2;rw[zeF (by omega)] at h;cases h
theorem zmV {l:List S73} {i:Nat} {r:Int} (h:atS l i r=true):i<l.length:=by
 apply Decidable.byContradiction;intro h2;rw[zek (by omega)] at h;cases h
theorem zkz {l:List S73} {i:Nat} (h:zaP l i=true):xC vT l i=xC vT l (i+1):=zho (zfo h) (by rw[←zdM];exact h)
theorem zmI {l:List S73} {i:Nat} (h:zaP l i=false):xC vT l i=i:=by
 by_cases hl:i<l.length
 ·exact zfe hl (by rw[←zdM];exact h)
 exact zjP (by omega)
theorem zbZ:(Tryz.prog.info? 76).map (·.size)=some 25:=by kernel_rfl
theorem qD:(Tryz.prog.info? 51).map (·.size)=some 2:=by kernel_rfl
theorem jX:(Tryz.prog.info? 26).map (·.size)=some 20:=by kernel_rfl
abbrev Z76:Array Value:=(qE (.slice none 0 0) (.slice none 0 0) jQ 0 0 0)
abbrev Z51:Array Value:=#[Value.int .i64 0,Value.int .i64 0]
theorem zpc {l:List S73} {n j:Nat} (h:j<l.length):uO l n (j+1)=if j<n∧(l[j]).f1=false then uO l n j++[(l[j]).f0] else uO l n j:=by
 unfold uO;by_cases hn:j<n
 ·rw[show min (j+1) n=j+1 by omega,show min j n=j by omega,List.take_succ_eq_append_getElem h,List.filter_append,List.map_append]
  cases hp:(l[j]).f1
  ·rw[if_pos ⟨hn,rfl⟩];simp[hp]
  rw[if_neg (by simp)];simp[hp]
 rw[show min (j+1) n=min j n by omega,if_neg (by omega)]
theorem zoA {l:List S73} {e j:Nat} (h:j<l.length):uN l e (j+1)=if e≤j∧(l[j]).f1=false then uN l e j++[(l[j]).f0] else uN l e j:=by
 unfold uN;by_cases hn:e≤j
 ·rw[List.take_succ_eq_append_getElem h,List.drop_append_of_le_length (by rw[List.length_take];omega),List.filter_append,List.map_append]
  cases hp:(l[j]).f1
  ·rw[if_pos ⟨hn,rfl⟩];simp[hp]
  rw[if_neg (by simp)];simp[hp]
 rw[List.drop_of_length_le (by rw[List.length_take];omega),List.drop_of_length_le (by rw[List.length_take];omega),if_neg (by omega)]
theorem zoQ {l:List S73} {n e j:Nat} (h:j<l.length):zbk l n e (j+1)=if n≤j∧j<e then zbk l n e j++⟨#[UInt8.ofNat (l[j]).f0.f0.toNat]⟩ else zbk l n e j:=by
 unfold zbk;by_cases he:j<e
 ·rw[show min (j+1) e=j+1 by omega,show min j e=j by omega,List.take_succ_eq_append_getElem h]
  by_cases hn:n≤j
  ·rw[if_pos ⟨hn,he⟩,List.drop_append_of_le_length (by rw[List.length_take];omega),List.map_append]
   apply xN;simp
  rw[if_neg (by omega),List.drop_of_length_le (by rw[List.length_append,List.length_take];simp;omega),List.drop_of_length_le (by rw[List.length_take];omega)]
 rw[show min (j+1) e=min j e by omega,if_neg (by omega)]
theorem zjK {l:List S73} {e j:Nat} (h:j≤e):uN l e j=[]:=by
 unfold uN;rw[List.drop_of_length_le (by rw[List.length_take];omega)];rfl
theorem zfI (l:List S73) (n j:Nat):(uO l n j).length≤j:=by
 unfold uO;rw[List.length_map];refine Nat.le_trans (List.length_filter_le _ _) ?_;rw[List.length_take];omega
theorem zfD (l:List S73) (e j:Nat):(uN l e j).length≤j:=by
 unfold uN;rw[List.length_map];refine Nat.le_trans (List.length_filter_le _ _) ?_;rw[List.length_drop,List.length_take];omega
theorem zkL (l:List S73) (n e j:Nat):(zbk l n e j).size≤j:=by
 rw[zR];show ((((l.take (min j e)).drop n).map _).toArray.toList).length≤j;rw[List.length_map,List.length_drop,List.length_take];omega
theorem zfp {r:Int} (h0:0≤r) (h1:r<128):vD.f r=some [r]:=by
 unfold vD.f;have hw:wrap64 r=r:=by unfold wrap64;omega
 rw[hw,if_pos h1];rw[Int.emod_eq_of_lt h0 (by omega)]
theorem zjg {x:S73} (h:zgp x=true):x.f1=false∧0≤x.f0.f0∧x.f0.f0<128:=by
 unfold zgp at h;simp only[Bool.and_eq_true,Bool.not_eq_true',decide_eq_true_iff] at h
 exact⟨h.1,h.2.1,h.2.2⟩
theorem zmn (l:List S73) (n e:Nat):zbk l n e 0=⟨#[]⟩:=by
 apply xN;unfold zbk;rw[Nat.zero_min,List.take_zero];simp
theorem zma (l:List S73) (n:Nat):uO l n 0=[]:=by unfold uO;simp
theorem zlo (a:Int):∃ b,uB.f a=some b:=by
 unfold uB.f;repeat' split
 all_goals exact⟨_,rfl⟩
theorem zmO (a:Int):∃ l,vD.f a=some l:=by
 unfold vD.f;repeat' split
 all_goals exact⟨_,rfl⟩
def zgD (s:ByteArray) (r:Int×Int):Prop:=r=(0,0)∨∃ bs,vD.f r.1=some bs∧(strOfNums bs).toList=(s.extract 0 r.2.toNat).toList
theorem zni (s:ByteArray) (x5:Nat) (h5:x5≤s.size) (h4:x5≤4):∀ (m:Nat) (x4:Int) (x6:Nat),x5-x6=m→∃ r:Int×Int,Ev (fun k=>zD.l0 k s x4 (x5:Int) (x6:Int)) r∧0≤r.2∧r.2≤x5∧zgD s r:=by
 intro m
 induction m with
 | zero =>
  intro x4 x6 hm;obtain⟨b,hb⟩:=zlo (wrap32 x4);obtain⟨bs,hbs⟩:=zmO (wrap32 x4);have hx:¬ ((x6:Int)<(x5:Int)):=by omega
  have h50:(0:Int)≤(x5:Int):=by omega
  have h51:(x5:Int)≤(s.size:Int):=by omega
  cases b
  ·exact⟨(0,0),Ev.step (f:=fun _=>some (0,0)) (fun k=>by rw[zD.l0,if_neg hx,hb];rfl) (Ev.now _),Int.le_refl _,h50,.inl rfl⟩
  by_cases e:(strOfNums bs).toList=(s.extract 0 (x5:Int).toNat).toList
  ·exact⟨(wrap32 x4,x5),Ev.step (f:=fun _=>some (wrap32 x4,(x5:Int))) (fun k=>by rw[zD.l0,if_neg hx,hb,Option.bind_some,if_pos rfl,hbs,Option.bind_some,if_pos h50,if_pos h51,if_pos e]) (Ev.now _),h50,Int.le_refl _,.inr ⟨bs,hbs,e⟩⟩
  exact⟨(0,0),Ev.step (f:=fun _=>some (0,0)) (fun k=>by rw[zD.l0,if_neg hx,hb,Option.bind_some,if_pos rfl,hbs,Option.bind_some,if_pos h50,if_pos h51,if_neg e]) (Ev.now _),Int.le_refl _,h50,.inl rfl⟩
 | succ m ih =>
  intro x4 x6 hm;have hx:(x6:Int)<(x5:Int):=by omega
  have h60:(0:Int)≤(x6:Int):=by omega
  have h61:(x6:Int)<(s.size:Int):=by omega
  have h50:(0:Int)≤(x5:Int):=by omega
  by_cases b1:bt s (x6:Int)<128
  ·exact⟨(0,0),Ev.step (f:=fun _=>some (0,0)) (fun k=>by rw[zD.l0,if_pos hx,if_pos h60,if_pos h61,if_pos b1]) (Ev.now _),Int.le_refl _,h50,.inl rfl⟩
  by_cases b2:bt s (x6:Int)>191
  ·exact⟨(0,0),Ev.step (f:=fun _=>some (0,0)) (fun k=>by rw[zD.l0,if_pos hx,if_pos h60,if_pos h61,if_neg b1,if_pos b2]) (Ev.now _),Int.le_refl _,h50,.inl rfl⟩
  obtain⟨r,hr,h0,h1,hF⟩:=ih (wrap64 ((wrap64 ((wrap64 (x4 * 64))+(wrap64 (bt s (x6:Int)))))-128)) (x6+1) (by omega);refine⟨r,Ev.step (fun k=>?_) hr,h0,h1,hF⟩;rw[zD.l0,if_pos hx,if_pos h60,if_pos h61,if_neg b1,if_neg b2,xU x6 (by omega)]
theorem zeA (s:ByteArray) (x4:Int) (x5:Nat) (h4:x5≤4):∃ r:Int×Int,Ev (fun k=>zD.j2 k s x4 (x5:Int)) r∧0≤r.2∧r.2≤s.size∧zgD s r:=by
 by_cases h:(s.size:Int)<(x5:Int)
 ·exact⟨(0,0),Ev.step (f:=fun _=>some (0,0)) (fun k=>by rw[zD.j2,if_pos h]) (Ev.now _),Int.le_refl _,by show (0:Int)≤s.size;omega,.inl rfl⟩
 obtain⟨r,hr,h0,h1,hF⟩:=zni s x5 (by omega) h4 _ x4 1 rfl;exact⟨r,Ev.step (fun k=>by rw[zD.j2,if_neg h];rfl) hr,h0,by omega,hF⟩
theorem ziU (s:ByteArray) (x4:Int) (b:Bool):∃ r:Int×Int,Ev (fun k=>zD.j1 k s x4 b) r∧0≤r.2∧r.2≤s.size∧zgD s r:=by
 have hz:(0:Int)≤s.size:=by omega
 cases b
 ·by_cases h1:x4 ≥ 240
  ·by_cases h2:x4<248
   ·obtain⟨r,hr,h0,h3,hF⟩:=zeA s (wrap64 (x4-240)) 4 (by decide)
    exact⟨r,Ev.step (fun k=>by rw[zD.j1,if_neg (by decide),if_pos h1,if_pos h2];rfl) hr,h0,h3,hF⟩
   exact⟨(0,0),Ev.step (f:=fun _=>some (0,0)) (fun k=>by rw[zD.j1,if_neg (by decide),if_pos h1,if_neg h2]) (Ev.now _),Int.le_refl _,hz,.inl rfl⟩
  exact⟨(0,0),Ev.step (f:=fun _=>some (0,0)) (fun k=>by rw[zD.j1,if_neg (by decide),if_neg h1]) (Ev.now _),Int.le_refl _,hz,.inl rfl⟩
 obtain⟨r,hr,h0,h3,hF⟩:=zeA s (wrap64 (x4-224)) 3 (by decide);exact⟨r,Ev.step (fun k=>by rw[zD.j1,if_pos rfl];rfl) hr,h0,h3,hF⟩
theorem ziJ (s:ByteArray) (x4:Int) (b:Bool):∃ r:Int×Int,Ev (fun k=>zD.j0 k s x4 b) r∧0≤r.2∧r.2≤s.size∧zgD s r:=by
 cases b
 ·by_cases h1:x4 ≥ 224
  ·obtain⟨r,hr,h0,h3,hF⟩:=ziU s x4 (decide (x4<240))
   exact⟨r,Ev.step (fun k=>by rw[zD.j0,if_neg (by decide),if_pos h1]) hr,h0,h3,hF⟩
  obtain⟨r,hr,h0,h3,hF⟩:=ziU s x4 false;exact⟨r,Ev.step (fun k=>by rw[zD.j0,if_neg (by decide),if_neg h1]) hr,h0,h3,hF⟩
 obtain⟨r,hr,h0,h3,hF⟩:=zeA s (wrap64 (x4-192)) 2 (by decide);exact⟨r,Ev.step (fun k=>by rw[zD.j0,if_pos rfl];rfl) hr,h0,h3,hF⟩
theorem zip (s:ByteArray):∃ r:Int×Int,Ev (fun k=>zD.f k s) r∧0≤r.2∧r.2≤s.size∧zgD s r:=by
 have hz:(0:Int)≤s.size:=by omega
 unfold zD.f;by_cases h:s.toList=([]:List UInt8)
 ·exact⟨(0,0),⟨0,fun k _=>by dsimp only;rw[if_pos h]⟩,Int.le_refl _,hz,.inl rfl⟩
 by_cases hp:0<(s.size:Int)
 ·by_cases h1:(wrap64 (bt s 0))<128
  ·obtain⟨r,⟨K,hr⟩,h0,h3,hF⟩:=zeA s (wrap64 (bt s 0)) 1 (by decide)
   exact⟨r,⟨K,fun k hk=>by dsimp only;rw[if_neg h,if_pos hp,if_pos h1];exact hr k hk⟩,h0,h3,hF⟩
  by_cases h2:(wrap64 (bt s 0)) ≥ 192
  ·obtain⟨r,⟨K,hr⟩,h0,h3,hF⟩:=ziJ s (wrap64 (bt s 0)) (decide ((wrap64 (bt s 0))<224))
   exact⟨r,⟨K,fun k hk=>by dsimp only;rw[if_neg h,if_pos hp,if_neg h1,if_pos h2];exact hr k hk⟩,h0,h3,hF⟩
  obtain⟨r,⟨K,hr⟩,h0,h3,hF⟩:=ziJ s (wrap64 (bt s 0)) false;exact⟨r,⟨K,fun k hk=>by dsimp only;rw[if_neg h,if_pos hp,if_neg h1,if_neg h2];exact hr k hk⟩,h0,h3,hF⟩
 exfalso;apply h;rw[ByteArray.toList_eq];exact List.eq_nil_of_length_eq_zero (by rw[←zR];omega)
theorem zlO (s:ByteArray) (hs:s.size≤1048576):∀ (m:Nat) (x4:List Int) (x5:Nat),s.size-x5≤m→x5≤s.size→x4.length≤x5→∃ r:List Int×Int,Ev (fun k=>zP.l0 k s x4 (x5:Int)) r∧(r.2=-1∨0≤r.2):=by
 intro m
 induction m with
 | zero =>
  intro x4 x5 hm h5 hl
  exact⟨(x4,-1),Ev.step (f:=fun _=>some (x4,-1)) (fun k=>by rw[zP.l0,if_neg (by omega)]) (Ev.now _),.inl rfl⟩
 | succ m ih =>
  intro x4 x5 hm h5 hl;by_cases hx:(x5:Int)<(s.size:Int)
  ·obtain⟨q,hq,h0,h1,_⟩:=zip (s.extract x5 s.size)
   have hsz:(s.extract x5 s.size).size=s.size-x5:=by rw[ByteArray.size_extract];omega
   by_cases hz:q.2=0
   ·refine⟨([],x5),Ev.step (f:=fun k=>(zD.f k (s.extract x5 s.size)).bind fun q=>(if q.2=0 then (some (([]:List Int),(x5:Int))) else (if x4.length<35184372088832 then (zP.l0 k s (x4++[q.1]) (wrap64 ((x5:Int)+q.2))) else none))) (fun k=>?_) (Ev.bind hq ?_),.inr (by show (0:Int)≤(x5:Int);omega)⟩
    ·rw[zP.l0,if_pos hx,if_pos (by omega),if_pos (by omega)];rfl
    exact⟨0,fun k _=>by dsimp only;rw[if_pos hz]⟩
   obtain⟨n,hn⟩:∃ n:Nat,q.2=(n:Int):=⟨q.2.toNat,by omega⟩
   obtain⟨r,hr,hR⟩:=ih (x4++[q.1]) (x5+n) (by omega) (by omega) (by rw[List.length_append];simp;omega);refine⟨r,Ev.step (f:=fun k=>(zD.f k (s.extract x5 s.size)).bind fun q=>(if q.2=0 then (some (([]:List Int),(x5:Int))) else (if x4.length<35184372088832 then (zP.l0 k s (x4++[q.1]) (wrap64 ((x5:Int)+q.2))) else none))) (fun k=>?_) (Ev.bind hq ?_),hR⟩
   ·rw[zP.l0,if_pos hx,if_pos (by omega),if_pos (by omega)];rfl
   obtain⟨K,hK⟩:=hr;refine⟨K,fun k hk=>?_⟩;dsimp only;rw[if_neg hz,if_pos (by omega),hn,zfP x5 n (by omega) (by omega)];exact hK k hk
  exact⟨(x4,-1),Ev.step (f:=fun _=>some (x4,-1)) (fun k=>by rw[zP.l0,if_neg hx]) (Ev.now _),.inl rfl⟩
theorem zej {α:Type} {g:Nat→Option α} {a b:α} (h1:Ev g a) (h2:Ev g b):a=b:=by
 obtain⟨K1,h1⟩:=h1;obtain⟨K2,h2⟩:=h2;have e1:=h1 (max K1 K2) (Nat.le_max_left _ _);have e2:=h2 (max K1 K2) (Nat.le_max_right _ _);exact Option.some.inj (e1.symm.trans e2)
def zeV (s:ByteArray) (x5:Nat):Prop:=∃ (x4 l:List Int),x4.length≤x5∧Ev (fun k=>zP.l0 k s x4 (x5:Int)) (l,-1)
theorem zhV {s:ByteArray} (hs:s.size≤1048576) {x5:Nat} (hg:zeV s x5) (hx:x5<s.size):∃ (q:Int×Int) (n:Nat),Ev (fun k=>zD.f k (s.extract x5 s.size)) q∧q.2=(n:Int)∧0<n∧x5+n≤s.size∧zeV s (x5+n)∧zgD (s.extract x5 s.size) q:=by
 obtain⟨x4,l,hl,hr⟩:=hg;obtain⟨q,hq,h0,h1,hF⟩:=zip (s.extract x5 s.size);have hsz:(s.extract x5 s.size).size=s.size-x5:=by rw[ByteArray.size_extract];omega
 have hstep:∀ k,zP.l0 (k+1) s x4 (x5:Int)=(zD.f k (s.extract x5 s.size)).bind fun q=>(if q.2=0 then (some (([]:List Int),(x5:Int))) else (if x4.length<35184372088832 then (zP.l0 k s (x4++[q.1]) (wrap64 ((x5:Int)+q.2))) else none)):=fun k=>by
  rw[zP.l0,if_pos (by omega),if_pos (by omega),if_pos (by omega)];rfl
 by_cases hz:q.2=0
 ·exfalso
  have:Ev (fun k=>zP.l0 k s x4 (x5:Int)) ([],(x5:Int)):=Ev.step hstep (Ev.bind hq ⟨0,fun k _=>by dsimp only;rw[if_pos hz]⟩)
  have e:=zej hr this;have e2:(-1:Int)=(x5:Int):=congrArg Prod.snd e;omega
 obtain⟨n,hn⟩:∃ n:Nat,q.2=(n:Int):=⟨q.2.toNat,by omega⟩
 refine⟨q,n,hq,hn,by omega,by omega,⟨x4++[q.1],l,by rw[List.length_append];simp;omega,?_⟩,hF⟩;obtain⟨K1,hr⟩:=hr;obtain⟨K2,hq⟩:=hq;refine⟨max K1 K2,fun k hk=>?_⟩;have e:=hr (k+1) (by omega);dsimp only at e;rw[hstep k,show zD.f k (s.extract x5 s.size)=some q from hq k (by omega),Option.bind_some,if_neg hz,if_pos (by omega),hn,zfP x5 n (by omega) (by omega)] at e;exact e
theorem zmt {s:ByteArray} {q:Int×Int} {n:Nat} (hF:zgD s q) (hn:q.2=(n:Int)) (hp:0<n) (hle:n≤s.size) (h39:q.1=39):n=1:=by
 rcases hF with rfl|⟨bs,hb,he⟩
 ·cases h39
 rw[h39,zfp (by decide) (by decide)] at hb;obtain rfl:=Option.some.inj hb;have e:=congrArg List.length he;rw[ByteArray.toList_eq,ByteArray.toList_eq,←zR,←zR,hn,Int.toNat_natCast,ByteArray.size_extract] at e;have:(strOfNums [39]).size=1:=rfl
 omega
theorem zpI {s:ByteArray} {a:Nat} (h:a<s.size):bt (s.extract a s.size) 0=bt s (a:Int):=by
 have hsz:(s.extract a s.size).size=s.size-a:=by rw[ByteArray.size_extract];omega
 have h1:=zcM (s:=s.extract a s.size) (n:=0) (by omega);have h2:=zcM (s:=s) (n:=a) h;rw[h2];refine h1.trans ?_;congr 2
 simp[List.getElem_drop]
theorem zny {s:ByteArray} (h:0<s.size) (hb:bt s 0=39):Ev (fun k=>zD.f k s) (39,1):=by
 have hne:¬ s.toList=([]:List UInt8):=fun e=>by
  rw[ByteArray.toList_eq] at e;have h9:s.data.toList.length=0:=by rw[e];rfl
  rw[←zR] at h9;omega
 have e1:(strOfNums [39]).toList=(s.extract 0 (1:Int).toNat).toList:=by
  have h0:=zcM (s:=s) (n:=0) h;have h1:((s.data.toList[0]'(by rw[←zR];exact h)).toNat:Int)=39:=h0.symm.trans hb;have h2:s[0]=39:=UInt8.toNat_inj.1 (by
   have:((s[0].toNat:Nat):Int)=39:=h1
   have h39:(39:UInt8).toNat=39:=rfl;omega)
  rw[show s.extract 0 (1:Int).toNat=⟨#[s[0]]⟩ from zgz h,h2];rfl
 refine⟨2,fun k hk=>?_⟩;obtain⟨j,rfl⟩:∃ j,k=j+2:=⟨k-2,by omega⟩
 have hw:wrap64 (bt s 0)=39:=by rw[hb];exact w64 (by decide) (by decide)
 have h32:wrap32 39=39:=by unfold wrap32;omega
 show zD.f (j+2) s=some (39,1)
 unfold zD.f;rw[if_neg hne,if_pos (by omega),hw,if_pos (by decide),zD.j2,if_neg (by omega),zD.l0,if_neg (by decide),h32,show uB.f 39=some true from rfl,Option.bind_some,if_pos rfl,zfp (by decide) (by decide),Option.bind_some,if_pos (by decide),if_pos (by omega),if_pos e1]
theorem zoj (s:ByteArray) (hs:s.size≤1048576):∀ (m:Nat) (x6:List S71) (x7:Int) (x8:Nat),s.size-x8≤m→zeV s x8→x8≤s.size→x6.length≤x8→∃ r:List S71×Int×Int,Ev (fun k=>zG.l0 k s x6 x7 (x8:Int)) r∧(r.2.1=0→r.1.length≤400):=by
 intro m
 induction m with
 | zero =>
  intro x6 x7 x8 hm _ _ _;have hx:¬ ((x8:Int)<(s.size:Int)):=by omega
  by_cases h7:x7 ≥ 0
  ·exact⟨([],3,x7),Ev.step (f:=fun _=>some ([],3,x7)) (fun k=>by rw[zG.l0,if_neg hx,if_pos h7]) (Ev.now _),fun h=>by cases h⟩
  by_cases h4:(x6.length:Int)>400
  ·exact⟨([],8,0),Ev.step (f:=fun _=>some ([],8,0)) (fun k=>by rw[zG.l0,if_neg hx,if_neg h7,if_pos h4]) (Ev.now _),fun h=>by cases h⟩
  exact⟨(x6,0,0),Ev.step (f:=fun _=>some (x6,0,0)) (fun k=>by rw[zG.l0,if_neg hx,if_neg h7,if_neg h4]) (Ev.now _),fun _=>by show x6.length≤400;omega⟩
 | succ m ih =>
  intro x6 x7 x8 hm hg h8 hl;by_cases hx:(x8:Int)<(s.size:Int)
  ·obtain⟨q,n,hq,hn,hp,hle,hg2,hF⟩:=zhV hs hg (by omega)
   have hsz:(s.extract x8 s.size).size=s.size-x8:=by rw[ByteArray.size_extract];omega
   have HJ:∀ b:Bool,(b=true→zeV s (x8+2)∧x8+2≤s.size)→∃ r:List S71×Int×Int,Ev (fun k=>zG.j1 k s x6 x7 (x8:Int) q.1 q.2 b) r∧(r.2.1=0→r.1.length≤400):=by
    intro b hb;cases b
    ·by_cases h39:q.1=39
     ·by_cases h7:x7 ≥ 0
      ·obtain⟨r,hr,h4⟩:=ih x6 (-1) (x8+n) (by omega) hg2 hle (by omega)
       exact⟨r,Ev.step (fun k=>by rw[zG.j1,if_neg (by decide),if_pos h39,if_pos h7,hn,zfP x8 n (by omega) (by omega)]) hr,h4⟩
      obtain⟨r,hr,h4⟩:=ih x6 x8 (x8+n) (by omega) hg2 hle (by omega);exact⟨r,Ev.step (fun k=>by rw[zG.j1,if_neg (by decide),if_pos h39,if_neg h7,hn,zfP x8 n (by omega) (by omega)]) hr,h4⟩
     obtain⟨r,hr,h4⟩:=ih (x6++[(⟨q.1,decide (x7 ≥ 0),x8⟩:S71)]) x7 (x8+n) (by omega) hg2 hle (by rw[List.length_append];simp;omega);exact⟨r,Ev.step (fun k=>by rw[zG.j1,if_neg (by decide),if_neg h39,if_pos (by omega),hn,zfP x8 n (by omega) (by omega)]) hr,h4⟩
    obtain⟨hb1,hb2⟩:=hb rfl;obtain⟨r,hr,h4⟩:=ih (x6++[(⟨q.1,true,x8⟩:S71)]) x7 (x8+2) (by omega) hb1 hb2 (by rw[List.length_append];simp;omega);exact⟨r,Ev.step (fun k=>by rw[zG.j1,if_pos rfl,if_pos (by omega),show (2:Int)=((2:Nat):Int) from rfl,zfP x8 2 (by omega) (by omega)]) hr,h4⟩
   have hstep:∀ k,zG.l0 (k+1) s x6 x7 (x8:Int)=(zD.f k (s.extract x8 s.size)).bind fun bt133=>(if bt133.1=39 then (if (wrap64 ((x8:Int)+1))<(s.size:Int) then (if 0≤(wrap64 ((x8:Int)+1)) then (zG.j1 k s x6 x7 x8 bt133.1 bt133.2 ((bt s (wrap64 ((x8:Int)+1)))==39)) else (none)) else (zG.j1 k s x6 x7 x8 bt133.1 bt133.2 false)) else (zG.j1 k s x6 x7 x8 bt133.1 bt133.2 false)):=fun k=>by
    rw[zG.l0,if_pos hx,if_pos (by omega),if_pos (by omega)];rfl
   by_cases h39:q.1=39
   ·have hn1:=zmt hF hn hp (by omega) h39
    subst hn1;by_cases hx2:x8+1<s.size
    ·obtain⟨r,hr,h4⟩:=HJ (bt s ((x8+1:Nat):Int)==39) (fun hb=>by
      have hb2:bt (s.extract (x8+1) s.size) 0=39:=by rw[zpI hx2];exact beq_iff_eq.1 hb
      obtain⟨q2,n2,hq2,hn2,hp2,hle2,hg3,_⟩:=zhV hs hg2 hx2;have e:=zej hq2 (zny (by rw[ByteArray.size_extract];omega) hb2);have e2:q2.2=1:=by rw[e]
      have e3:n2=1:=by omega
      subst e3;exact⟨hg3,by omega⟩)
     refine⟨r,Ev.step hstep (Ev.bind hq ?_),h4⟩;obtain⟨K,hK⟩:=hr;refine⟨K,fun k hk=>?_⟩;dsimp only;rw[if_pos h39,xU x8 (by omega),if_pos (by omega),if_pos (by omega)];exact hK k hk
    obtain⟨r,hr,h4⟩:=HJ false (fun h=>by cases h);refine⟨r,Ev.step hstep (Ev.bind hq ?_),h4⟩;obtain⟨K,hK⟩:=hr;refine⟨K,fun k hk=>?_⟩;dsimp only;rw[if_pos h39,xU x8 (by omega),if_neg (by omega)];exact hK k hk
   obtain⟨r,hr,h4⟩:=HJ false (fun h=>by cases h);refine⟨r,Ev.step hstep (Ev.bind hq ?_),h4⟩;obtain⟨K,hK⟩:=hr;refine⟨K,fun k hk=>?_⟩;dsimp only;rw[if_neg h39];exact hK k hk
  exact ih x6 x7 x8 (by omega) hg h8 hl
theorem znC (s:ByteArray) (hs:s.size≤1048576):∃ r:List S71×Int×Int,Ev (fun k=>zG.f k s) r∧(r.2.1=0→r.1.length≤400):=by
 obtain⟨q,hq,hR⟩:=zlO s hs _ [] 0 (Nat.le_refl _) (Nat.zero_le _) (Nat.zero_le _);have hq2:Ev (fun k=>zP.f k s) q:=hq;by_cases h:q.2 ≥ 0
 ·exact⟨([],2,q.2),Ev.bind hq2 ⟨0,fun k _=>by dsimp only;rw[if_pos h]⟩,fun h=>by cases h⟩
 have hq1:q.2=-1:=by omega
 have hg:zeV s 0:=⟨[],q.1,Nat.le_refl _,by
  have e:q=(q.1,-1):=by rw[←hq1]
  rw[←e];exact hq⟩
 obtain⟨r,⟨K,hr⟩,h4⟩:=zoj s hs _ [] (-1) 0 (Nat.le_refl _) hg (Nat.zero_le _) (Nat.le_refl _);exact⟨r,Ev.bind hq2 ⟨K,fun k hk=>by dsimp only;rw[if_neg h];exact hr k hk⟩,h4⟩
section
def mk73 (t:S71):S73:=⟨t,false⟩
def zai (l:List S71):Prop:=∀ t∈l,zaF (mk73 t) 42=false
def zaN (l:List S71):Prop:=∀ t∈l,zaF (mk73 t) 59=false
def zbw (k:Int) (l:List S80):Nat:=l.countP (fun x=>x.f0==k)
def sgn (k:Int) (a b c d:List S80):Nat:=zbw k a+zbw k b+zbw k c+zbw k d
def uH (l:List S80):Prop:=∀ x∈l,1≤x.f0∧x.f0≤6∧(x.f0≠1→x.f1=0)
theorem zle {t:S71} {x:S80} (h:zbr t=some x):1≤x.f0∧x.f0≤6∧(x.f0≠1→x.f1=0):=by
  rcases zhZ h with ⟨_,rfl⟩|⟨_,_,h0,rfl⟩|⟨_,_,_,rfl⟩
  · exact⟨by show (1:Int)≤1;decide,by show (1:Int)≤6;decide,fun h=>absurd rfl h⟩
  · have:=zgm t.f0
    exact⟨by show 1≤zav t.f0;omega,by show zav t.f0≤6;omega,fun _=>rfl⟩
  exact⟨by show (1:Int)≤1;decide,by show (1:Int)≤6;decide,fun h=>absurd rfl h⟩
theorem zcI (l:List S71):uH (jM l):=by
  intro x hx;obtain⟨t,_,h⟩:=List.mem_filterMap.1 hx;exact zle h
theorem zob (l:List UInt8):jO 64 l+xX l≤l.length:=by
  induction l with
  | nil=>exact Nat.le_refl _
  | cons c l ih =>
    have hle:jO 64 (c :: l)=jO 64 l+if xW 64 c=true then 1 else 0:=by unfold jO;rw[List.countP_cons]
    rw[zcR,List.length_cons,hle];by_cases hc:(c==35)=true
    · have h0:xW 64 c=false:=by rw[eq_of_beq hc];decide
      rw[if_pos hc,h0,if_neg (by decide)];omega
    rw[if_neg hc];have:jO 64 l≤l.length:=List.countP_le_length
    split <;> omega
theorem zmK (c:UInt8) (l:List UInt8):jO c l≤l.length:=List.countP_le_length
structure uS (P:jZ):Prop where
  mi0:0≤P.mi
  mi4:P.mi≤40
  xi0:0≤P.xi
  xi4:P.xi≤40
  mf0:0≤P.mf
  mfx:P.mf≤P.xf
  xf4:P.xf≤40
  ms0:0≤P.ms
  msx:P.ms≤P.xs
  xs4:P.xs≤40
  inc4:P.inc.size≤40
  sig:0<P.ms→P.mi=0∧P.xi=0∧P.mf=0∧P.xf=0∧P.inc.size=0
  noSig:P.ms=0→P.xs=0∨P.inc.size=0
theorem zdP {P P':jZ} (h:zes P=some P'):P'=P∧P.mi≤40∧P.xi≤40∧P.xf≤40∧P.xs≤40∧(P.inc.size:Int)≤40:=by
  unfold zes at h;split at h
  · cases h
  rename_i hn
  exact⟨(Option.some.inj h).symm,by omega,by omega,by omega,by omega,by omega⟩
theorem zdE {sc:Bool} {sz:List Int} {pl:ByteArray} {P P':jZ} (h:zbm sc sz pl P=some P'):zes P=some P':=by
  unfold zbm at h;split at h
  · cases h
  exact h
def zlc (P:jZ):Prop:=P.mi=0∧P.xi=0∧P.mf=0∧P.xf=0∧P.ms=0∧P.xs=0∧P.inc.size=0
theorem zme {sc pt:Bool} {sz:List Int} {pl fr:ByteArray} {P P':jZ} (hz:zlc P) (h:zfg sc pt sz pl fr P=some P'):uS P':=by
  obtain⟨z1,z2,z3,z4,z5,z6,z7⟩:=hz;unfold zfg at h;split at h
  · cases h
  split at h
  · split at h
    · cases h
    split at h
    · cases h
    obtain⟨rfl,b1,b2,b3,b4,b5⟩:=zdP (zdE h);have hc:=zob pl.data.toList;rw[←zR] at hc;exact⟨by show 0≤P.mi;omega,b1,by show 0≤P.xi;omega,b2,by show 0≤P.mf;omega,by show P.mf≤P.xf;omega,b3,by show (0:Int)≤(jO 64 pl.data.toList:Nat);omega,by show ((jO 64 pl.data.toList:Nat):Int)≤(pl.size:Int)-(xX pl.data.toList:Nat);omega,b4,by show P.inc.size≤40;omega,fun _=>⟨z1,z2,z3,z4,z7⟩,fun _=>.inr z7⟩
  split at h
  · cases h
  split at h
  · cases h
  obtain⟨rfl,b1,b2,b3,b4,b5⟩:=zdP (zdE h);have hc:=zmK 48 fr.data.toList;rw[←zR] at hc;refine⟨by show (0:Int)≤(jO 48 pl.data.toList:Nat);omega,b1,?_,b2,by show (0:Int)≤(jO 48 fr.data.toList:Nat);omega,by show ((jO 48 fr.data.toList:Nat):Int)≤(fr.size:Int);omega,b3,by show 0≤P.ms;omega,by show P.ms≤P.xs;omega,b4,by omega,fun h=>?_,fun _=>.inl z6⟩
  · show (0:Int)≤if sc=true then (pl.size:Int) else P.xi
    split <;> omega
  exfalso;have h:0<P.ms:=h;omega
theorem zmi {sc pt:Bool} {wh fr:ByteArray} {P P':jZ} (hz:zlc P) (h:zgy sc pt wh fr P=some P'):uS P':=by
  unfold zgy at h;split at h
  · cases h
  refine zme ?_ h;exact hz
theorem zhY {sc:Bool} {b:ByteArray} {P P':jZ} (hz:zlc P) (h:zch sc b P=some P'):uS P':=by
  unfold zch at h;split at h
  · cases h
  split at h
  · cases h
  split at h
  · cases h
  exact zmi hz h
theorem zlS {s:ByteArray} {P:jZ} (h:vI s=some P):uS P:=by
  unfold vI at h;split at h
  · split at h
    · cases h
    split at h
    · cases h
    exact zhY ⟨rfl,rfl,rfl,rfl,rfl,rfl,rfl⟩ h
  exact zhY ⟨rfl,rfl,rfl,rfl,rfl,rfl,rfl⟩ h
def zas (v1 v2:Value) (hn:Bool) (v3 v4:Value) (P:jZ) (at_ pad wd:Int):Array Value:=#[v1,v2,.bool hn,v3,v4,.int .i64 P.mi,.int .i64 P.xi,.int .i64 P.mf,.int .i64 P.xf,.int .i64 P.ms,.int .i64 P.xs,.int .i64 P.pr,.int .i64 P.se,.string P.inc,.bool P.sci,.int .i64 P.me,.bool P.pe,.int .i64 at_,.int .i32 pad,.int .i64 wd]
def mixed (a b c d:List S80):Prop:=0<sgn 4 a b c d∧0<sgn 5 a b c d
def zod (s:ByteArray) (w:World) (e:Ending) (w':World):Prop:=
  ∃ (v1 v2 v3 v4:Value) (px sx nx ny:List S80) (P:jZ) (hn:Bool) (at_ pad wd E a:Int),e=.returned (.tuple #[.agg (zas v1 v2 hn v3 v4 P at_ pad wd),.agg #[.int .i64 E,.int .i64 a]]) ∧
    Kd.R k80 80 w' w.heap.size (fun _=>True) v1 px∧Kd.R k80 80 w' w.heap.size (fun _=>True) v2 sx∧Kd.R k80 80 w' w.heap.size (fun _=>True) v3 nx∧Kd.R k80 80 w' w.heap.size (fun _=>True) v4 ny∧Below w.heap.size w w' ∧
    (E=0→(∃ t,vI t=some P)∧uH px∧uH sx∧uH nx∧uH ny∧¬ mixed px sx nx ny∧(px.length≤1000∧sx.length≤1000∧nx.length≤1000∧ny.length≤1000)) ∧
    (∀ l,Ev (fun k=>zG.f k s) (l,0,0)→zai l→zaN l→∀ P0,zaq (l.map mk73) P0 →
      ¬ mixed (jM (uO (l.map mk73) (qK (l.map mk73)) l.length)) (jM (uN (l.map mk73) (qF (l.map mk73)) l.length)) (⟨2,0⟩ :: jM (uO (l.map mk73) (qK (l.map mk73)) l.length)) (jM (uN (l.map mk73) (qF (l.map mk73)) l.length)) →
      E=0∧P=P0∧px=jM (uO (l.map mk73) (qK (l.map mk73)) l.length)∧sx=jM (uN (l.map mk73) (qF (l.map mk73)) l.length)∧nx=⟨2,0⟩ :: px∧ny=sx)
theorem zjr:(Tryz.prog.info? 73).map (fun i=>(i.zero,i.size,i.bytes))=some (some (.agg #[(.int .i32 0),(.bool false),(.int .i64 0),(.bool false)]),4,24):=by kernel_rfl
theorem zjj:(Tryz.prog.info? 73).map (·.size)=some 4:=by kernel_rfl
theorem zpj {l:List S71} {k:Nat} (h:k<l.length):(l.take (k+1)).map mk73=(l.take k).map mk73++[mk73 l[k]]:=by rw[ziR h,List.map_append];rfl
theorem zos {α:Type} {d:Kd α} {e base:Nat} {ok:Nat→Prop} {v:Value} {xs:List α} {W w1:World} {g:Nat} (h:d.R e W base ok v xs) (hok:∀ k,ok k→k≠g)
    (hfar:∀ k o,k≠g→W.heap[k]?=some o→w1.heap[k]?=some o):d.R e w1 base ok v xs:=
  Kd.R_step h (fun k hk hlt=>by
    have e1:W.heap[k]?=some W.heap[k]:=Array.getElem?_eq_getElem hlt;rw[hfar k _ (hok k hk) e1,e1])
theorem zdI (l:List S71):(jM l).length≤l.length:=List.length_filterMap_le _ _
section
variable {P:Program} {ops:Array Oper} {rest:List Oper} {o:Oper} {a:Act} {Q:Exit→Act→World→Prop}
theorem lm_ {W:World} {g:Nat} {cs:Array Value} {u:TypeId} {t:TypeId} (i:Nat) (vs:Array Value) (d:TypeDesc) (hb:Aside0 (W.heap[g]?=some (.cells cs u (0,0)))) (h:wpList P ops Q rest (a.put o.dst (.agg vs)) W)
    (hgd:o.guard=none) {x:Operand} (hop:o.op=.load t x) (hx:a.eval x=.pointer (some ⟨g,i,none⟩))
    (hu:P.underlying t=some d) (hd:d.isRow=true) (hi:(P.info? t).map (·.size)=some vs.size) (hv:(cs.extract i (i+vs.size)).toList=vs.toList):wpList P ops Q (o :: rest) a W:=by
  have hr:=World.rangeAt_of_block hb.out i vs.size;rw[hv] at hr;exact wpList_load_mid hgd t x hop g i hx vs.toList d hr hu hd (by simpa using hi) h
end
theorem znm (v1 v2:Value) (P:jZ) (a b c:Int):((qE v1 v2 P a b c).extract 2 (2+P.cs.size)).toList=P.cs.toList:=by
  rw[Array.toList_extract,List.extract_eq_take_drop];rfl
theorem zqd (w:World) (b:Nat) (ok:Nat→Prop) (x:S80):jN (k80.M w b ok) k80.sz [x] [.int .i64 x.f0,.int .i32 x.f1]:=
  ⟨rfl,fun j p hj=>by
    match j,hj with
    | 0, hj => obtain rfl:x=p:=by simpa using hj
               exact zep _ _ _ _
    | j+1,hj=>simp at hj⟩
theorem zqC:(Tryz.prog.info? 80).map (fun i=>(i.zero,i.size,i.bytes))=some (some (.agg #[(.int .i64 0),(.int .i32 0)]),k80.sz,16):=by kernel_rfl
theorem zqe {P:Program} {o:Oper} {a:Act} {t e:TypeId} {x lo:Operand} {A A4:Option Addr} {n c j size n4 cz:Nat} {i:TypeInfo} (hop:o.op=.slice t x (some lo) none none) (hx:a.eval x=.slice A n c) (hlo:a.eval lo=.int .i64 (j:Int))
    (ht:P.underlying t=some (.slice e)) (hi:P.info? e=some i) (hsz:i.size=size) (hm:j≤n) (hA:(if c=j then A else A.map (·.add (j * size)))=A4) (hn:n-j=n4) (hc:c-j=cz):∀ W,(execOp a.eval o).run P W=.ok (.value (.slice A4 n4 cz)) W:=by
  intro W;have h:=znX (P:=P) t e .i64 ht hi size hsz A n c (j:Int) (by omega) (by omega) W;rw[Int.toNat_natCast,hA,hn,hc] at h;unfold execOp;rw[hop];have hu:(underlying t:Sem TypeDesc).run P W=.ok (.slice e) W:=run_underlying ht W;simp only[hx,hlo,Option.map_some,Option.map_none,Instr.sliceAt,Sem.run_bind,hu,Result.andThen_ok,h]
  rfl
theorem zpw:∃ i,Tryz.prog.info? 73=some i∧i.size=4:=by
  have h:=zjr
  cases hq:Tryz.prog.info? 73 with
  | none=>rw[hq] at h;cases h
  | some i=>rw[hq] at h;exact⟨i,rfl,by have:=Option.some.inj h;exact congrArg (fun p=>p.2.1) this⟩
section
variable {P:Program} {ops:Array Oper} {rest:List Oper} {o:Oper} {a:Act} {Q:Exit→Act→World→Prop}
theorem zcT {W:World} {g:Nat} {cs:Array Value} {u:TypeId} {t:TypeId} (d:TypeDesc) (hb:Aside0 (W.heap[g]?=some (.cells cs u (0,0)))) (h:wpList P ops Q rest (a.put o.dst (.agg cs)) W)
    (hw:Region.wanted o (yielded ops a.tmps)=true) {x:Operand} (hop:o.op=.load t x) (hx:a.eval x=.pointer (some ⟨g,0,none⟩))
    (hu:P.underlying t=some d) (hd:(match d with | .struct _ | .array _ _=>true|_=>false)=true) (hi:(P.info? t).map (·.size)=some cs.size):wpList P ops Q (o :: rest) a W:=by
  refine BigFrame.wpList_want hw fun K hK=>?_
  unfold Oper.wp;rw[zlR d hb hop hx hu hd hi];exact hK _ _ h
end
theorem zdZ {W:World} {b o:Nat} {v:Value} {g:Nat} (h:W.cell? ⟨b,o,none⟩=some v) (hg:g=W.heap.size):b≠g:=Nat.ne_of_lt (hg ▸ (World.block_lt_of_cell? W ⟨b,o,none⟩ h))
end
section
section
variable {P:Program} {ops:Array Oper} {rest:List Oper} {o:Oper} {a:Act} {Q:Exit→Act→World→Prop}
theorem bx_ {W:World} (N:Tmp) (cs:Array Value) (t:TypeId) (h:∀ g,g=W.heap.size→∀ w1,w1.heap[g]?=some (.cells cs t (0,0))→Below W.heap.size W w1→wpList P ops Q rest (a.put o.dst (.pointer (some ⟨g,0,none⟩))) w1)
  (hd:o.dst=some N) (hgd:o.guard=none) {x:Operand} (hop:o.op=.box t x) (hx:a.eval x=.agg cs) (h1:(Value.agg cs).cells=cs):wpList P ops Q (o :: rest) a W:=by
 refine zdC hgd hd ?_ h;unfold execOp;rw[hop];simp only[hx];simp[Instr.box,newVar,h1,newRow]
end
structure Pat where
 A0:Option Addr
 A1:Option Addr
 A3:Option Addr
 A4:Option Addr
 c0:Nat
 c1:Nat
 c3:Nat
 c4:Nat
 l0:List S80
 l1:List S80
 l3:List S80
 l4:List S80
 hn:Bool
 P:jZ
 at_:Int
 pad:Int
 wd:Int
def Pat.cs (q:Pat):Array Value:=zas (.slice q.A0 q.l0.length q.c0) (.slice q.A1 q.l1.length q.c1) q.hn (.slice q.A3 q.l3.length q.c3) (.slice q.A4 q.l4.length q.c4) q.P q.at_ q.pad q.wd
def zar (P:jZ):Bool:=P.sci&&(decide (P.mi<P.xi)&&decide (1<P.xi))
def yA (P:jZ):Int:=if 0<P.ms∨(zar P=true∧P.mi=0)∨P.mi+P.xf=0 then 1 else P.mi
def zaV (P:jZ):Int×Int:=if 0<P.ms then (P.ms,P.xs) else (yA P+P.mf,yA P+P.xf)
set_option maxHeartbeats 4000000 in
set_option maxRecDepth 100000 in
theorem zgn (q:Pat) (w:World):Calls Tryz.prog 27 #[.agg q.cs] w fun e w'=>e=.returned (.bool (zar q.P))∧Below w.heap.size w w':=by
 have HB:=K_ (Below.refl w.heap.size w);go_enter Tryz.func27,Tryz.ntmps27
 go_upto_region 1 with ((with_reducible refine zE (N:=1) rfl ?_);refine bx_ 1 q.cs 26 ?_ rfl rfl rfl rfl rfl;intro g1 hg w2 hbox hb;have BK1:=K_ hbox;replace HB:=zF HB hb;clear hb hbox hg)
 have e14:w2.cell? ⟨g1,14,none⟩=some (.bool q.P.sci):=(zA BK1.out 14).trans rfl;have e6:w2.cell? ⟨g1,6,none⟩=some (.int .i64 q.P.xi):=(zA BK1.out 6).trans rfl;have e5:w2.cell? ⟨g1,5,none⟩=some (.int .i64 q.P.mi):=(zA BK1.out 5).trans rfl;have HE:=K_ (show zar q.P=(q.P.sci&&(decide (q.P.mi<q.P.xi)&&decide (1<q.P.xi))) from rfl);cases hs:q.P.sci
 ·rw[hs] at e14 HE
  go_wp2
  go_ret
  exact⟨by rw[HE.out];rfl,BL HB⟩
 rw[hs] at e14 HE;by_cases h1:q.P.mi<q.P.xi
 ·have d1:decide (q.P.mi<q.P.xi)=true:=decide_eq_true h1
  rw[d1] at HE;by_cases h2:1<q.P.xi
  ·have d2:decide (1<q.P.xi)=true:=decide_eq_true h2
   rw[d2] at HE;go_wp2
   go_ret
   exact⟨by rw[HE.out];rfl,BL HB⟩
  have d2:decide (1<q.P.xi)=false:=decide_eq_false h2;rw[d2] at HE;go_wp2
  go_ret
  exact⟨by rw[HE.out];rfl,BL HB⟩
 have d1:decide (q.P.mi<q.P.xi)=false:=decide_eq_false h1;rw[d1] at HE;go_wp2
 go_ret
 exact⟨by rw[HE.out];rfl,BL HB⟩
theorem uS.w1 {P:jZ} (h:uS P):IntKind.i64.wrap (P.mi+P.xf)=P.mi+P.xf:=by
 have:=h.mi0;have:=h.mi4;have:=h.mf0;have:=h.mfx;have:=h.xf4
 rw[IntKind.wrap_i64];omega
theorem zcm {P:jZ} (h:uS P):0≤yA P∧yA P≤40:=by
 have:=h.mi0;have:=h.mi4
 unfold yA;split <;> omega
set_option maxHeartbeats 4000000 in
set_option maxRecDepth 100000 in
theorem zev (q:Pat) (hg:uS q.P) (w:World):Calls Tryz.prog 54 #[.agg q.cs] w fun e w'=>e=.returned (.int .i64 (yA q.P))∧Below w.heap.size w w':=by
 have HB:=K_ (Below.refl w.heap.size w);have hw:=hg.w1;have hx:q.P.mi=0→wrap64 q.P.xf=q.P.mi+q.P.xf:=by
  intro h;have:=hg.mf0;have:=hg.mfx;have:=hg.xf4;unfold wrap64;omega
 have HX:=K_ hx;clear hx;have HW:=K_ (show yA q.P=if 0<q.P.ms∨(zar q.P=true∧q.P.mi=0)∨q.P.mi+q.P.xf=0 then 1 else q.P.mi from rfl);clear hg;go_enter Tryz.func54,Tryz.ntmps54
 go_upto_region 1 with ((with_reducible refine zE (N:=1) rfl ?_);refine bx_ 1 q.cs 26 ?_ rfl rfl rfl rfl rfl;intro g1 hg w2 hbox hb;have BK1:=K_ hbox;replace HB:=zF HB hb;clear hb hbox hg)
 have e9:w2.cell? ⟨g1,9,none⟩=some (.int .i64 q.P.ms):=(zA BK1.out 9).trans rfl;have e5:w2.cell? ⟨g1,5,none⟩=some (.int .i64 q.P.mi):=(zA BK1.out 5).trans rfl;have e8:w2.cell? ⟨g1,8,none⟩=some (.int .i64 q.P.xf):=(zA BK1.out 8).trans rfl;by_cases h9:0<q.P.ms
 ·have d9:decide (0<q.P.ms)=true:=decide_eq_true h9
  have HR:=K_ (show yA q.P=1 by rw[HW.out,if_pos (.inl h9)]);clear e5 e8 HW;go_wp2
  go_ret
  exact⟨by rw[HR.out];first|rfl|(rw[h5];rfl),BL HB⟩
 have d9:decide (0<q.P.ms)=false:=decide_eq_false h9;have HE:∀ W,Aside0 (Calls Tryz.prog 27 #[.agg q.cs] W fun e w'=>e=.returned (.bool (zar q.P))∧Below W.heap.size W w'):=fun W=>K_ (zgn q W)
 by_cases h5:q.P.mi=0
 ·have d5:(q.P.mi==0)=true:=beq_iff_eq.2 h5
  cases hs:zar q.P
  ·by_cases h8:q.P.mi+q.P.xf=0
   ·have d8:(wrap64 q.P.xf==0)=true:=beq_iff_eq.2 (by rw[HX.out h5];exact h8)
    have HR:=K_ (show yA q.P=1 by rw[HW.out,if_pos (.inr (.inr h8))]);rw[hs] at HE;clear hs HW;go_wp2_with (first
     | ((with_reducible refine zE (N:=7) rfl ?_);refine lo_ (g:=g1) (cs:=q.cs) _ ⟨BK BK1⟩ ?_ rfl rfl rfl Tryz.underlying26 rfl jX)
     | (go_at_call 27;refine ((HE _).out).mono ?_;rintro e w' ⟨rfl,hb⟩;replace HB:=zF HB hb;replace BK1:=zC BK1 hb;clear hb e5 e8;have e5:=(show w'.cell? ⟨g1,5,none⟩=some (.int .i64 q.P.mi) from (zA BK1.out 5).trans rfl);have e8:=(show w'.cell? ⟨g1,8,none⟩=some (.int .i64 q.P.xf) from (zA BK1.out 8).trans rfl)))
    go_ret
    exact⟨by rw[HR.out];first|rfl|(rw[h5];rfl),BL HB⟩
   have d8:(wrap64 q.P.xf==0)=false:=beq_eq_false_iff_ne.2 (by rw[HX.out h5];exact h8);have HR:=K_ (show yA q.P=q.P.mi by rw[HW.out,if_neg (by rw[hs];rintro (h|h|h);exact h9 h;exact absurd h.1 (by decide);exact h8 h)]);rw[hs] at HE;clear hs HW;go_wp2_with (first
    | ((with_reducible refine zE (N:=7) rfl ?_);refine lo_ (g:=g1) (cs:=q.cs) _ ⟨BK BK1⟩ ?_ rfl rfl rfl Tryz.underlying26 rfl jX)
    | (go_at_call 27;refine ((HE _).out).mono ?_;rintro e w' ⟨rfl,hb⟩;replace HB:=zF HB hb;replace BK1:=zC BK1 hb;clear hb e5 e8;have e5:=(show w'.cell? ⟨g1,5,none⟩=some (.int .i64 q.P.mi) from (zA BK1.out 5).trans rfl);have e8:=(show w'.cell? ⟨g1,8,none⟩=some (.int .i64 q.P.xf) from (zA BK1.out 8).trans rfl)))
   go_ret
   exact⟨by rw[HR.out];first|rfl|(rw[h5];rfl),BL HB⟩
  have HR:=K_ (show yA q.P=1 by rw[HW.out,if_pos (.inr (.inl ⟨hs,h5⟩))]);rw[hs] at HE;clear hs HW;go_wp2_with (first
   | ((with_reducible refine zE (N:=7) rfl ?_);refine lo_ (g:=g1) (cs:=q.cs) _ ⟨BK BK1⟩ ?_ rfl rfl rfl Tryz.underlying26 rfl jX)
    | (go_at_call 27;refine ((HE _).out).mono ?_;rintro e w' ⟨rfl,hb⟩;replace HB:=zF HB hb;replace BK1:=zC BK1 hb;clear hb e5 e8;have e5:=(show w'.cell? ⟨g1,5,none⟩=some (.int .i64 q.P.mi) from (zA BK1.out 5).trans rfl);have e8:=(show w'.cell? ⟨g1,8,none⟩=some (.int .i64 q.P.xf) from (zA BK1.out 8).trans rfl)))
  go_ret
  exact⟨by rw[HR.out];first|rfl|(rw[h5];rfl),BL HB⟩
 have d5:(q.P.mi==0)=false:=beq_eq_false_iff_ne.2 h5;by_cases h8:q.P.mi+q.P.xf=0
 ·have d8:(q.P.mi+q.P.xf==0)=true:=beq_iff_eq.2 h8
  have HR:=K_ (show yA q.P=1 by rw[HW.out,if_pos (.inr (.inr h8))]);clear HW;cases hs:zar q.P
  all_goals
   rw[hs] at HE;clear hs;go_wp2_with (first
    | ((with_reducible refine zE (N:=7) rfl ?_);refine lo_ (g:=g1) (cs:=q.cs) _ ⟨BK BK1⟩ ?_ rfl rfl rfl Tryz.underlying26 rfl jX)
    | (go_at_call 27;refine ((HE _).out).mono ?_;rintro e w' ⟨rfl,hb⟩;replace HB:=zF HB hb;replace BK1:=zC BK1 hb;clear hb e5 e8;have e5:=(show w'.cell? ⟨g1,5,none⟩=some (.int .i64 q.P.mi) from (zA BK1.out 5).trans rfl);have e8:=(show w'.cell? ⟨g1,8,none⟩=some (.int .i64 q.P.xf) from (zA BK1.out 8).trans rfl)))
   go_ret
   exact⟨by rw[HR.out];first|rfl|(rw[h5];rfl),BL HB⟩
 have d8:(q.P.mi+q.P.xf==0)=false:=beq_eq_false_iff_ne.2 h8;have HR:=K_ (show yA q.P=q.P.mi by rw[HW.out,if_neg (by rintro (h|h|h);exact h9 h;exact h5 h.2;exact h8 h)]);clear HW;cases hs:zar q.P
 all_goals
  rw[hs] at HE;clear hs;go_wp2_with (first
   | ((with_reducible refine zE (N:=7) rfl ?_);refine lo_ (g:=g1) (cs:=q.cs) _ ⟨BK BK1⟩ ?_ rfl rfl rfl Tryz.underlying26 rfl jX)
   | (go_at_call 27;refine ((HE _).out).mono ?_;rintro e w' ⟨rfl,hb⟩;replace HB:=zF HB hb;replace BK1:=zC BK1 hb;clear hb e5 e8;have e5:=(show w'.cell? ⟨g1,5,none⟩=some (.int .i64 q.P.mi) from (zA BK1.out 5).trans rfl);have e8:=(show w'.cell? ⟨g1,8,none⟩=some (.int .i64 q.P.xf) from (zA BK1.out 8).trans rfl)))
  go_ret
  exact⟨by rw[HR.out];first|rfl|(rw[h5];rfl),BL HB⟩
end
end Go.Proofs.YtcmgdjnjmobkoaaGreatDoor.Px
section
namespace Go.Proofs.YtcmgdjnjmobkoaaGreatDoor.Px
open Fig Go.RowKit Go.Proofs.YtcmgdjnjmobkoaaGreatDoorW.PrintWords Go.Proofs.YtcmgdjnjmobkoaaGreatDoorW.PrintLast Go.Proofs.YtcmgdjnjmobkoaaGreatDoorW.PrintMore
attribute [local go_sem] vK vL uE uD yS yP vM vJ   -- for this text's walks alone
attribute [local go_sem] qQ qX qL qW qY qN qZ xA qT qS qU qV xB qO
theorem zqr (d:Nat) (w:World) (x0 y0:Int) (x1 y1:Int) :
  (Op.equalIn (d+2) 80 (.agg #[.int .i64 x0,.int .i32 x1]) (.agg #[.int .i64 y0,.int .i32 y1])).run Tryz.prog w=.ok (x0==y0&&(x1==y1)) w:=by
 refine zpR Tryz.underlying80 (by kernel_rfl) ?_;refine znV (by rfl) (by go_simp;rfl) (by go_simp;rfl) (by go_simp) ?_;exact znY (by rfl) (by go_simp;rfl) (by go_simp;rfl) (by go_simp)
end Go.Proofs.YtcmgdjnjmobkoaaGreatDoor.Px
end
namespace Go.Proofs.YtcmgdjnjmobkoaaGreatDoor.Px
open Fig Go.RowKit Go.Proofs.YtcmgdjnjmobkoaaGreatDoorW.PrintWords Go.Proofs.YtcmgdjnjmobkoaaGreatDoorW.PrintLast Go.Proofs.YtcmgdjnjmobkoaaGreatDoorW.PrintMore
attribute [local go_sem] vK vL uE uD yS yP vM vJ
attribute [local go_sem high] zqr
attribute [local go_sem] qQ qX qL qW qY qN qZ xA qT qS qU qV xB qO
def vG.l0:Nat→List (S80)→Int→Int→Int→Int→Option (Int)
 | 0,_,_,_,_,_=>none
 | k+1,x0,x7,x8,x298000,x298001=>if x8<x7 then (if 0≤x8 then (if x8<(x0.length:Int) then (if (x298000==((qP x0 x8).f0)&&(x298001==((qP x0 x8).f1)))=true then (some x8) else (vG.l0 k x0 x7 (wrap64 (x8+1)) x298000 x298001)) else (none)) else (none)) else (some (-1))
def vG.f (k:Nat) (l0:List (S80)) (a1_0:Int) (a1_1:Int):Option (Int):=vG.l0 k l0 (l0.length:Int) 0 a1_0 a1_1
set_option maxHeartbeats 8000000 in
set_option maxRecDepth 100000 in
theorem vG.calls (k:Nat) (A0:Option Addr) (c0:Nat) (l0:List (S80)) (a1_0:Int) (a1_1:Int) (r:Int) (w:World) (hr0:Kd.C k80 w A0 l0.length l0) (hc0:l0.length≤c0) (h:vG.f k l0 a1_0 a1_1=some r) :
  Calls Tryz.prog 144 #[.slice A0 l0.length c0,.agg #[.int .i64 a1_0,.int .i32 a1_1]] w fun e w'=>e=.returned (.int .i64 r)∧Below w.heap.size w w':=by
 have hu80:=Tryz.underlying80;have HR0:=K_ hr0;have HC0:=K_ hc0;clear hr0 hc0;have HB:=K_ (Below.refl w.heap.size w);have H:(vG.l0 k l0 (l0.length:Int) 0 a1_0 a1_1)=some r:=h;clear h;have H':=K_ H;clear H;go_enter Tryz.func144,Tryz.ntmps144
 go_wp2_with (first|(refine be_ 3 #[.int .i64 a1_0,.int .i32 a1_1] 80 ?_;intro gb297 hg w3 hbox hb;have BK297:=K_ (hbox);have GW297:=ge_ hg HB;have GE297:=ge_ hg HB;replace HB:=zF HB hb;clear hb hbox hg))
 repeat (go_quiet (first|(refine be_ 3 #[.int .i64 a1_0,.int .i32 a1_1] 80 ?_;intro gb297 hg w3 hbox hb;have BK297:=K_ (hbox);have GW297:=ge_ hg HB;have GE297:=ge_ hg HB;replace HB:=zF HB hb;clear hb hbox hg));try go_wp2_with (first|(refine be_ 3 #[.int .i64 a1_0,.int .i32 a1_1] 80 ?_;intro gb297 hg w3 hbox hb;have BK297:=K_ (hbox);have GW297:=ge_ hg HB;have GE297:=ge_ hg HB;replace HB:=zF HB hb;clear hb hbox hg)))
 go_loopg [8] k (fun kq v8 w'=>∃ (x8_1:Int),v8=.int .i64 x8_1∧Aside0 (vG.l0 kq l0 (l0.length:Int) x8_1 a1_0 a1_1=some r)∧Aside0 (kq≤k)∧Aside0 (w'.heap[gb297]?=some (.cells #[.int .i64 a1_0,.int .i32 a1_1] 80 (0,0)))∧Aside0 (Below w.heap.size w w'))
 case atStart=>exact⟨(0),SR,H',⟨Nat.le_refl _⟩,⟨BK BK297⟩,⟨BL HB⟩⟩
 case round =>
  clear H';obtain⟨x8_1,rfl,HA,HK1,BK297,HB⟩:=hrel;obtain _|k1:=gk
  ·exact absurd HA.out (by simp[vG.l0])
  have H:=HA.out;clear HA;simp only[vG.l0] at H
  by_cases c4:x8_1<(l0.length:Int)
  ·rw[if_pos c4] at H
   have c4b0:decide (x8_1<(l0.length:Int))=true:=decide_eq_true c4;clear c4;by_cases c5:0≤x8_1
   ·rw[if_pos c5] at H
    have c5b0:decide (0≤x8_1)=true:=decide_eq_true c5;clear c5;by_cases c6:x8_1<(l0.length:Int)
    ·rw[if_pos c6] at H
     have c6b0:decide (x8_1<(l0.length:Int))=true:=decide_eq_true c6;clear c6;by_cases c7:(a1_0==((qP l0 x8_1).f0)&&(a1_1==((qP l0 x8_1).f1)))=true
     ·rw[if_pos c7] at H
      have c7b0:(a1_0==((qP l0 x8_1).f0)&&(a1_1==((qP l0 x8_1).f1)))=true:=c7
      (try (have c7b1:decide (a1_0=((qP l0 x8_1).f0)&&(a1_1==((qP l0 x8_1).f1)))=true:=by simpa using c7))
      (try (have c7b2:(a1_0==((qP l0 x8_1).f0)&&(a1_1==((qP l0 x8_1).f1)))=true:=by simpa using c7))
      clear c7;obtain rfl:=Option.some.inj H;obtain⟨⟨hcz8_0,hcz8_1⟩,hfz8_0,hfz8_1⟩:=ce2 BK297;have p298:0≤(x8_1:Int):=of_decide_eq_true (by first|(with_reducible assumption)|assumption);have q298:x8_1<(l0.length:Int):=of_decide_eq_true (by first|(with_reducible assumption)|assumption);obtain⟨ad298,e298,hx298_0,hx298_1⟩:=zjl HR0.out x8_1 p298 q298;cases e298;replace hx298_0:=(HB.out.cell (World.block_lt_of_cell? w _ hx298_0)).trans hx298_0;replace hx298_1:=(HB.out.cell (World.block_lt_of_cell? w _ hx298_1)).trans hx298_1;replace p298:=eq_true p298;replace q298:=eq_true q298;go_wp2
      repeat (go_quiet (fail);try go_wp2)
      go_ret
      exact⟨ER,BL HB⟩
     rw[if_neg c7] at H;have c7b0:(a1_0==((qP l0 x8_1).f0)&&(a1_1==((qP l0 x8_1).f1)))=false:=by simpa using c7
     (try (have c7b1:decide (a1_0=((qP l0 x8_1).f0)&&(a1_1==((qP l0 x8_1).f1)))=false:=by simpa using c7))
     (try (have c7b2:(a1_0==((qP l0 x8_1).f0)&&(a1_1==((qP l0 x8_1).f1)))=false:=by simpa using c7))
     (try (have c7b3:¬ (a1_0=((qP l0 x8_1).f0)&&(a1_1==((qP l0 x8_1).f1))):=by simpa using c7))
     clear c7;have H':=K_ H;clear H;obtain⟨⟨hcz9_0,hcz9_1⟩,hfz9_0,hfz9_1⟩:=ce2 BK297;have p298:0≤(x8_1:Int):=of_decide_eq_true (by first|(with_reducible assumption)|assumption);have q298:x8_1<(l0.length:Int):=of_decide_eq_true (by first|(with_reducible assumption)|assumption);obtain⟨ad298,e298,hx298_0,hx298_1⟩:=zjl HR0.out x8_1 p298 q298;cases e298;replace hx298_0:=(HB.out.cell (World.block_lt_of_cell? w _ hx298_0)).trans hx298_0;replace hx298_1:=(HB.out.cell (World.block_lt_of_cell? w _ hx298_1)).trans hx298_1;replace p298:=eq_true p298;replace q298:=eq_true q298;go_wp2
     repeat (go_quiet (fail);try go_wp2)
     go_roundg k1
     case measure=>have:=HK1.out;omega
     case rel=>exact⟨(wrap64 (x8_1+1)),SR,H',⟨by have:=HK1.out;omega⟩,⟨BK BK297⟩,⟨BL HB⟩⟩
    rw[if_neg c6] at H;exact absurd H (by simp)
   rw[if_neg c5] at H;exact absurd H (by simp)
  rw[if_neg c4] at H;have c4b0:decide (x8_1<(l0.length:Int))=false:=decide_eq_false c4;clear c4;obtain rfl:=Option.some.inj H;go_wp2
  repeat (go_quiet (fail);try go_wp2)
  go_ret
  exact⟨ER,BL HB⟩
end Go.Proofs.YtcmgdjnjmobkoaaGreatDoor.Px
namespace Go.Proofs.YtcmgdjnjmobkoaaGreatDoor.Px
open Fig Go.RowKit Go.Proofs.YtcmgdjnjmobkoaaGreatDoorW.PrintWords Go.Proofs.YtcmgdjnjmobkoaaGreatDoorW.PrintLast Go.Proofs.YtcmgdjnjmobkoaaGreatDoorW.PrintMore
attribute [local go_sem] vK vL uE uD yS yP vM vJ
attribute [local go_sem] qQ qX qL qW qY qN qZ xA qT qS qU qV xB qO
def zbK.f (k:Nat) (l0:List (S80)) (a1_0:Int) (a1_1:Int):Option (Bool):=(vG.f k l0 a1_0 a1_1).bind fun t300=>(some (decide (t300 ≥ 0)))
set_option maxHeartbeats 8000000 in
set_option maxRecDepth 100000 in
theorem zbK.calls (k:Nat) (A0:Option Addr) (c0:Nat) (l0:List (S80)) (a1_0:Int) (a1_1:Int) (r:Bool) (w:World) (hr0:Kd.C k80 w A0 l0.length l0) (hc0:l0.length≤c0) (h:zbK.f k l0 a1_0 a1_1=some r) :
  Calls Tryz.prog 127 #[.slice A0 l0.length c0,.agg #[.int .i64 a1_0,.int .i32 a1_1]] w fun e w'=>e=.returned (.bool r)∧Below w.heap.size w w':=by
 have hu80:=Tryz.underlying80;have HR0:=K_ hr0;have HC0:=K_ hc0;clear hr0 hc0;have HB:=K_ (Below.refl w.heap.size w);have H:((vG.f k l0 a1_0 a1_1).bind fun t300=>(some (decide (t300 ≥ 0))))=some r:=h;clear h;replace H:=Option.bind_eq_some_iff.mp H;obtain⟨t300,A30,H⟩:=H;replace H:(some (decide (t300 ≥ 0)))=some r:=H;have A3:=K_ A30;clear A30;obtain rfl:=Option.some.inj H;go_enter Tryz.func127,Tryz.ntmps127
 go_wp2_with (first|(refine be_ 3 #[.int .i64 a1_0,.int .i32 a1_1] 80 ?_;intro gb299 hg w4 hbox hb;have n0_:=zF HB hb;have n1_:=K_ (hbox);have n2_:=ge_ hg HB;have n3_:=ge_ hg HB;clear HB;have HB:=n0_;have BK299:=n1_;have GW299:=n2_;have GE299:=n3_;clear n0_ n1_ n2_ n3_;clear hb hbox hg;have hcz5_0:w4.cell? ⟨gb299,0,none⟩=some (.int .i64 a1_0):=(zA BK299.out 0).trans rfl;have hcz5_1:w4.cell? ⟨gb299,1,none⟩=some (.int .i32 a1_1):=(zA BK299.out 1).trans rfl;have hfz5_0:=zM BK299.out 0;have hfz5_1:=zM BK299.out 1)|((with_reducible refine zH (f:=144) rfl ?_);refine zT (some 7) rfl rfl Tryz.func144 (by kernel_rfl) rfl #[.slice A0 l0.length c0,.agg #[.int .i64 a1_0,.int .i32 a1_1]] rfl MP ?_;(with_reducible refine (vG.calls k _ _ l0 a1_0 a1_1 t300 _ ?side1 ?side2 A3.out).mono ?_);(case side1=>exact CB (Kd.C_below HR0.out HB.out));(case side2=>exact HC0.out);rintro e w6 ⟨rfl,hb⟩;refine⟨_,rfl,?_⟩;have n0_:=zC BK299 hb;have n1_:=zF HB hb;clear BK299;clear HB;have BK299:=n0_;have HB:=n1_;clear n0_ n1_;(try clear hb);(try clear hb2);(try clear hk);(try clear hi)))
 go_ret
 exact⟨ER,BL HB⟩
section
set_option maxRecDepth 100000
set_option maxHeartbeats 4000000 in
theorem znI (n:Nat) (hn:n≤100000) (w:World):Calls Tryz.prog 145 #[.slice none 0 0,.int .i64 n] w fun e w'=>∃ v,e=.returned v∧Kd.R k80 80 w' w.heap.size (fun _=>True) v []∧Below w.heap.size w w':=by
 have HL:=K_ (show (([]:List S80).length+((n:Nat):Int).toNat) * 16≤140737488355328 by simp;omega);by_cases h0:n=0
 ·subst h0
  go_enter Tryz.func145,Tryz.ntmps145
  go_wp2
  go_ret
  exact⟨_,rfl,Kd.R_nil _ _ _ _ _,Below.refl _ _⟩
 have hp:0<n:=by omega
 have HN:=K_ hn;go_enter Tryz.func145,Tryz.ntmps145
 go_wp2_with ((with_reducible refine jH (b:=.append) (xs:=#[.tmp 20,.tmp 21]) rfl ?_);at_builtin;(refine Kd.R_append_zeros k80 (w0:=w) w.heap.size rfl (.tmp 20) (.tmp 21) 24 3 80 (.agg #[(.int .i64 0),(.int .i32 0)]) 16 rfl Tryz.underlying24 Tryz.underlying3 zfb rfl (by decide) (by omega) (.slice none 0 0) [] (⟨0,0⟩:S80) (n:Int) (fun _=>True) rfl rfl (zep _ _ _ _) (fun _ _=>trivial) ?aO (by omega) ?aB ?aS ?aL ?_;(case aO=>exact Kd.R_nil _ _ _ _ _);(case aB=>exact Below.refl _ _);(case aS=>exact Nat.le_refl _);(case aL=>exact HL.out);intro v1 w2 ho2 hb2 hg2 hat2;obtain⟨A2,c2,rfl⟩:=Kd.R_slice ho2;have HO2:=K_ ho2;have HB2:=K_ hb2;clear ho2 hb2 hg2 hat2))
 go_ret
 exact⟨_,rfl,Kd.R_take HO2.out (m:=0) (Nat.zero_le _),HB2.out⟩
structure PL where
 A:Option Addr
 c:Nat
 l:List S80
theorem znS (w:World) (o o':Obj):((w.alloc o).alloc o').heap[w.heap.size+1]?=some o':=by have:=zcl (w.alloc o) o';simpa using this
def yV (L:List PL) (k:Nat):PL:=L.getD k ⟨none,0,[]⟩
def zcz (L:List PL) (k:Nat):Nat:=((L.take k).map (·.l.length)).sum
def zbQ (L:List PL) (k:Nat):List S80:=((L.take k).map (·.l)).flatten
theorem zfr {L:List PL} {k:Nat} (h:k<L.length):L.take (k+1)=L.take k++[yV L k]:=by
 rw[List.take_succ_eq_append_getElem h];unfold yV;rw[List.getD_eq_getElem?_getD,List.getElem?_eq_getElem h];rfl
theorem zia {L:List PL} {k:Nat} (h:k<L.length):zcz L (k+1)=zcz L k+(yV L k).l.length:=by
 unfold zcz;rw[zfr h];simp
theorem zmg {L:List PL} {k:Nat} (h:k<L.length):zbQ L (k+1)=zbQ L k++(yV L k).l:=by
 unfold zbQ;rw[zfr h];simp
theorem zgj (L:List PL) (k:Nat):(zbQ L k).length=zcz L k:=by
 unfold zbQ zcz;rw[List.length_flatten,List.map_map];rfl
theorem zhB {L:List PL} (hl:∀ k,k<L.length→(yV L k).l.length≤1000):∀ k,k≤L.length→zcz L k≤1000 * k
 | 0,_=>by simp[zcz]
 | k+1,h=>by have:=zhB hl k (by omega);have:=hl k (by omega);rw[zia (by omega)];omega
set_option maxHeartbeats 4000000 in
theorem zpu (L:List PL) (hL:L.length=4) (g:Nat) (w:World) (hcell:∀ k,k<4→w.cell? ⟨g,k,none⟩=some (.slice (yV L k).A (yV L k).l.length (yV L k).c)) (hr:∀ k,k<4→Kd.C k80 w (yV L k).A (yV L k).l.length (yV L k).l) (hlen:∀ k,k<4→(yV L k).l.length≤1000) :
  Calls Tryz.prog 128 #[.slice (some ⟨g,0,none⟩) 4 4] w fun e w'=>∃ v,e=.returned v∧Kd.R k80 80 w' w.heap.size (fun _=>True) v (zbQ L 4)∧Below w.heap.size w w':=by
 have HC:=K_ hcell;have HR:=K_ hr;have HT:∀ k,k≤4→zcz L k≤4000:=fun k hk=>by have:=zhB (L:=L) (by rw[hL];exact hlen) k (by omega);omega
 have HS:=K_ (show ∀ k,k<4→zcz L (k+1)=zcz L k+(yV L k).l.length∧zbQ L (k+1)=zbQ L k++(yV L k).l∧(zbQ L k).length=zcz L k from fun k hk=>⟨zia (by omega),zmg (by omega),zgj L k⟩);have HT:=K_ HT;have HL:=K_ hlen;clear hcell hr hlen;go_enter Tryz.func128,Tryz.ntmps128
 go_wp2
 go_loop [3,11] (fun s i=>∃ k:Nat,k≤4∧i=.int .i64 k∧s=.int .i64 (zcz L k)) (fun _ i=>4-(intOf i).toNat)
 case atStart=>exact⟨0,by omega,rfl,rfl⟩
 case round =>
  obtain⟨k,hk,rfl,rfl⟩:=hrel;by_cases hlt:k<4
  ·have hc:=HC.out k hlt
   have hb:=HT.out k hk;have hl:=HL.out k hlt;have h0:decide (((zcz L k:Nat):Int)+(((yV L k).l.length:Nat):Int)<0)=false:=decide_eq_false (by omega);go_wp2
   go_round
   case rel=>exact⟨k+1,by omega,by go_num,by rw[(HS.out k hlt).1];go_num⟩
   case measure=>simp[intOf];omega
  obtain rfl:k=4:=by omega
  go_wp2_with (go_at_call 145;refine (znI (zcz L 4) (by have:=HT.out 4 (by omega);omega) _).mono ?_;rintro e w1 ⟨v,rfl,ho,hb⟩;have HO:=K_ ho;have HB:=K_ hb;clear ho hb)
  go_loopw [6,27] (fun v i wr=>∃ k:Nat,k≤4∧i=.int .i64 k∧Kd.R k80 80 wr w.heap.size (fun _=>True) v (zbQ L k)∧Below w.heap.size w wr) (fun _ i _=>4-(intOf i).toNat)
  case atStart=>exact⟨0,by omega,rfl,HO.out,HB.out⟩
  case round =>
   obtain⟨k,hk,rfl,ho,hb⟩:=hrel;have HO2:=K_ ho;have HB2:=K_ hb;clear ho hb;by_cases hlt:k<4
   ·have hc:=(HB2.out.cell (World.block_lt_of_cell? w _ (HC.out k hlt))).trans (HC.out k hlt)
    have HQ:=K_ (Kd.C_below (HR.out k hlt) HB2.out);have HLL:=K_ (show ((zbQ L k).length+(yV L k).l.length) * 16≤140737488355328 by rw[(HS.out k hlt).2.2];have:=HT.out k hk;have:=HL.out k hlt;omega);go_wp2_with ((with_reducible refine jH (b:=.append) (xs:=#[.tmp 31,.tmp 32]) rfl ?_);at_builtin;(refine Kd.R_append_rows k80 (w0:=w) w.heap.size rfl (.tmp 31) (.tmp 32) 24 80 (.agg #[(.int .i64 0),(.int .i32 0)]) 16 rfl Tryz.underlying24 zfb rfl (by decide) (by omega) _ (zbQ L k) (yV L k).l (yV L k).A (yV L k).l.length (yV L k).c (fun _=>True) (fun _=>False) rfl rfl ?aO ?aR (fun _ _ h=>h) (fun _ h=>h.elim) (fun _ _=>trivial) ?aB ?aS ?aL ?_;(case aO=>exact HO2.out);(case aR=>exact HQ.out);(case aB=>exact HB2.out);(case aS=>exact HB2.out.size);(case aL=>exact HLL.out);intro v1 w2 ho2 hb2 hg2 hat2;rw[←(HS.out k hlt).2.1] at ho2;have HO3:=K_ ho2;have HB3:=K_ hb2;clear ho2 hb2 hg2 hat2))
    go_roundw
    case rel=>exact⟨k+1,by omega,by go_num,HO3.out,HB3.out⟩
    case measure=>simp[intOf];omega
   obtain rfl:k=4:=by omega
   go_wp2
   go_ret
   exact⟨_,rfl,HO2.out,HB2.out⟩
theorem ziE (l:List S80) (a b:Int) (hl:l.length≤1000000):∀ d n,l.length-n=d→n≤l.length→∃ r,Ev (fun k=>vG.l0 k l (l.length:Int) (n:Int) a b) r∧decide (r ≥ 0)=(l.drop n).any (fun x=>a==x.f0&&b==x.f1)
 | 0,n,hd,hn=>by
  refine⟨-1,zaE (r':=-1) (fun k=>?_) rfl,?_⟩
  ·simp only[vG.l0];rw[if_neg (by omega)]
  rw[List.drop_of_length_le (by omega)];rfl
 | d+1,n,hd,hn=>by
  have hlt:n<l.length:=by omega
  have hx:qP l (n:Int)=l[n]:=by unfold qP;rw[Int.toNat_natCast,List.getD_eq_getElem?_getD,List.getElem?_eq_getElem hlt];rfl
  have hc:=List.drop_eq_getElem_cons (l:=l) (i:=n) hlt;cases hb:(a==l[n].f0&&b==l[n].f1)
  ·obtain⟨r,hr,h2⟩:=ziE l a b hl d (n+1) (by omega) (by omega)
   refine⟨r,Ev.step (f:=fun k=>vG.l0 k l (l.length:Int) ((n+1:Nat):Int) a b) (fun k=>?_) hr,?_⟩
   ·simp only[vG.l0];rw[if_pos (by omega),if_pos (by omega),if_pos (by omega),hx,hb,if_neg (by decide),xU _ (by omega)]
   rw[hc,List.any_cons,hb,Bool.false_or];exact h2
  refine⟨(n:Int),zaE (r':=(n:Int)) (fun k=>?_) rfl,?_⟩
  ·simp only[vG.l0];rw[if_pos (by omega),if_pos (by omega),if_pos (by omega),hx,hb,if_pos rfl]
  rw[hc,List.any_cons,hb,Bool.true_or];exact decide_eq_true (by omega)
theorem zql (l:List S80) (a b:Int) (hl:l.length≤1000000):Ev (fun k=>zbK.f k l a b) (l.any fun x=>a==x.f0&&b==x.f1):=by
 obtain⟨r,hr,h2⟩:=ziE l a b hl l.length 0 (by omega) (by omega);rw[List.drop_zero] at h2;unfold zbK.f vG.f;exact Ev.bind hr (zaw (Ev.now _) h2)
set_option maxHeartbeats 4000000 in
theorem zqH (L:List PL) (hL:L.length=4) (g:Nat) (kind:Int) (w:World) (hcell:∀ k,k<4→w.cell? ⟨g,k,none⟩=some (.slice (yV L k).A (yV L k).l.length (yV L k).c)) (hr:∀ k,k<4→Kd.C k80 w (yV L k).A (yV L k).l.length (yV L k).l) (hlen:∀ k,k<4→(yV L k).l.length≤1000) :
  Calls Tryz.prog 94 #[.int .i64 kind,.slice (some ⟨g,0,none⟩) 4 4] w fun e w'=>e=.returned (.bool ((zbQ L 4).any fun x=>kind==x.f0&&0==x.f1))∧Below w.heap.size w w':=by
 have HC:=K_ (zpu L hL g w hcell hr hlen);have ht:=zhB (L:=L) (by rw[hL];exact hlen) 4 (by omega);obtain⟨k,hk⟩:=Ev.rounds (zql (zbQ L 4) kind 0 (by rw[zgj];omega));have HK:=K_ hk;clear hcell hr hlen ht hk;go_enter Tryz.func94,Tryz.ntmps94
 go_wp2_with (first
  | (go_at_call 128;refine HC.out.mono ?_;rintro e w1 ⟨v,rfl,ho,hb⟩;obtain⟨A1,c1,rfl⟩:=Kd.R_slice ho;have HO:=K_ ho;have HB:=K_ hb;clear ho hb)
  | (go_at_call 127;refine (zbK.calls k A1 c1 (zbQ L 4) kind 0 _ _ (Kd.R_reads' HO.out).2.2 (Kd.R_reads' HO.out).2.1 HK.out).mono ?_;rintro e w2 ⟨rfl,hb⟩;have HB2:=K_ hb;clear hb))
 go_ret
 exact⟨rfl,HB.out.trans (HB2.out.mono HB.out.size)⟩
def zbC.f (l0_0:List (S80)) (l0_1:List (S80)) (a0_2:Bool) (l0_3:List (S80)) (l0_4:List (S80)) (a0_5:Int) (a0_6:Int) (a0_7:Int) (a0_8:Int) (a0_9:Int) (a0_10:Int) (a0_11:Int) (a0_12:Int) (a0_13:ByteArray) (a0_14:Bool) (a0_15:Int) (a0_16:Bool) (a0_17:Int) (a0_18:Int) (a0_19:Int) (a1:Int):Option Bool:=
 if l0_0.length≤1000∧l0_1.length≤1000∧l0_3.length≤1000∧l0_4.length≤1000 then some ((l0_0++l0_1++l0_3++l0_4).any fun x=>a1==x.f0&&0==x.f1) else none
set_option maxHeartbeats 4000000 in
set_option maxRecDepth 100000 in
theorem zbC.calls (A0_0:Option Addr) (c0_0:Nat) (l0_0:List (S80)) (A0_1:Option Addr) (c0_1:Nat) (l0_1:List (S80)) (a0_2:Bool) (A0_3:Option Addr) (c0_3:Nat) (l0_3:List (S80)) (A0_4:Option Addr) (c0_4:Nat) (l0_4:List (S80)) (a0_5:Int) (a0_6:Int) (a0_7:Int) (a0_8:Int) (a0_9:Int) (a0_10:Int) (a0_11:Int) (a0_12:Int) (a0_13:ByteArray) (a0_14:Bool) (a0_15:Int) (a0_16:Bool) (a0_17:Int) (a0_18:Int) (a0_19:Int) (a1:Int) (r:Bool) (w:World) (hr0_0:Kd.C k80 w A0_0 l0_0.length l0_0) (hc0_0:l0_0.length≤c0_0) (hr0_1:Kd.C k80 w A0_1 l0_1.length l0_1) (hc0_1:l0_1.length≤c0_1) (hr0_3:Kd.C k80 w A0_3 l0_3.length l0_3) (hc0_3:l0_3.length≤c0_3) (hr0_4:Kd.C k80 w A0_4 l0_4.length l0_4) (hc0_4:l0_4.length≤c0_4) (h:zbC.f l0_0 l0_1 a0_2 l0_3 l0_4 a0_5 a0_6 a0_7 a0_8 a0_9 a0_10 a0_11 a0_12 a0_13 a0_14 a0_15 a0_16 a0_17 a0_18 a0_19 a1=some r) :
  Calls Tryz.prog 61 #[.agg #[.slice A0_0 l0_0.length c0_0,.slice A0_1 l0_1.length c0_1,.bool a0_2,.slice A0_3 l0_3.length c0_3,.slice A0_4 l0_4.length c0_4,.int .i64 a0_5,.int .i64 a0_6,.int .i64 a0_7,.int .i64 a0_8,.int .i64 a0_9,.int .i64 a0_10,.int .i64 a0_11,.int .i64 a0_12,.string a0_13,.bool a0_14,.int .i64 a0_15,.bool a0_16,.int .i64 a0_17,.int .i32 a0_18,.int .i64 a0_19],.int .i64 a1] w fun e w'=>e=.returned (.bool r)∧Below w.heap.size w w':=by
 unfold zbC.f at h;by_cases hg:l0_0.length≤1000∧l0_1.length≤1000∧l0_3.length≤1000∧l0_4.length≤1000
 ·rw[if_pos hg] at h
  have HRR:=K_ (Option.some.inj h);obtain⟨L,hLL⟩:∃ L:List PL,L=[⟨A0_0,c0_0,l0_0⟩,⟨A0_1,c0_1,l0_1⟩,⟨A0_3,c0_3,l0_3⟩,⟨A0_4,c0_4,l0_4⟩]:=⟨_,rfl⟩
  have HL:=K_ hLL;have HG:=K_ hg;have H0:=K_ hr0_0;have H1:=K_ hr0_1;have H3:=K_ hr0_3;have H4:=K_ hr0_4;clear hLL hg hr0_0 hr0_1 hr0_3 hr0_4 h hc0_0 hc0_1 hc0_3 hc0_4;have HW:∀ (g:Nat) (W:World),Below w.heap.size w W→W.heap[g]?=some (.cells #[.slice A0_0 l0_0.length c0_0,.slice A0_1 l0_1.length c0_1,.slice A0_3 l0_3.length c0_3,.slice A0_4 l0_4.length c0_4] 24 (0,0))→Calls Tryz.prog 94 #[.int .i64 a1,.slice (some ⟨g,0,none⟩) 4 4] W fun e w'=>e=.returned (.bool r)∧Below W.heap.size W w':=by
   intro g W hb hg;have e:zbQ L 4=l0_0++l0_1++l0_3++l0_4:=by rw[HL.out];unfold zbQ;simp
   rw[←HRR.out,←e];have hk:∀ k,k<4→(k=0∧yV L k=⟨A0_0,c0_0,l0_0⟩)∨(k=1∧yV L k=⟨A0_1,c0_1,l0_1⟩)∨(k=2∧yV L k=⟨A0_3,c0_3,l0_3⟩)∨(k=3∧yV L k=⟨A0_4,c0_4,l0_4⟩):=by
    intro k hk;rw[HL.out]
    match k,hk with
    | 0,_=>exact .inl ⟨rfl,rfl⟩
    | 1,_=>exact .inr (.inl ⟨rfl,rfl⟩)
    | 2,_=>exact .inr (.inr (.inl ⟨rfl,rfl⟩))
    | 3,_=>exact .inr (.inr (.inr ⟨rfl,rfl⟩))
   obtain⟨g0,g1,g3,g4⟩:=HG.out;refine zqH L (by rw[HL.out];rfl) g a1 W (fun k h=>?_) (fun k h=>?_) (fun k h=>?_)
   ·rcases hk k h with ⟨rfl,h2⟩|⟨rfl,h2⟩|⟨rfl,h2⟩|⟨rfl,h2⟩ <;> rw[h2] <;> exact (zA hg _).trans rfl
   ·rcases hk k h with ⟨rfl,h2⟩|⟨rfl,h2⟩|⟨rfl,h2⟩|⟨rfl,h2⟩ <;> rw[h2]
    ·exact Kd.C_below H0.out hb
    ·exact Kd.C_below H1.out hb
    ·exact Kd.C_below H3.out hb
    exact Kd.C_below H4.out hb
   rcases hk k h with ⟨rfl,h2⟩|⟨rfl,h2⟩|⟨rfl,h2⟩|⟨rfl,h2⟩ <;> rw[h2] <;> assumption
  have HW:=K_ HW;go_enter Tryz.func61,Tryz.ntmps61
  go_wp2_with (go_at_call 94;refine (HW.out _ _ ?hb ?hg).mono ?_;(case hb=>exact ((Below.refl _ _).alloc (Nat.le_refl _) _).alloc (by simp) _);(case hg=>exact znS _ _ _);rintro e w1 ⟨rfl,hb⟩;have HB:=K_ hb;clear hb)
  go_ret
  exact⟨rfl,(((Below.refl _ _).alloc (Nat.le_refl _) _).alloc (by simp) _).trans (HB.out.mono (by simp;omega))⟩
 rw[if_neg hg] at h;cases h
end
def yF.f (a0:Int):Option (Bool):=if a0 ≥ 0 then (some (decide (a0<8))) else (some false)
set_option maxHeartbeats 8000000 in
set_option maxRecDepth 100000 in
theorem yF.calls (a0:Int) (r:Bool) (w:World) (h:yF.f a0=some r) :
  Calls Tryz.prog 32 #[.int .i64 a0] w fun e w'=>e=.returned (.bool r)∧zL w w':=by
 have H:(if a0 ≥ 0 then (some (decide (a0<8))) else (some false))=some r:=h;clear h;by_cases c2:a0 ≥ 0
 ·rw[if_pos c2] at H
  have c2b0:decide (0≤a0)=true:=decide_eq_true c2;clear c2;obtain rfl:=Option.some.inj H;go_enter Tryz.func32,Tryz.ntmps32
  go_wp2
  go_ret
  exact⟨by first|rfl|(simp;done)|(simp[*];done)|(simp[*,Fig.bne_nil];done),by repeat (first|exact zL.refl _|apply zL.step)⟩
 rw[if_neg c2] at H;have c2b0:decide (0≤a0)=false:=decide_eq_false c2;clear c2;obtain rfl:=Option.some.inj H;go_enter Tryz.func32,Tryz.ntmps32
 go_wp2
 go_ret
 exact⟨by first|rfl|(simp;done)|(simp[*];done)|(simp[*,Fig.bne_nil];done),by repeat (first|exact zL.refl _|apply zL.step)⟩
end Go.Proofs.YtcmgdjnjmobkoaaGreatDoor.Px
namespace Go.Proofs.YtcmgdjnjmobkoaaGreatDoor.Px
set_option linter.all false
open Fig Go.RowKit Go.Proofs.YtcmgdjnjmobkoaaGreatDoorW.PrintWords Go.Proofs.YtcmgdjnjmobkoaaGreatDoorW.PrintLast Go.Proofs.YtcmgdjnjmobkoaaGreatDoorW.PrintMore
attribute [local go_sem] vK vL uE uD yS yP vM vJ
section
def SLc (W:World) (A:Option Addr) (c:Nat) (l:List Int):Prop:=Kd.C (Kd.int .u32) W A l.length l∧l.length≤c
theorem SLc.below {W W':World} {A:Option Addr} {c:Nat} {l:List Int} (h:SLc W A c l) (hb:Below W.heap.size W W'):SLc W' A c l:=⟨Kd.C_below h.1 hb,h.2⟩
theorem slc {W:World} {A:Option Addr} {c n b:Nat} {l:List Int} {ok:Nat→Prop} (h:Kd.R (Kd.int .u32) 95 W b ok (.slice A n c) l):SLc W A c l:=⟨(Kd.R_reads' h).2.2,by have:=(Kd.R_reads' h).2.1;have:=(Kd.R_reads' h).1;omega⟩
theorem zhC {W:World} {g:Nat} (h:W.heap[g]?=some (.cells #[.int .u32 1] 95 (0,0))):SLc W (some ⟨g,0,none⟩) 1 [1]:=by
 refine⟨⟨rfl,by decide,fun _=>⟨_,rfl,fun j p hj=>?_⟩⟩,Nat.le_refl _⟩
 match j,hj with
 | 0,hj =>
  simp at hj;subst hj
  refine⟨[.int .u32 1],rfl,rfl,fun i u hu=>?_⟩
  match i,hu with
  | 0,hu =>
   simp at hu;subst hu
   rw[show (⟨g,0,none⟩:Addr).add (0 * (Kd.int .u32).sz+0)=⟨g,0,none⟩ by simp[Addr.add]];exact (zA h 0).trans rfl
theorem zca {W W':World} (h:zL W W'):Below W.heap.size W W':=by obtain⟨n,rfl⟩:=h;exact jK (Below.refl _ _) n
theorem zhX {P:Program} {ops:Array Oper} {o:Oper} {a:Act} {Q:Exit→Act→World→Prop} {Kc:Act→World→Prop} {W:World} (hw:Region.wanted o (yielded ops a.tmps)=true) {N:Tmp} (_hd:o.dst=some N)
  (hrun:(execOp a.eval o).run P W=.ok (.value (.slice (some ⟨W.heap.size,0,none⟩) 1 1)) (W.alloc (.cells #[.int .u32 1] 95 (0,0))))
  (h:∀ g,g=W.heap.size→∀ w1,w1.heap[g]?=some (.cells #[.int .u32 1] 95 (0,0))→Below W.heap.size W w1→Kc (a.put o.dst (.slice (some ⟨g,0,none⟩) 1 1)) w1):if Region.wanted o (yielded ops a.tmps)=true then Oper.wp P o a W Kc Q else Kc (a.put o.dst undef) W:=
 zhm hw hrun (h _ rfl _ (zcl W _) (yC (Below.refl _ _) _))
section
variable {P:Program} {ops:Array Oper} {rest:List Oper} {o:Oper} {a:Act} {Q:Exit→Act→World→Prop}
theorem zoq {W:World} (N:Tmp) (h:∀ g,g=W.heap.size→∀ w1,w1.heap[g]?=some (.cells #[.int .u32 1] 95 (0,0))→Below W.heap.size W w1→wpList P ops Q rest (a.put o.dst (.slice (some ⟨g,0,none⟩) 1 1)) w1)
  (hd:o.dst=some N:=by with_reducible rfl) (hgd:o.guard=none:=by rfl) (hrun:(execOp a.eval o).run P W=.ok (.value (.slice (some ⟨W.heap.size,0,none⟩) 1 1)) (W.alloc (.cells #[.int .u32 1] 95 (0,0))):=by (first|(go_simp;done)|(go_simp;rfl))):wpList P ops Q (o :: rest) a W:=
 Kd.event_run hgd hrun (h _ rfl _ (zcl W _) (yC (Below.refl _ _) _))
end
theorem zag:(Tryz.prog.info? 23).map (·.size)=some 3:=by kernel_rfl
end
end Go.Proofs.YtcmgdjnjmobkoaaGreatDoor.Px
section
namespace Go.Proofs
open Go.Shelf
def Tryz.lays169_ren:Go.Shelf.Ren:=⟨fun|169=>97|n=>n,fun|70=>116|9=>9|0=>0|72=>118|37=>107|127=>158|3=>3|5=>5|n=>n,fun|n=>n⟩
theorem Tryz.lays169:Go.Proofs.Lays.n169 Tryz.prog Tryz.lays169_ren:={
 mixed:=by kernel_rfl
 f169:=Tryz.func97.trans (congrArg some (by kernel_rfl))
 t0:=Tryz.underlying0
 a0:=Tryz.isAgg0
 z0:=Tryz.sizeOf0
 v0:=Tryz.zeroValue0
 t3:=Tryz.underlying3
 a3:=Tryz.isAgg3
 z3:=Tryz.sizeOf3
 v3:=Tryz.zeroValue3
 t9:=Tryz.underlying9
 a9:=Tryz.isAgg9
 z9:=Tryz.sizeOf9
 v9:=Tryz.zeroValue9
 t37:=Tryz.underlying107
 a37:=Tryz.isAgg107
 z37:=Tryz.sizeOf107
 v37:=Tryz.zeroValue107
 t70:=Tryz.underlying116
 a70:=Tryz.isAgg116
 z70:=Tryz.sizeOf116
 v70:=Tryz.zeroValue116
 t72:=Tryz.underlying118
 a72:=Tryz.isAgg118
 z72:=Tryz.sizeOf118
 v72:=Tryz.zeroValue118
 t127:=Tryz.underlying158
 a127:=Tryz.isAgg158
 z127:=Tryz.sizeOf158
 v127:=Tryz.zeroValue158 }
theorem Tryz.Builder_Extra_169:Builder.Extra Tryz.prog Tryz.lays169_ren:={
 sizeBuilder:=by kernel_rfl
 liesBuilder:=by kernel_rfl
 t5:=Tryz.underlying5
 a5:=Tryz.isAgg5
 z5:=Tryz.sizeOf5
 v5:=Tryz.zeroValue5
 infoByte:=by kernel_rfl
 cellsByte:=by kernel_rfl
 sizeByte:=by kernel_rfl
 neB5:=by decide }
def Tryz.lays161_ren:Go.Shelf.Ren:=⟨fun|161=>92|231=>120|227=>121|233=>122|235=>123|228=>140|197=>141|151=>142|260=>147|152=>148|137=>150|119=>151|224=>152|225=>153|217=>154|266=>155|n=>n,fun|9=>9|4=>4|3=>3|5=>5|117=>152|116=>151|0=>0|124=>155|105=>105|21=>21|119=>176|46=>177|139=>180|138=>179|n=>n,fun|3=>2|4=>3|n=>n⟩
theorem Tryz.lays161:Go.Proofs.Lays.n161 Tryz.prog Tryz.lays161_ren:={
 mixed:=by kernel_rfl
 f119:=Tryz.func151.trans (congrArg some (by kernel_rfl))
 f137:=Tryz.func150.trans (congrArg some (by kernel_rfl))
 f151:=Tryz.func142.trans (congrArg some (by kernel_rfl))
 f152:=Tryz.func148.trans (congrArg some (by kernel_rfl))
 f161:=Tryz.func92.trans (congrArg some (by kernel_rfl))
 f197:=Tryz.func141.trans (congrArg some (by kernel_rfl))
 f217:=Tryz.func154.trans (congrArg some (by kernel_rfl))
 f224:=Tryz.func152.trans (congrArg some (by kernel_rfl))
 f225:=Tryz.func153.trans (congrArg some (by kernel_rfl))
 f227:=Tryz.func121.trans (congrArg some (by kernel_rfl))
 f228:=Tryz.func140.trans (congrArg some (by kernel_rfl))
 f231:=Tryz.func120.trans (congrArg some (by kernel_rfl))
 f233:=Tryz.func122.trans (congrArg some (by kernel_rfl))
 f235:=Tryz.func123.trans (congrArg some (by kernel_rfl))
 f260:=Tryz.func147.trans (congrArg some (by kernel_rfl))
 f266:=Tryz.func155.trans (congrArg some (by kernel_rfl))
 t0:=Tryz.underlying0
 a0:=Tryz.isAgg0
 z0:=Tryz.sizeOf0
 v0:=Tryz.zeroValue0
 t3:=Tryz.underlying3
 a3:=Tryz.isAgg3
 z3:=Tryz.sizeOf3
 v3:=Tryz.zeroValue3
 t4:=Tryz.underlying4
 a4:=Tryz.isAgg4
 z4:=Tryz.sizeOf4
 v4:=Tryz.zeroValue4
 t5:=Tryz.underlying5
 a5:=Tryz.isAgg5
 z5:=Tryz.sizeOf5
 v5:=Tryz.zeroValue5
 t9:=Tryz.underlying9
 a9:=Tryz.isAgg9
 z9:=Tryz.sizeOf9
 v9:=Tryz.zeroValue9
 t21:=Tryz.underlying21
 a21:=Tryz.isAgg21
 z21:=Tryz.sizeOf21
 v21:=Tryz.zeroValue21
 t46:=Tryz.underlying177
 a46:=Tryz.isAgg177
 z46:=Tryz.sizeOf177
 v46:=Tryz.zeroValue177
 t105:=Tryz.underlying105
 a105:=Tryz.isAgg105
 z105:=Tryz.sizeOf105
 v105:=Tryz.zeroValue105
 t116:=Tryz.underlying151
 a116:=Tryz.isAgg151
 z116:=Tryz.sizeOf151
 t117:=Tryz.underlying152
 a117:=Tryz.isAgg152
 z117:=Tryz.sizeOf152
 v117:=Tryz.zeroValue152
 t119:=Tryz.underlying176
 a119:=Tryz.isAgg176
 z119:=Tryz.sizeOf176
 t124:=Tryz.underlying155
 a124:=Tryz.isAgg155
 z124:=Tryz.sizeOf155
 v124:=Tryz.zeroValue155
 t138:=Tryz.underlying179
 a138:=Tryz.isAgg179
 z138:=Tryz.sizeOf179
 v138:=Tryz.zeroValue179
 t139:=Tryz.underlying180
 a139:=Tryz.isAgg180
 z139:=Tryz.sizeOf180
 v139:=Tryz.zeroValue180
 g3:=by kernel_rfl
 g4:=by kernel_rfl }
open Go.RowKit in
theorem Tryz.strings_TrimLeft_one (s:ByteArray) (c:UInt8) (hc:c.toNat<128) (w:World) :
  Calls Tryz.prog 92 #[.string s,.string ⟨#[c]⟩] w fun e w'=>e=.returned (.string ⟨(Lib.trimLeftB s.data.toList c).toArray⟩)∧w'=w:=Any.strings_TrimLeft_one Tryz.lays161 s c hc w
def Tryz.lays162_ren:Go.Shelf.Ren:=⟨fun|162=>93|232=>124|227=>121|234=>125|236=>126|228=>140|271=>143|151=>142|120=>149|197=>141|152=>148|260=>147|137=>150|119=>151|224=>152|225=>153|217=>154|266=>155|n=>n,fun|9=>9|4=>4|3=>3|5=>5|117=>152|116=>151|0=>0|124=>155|21=>21|105=>105|46=>177|119=>176|139=>180|138=>179|n=>n,fun|3=>2|4=>3|n=>n⟩
theorem Tryz.lays162:Go.Proofs.Lays.n162 Tryz.prog Tryz.lays162_ren:={
 mixed:=by kernel_rfl
 f119:=Tryz.func151.trans (congrArg some (by kernel_rfl))
 f120:=Tryz.func149.trans (congrArg some (by kernel_rfl))
 f137:=Tryz.func150.trans (congrArg some (by kernel_rfl))
 f151:=Tryz.func142.trans (congrArg some (by kernel_rfl))
 f152:=Tryz.func148.trans (congrArg some (by kernel_rfl))
 f162:=Tryz.func93.trans (congrArg some (by kernel_rfl))
 f197:=Tryz.func141.trans (congrArg some (by kernel_rfl))
 f217:=Tryz.func154.trans (congrArg some (by kernel_rfl))
 f224:=Tryz.func152.trans (congrArg some (by kernel_rfl))
 f225:=Tryz.func153.trans (congrArg some (by kernel_rfl))
 f227:=Tryz.func121.trans (congrArg some (by kernel_rfl))
 f228:=Tryz.func140.trans (congrArg some (by kernel_rfl))
 f232:=Tryz.func124.trans (congrArg some (by kernel_rfl))
 f234:=Tryz.func125.trans (congrArg some (by kernel_rfl))
 f236:=Tryz.func126.trans (congrArg some (by kernel_rfl))
 f260:=Tryz.func147.trans (congrArg some (by kernel_rfl))
 f266:=Tryz.func155.trans (congrArg some (by kernel_rfl))
 f271:=Tryz.func143.trans (congrArg some (by kernel_rfl))
 t0:=Tryz.underlying0
 a0:=Tryz.isAgg0
 z0:=Tryz.sizeOf0
 v0:=Tryz.zeroValue0
 t3:=Tryz.underlying3
 a3:=Tryz.isAgg3
 z3:=Tryz.sizeOf3
 v3:=Tryz.zeroValue3
 t4:=Tryz.underlying4
 a4:=Tryz.isAgg4
 z4:=Tryz.sizeOf4
 v4:=Tryz.zeroValue4
 t5:=Tryz.underlying5
 a5:=Tryz.isAgg5
 z5:=Tryz.sizeOf5
 v5:=Tryz.zeroValue5
 t9:=Tryz.underlying9
 a9:=Tryz.isAgg9
 z9:=Tryz.sizeOf9
 v9:=Tryz.zeroValue9
 t21:=Tryz.underlying21
 a21:=Tryz.isAgg21
 z21:=Tryz.sizeOf21
 v21:=Tryz.zeroValue21
 t46:=Tryz.underlying177
 a46:=Tryz.isAgg177
 z46:=Tryz.sizeOf177
 v46:=Tryz.zeroValue177
 t105:=Tryz.underlying105
 a105:=Tryz.isAgg105
 z105:=Tryz.sizeOf105
 v105:=Tryz.zeroValue105
 t116:=Tryz.underlying151
 a116:=Tryz.isAgg151
 z116:=Tryz.sizeOf151
 t117:=Tryz.underlying152
 a117:=Tryz.isAgg152
 z117:=Tryz.sizeOf152
 v117:=Tryz.zeroValue152
 t119:=Tryz.underlying176
 a119:=Tryz.isAgg176
 z119:=Tryz.sizeOf176
 t124:=Tryz.underlying155
 a124:=Tryz.isAgg155
 z124:=Tryz.sizeOf155
 v124:=Tryz.zeroValue155
 t138:=Tryz.underlying179
 a138:=Tryz.isAgg179
 z138:=Tryz.sizeOf179
 v138:=Tryz.zeroValue179
 t139:=Tryz.underlying180
 a139:=Tryz.isAgg180
 z139:=Tryz.sizeOf180
 v139:=Tryz.zeroValue180
 g3:=by kernel_rfl
 g4:=by kernel_rfl }
open Go.RowKit in
theorem Tryz.strings_TrimRight_one (s:ByteArray) (c:UInt8) (hc:c.toNat<128) (w:World) (hs:s.size≤9223372036854775807) :
  Calls Tryz.prog 93 #[.string s,.string ⟨#[c]⟩] w fun e w'=>e=.returned (.string ⟨(Lib.trimRightB s.data.toList c).toArray⟩)∧w'=w:=Any.strings_TrimRight_one Tryz.lays162 s c hc w hs
open Go.RowKit in
theorem Tryz.Builder_String_any_k (B b:Nat) (l:List UInt8) (w:World) (h:Lib.IsBuilderF 118 5 B b (Lib.byteCells l) w) (hBw:B≤w.heap.size) :
  Calls Tryz.prog 97 #[.pointer (some ⟨b,0,none⟩)] w fun e w'=>e=.returned (.string ⟨l.toArray⟩)∧(Lib.IsBuilderF 118 5 B b (Lib.byteCells l) w'∧Below B w w'∧Lib.OthersKept 5 (some b) w w'):=Any.Builder_String_any_k Tryz.lays169 Tryz.Builder_Extra_169 B b l w h hBw
end Go.Proofs
end
namespace Go.Proofs.YtcmgdjnjmobkoaaGreatDoor.Px
open Fig Go.RowKit Go.Proofs.YtcmgdjnjmobkoaaGreatDoorW.PrintWords Go.Proofs.YtcmgdjnjmobkoaaGreatDoorW.PrintLast Go.Proofs.YtcmgdjnjmobkoaaGreatDoorW.PrintMore
attribute [local go_sem] vK vL uE uD yS yP vM vJ
attribute [local go_sem] qQ qX qL qW qY qN qZ xA qT qS qU qV xB qO
section
set_option maxRecDepth 100000
def qB.f (a0 a1:ByteArray):Option ByteArray:=if a1.data.toList=[48] then some (zgT a0) else none
theorem zll {a1:ByteArray} (h:a1.data.toList=[48]):a1=⟨#[48]⟩:=xN h
theorem qB.calls (a0 a1 r:ByteArray) (w:World) (h:qB.f a0 a1=some r) :
  Calls Tryz.prog 92 #[.string a0,.string a1] w fun e w'=>e=.returned (.string r)∧Below w.heap.size w w':=by
 unfold qB.f at h;by_cases hc:a1.data.toList=[48]
 ·rw[if_pos hc] at h
  obtain rfl:=Option.some.inj h;obtain rfl:=zll hc;exact (Tryz.strings_TrimLeft_one a0 48 (by decide) w).mono fun e w' ⟨h1,h2⟩=>⟨h1,h2 ▸ Below.refl _ _⟩
 rw[if_neg hc] at h;cases h
end
section
set_option maxRecDepth 100000
def qJ.f (a0 a1:ByteArray):Option ByteArray:=if a1.data.toList=[48]∧a0.size≤9223372036854775807 then some ⟨(Lib.trimRightB a0.data.toList 48).toArray⟩ else none
theorem zkk {a1:ByteArray} (h:a1.data.toList=[48]):a1=⟨#[48]⟩:=xN h
theorem qJ.calls (a0 a1 r:ByteArray) (w:World) (h:qJ.f a0 a1=some r) :
  Calls Tryz.prog 93 #[.string a0,.string a1] w fun e w'=>e=.returned (.string r)∧Below w.heap.size w w':=by
 unfold qJ.f at h;by_cases hc:a1.data.toList=[48]∧a0.size≤9223372036854775807
 ·rw[if_pos hc] at h
  obtain rfl:=Option.some.inj h;obtain rfl:=zkk hc.1;exact (Tryz.strings_TrimRight_one a0 48 (by decide) w hc.2).mono fun e w' ⟨h1,h2⟩=>⟨h1,h2 ▸ Below.refl _ _⟩
 rw[if_neg hc] at h;cases h
end
def yB.f (a0_0:Bool) (a0_1:ByteArray) (a0_2:Int):Option (Bool×ByteArray×Int):=(qB.f a0_1 (⟨#[48]⟩:ByteArray)).bind fun t286=>(if t286.toList=([]:List UInt8) then (some (a0_0,(⟨#[48]⟩:ByteArray),0)) else ((qJ.f t286 (⟨#[48]⟩:ByteArray)).bind fun t287=>(some (a0_0,t287,wrap64 ((wrap64 (a0_2+(t286.size:Int)))-(t287.size:Int))))))
set_option maxHeartbeats 8000000 in
set_option maxRecDepth 100000 in
theorem yB.calls (a0_0:Bool) (a0_1:ByteArray) (a0_2:Int) (r1:Bool) (r2:ByteArray) (r3:Int) (w:World) (h:yB.f a0_0 a0_1 a0_2=some (r1,r2,r3)) :
  Calls Tryz.prog 59 #[.agg #[.bool a0_0,.string a0_1,.int .i64 a0_2]] w fun e w'=>e=.returned (.agg #[.bool r1,.string r2,.int .i64 r3])∧Below w.heap.size w w':=by
 have hu23:=Tryz.underlying23;have HB:=K_ (Below.refl w.heap.size w);have H:((qB.f a0_1 (⟨#[48]⟩:ByteArray)).bind fun t286=>(if t286.toList=([]:List UInt8) then (some (a0_0,(⟨#[48]⟩:ByteArray),0)) else ((qJ.f t286 (⟨#[48]⟩:ByteArray)).bind fun t287=>(some (a0_0,t287,wrap64 ((wrap64 (a0_2+(t286.size:Int)))-(t287.size:Int)))))))=some (r1,r2,r3):=h;clear h;obtain⟨t286,A20,H⟩:=Option.bind_eq_some_iff.mp H
 (try dsimp -simprocs only at H)
 have A2:=K_ A20;clear A20;by_cases c3:t286.toList=([]:List UInt8)
 ·rw[if_pos c3] at H
  have c3b0:(t286.toList==([]:List UInt8))=true:=beq_iff_eq.mpr c3;have c3b1:(t286.toList !=([]:List UInt8))=false:=bne_eq_false_iff_eq.mpr c3;clear c3;simp only[Option.some.injEq,Prod.mk.injEq] at H
  obtain⟨rfl,rfl,rfl⟩:=H;go_enter Tryz.func59,Tryz.ntmps59
  go_wp2_with (first|(refine be_ 1 #[.bool a0_0,.string a0_1,.int .i64 a0_2] 23 ?_;intro gb284 hg w4 hbox hb;have BK284:=K_ (hbox);have GW284:=ge_ hg HB;have GE284:=ge_ hg HB;replace HB:=zF HB hb;clear hb hbox hg)|(refine be_ 2 #[.bool false,.string (⟨#[]⟩:ByteArray),.int .i64 0] 23 ?_;intro gb285 hg w5 hbox hb;have BK285:=K_ (hbox);have GW285:=ge_ hg HB;have GE285:=ge_ hg HB;replace HB:=zF HB hb;have NB284_285:=nb_ hg BK284;have NB285_284:=nc_ hg BK284;replace BK284:=zC BK284 hb;clear hb hbox hg;have hnb6:=NB284_285.out;have hnc6:=NB285_284.out;obtain⟨⟨hcz7_0,hcz7_1,hcz7_2⟩,hfz7_0,hfz7_1,hfz7_2⟩:=ce3 BK284)|((with_reducible refine zH (f:=92) rfl ?_);refine zT (some 7) rfl rfl Tryz.func92 (by kernel_rfl) rfl #[.string a0_1,.string (⟨#[48]⟩:ByteArray)] rfl MP ?_;(with_reducible refine (qB.calls a0_1 (⟨#[48]⟩:ByteArray) t286 _ A2.out).mono ?_);rintro e w8 ⟨rfl,hb⟩;refine⟨_,rfl,?_⟩;replace BK284:=zC BK284 hb;replace BK285:=zC BK285 hb;replace HB:=zF HB hb;(try clear hb);(try clear hb2);(try clear hk);(try clear hi);obtain⟨⟨hcz9_0,hcz9_1,hcz9_2⟩,hfz9_0,hfz9_1,hfz9_2⟩:=ce3 BK284;obtain⟨⟨hcz10_0,hcz10_1,hcz10_2⟩,hfz10_0,hfz10_1,hfz10_2⟩:=ce3 BK285))
  refine bodyPost_ret (results_cell_row rfl _ _ gb285 23 #[.bool a0_0,.string (⟨#[48]⟩:ByteArray),.int .i64 0] (0,0) _ rfl (BP BK285) Tryz.underlying23 rfl (by kernel_rfl)) rfl ?_;exact⟨ER,BL HB⟩
 rw[if_neg c3] at H;have c3b0:(t286.toList==([]:List UInt8))=false:=beq_eq_false_iff_ne.mpr c3;have c3b1:(t286.toList !=([]:List UInt8))=true:=bne_iff_ne.mpr c3;obtain⟨t287,A110,H⟩:=Option.bind_eq_some_iff.mp H
 (try dsimp -simprocs only at H)
 have A11:=K_ A110;clear A110;simp only[Option.some.injEq,Prod.mk.injEq] at H
 obtain⟨rfl,rfl,rfl⟩:=H;go_enter Tryz.func59,Tryz.ntmps59
 go_wp2_with (first|(refine be_ 1 #[.bool a0_0,.string a0_1,.int .i64 a0_2] 23 ?_;intro gb284 hg w12 hbox hb;have BK284:=K_ (hbox);have GW284:=ge_ hg HB;have GE284:=ge_ hg HB;replace HB:=zF HB hb;clear hb hbox hg)|(refine be_ 2 #[.bool false,.string (⟨#[]⟩:ByteArray),.int .i64 0] 23 ?_;intro gb285 hg w13 hbox hb;have BK285:=K_ (hbox);have GW285:=ge_ hg HB;have GE285:=ge_ hg HB;replace HB:=zF HB hb;have NB284_285:=nb_ hg BK284;have NB285_284:=nc_ hg BK284;replace BK284:=zC BK284 hb;clear hb hbox hg;have hnb14:=NB284_285.out;have hnc14:=NB285_284.out;obtain⟨⟨hcz15_0,hcz15_1,hcz15_2⟩,hfz15_0,hfz15_1,hfz15_2⟩:=ce3 BK284)|((with_reducible refine zH (f:=92) rfl ?_);refine zT (some 7) rfl rfl Tryz.func92 (by kernel_rfl) rfl #[.string a0_1,.string (⟨#[48]⟩:ByteArray)] rfl MP ?_;(with_reducible refine (qB.calls a0_1 (⟨#[48]⟩:ByteArray) t286 _ A2.out).mono ?_);rintro e w16 ⟨rfl,hb⟩;refine⟨_,rfl,?_⟩;replace BK284:=zC BK284 hb;replace BK285:=zC BK285 hb;replace HB:=zF HB hb;(try clear hb);(try clear hb2);(try clear hk);(try clear hi))|((with_reducible refine zH (f:=93) rfl ?_);refine zT (some 14) rfl rfl Tryz.func93 (by kernel_rfl) rfl #[.string t286,.string (⟨#[48]⟩:ByteArray)] rfl MP ?_;(with_reducible refine (qJ.calls t286 (⟨#[48]⟩:ByteArray) t287 _ A11.out).mono ?_);rintro e w17 ⟨rfl,hb⟩;refine⟨_,rfl,?_⟩;replace BK284:=zC BK284 hb;replace BK285:=zC BK285 hb;replace HB:=zF HB hb;(try clear hb);(try clear hb2);(try clear hk);(try clear hi);obtain⟨⟨hcz18_0,hcz18_1,hcz18_2⟩,hfz18_0,hfz18_1,hfz18_2⟩:=ce3 BK284;obtain⟨⟨hcz19_0,hcz19_1,hcz19_2⟩,hfz19_0,hfz19_1,hfz19_2⟩:=ce3 BK285))
 refine bodyPost_ret (results_cell_row rfl _ _ gb285 23 #[.bool a0_0,.string t287,.int .i64 (wrap64 ((wrap64 (a0_2+(t286.size:Int)))-(t287.size:Int)))] (0,0) _ rfl (BP BK285) Tryz.underlying23 rfl (by kernel_rfl)) rfl ?_;exact⟨ER,BL HB⟩
def uT.l0:Nat→List Int→Int→Option (Int)
 | 0,_,_=>none
 | k+1,x0,x3=>if x3>0 then (if 0≤(wrap64 (x3-1)) then (if (wrap64 (x3-1))<(x0.length:Int) then (if (rd x0 (wrap64 (x3-1)))=0 then (uT.l0 k x0 (wrap64 (x3-1))) else (some x3)) else (none)) else (none)) else (some x3)
def uT.f (k:Nat) (l0:List Int):Option (Int):=uT.l0 k l0 (l0.length:Int)
set_option maxHeartbeats 8000000 in
set_option maxRecDepth 100000 in
theorem uT.calls (k:Nat) (A0:Option Addr) (c0:Nat) (l0:List Int) (r:Int) (w:World) (hr0:Kd.C (Kd.int .u32) w A0 l0.length l0) (hc0:l0.length≤c0) (h:uT.f k l0=some r) :
  Calls Tryz.prog 101 #[.slice A0 l0.length c0] w fun e w'=>e=.returned (.int .i64 r)∧zL w w':=by
 have HR0:=K_ hr0;have HC0:=K_ hc0;clear hr0 hc0;have H:(uT.l0 k l0 (l0.length:Int))=some r:=h;clear h;have H':=K_ H;clear H;go_enter Tryz.func101,Tryz.ntmps101
 go_wp2
 go_loopg [3] k (fun kq v3 w'=>∃ (x3_1:Int),v3=.int .i64 x3_1∧Aside0 (uT.l0 kq l0 x3_1=some r)∧Aside0 (kq≤k)∧zL w w')
 case atStart=>exact⟨((l0.length:Int)),SR,H',⟨Nat.le_refl _⟩,by repeat (first|exact zL.refl _|apply zL.step)⟩
 case round =>
  clear H';obtain⟨x3_1,rfl,HA,HK1,⟨m1,rfl⟩⟩:=hrel;obtain _|k1:=gk
  ·exact absurd HA.out (by simp[uT.l0])
  have H:=HA.out;clear HA;simp only[uT.l0] at H
  by_cases c2:x3_1>0
  ·rw[if_pos c2] at H
   have c2b0:decide (0<x3_1)=true:=decide_eq_true c2;clear c2;obtain⟨ji3,hji3⟩:∃ j_:Int,(wrap64 (x3_1-1))=j_:=⟨_,rfl⟩
   replace H:(if 0≤(ji3) then (if (ji3)<(l0.length:Int) then (if (rd l0 (ji3))=0 then (uT.l0 k1 l0 ji3) else (some x3_1)) else (none)) else (none))=some r:=by first|(rw[hji3] at H;exact H)|(simp only[hji3] at H ⊢;exact H)
   have hji3w:(IntKind.i64.wrap (x3_1-1))=ji3:=(vY _).trans hji3;by_cases c4:0≤(ji3)
   ·rw[if_pos c4] at H
    have c4b0:decide (0≤(ji3))=true:=decide_eq_true c4;clear c4;by_cases c5:(ji3)<(l0.length:Int)
    ·rw[if_pos c5] at H
     have c5b0:decide ((ji3)<(l0.length:Int))=true:=decide_eq_true c5;clear c5;by_cases c6:(rd l0 (ji3))=0
     ·rw[if_pos c6] at H
      have c6b0:((rd l0 (ji3))==0)=true:=beq_iff_eq.mpr c6;have c6b1:((rd l0 (ji3)) !=0)=false:=bne_eq_false_iff_eq.mpr c6;clear c6;have H':=K_ H;clear H;have p278:0≤((ji3):Int):=of_decide_eq_true (by first|(with_reducible assumption)|assumption);have q278:(ji3)<(l0.length:Int):=of_decide_eq_true (by first|(with_reducible assumption)|assumption);obtain⟨ad278,e278,hx278_0⟩:=Kd.at_int HR0.out (ji3) p278 q278;cases e278;replace p278:=eq_true p278;replace q278:=eq_true q278;go_wp2
      go_roundg k1
      case measure=>have:=HK1.out;omega
      case rel=>exact⟨(ji3),(by first|rfl|(simp;done)|(simp only[←hji3] <;> (first|rfl|simp))|(simp[*];done)|(simp[*,Fig.bne_nil];done)),H',⟨by have:=HK1.out;omega⟩,by repeat (first|exact zL.refl _|apply zL.step)⟩
     rw[if_neg c6] at H;have c6b0:((rd l0 (ji3))==0)=false:=beq_eq_false_iff_ne.mpr c6;have c6b1:((rd l0 (ji3)) !=0)=true:=bne_iff_ne.mpr c6;obtain rfl:=Option.some.inj H;have p278:0≤((ji3):Int):=of_decide_eq_true (by first|(with_reducible assumption)|assumption);have q278:(ji3)<(l0.length:Int):=of_decide_eq_true (by first|(with_reducible assumption)|assumption);obtain⟨ad278,e278,hx278_0⟩:=Kd.at_int HR0.out (ji3) p278 q278;cases e278;replace p278:=eq_true p278;replace q278:=eq_true q278;go_wp2
     go_ret
     exact⟨by first|rfl|(simp;done)|(simp only[←hji3] <;> (first|rfl|simp))|(simp[*];done)|(simp[*,Fig.bne_nil];done),by repeat (first|exact zL.refl _|apply zL.step)⟩
    rw[if_neg c5] at H;exact absurd H (by simp)
   rw[if_neg c4] at H;exact absurd H (by simp)
  rw[if_neg c2] at H;have c2b0:decide (0<x3_1)=false:=decide_eq_false c2;clear c2;obtain rfl:=Option.some.inj H;go_wp2
  go_ret
  exact⟨by first|rfl|(simp;done)|(simp[*];done)|(simp[*,Fig.bne_nil];done),by repeat (first|exact zL.refl _|apply zL.step)⟩
theorem zjR (l:List Int) (hl:l.length≤4611686018427387904):∀ (n:Nat),n≤l.length→Ev (fun k=>uT.l0 k l (n:Int)) (((uZ (l.take n)).length:Nat):Int)
 | 0,hn=>by
  refine zaE (r':=((0:Nat):Int)) (fun k=>?_) (by simp[uZ])
  simp only[uT.l0];rw[if_neg (by omega)]
 | n+1,hn=>by
  have hlt:n<l.length:=by omega
  rw[List.take_succ_eq_append_getElem hlt];by_cases h0:l[n]=0
  ·refine zaw (Ev.step (f:=fun k=>uT.l0 k l (n:Int)) (fun k=>?_) (zjR l hl n (by omega))) (by rw[h0,zcx])
   simp only[uT.l0];rw[if_pos (by omega),zlM _ (by omega),if_pos (by omega),if_pos (by omega),vV hlt,if_pos h0]
  refine zaE (r':=((n+1:Nat):Int)) (fun k=>?_) (by rw[zeJ h0];simp;omega);simp only[uT.l0];rw[if_pos (by omega),zlM _ (by omega),if_pos (by omega),if_pos (by omega),vV hlt,if_neg h0]
theorem zqi {l:List Int} (hl:l.length≤4611686018427387904):Ev (fun k=>uT.f k l) (((uZ l).length:Nat):Int):=by
 have:=zjR l hl l.length (Nat.le_refl _)
 rwa [List.take_length] at this
theorem zgP {l:List Int} (hl:l.length≤4611686018427387904):∃ k,uT.f k l=some (((uZ l).length:Nat):Int):=(zqi hl).rounds
section
set_option maxRecDepth 100000
def jW.f (l0:List Int):Option (List Int):=zgW l0
set_option maxHeartbeats 1000000 in
theorem jW.calls (A0:Option Addr) (c0:Nat) (l0:List Int) (r:List Int) (w:World) (hr0:Kd.C (Kd.int .u32) w A0 l0.length l0) (hc0:l0.length≤c0) (h:jW.f l0=some r) :
  Calls Tryz.prog 91 #[.slice A0 l0.length c0] w fun e w'=>∃ v0_:Value,e=.returned (v0_)∧Kd.R (Kd.int .u32) 95 w' w.heap.size (fun _=>True) v0_ r∧Below w.heap.size w w':=by
 unfold jW.f zgW at h;by_cases hl:l0.length≤20000000000000
 ·rw[if_pos hl] at h
  obtain rfl:=Option.some.inj h;obtain⟨k,hk⟩:=zgP (l:=l0) (by omega);have ht:=zdD l0;have hk':=K_ hk;have htk:=K_ (Fig.take_trim l0);obtain⟨n,hn⟩:∃ n,n=(uZ l0).length:=⟨_,rfl⟩
  rw[←hn] at hk' ht htk;have hn':=K_ hn;have HR0:=K_ hr0;have HC0:=K_ hc0;clear h hk hr0 hc0 hn;go_enter Tryz.func91,Tryz.ntmps91
  go_wp2_with (first
   | (go_at_call 101;(with_reducible refine (uT.calls k _ _ l0 (n:Int) _ ?side1 ?side2 hk'.out).mono ?_);(case side1=>exact HR0.out);(case side2=>exact HC0.out);rintro e w' ⟨rfl,⟨nd,rfl⟩⟩)
   | ((with_reducible refine zE (N:=6) rfl ?_);refine Kd.R_make (Kd.int .u32) w.heap.size 95 rfl (N:=6) rfl 81 _ _ rfl (n:Int) rfl rfl Tryz.underlying81 (.int .u32 0) 4 vW rfl (by decide) (by omega) 0 (ok:=fun _=>True) (okp:=fun _=>True) rfl (fun _ hk=>hk) trivial (by omega) (by omega) (w0:=w) (jK (Below.refl _ _) _) (Nat.le_refl _) ?_;intro v6 w6 ho6 hb6 hg_ hnew_;clear hg_ hnew_;rw[Int.toNat_natCast] at ho6;have HO6:=K_ ho6;have HB6:=K_ hb6;clear ho6 hb6)
   | ((with_reducible refine zE (N:=9) rfl ?_);refine zlX (k:=.u32) w.heap.size rfl _ _ 81 95 rfl Tryz.underlying81 (by kernel_rfl) v6 (List.replicate n 0) l0 A0 l0.length c0 (fun _=>True) rfl rfl HO6.out (Kd.C_below HR0.out HB6.out) ?cs HB6.out ?_;(case cs=>rw[List.length_replicate];exact ht);intro w9 ho9 hb9;rw[List.length_replicate,htk.out] at ho9;have HO9:=K_ ho9;have HB9:=K_ hb9;clear ho9 hb9))
  go_ret
  exact⟨_,rfl,HO9.out,HB9.out⟩
 rw[if_neg hl] at h;cases h
end
mutual
def yW.l0:Nat→List Int→List Int→Int→Int→Int→List Int→Int→Int→Option (List Int)
 | 0,_,_,_,_,_,_,_,_=>none
 | k+1,x0,x1,x2,x3,x8,x14,x15,x16=>if x16<x15 then (if 0≤x16 then (if x16<(x14.length:Int) then (if 0≤(wrap64 (x3+x16)) then (if (wrap64 (x3+x16))<(x0.length:Int) then (yW.l0 k (x0.set ((wrap64 (x3+x16)):Int).toNat ((Int.tmod (IntKind.u64.wrap ((IntKind.u64.wrap ((IntKind.u64.wrap (rd x0 (wrap64 (x3+x16))))+(IntKind.u64.wrap ((IntKind.u64.wrap (rd x14 x16)) * (IntKind.u64.wrap (x2))))))+x8)) 1000000000) % 4294967296)) x1 x2 x3 (IntKind.u64.wrap (Int.tdiv (IntKind.u64.wrap ((IntKind.u64.wrap ((IntKind.u64.wrap (rd x0 (wrap64 (x3+x16))))+(IntKind.u64.wrap ((IntKind.u64.wrap (rd x14 x16)) * (IntKind.u64.wrap (x2))))))+x8)) 1000000000)) x14 x15 (wrap64 (x16+1))) else (none)) else (none)) else (none)) else (none)) else (yW.l1 k x0 x8 (wrap64 (x3+(x1.length:Int))))
def yW.l1:Nat→List Int→Int→Int→Option (List Int)
 | 0,_,_,_=>none
 | k+1,x0,x8,x12=>if x8>0 then (if 0≤x12 then (if x12<(x0.length:Int) then (yW.l1 k (x0.set (x12:Int).toNat ((Int.tmod (IntKind.u64.wrap ((IntKind.u64.wrap (rd x0 x12))+x8)) 1000000000) % 4294967296)) (IntKind.u64.wrap (Int.tdiv (IntKind.u64.wrap ((IntKind.u64.wrap (rd x0 x12))+x8)) 1000000000)) (wrap64 (x12+1))) else (none)) else (none)) else (some x0)
end
def yW.f (k:Nat) (l0:List Int) (l1:List Int) (a2:Int) (a3:Int):Option (List Int):=yW.l0 k l0 l1 a2 a3 0 l1 (l1.length:Int) 0
set_option maxHeartbeats 8000000 in
set_option maxRecDepth 100000 in
theorem yW.calls (k:Nat) (P0_:Nat→Prop) (u9000_:Value) (l0:List Int) (A1:Option Addr) (c1:Nat) (l1:List Int) (a2:Int) (a3:Int) (r:List Int) (w0 w:World) (hB:Below w0.heap.size w0 w) (ho0:Kd.R (Kd.int .u32) 95 w w0.heap.size P0_ u9000_ l0) (hr1:∀ W_,yU w W_ (fun k_=>P0_ k_)→Kd.C (Kd.int .u32) W_ A1 l1.length l1) (hc1:l1.length≤c1) (h:yW.f k l0 l1 a2 a3=some r) :
  Calls Tryz.prog 107 #[u9000_,.slice A1 l1.length c1,.int .u32 a2,.int .i64 a3] w fun e w'=>e=.returned (.tuple #[])∧Kd.R (Kd.int .u32) 95 w' w0.heap.size (fun k_=>(P0_ k_∨w.heap.size≤k_)) u9000_ r∧Below w0.heap.size w0 w'∧yU w w' (fun k_=>P0_ k_):=by
 have HO0:=K_ (show Kd.R (Kd.int .u32) 95 w w0.heap.size (fun k_=>(P0_ k_∨w.heap.size≤k_)) u9000_ l0 from Kd.R_mono ho0 (fun k_ hk=>(.inl hk)));have HR1:=K_ hr1;have HC1:=K_ hc1;clear hr1 hc1;have HK:=K_ (yU.refl w (fun k_=>P0_ k_));have HW0:=K_ hB.size;have HB:=K_ hB;clear hB;have H:(yW.l0 k l0 l1 a2 a3 0 l1 (l1.length:Int) 0)=some r:=h;clear h;have H':=K_ H;clear H;go_enter Tryz.func107,Tryz.ntmps107
 go_wp2
 go_loopg [8,16] k (fun kq v8 v16 w'=>∃ (x0_1:List Int) (x8_1:Int) (x16_1:Int),v8=.int .u64 x8_1∧v16=.int .i64 x16_1∧Aside0 (yW.l0 kq x0_1 l1 a2 a3 x8_1 l1 (l1.length:Int) x16_1=some r)∧Aside0 (kq≤k)∧Aside0 (Kd.R (Kd.int .u32) 95 w' w0.heap.size (fun k_=>(P0_ k_∨w.heap.size≤k_)) u9000_ x0_1)∧Aside0 (yU w w' (fun k_=>P0_ k_))∧Aside0 (Below w0.heap.size w0 w'))
 case atStart=>exact⟨(l0),(0),(0),SR,SR,H',⟨Nat.le_refl _⟩,⟨RB HO0.out⟩,⟨by repeat (first|(with_reducible first|exact HK.out|apply yU.alloc|apply yU.drewN|apply yU.drew)|exact HK.out)⟩,⟨BL HB⟩⟩
 case round =>
  clear H';try clear c1
  obtain⟨x0_1,x8_1,x16_1,rfl,rfl,HA,HK1,HO_0,HK,HB⟩:=hrel;obtain _|k1:=gk
  ·exact absurd HA.out (by simp[yW.l0])
  have H:=HA.out;clear HA;simp only[yW.l0] at H
  by_cases c5:x16_1<(l1.length:Int)
  ·rw[if_pos c5] at H
   have c5b0:decide (x16_1<(l1.length:Int))=true:=decide_eq_true c5;clear c5;by_cases c6:0≤x16_1
   ·rw[if_pos c6] at H
    have c6b0:decide (0≤x16_1)=true:=decide_eq_true c6;clear c6;by_cases c7:x16_1<(l1.length:Int)
    ·rw[if_pos c7] at H
     have c7b0:decide (x16_1<(l1.length:Int))=true:=decide_eq_true c7;clear c7;obtain⟨ji8,hji8⟩:∃ j_:Int,(wrap64 (a3+x16_1))=j_:=⟨_,rfl⟩
     replace H:(if 0≤(ji8) then (if (ji8)<(x0_1.length:Int) then (yW.l0 k1 (x0_1.set ((ji8):Int).toNat ((Int.tmod (IntKind.u64.wrap ((IntKind.u64.wrap ((IntKind.u64.wrap (rd x0_1 (ji8)))+(IntKind.u64.wrap ((IntKind.u64.wrap (rd l1 x16_1)) * (IntKind.u64.wrap (a2))))))+x8_1)) 1000000000) % 4294967296)) l1 a2 a3 (IntKind.u64.wrap (Int.tdiv (IntKind.u64.wrap ((IntKind.u64.wrap ((IntKind.u64.wrap (rd x0_1 (ji8)))+(IntKind.u64.wrap ((IntKind.u64.wrap (rd l1 x16_1)) * (IntKind.u64.wrap (a2))))))+x8_1)) 1000000000)) l1 (l1.length:Int) (wrap64 (x16_1+1))) else (none)) else (none))=some r:=by first|(rw[hji8] at H;exact H)|(simp only[hji8] at H ⊢;exact H)
     have hji8w:(IntKind.i64.wrap (a3+x16_1))=ji8:=(vY _).trans hji8;by_cases c9:0≤(ji8)
     ·rw[if_pos c9] at H
      have c9b0:decide (0≤(ji8))=true:=decide_eq_true c9;clear c9;by_cases c10:(ji8)<(x0_1.length:Int)
      ·rw[if_pos c10] at H
       have c10b0:decide ((ji8)<(x0_1.length:Int))=true:=decide_eq_true c10;clear c10;obtain⟨y312,hy312⟩:∃ y_:List Int,y_=(x0_1.set ((ji8):Int).toNat ((Int.tmod (IntKind.u64.wrap ((IntKind.u64.wrap ((IntKind.u64.wrap (rd x0_1 (ji8)))+(IntKind.u64.wrap ((IntKind.u64.wrap (rd l1 x16_1)) * (IntKind.u64.wrap (a2))))))+x8_1)) 1000000000) % 4294967296)):=⟨_,rfl⟩
       replace H:(yW.l0 k1 y312 l1 a2 a3 (IntKind.u64.wrap (Int.tdiv (IntKind.u64.wrap ((IntKind.u64.wrap ((IntKind.u64.wrap (rd x0_1 (ji8)))+(IntKind.u64.wrap ((IntKind.u64.wrap (rd l1 x16_1)) * (IntKind.u64.wrap (a2))))))+x8_1)) 1000000000)) l1 (l1.length:Int) (wrap64 (x16_1+1)))=some r:=by first|(rw[hy312];with_reducible exact H)|(have H2_:=(Option.bind_some _ _).symm.trans H;rw[hy312];with_reducible exact H2_)|(have H2_:=(Option.bind_some _ _).symm.trans H;with_reducible exact H2_)|with_reducible exact H|(rw[hy312];exact H)|exact H
       have Ny312:=K_ hy312;clear hy312;have H':=K_ H;clear H;have p310:0≤(x16_1:Int):=of_decide_eq_true (by first|(with_reducible assumption)|assumption);have q310:x16_1<(l1.length:Int):=of_decide_eq_true (by first|(with_reducible assumption)|assumption);obtain⟨ad310,e310,hx310_0⟩:=Kd.at_int (Kd.C_kept_now HR1.out HK.out) x16_1 p310 q310;cases e310;replace p310:=eq_true p310;replace q310:=eq_true q310;obtain⟨Ao12,co12,eo12⟩:=Kd.R_slice HO_0.out;subst eo12;have p311:0≤((ji8):Int):=of_decide_eq_true (by first|(with_reducible assumption)|assumption);have q311:(ji8)<(x0_1.length:Int):=of_decide_eq_true (by first|(with_reducible assumption)|assumption);obtain⟨ad311,e311,hx311_0⟩:=Kd.at_int (Kd.R_reads' HO_0.out).2.2 (ji8) p311 q311;cases e311;replace p311:=eq_true p311;replace q311:=eq_true q311;have p11:0≤((ji8):Int):=of_decide_eq_true (by first|(with_reducible assumption)|assumption);have q11:((ji8):Int)<((x0_1.length:Int):Int):=of_decide_eq_true (by first|(with_reducible assumption)|assumption);obtain⟨go11,co11,eo11,gb11,gl11,cl11,HG11⟩:=Kd.R_form HO_0.out (by omega);(first|cases eo11|(injection eo11 with ea_ en_ ec_;(first|subst ea_|(injection ea_ with ea_;subst ea_));subst ec_;clear en_))
       have GB11:=K_ gb11;have GG11:=K_ HG11;clear gb11 gl11 HG11;have HMgo11:=K_ (show (P0_ go11∨w.heap.size≤go11) from (HO_0.out.1 _ rfl));(first|simp only[zcv] at hx311_0|skip)
       obtain⟨hx11_0,hf11_0⟩:=Kd.R_celln 0 HO_0.out ((ji8):Int) p11 q11;replace p11:=eq_true p11;replace q11:=eq_true q11;have HP13:=Kd.R_putg HO_0.out ((ji8):Int) ((Int.tmod (IntKind.u64.wrap ((IntKind.u64.wrap ((IntKind.u64.wrap (rd x0_1 (ji8)))+(IntKind.u64.wrap ((IntKind.u64.wrap (rd l1 x16_1)) * (IntKind.u64.wrap (a2))))))+x8_1)) 1000000000) % 4294967296);go_wp2_with (first|((with_reducible refine zW (t:=95) (p:=43) rfl ?_);refine zcf (t:=95) (p:=43) (v:=?vo_w14) (w1:=(wr.setCell ⟨go11,((ji8):Int).toNat,none⟩ (.int .u32 ((Int.tmod (IntKind.u64.wrap ((IntKind.u64.wrap ((IntKind.u64.wrap (rd x0_1 (ji8)))+(IntKind.u64.wrap ((IntKind.u64.wrap (rd l1 x16_1)) * (IntKind.u64.wrap (a2))))))+x8_1)) 1000000000) % 4294967296)))) ?hg ?ho ?hn ?hr ?_;(case ho=>rfl);(case hg=>rfl);(case hn=>rfl);(case hr=>first|(go_simp;done)|(go_simp;rfl));intro w14 hw;have hg:wr.grownBy w14 (some go11):=(by rw[hw];exact HP13.2);have hp_:Kd.R (Kd.int .u32) 95 w14 w0.heap.size (fun k_=>(P0_ k_∨w.heap.size≤k_)) (.slice (some ⟨go11,0,none⟩) x0_1.length co12) y312:=(by rw[hw,Ny312.out];exact HP13.1);clear HP13;replace HB:=K_ ((by rw[hw];exact xR (HB.out) GB11.out:Below w0.heap.size w0 w14));replace HK:=K_ (yU.of_grown (S:=(fun k_=>P0_ k_)) hg (by repeat (first|(with_reducible first|exact HK.out|apply yU.alloc|apply yU.drewN|apply yU.drew)|exact HK.out)) (fun k_ e_=>(HO_0.out.1 k_ e_)));replace HO_0:=K_ (hp_);clear hg hw hp_))
       go_roundg k1
       case measure=>have:=HK1.out;omega
       case rel=>exact⟨(y312),(IntKind.u64.wrap (Int.tdiv (IntKind.u64.wrap ((IntKind.u64.wrap ((IntKind.u64.wrap (rd x0_1 (ji8)))+(IntKind.u64.wrap ((IntKind.u64.wrap (rd l1 x16_1)) * (IntKind.u64.wrap (a2))))))+x8_1)) 1000000000)),(wrap64 (x16_1+1)),(by first|rfl|(simp;done)|(simp only[←hji8] <;> (first|rfl|simp))|(simp[*];done)|(simp[*,Fig.bne_nil];done)),SR,H',⟨by have:=HK1.out;omega⟩,⟨RB HO_0.out⟩,⟨by repeat (first|(with_reducible first|exact HK.out|apply yU.alloc|apply yU.drewN|apply yU.drew)|exact HK.out)⟩,⟨BL HB⟩⟩
      rw[if_neg c10] at H;exact absurd H (by simp)
     rw[if_neg c9] at H;exact absurd H (by simp)
    rw[if_neg c7] at H;exact absurd H (by simp)
   rw[if_neg c6] at H;exact absurd H (by simp)
  rw[if_neg c5] at H;have c5b0:decide (x16_1<(l1.length:Int))=false:=decide_eq_false c5;clear c5;have H':=K_ H;clear H;go_wp2
  go_loopg [8,12] k1 (fun kq v8 v12 w'=>∃ (x0_2:List Int) (x8_2:Int) (x12_2:Int),v8=.int .u64 x8_2∧v12=.int .i64 x12_2∧Aside0 (yW.l1 kq x0_2 x8_2 x12_2=some r)∧Aside0 (kq≤k1)∧Aside0 (Kd.R (Kd.int .u32) 95 w' w0.heap.size (fun k_=>(P0_ k_∨w.heap.size≤k_)) u9000_ x0_2)∧Aside0 (yU w w' (fun k_=>P0_ k_))∧Aside0 (Below w0.heap.size w0 w'))
  case atStart=>exact⟨(x0_1),(x8_1),(wrap64 (a3+(l1.length:Int))),SR,SR,H',⟨Nat.le_refl _⟩,⟨RB HO_0.out⟩,⟨by repeat (first|(with_reducible first|exact HK.out|apply yU.alloc|apply yU.drewN|apply yU.drew)|exact HK.out)⟩,⟨BL HB⟩⟩
  case round =>
   clear H';try clear c5
   try clear c5b0
   obtain⟨x0_2,x8_2,x12_2,rfl,rfl,HA,HK2,HO_0,HK,HB⟩:=hrel;obtain _|k2:=gk
   ·exact absurd HA.out (by simp[yW.l1])
   have H:=HA.out;clear HA;simp only[yW.l1] at H
   by_cases c15:x8_2>0
   ·rw[if_pos c15] at H
    have c15b0:decide (0<x8_2)=true:=decide_eq_true c15;clear c15;by_cases c16:0≤x12_2
    ·rw[if_pos c16] at H
     have c16b0:decide (0≤x12_2)=true:=decide_eq_true c16;clear c16;by_cases c17:x12_2<(x0_2.length:Int)
     ·rw[if_pos c17] at H
      have c17b0:decide (x12_2<(x0_2.length:Int))=true:=decide_eq_true c17;clear c17;obtain⟨y314,hy314⟩:∃ y_:List Int,y_=(x0_2.set (x12_2:Int).toNat ((Int.tmod (IntKind.u64.wrap ((IntKind.u64.wrap (rd x0_2 x12_2))+x8_2)) 1000000000) % 4294967296)):=⟨_,rfl⟩
      replace H:(yW.l1 k2 y314 (IntKind.u64.wrap (Int.tdiv (IntKind.u64.wrap ((IntKind.u64.wrap (rd x0_2 x12_2))+x8_2)) 1000000000)) (wrap64 (x12_2+1)))=some r:=by first|(rw[hy314];with_reducible exact H)|(have H2_:=(Option.bind_some _ _).symm.trans H;rw[hy314];with_reducible exact H2_)|(have H2_:=(Option.bind_some _ _).symm.trans H;with_reducible exact H2_)|with_reducible exact H|(rw[hy314];exact H)|exact H
      have Ny314:=K_ hy314;clear hy314;have H':=K_ H;clear H;obtain⟨Ao19,co19,eo19⟩:=Kd.R_slice HO_0.out;subst eo19;have p313:0≤(x12_2:Int):=of_decide_eq_true (by first|(with_reducible assumption)|assumption);have q313:x12_2<(x0_2.length:Int):=of_decide_eq_true (by first|(with_reducible assumption)|assumption);obtain⟨ad313,e313,hx313_0⟩:=Kd.at_int (Kd.R_reads' HO_0.out).2.2 x12_2 p313 q313;cases e313;replace p313:=eq_true p313;replace q313:=eq_true q313;have p18:0≤(x12_2:Int):=of_decide_eq_true (by first|(with_reducible assumption)|assumption);have q18:(x12_2:Int)<((x0_2.length:Int):Int):=of_decide_eq_true (by first|(with_reducible assumption)|assumption);obtain⟨go18,co18,eo18,gb18,gl18,cl18,HG18⟩:=Kd.R_form HO_0.out (by omega);(first|cases eo18|(injection eo18 with ea_ en_ ec_;(first|subst ea_|(injection ea_ with ea_;subst ea_));subst ec_;clear en_))
      have GB18:=K_ gb18;have GG18:=K_ HG18;clear gb18 gl18 HG18;have HMgo18:=K_ (show (P0_ go18∨w.heap.size≤go18) from (HO_0.out.1 _ rfl));(first|simp only[zcv] at hx313_0|skip)
      obtain⟨hx18_0,hf18_0⟩:=Kd.R_celln 0 HO_0.out (x12_2:Int) p18 q18;replace p18:=eq_true p18;replace q18:=eq_true q18;have HP20:=Kd.R_putg HO_0.out (x12_2:Int) ((Int.tmod (IntKind.u64.wrap ((IntKind.u64.wrap (rd x0_2 x12_2))+x8_2)) 1000000000) % 4294967296);go_wp2_with (first|((with_reducible refine zW (t:=95) (p:=67) rfl ?_);refine zcf (t:=95) (p:=67) (v:=?vo_w21) (w1:=(wr.setCell ⟨go18,(x12_2:Int).toNat,none⟩ (.int .u32 ((Int.tmod (IntKind.u64.wrap ((IntKind.u64.wrap (rd x0_2 x12_2))+x8_2)) 1000000000) % 4294967296)))) ?hg ?ho ?hn ?hr ?_;(case ho=>rfl);(case hg=>rfl);(case hn=>rfl);(case hr=>first|(go_simp;done)|(go_simp;rfl));intro w21 hw;have hg:wr.grownBy w21 (some go18):=(by rw[hw];exact HP20.2);have hp_:Kd.R (Kd.int .u32) 95 w21 w0.heap.size (fun k_=>(P0_ k_∨w.heap.size≤k_)) (.slice (some ⟨go18,0,none⟩) x0_2.length co19) y314:=(by rw[hw,Ny314.out];exact HP20.1);clear HP20;replace HB:=K_ ((by rw[hw];exact xR (HB.out) GB18.out:Below w0.heap.size w0 w21));replace HK:=K_ (yU.of_grown (S:=(fun k_=>P0_ k_)) hg (by repeat (first|(with_reducible first|exact HK.out|apply yU.alloc|apply yU.drewN|apply yU.drew)|exact HK.out)) (fun k_ e_=>(HO_0.out.1 k_ e_)));replace HO_0:=K_ (hp_);clear hg hw hp_))
      go_roundg k2
      case measure=>have:=HK1.out;have:=HK2.out;omega
      case rel=>exact⟨(y314),(IntKind.u64.wrap (Int.tdiv (IntKind.u64.wrap ((IntKind.u64.wrap (rd x0_2 x12_2))+x8_2)) 1000000000)),(wrap64 (x12_2+1)),SR,SR,H',⟨by have:=HK1.out;have:=HK2.out;omega⟩,⟨RB HO_0.out⟩,⟨by repeat (first|(with_reducible first|exact HK.out|apply yU.alloc|apply yU.drewN|apply yU.drew)|exact HK.out)⟩,⟨BL HB⟩⟩
     rw[if_neg c17] at H;exact absurd H (by simp)
    rw[if_neg c16] at H;exact absurd H (by simp)
   rw[if_neg c15] at H;have c15b0:decide (0<x8_2)=false:=decide_eq_false c15;clear c15;obtain rfl:=Option.some.inj H;go_wp2
   first|go_end0|((try simp only[Exit.inBlock,Exit.then]);refine bodyPost_ret (results_none rfl _ _ _) rfl ?_)
   exact⟨ER,by (with_reducible repeat (first|apply Kd.R_alloc|apply Kd.R_drewN|apply Kd.R_drew));exact HO_0.out,BL HB,by repeat (first|(with_reducible first|exact HK.out|apply yU.alloc|apply yU.drewN|apply yU.drew)|exact HK.out)⟩
def xY.f (k:Nat) (l0:List Int) (a1:Int) (a2:Int):Option (List Int):=if 0≤(wrap64 ((l0.length:Int)+2)) then (if (wrap64 ((l0.length:Int)+2):Int).toNat≤70368744177664 then ((some (List.replicate (wrap64 ((l0.length:Int)+2):Int).toNat 0:List Int)).bind fun y315=>(if 0<(y315.length:Int) then ((yW.f k (y315.set (0:Int).toNat a2) l0 a1 0).bind fun t319=>((jW.f t319).bind fun t320=>(some t320))) else (none))) else (none)) else (none)
set_option maxHeartbeats 8000000 in
set_option maxRecDepth 100000 in
theorem xY.calls (k:Nat) (A0:Option Addr) (c0:Nat) (l0:List Int) (a1:Int) (a2:Int) (r:List Int) (w:World) (hr0:Kd.C (Kd.int .u32) w A0 l0.length l0) (hc0:l0.length≤c0) (h:xY.f k l0 a1 a2=some r) :
  Calls Tryz.prog 99 #[.slice A0 l0.length c0,.int .u32 a1,.int .u32 a2] w fun e w'=>∃ v0_:Value,e=.returned (v0_)∧Kd.R (Kd.int .u32) 95 w' w.heap.size (fun _=>True) v0_ r∧Below w.heap.size w w':=by
 have HR0:=K_ hr0;have HC0:=K_ hc0;clear hr0 hc0;have HB:=K_ (Below.refl w.heap.size w);have H:(if 0≤(wrap64 ((l0.length:Int)+2)) then (if (wrap64 ((l0.length:Int)+2):Int).toNat≤70368744177664 then ((some (List.replicate (wrap64 ((l0.length:Int)+2):Int).toNat 0:List Int)).bind fun y315=>(if 0<(y315.length:Int) then ((yW.f k (y315.set (0:Int).toNat a2) l0 a1 0).bind fun t319=>((jW.f t319).bind fun t320=>(some t320))) else (none))) else (none)) else (none))=some r:=h;clear h;obtain⟨ji4,hji4⟩:∃ j_:Int,(wrap64 ((l0.length:Int)+2))=j_:=⟨_,rfl⟩
 replace H:(if 0≤(ji4) then (if (ji4:Int).toNat≤70368744177664 then ((some (List.replicate (ji4:Int).toNat 0:List Int)).bind fun y315=>(if 0<(y315.length:Int) then ((yW.f k (y315.set (0:Int).toNat a2) l0 a1 0).bind fun t319=>((jW.f t319).bind fun t320=>(some t320))) else (none))) else (none)) else (none))=some r:=by first|(rw[hji4] at H;exact H)|(simp only[hji4] at H ⊢;exact H)
 have hji4w:(IntKind.i64.wrap ((l0.length:Int)+2))=ji4:=(vY _).trans hji4;by_cases c5:0≤(ji4)
 ·rw[if_pos c5] at H
  have c5b0:=eq_true c5;have c5b1:decide (0≤(ji4))=true:=decide_eq_true c5;clear c5;by_cases c6:(ji4:Int).toNat≤70368744177664
  ·rw[if_pos c6] at H
   have c6b0:=eq_true c6;have c6b1:decide ((ji4:Int).toNat≤70368744177664)=true:=decide_eq_true c6;clear c6;obtain⟨y315,hy315⟩:∃ y_:List Int,y_=(List.replicate (ji4:Int).toNat 0):=⟨_,rfl⟩
   replace H:(if 0<(y315.length:Int) then ((yW.f k (y315.set (0:Int).toNat a2) l0 a1 0).bind fun t319=>((jW.f t319).bind fun t320=>(some t320))) else (none))=some r:=by first|(rw[hy315];with_reducible exact H)|(have H2_:=(Option.bind_some _ _).symm.trans H;rw[hy315];with_reducible exact H2_)|(have H2_:=(Option.bind_some _ _).symm.trans H;with_reducible exact H2_)|with_reducible exact H|(rw[hy315];exact H)|exact H
   have Ny315:=K_ hy315;clear hy315;by_cases c7:0<(y315.length:Int)
   ·rw[if_pos c7] at H
    have c7b0:decide (0<(y315.length:Int))=true:=decide_eq_true c7;have c7b1:decide (0<y315.length)=true:=decide_eq_true (by omega);clear c7;obtain⟨y318,hy318⟩:∃ y_:List Int,y_=(y315.set (0:Int).toNat a2):=⟨_,rfl⟩
    replace H:((yW.f k y318 l0 a1 0).bind fun t319=>((jW.f t319).bind fun t320=>(some t320)))=some r:=by first|(rw[hy318];with_reducible exact H)|(have H2_:=(Option.bind_some _ _).symm.trans H;rw[hy318];with_reducible exact H2_)|(have H2_:=(Option.bind_some _ _).symm.trans H;with_reducible exact H2_)|with_reducible exact H|(rw[hy318];exact H)|exact H
    have Ny318:=K_ hy318;clear hy318;obtain⟨t319,A90,H⟩:=Option.bind_eq_some_iff.mp H
    (try dsimp -simprocs only at H)
    have A9:=K_ A90;clear A90;obtain⟨t320,A100,H⟩:=Option.bind_eq_some_iff.mp H
    (try dsimp -simprocs only at H)
    have A10:=K_ A100;clear A100;obtain rfl:=Option.some.inj H;go_enter Tryz.func99,Tryz.ntmps99
    go_wp2_with (first|((with_reducible refine zE (N:=11) rfl ?_);refine Kd.R_make (Kd.int .u32) _ 95 rfl (N:=11) rfl 81 _ _ rfl ji4 rfl rfl Tryz.underlying81 (.int .u32 0) 4 vW rfl (by decide) (by omega) 0 (ok:=fun _=>True) (okp:=fun _=>True) rfl (fun _ hk=>hk) trivial (of_decide_eq_true (by first|(with_reducible assumption)|assumption)) (Nat.le_trans (Nat.mul_le_mul_right _ (of_decide_eq_true (by first|(with_reducible assumption)|assumption):ji4.toNat≤70368744177664)) (by omega)) (Below.refl _ _) (Nat.le_refl _) ?_;intro v316 w11 ho12 hb hg_ hnew_;clear hg_ hnew_;(first|rw[←Ny315.out] at ho12|(simp only[Int.reduceToNat] at ho12;rw[←Ny315.out] at ho12));have HO317:=K_ (Kd.R_lower ho12 (zQ (BL HB)));replace HB:=zF HB hb;clear hb ho12;have p8:0≤(0:Int):=(by omega);have q8:(0:Int)<((y315.length:Int):Int):=of_decide_eq_true (by first|(with_reducible assumption)|assumption);have qi8:(0<y315.length)=True:=eq_true (by omega);obtain⟨go8,co8,eo8,gb8,gl8,cl8,HG8⟩:=Kd.R_form HO317.out (by omega);(first|cases eo8|(injection eo8 with ea_ en_ ec_;(first|subst ea_|(injection ea_ with ea_;subst ea_));subst ec_;clear en_));have GB8:=K_ gb8;have GG8:=K_ HG8;clear gb8 gl8 HG8;obtain⟨hx8_0,hf8_0⟩:=Kd.R_celln 0 HO317.out (0:Int) p8 q8;(try rw[show ((0:Int)).toNat=0 from rfl] at hx8_0);(try simp only[Nat.reduceMul,Nat.zero_mul,Nat.zero_add,Nat.reduceAdd] at hx8_0);(try rw[show ((0:Int)).toNat=0 from rfl] at hf8_0);(try simp only[Nat.reduceMul,Nat.zero_mul,Nat.zero_add,Nat.reduceAdd] at hf8_0);replace p8:=eq_true p8;replace q8:=eq_true q8;obtain⟨hy13_,hz13_⟩:=Kd.R_celln 0 HO317.out (0:Int) (by omega) (of_decide_eq_true (by first|(with_reducible assumption)|assumption));(try simp only[Int.reduceToNat,Int.toNat_zero,Int.toNat_ofNat,Nat.reduceMul,Nat.zero_mul,Nat.zero_add] at hy13_ hz13_);(try rw[show ((0:Int)).toNat=0 from rfl] at hy13_);(try rw[show ((0:Int)).toNat=0 from rfl] at hz13_);have HP13:=Kd.R_putg HO317.out (0:Int) a2)|((with_reducible refine zW (t:=95) (p:=14) rfl ?_);refine zcf (t:=95) (p:=14) (v:=?vo_w14) (w1:=(w11.setCell ⟨go8,(0:Int).toNat,none⟩ (.int .u32 a2))) ?hg ?ho ?hn ?hr ?_;(case ho=>rfl);(case hg=>rfl);(case hn=>rfl);(case hr=>first|(go_simp;done)|(go_simp;rfl));intro w14 hw;have hg:w11.grownBy w14 (some go8):=(by rw[hw];exact HP13.2);have hp_:Kd.R (Kd.int .u32) 95 w14 w.heap.size (fun _=>True) (.slice (some ⟨go8,0,none⟩) y315.length co8) y318:=(by rw[hw,Ny318.out];exact HP13.1);clear HP13;replace HO317:=K_ (hp_);replace HB:=K_ ((by rw[hw];exact xR (HB.out) GB8.out:Below w.heap.size w w14));clear hg hw hp_)|((with_reducible refine zH (f:=107) rfl ?_);refine zT (some 18) rfl rfl Tryz.func107 (by kernel_rfl) rfl #[.slice (some ⟨go8,0,none⟩) y315.length co8,.slice A0 l0.length c0,.int .u32 a1,.int .i64 0] rfl MP ?_;(with_reducible refine (yW.calls k (fun k_=>some k_=(.slice (some ⟨go8,0,none⟩) y315.length co8:Value).ownBlock) (.slice (some ⟨go8,0,none⟩) y315.length co8) y318 _ _ l0 a1 0 t319 w _ ?side1 ?side2 ?side3 ?side4 A9.out).mono ?_);(case side1=>repeat (first|(with_reducible first|exact HB.out|apply yC|apply jK|apply yM)|exact HB.out));(case side2=>exact Kd.R_tight rfl HO317.out);(case side3=>exact Kd.C_kept_came (Kd.heap_int .u32) HR0.out (BL HB) (fun k_ hs_=>(fun e_=>Kd.R_base HO317.out k_ e_.symm) hs_));(case side4=>exact HC0.out);rintro e w15 ⟨rfl,hy0,hb,hkp⟩;refine⟨_,rfl,?_⟩;replace HO317:=K_ (Kd.R_reok rfl hy0 (fun k_ e_=>HO317.out.1 k_ e_));replace HB:=K_ (hb);(try clear hb);(try clear hkp);(try clear hy0))|((with_reducible refine zH (f:=91) rfl ?_);refine zT (some 20) rfl rfl Tryz.func91 (by kernel_rfl) rfl #[.slice (some ⟨go8,0,none⟩) t319.length co8] rfl (by (try simp only[List.map_toArray]);(try simp only[List.map_cons]);(try simp only[List.map_nil]);first|done|(rw[show t319.length=y315.length from (Kd.R_reads' HO317.out).1.symm] <;> rfl)|rfl|(simp only[List.length_drop,List.length_take];rfl)) ?_;(with_reducible refine (jW.calls _ _ t319 t320 _ ?side1 ?side2 A10.out).mono ?_);(case side1=>exact CB ((Kd.R_reads' HO317.out).2.2));(case side2=>rw[show t319.length=y315.length from (Kd.R_reads' HO317.out).1.symm];exact (Kd.R_reads' HO317.out).2.1);rintro e w16 ⟨v321,rfl,ho0,hb⟩;refine⟨_,rfl,?_⟩;have HO322:=K_ (Kd.R_lower (Kd.R_new' ho0 (Kd.R_lt (RB HO317.out))) (zQ (BL HB)));replace HO317:=K_ (Kd.R_elder' (RB HO317.out) (Kd.R_base ho0) hb);replace HB:=zF HB hb;(try clear hb);(try clear hb2);(try clear hk);(try clear hi);(try clear ho0)))
    go_ret
    exact⟨_,by first|rfl|(simp[yR,yO] <;> rfl)|(simp only[←hji4];first|rfl|(simp[yR,yO] <;> rfl))|(simp[*,yR,yO] <;> rfl),by (with_reducible repeat (first|apply Kd.R_alloc|apply Kd.R_drewN|apply Kd.R_drew));exact Kd.R_mono HO322.out (fun _ hk=>trivial),BL HB⟩
   rw[if_neg c7] at H;exact absurd H (by simp)
  rw[if_neg c6] at H;exact absurd H (by simp)
 rw[if_neg c5] at H;exact absurd H (by simp)
theorem znQ (s v y c:Nat) (hs:s<1000000000) (hv:v<1000000000) (hy:y<1000000000) (hc:c<1000000000) :
  IntKind.u64.wrap ((IntKind.u64.wrap ((IntKind.u64.wrap (s:Int))+(IntKind.u64.wrap ((IntKind.u64.wrap (v:Int)) * (IntKind.u64.wrap (y:Int))))))+(c:Int))=((s+v * y+c:Nat):Int):=by
 have h1:v * y≤999999999 * 999999999:=Nat.mul_le_mul (by omega) (by omega);rw[zcC (x:=(s:Int)) (by omega) (by omega),zcC (x:=(v:Int)) (by omega) (by omega),zcC (x:=(y:Int)) (by omega) (by omega)];have e2:(v:Int) * (y:Int)=((v * y:Nat):Int):=by simp
 rw[e2];generalize v * y=t at *
 rw[zcC (x:=(t:Int)) (by omega) (by omega),zcC (x:=(s:Int)+(t:Int)) (by omega) (by omega),zcC (by omega) (by omega)];omega
theorem zkp (n:Nat) (h:n≤18446744073709551615):Int.tmod (n:Int) 1000000000 % 4294967296=((n % 1000000000:Nat):Int):=by
 rw[Int.tmod_eq_emod_of_nonneg (by omega)];omega
theorem ziO (n:Nat) (h:n≤18446744073709551615):IntKind.u64.wrap (Int.tdiv (n:Int) 1000000000)=((n / 1000000000:Nat):Int):=by
 rw[Int.tdiv_eq_ediv_of_nonneg (by omega),zcC (by omega) (by omega)];omega
theorem zmd (s c:Nat) (hs:s<1000000000) (hc:c<1000000000):IntKind.u64.wrap ((IntKind.u64.wrap (s:Int))+(c:Int))=((s+c:Nat):Int):=by
 rw[zcC (x:=(s:Int)) (by omega) (by omega),zcC (by omega) (by omega)];omega
theorem zgk:∀ (l:List Int) (m:Nat) (h:m<l.length) (v s:Nat),l[m]=(s:Int)→zI (l.set m (v:Int))+1000000000 ^ m * s=zI l+1000000000 ^ m * v
 | x :: l,0,h,v,s,h0=>by
  simp only[List.set_cons_zero,zI,List.getElem_cons_zero] at h0 ⊢
  rw[Nat.pow_zero];omega
 | x :: l,m+1,h,v,s,h0=>by
  simp only[List.set_cons_succ,zI,List.getElem_cons_succ] at h0 ⊢
  have:=zgk l m (by simpa using h) v s h0
  rw[Nat.pow_succ,Nat.mul_comm (1000000000 ^ m) 1000000000,Nat.mul_assoc,Nat.mul_assoc];omega
theorem zdK {l:List Int} (h:jC l=true) (m:Nat) {v:Int} (hv:0≤v∧v<1000000000):jC (l.set m v)=true:=by
 rw[yG];intro e he;rcases List.mem_or_eq_of_mem_set he with h1|h1
 ·exact yG.1 h e h1
 subst h1;exact hv
def zkK (x:List Int) (V:Nat) (r:List Int):Prop:=jC r=true∧r.length=x.length∧zI r=V
theorem zkG (V:Nat):∀ (d n:Nat) (x:List Int) (c:Nat),x.length-n=d→jC x=true→x.length≤1000000000000→n≤x.length→c<1000000000→zI x+1000000000 ^ n * c=V→V<1000000000 ^ x.length →
  ∃ r,Ev (fun k=>yW.l1 k x (c:Int) (n:Int)) r∧zkK x V r
 | d,n,x,c,h1,hg,hl,hn,hc,hV,hlt=>by
  by_cases h0:c=0
  ·subst h0
   refine⟨x,zaE (r':=x) (fun k=>?_) rfl,hg,rfl,by omega⟩;simp only[yW.l1];rw[if_neg (by omega)]
  have hnx:n<x.length:=by
   rcases Nat.lt_or_ge n x.length with h|h
   ·exact h
   obtain rfl:n=x.length:=by omega
   have:=Nat.mul_le_mul_left (1000000000 ^ x.length) (show 1≤c by omega)
   omega
  obtain⟨d,rfl⟩:∃ e,d=e+1:=⟨d-1,by omega⟩
  have hp:=yG.1 hg _ (List.getElem_mem hnx);obtain⟨s,hs⟩:∃ s:Nat,x[n]=(s:Int):=⟨x[n].toNat,by omega⟩
  have hset:=zgk x n hnx ((s+c) % 1000000000) s hs;have hdm:=Nat.div_add_mod (s+c) 1000000000;have key:zI (x.set n (((s+c) % 1000000000:Nat):Int))+1000000000 ^ (n+1) * ((s+c) / 1000000000)=V:=by
   have e:=congrArg (fun z=>1000000000 ^ n * z) hdm;simp only[Nat.mul_add] at e
   rw[Nat.pow_succ,Nat.mul_assoc];omega
  have hc':(s+c) / 1000000000<1000000000:=by omega
  obtain⟨r,hr,p1,p2,p3⟩:=zkG V d (n+1) (x.set n (((s+c) % 1000000000:Nat):Int)) ((s+c) / 1000000000) (by simp;omega) (zdK hg n (by omega)) (by simpa using hl) (by simp;omega) hc' key (by simpa using hlt);refine⟨r,Ev.step (fun k=>?_) hr,p1,by simpa using p2,p3⟩;simp only[yW.l1];rw[if_pos (by omega),if_pos (by omega),if_pos (by omega),vV hnx,hs,zmd _ _ (by omega) hc,zkp _ (by omega),ziO _ (by omega),w64 (by omega) (by omega),Int.toNat_natCast];rfl
theorem zky (p q:Nat) (hp:p≤1000000000000) (hq:q≤1000000000000):wrap64 ((p:Int)+(q:Int))=((p+q:Nat):Int):=by rw[w64 (by omega) (by omega)];omega
theorem ziL (a:List Int) (ga:jC a=true) (y p V:Nat) (hy:y<1000000000):∀ (d n:Nat) (x:List Int) (c:Nat),a.length-n=d→jC x=true→x.length≤1000000000000→n≤a.length→p+a.length≤x.length→c<1000000000→zI x+1000000000 ^ (p+n) * (c+zI (a.drop n) * y)=V→V<1000000000 ^ x.length →
  ∃ r,Ev (fun k=>yW.l0 k x a (y:Int) (p:Int) (c:Int) a (a.length:Int) (n:Int)) r∧zkK x V r
 | 0,n,x,c,h1,hg,hl,hn,hpa,hc,hV,hlt=>by
  have e:a.drop n=[]:=List.drop_of_length_le (by omega);rw[e] at hV;obtain⟨r,hr,p1⟩:=zkG V _ (p+n) x c rfl hg hl (by omega) hc (by simpa [zI] using hV) hlt;refine⟨r,Ev.step (fun k=>?_) hr,p1⟩
  simp only[yW.l0];rw[if_neg (by omega),zky p a.length (by omega) (by omega),show a.length=n by omega]
 | d+1,n,x,c,h1,hg,hl,hn,hpa,hc,hV,hlt=>by
  have hna:n<a.length:=by omega
  have hnx:p+n<x.length:=by omega
  have pa:=yG.1 ga _ (List.getElem_mem hna);have px:=yG.1 hg _ (List.getElem_mem hnx);obtain⟨v,hv⟩:∃ v:Nat,a[n]=(v:Int):=⟨a[n].toNat,by omega⟩
  obtain⟨s,hs⟩:∃ s:Nat,x[p+n]=(s:Int):=⟨x[p+n].toNat,by omega⟩
  have hvy:v * y≤999999999 * 999999999:=Nat.mul_le_mul (by omega) (by omega);have e:zI (a.drop n)=v+1000000000 * zI (a.drop (n+1)):=by rw[List.drop_eq_getElem_cons hna,hv];rfl
  have hset:=zgk x (p+n) hnx ((s+v * y+c) % 1000000000) s hs;have hdm:=Nat.div_add_mod (s+v * y+c) 1000000000;have key:zI (x.set (p+n) (((s+v * y+c) % 1000000000:Nat):Int))+1000000000 ^ (p+(n+1)) * ((s+v * y+c) / 1000000000+zI (a.drop (n+1)) * y)=V:=by
   have e1:=congrArg (fun z=>1000000000 ^ (p+n) * z) hdm;simp only[Nat.mul_add] at e1
   rw[e,Nat.add_mul,Nat.mul_add,Nat.mul_add,Nat.mul_assoc 1000000000,←Nat.mul_assoc _ 1000000000] at hV;rw[←Nat.add_assoc,Nat.pow_succ,Nat.mul_add,Nat.mul_assoc _ 1000000000 (_ / _)];omega
  have hc':(s+v * y+c) / 1000000000<1000000000:=by omega
  obtain⟨r,hr,p1,p2,p3⟩:=ziL a ga y p V hy d (n+1) (x.set (p+n) (((s+v * y+c) % 1000000000:Nat):Int)) ((s+v * y+c) / 1000000000) (by omega) (zdK hg _ (by omega)) (by simpa using hl) (by omega) (by simpa using hpa) hc' key (by simpa using hlt);refine⟨r,Ev.step (fun k=>?_) hr,p1,by simpa using p2,p3⟩;simp only[yW.l0]
  rw[if_pos (by omega),if_pos (by omega),if_pos (by omega),zky p n (by omega) (by omega),if_pos (by omega),if_pos (by omega),vV hnx,vV hna,hs,hv,znQ _ _ _ _ (by omega) (by omega) hy hc,zkp _ (by omega),ziO _ (by omega),xU _ (by omega),Int.toNat_natCast]
theorem zmx {x a:List Int} {y p:Nat} (gx:jC x=true) (ga:jC a=true) (hy:y<1000000000) (hl:x.length≤1000000000000) (hpa:p+a.length≤x.length) (hlt:zI x+1000000000 ^ p * (zI a * y)<1000000000 ^ x.length) :
  ∃ r,Ev (fun k=>yW.f k x a (y:Int) (p:Int)) r∧jC r=true∧r.length=x.length∧zI r=zI x+1000000000 ^ p * (zI a * y):=by
 obtain⟨r,hr,h⟩:=ziL a ga y p _ hy a.length 0 x 0 rfl gx hl (by omega) hpa (by omega) rfl (by simpa using hlt);exact⟨r,hr,h.1,h.2.1,by rw[h.2.2];simp⟩
end Go.Proofs.YtcmgdjnjmobkoaaGreatDoor.Px
