/- The law ShapeValue, where what comes in is of bulk at most 1048576: the call returns true, and its arguments read behind it as before. -/
import Derived.Test.YtcmgdjnjmobkoaaGreatDoorRows
import Derived.Test.YtcmgdjnjmobkoaaGreatDoorCShapeValueUpto5
import Derived.Test.YtcmgdjnjmobkoaaGreatDoorCards
import Derived.Test.YtcmgdjnjmobkoaaGreatDoorTie
import Derived.WalkKit
import Derived.ProofKit
import Derived.OpenShut
import Derived.ShutString
import Derived.ChangeOld
import Derived.Below
import Derived.SizedLaws
import Derived.Lib.SmallJoins
import Derived.LaidMore
import Derived.LaidHandle
import Derived.Lay
import Derived.SevenTiedAt
import Derived.Stop.Joined
import Derived.Deep.DeepHandedRow
namespace Go.Proofs.YtcmgdjnjmobkoaaGreatDoor.shapeValue
open Go.ChangeShapes Go.WideShapes Go.ChangeAt Go.RowKit Go.Proofs.YtcmgdjnjmobkoaaGreatDoorW.PrintWords
open Go.ChangeMaps (open_string shut_string)
theorem own : ownKnob Tryz.prog.godebug = none := by kernel_rfl
theorem reads (os : Os) {H : Type} (enc : TypeId × Value → H) : ∃ places, DataW.whole enc Tryz.prog ((Fig.startW os).forCall (fun _ _ => 0) ⟨#[], #[.string ByteArray.empty, .int .i64 0, .agg #[.bool false, .string ByteArray.empty, .int .i64 0]], []⟩).memory Tryz.f11.params.toList Rows.shapeValueSpec.vars false (#[.string ByteArray.empty, .int .i64 0, .agg #[.bool false, .string ByteArray.empty, .int .i64 0]] : Array Value).toList 8 = some ([.lit (.string []), .lit (.int .i64 0), .agg [.lit (.bool false), .lit (.string []), .lit (.int .i64 0)]], [], places) := ⟨[], by kernel_rfl⟩
set_option maxRecDepth 100000 in
theorem zoP (os : Os) (started : os.Started) (H : Type) (enc : TypeId × Value → H) (F : Stop.Interp) :
    ReturnsInHanded {} Tryz.checked os 11 .any ((Rows.OpenSpec.upto Rows.shapeValueSpec).preRow enc Tryz.prog Tryz.f11 Rows.shapeValueUptoRow.domain false Rows.shapeValueUptoRow.laid) (((Rows.OpenSpec.upto Rows.shapeValueSpec).at F).post enc Tryz.prog Tryz.f11 false true false false) := by
  obtain ⟨places, hx⟩ := reads os enc
  refine returnsInHanded_of_row (C := Tryz.checked) (s := Rows.OpenSpec.upto Rows.shapeValueSpec) own started (by kernel_rfl) Tryz.func11
    (witness_row_at (enc := enc) (C := Tryz.checked) false (Fig.startW os) #[.string ByteArray.empty, .int .i64 0, .agg #[.bool false, .string ByteArray.empty, .int .i64 0]] (Fig.startW_os os) (by kernel_rfl) (by kernel_rfl) (by kernel_rfl)
      (OpenSpec.preRow_of_cond 8 hx (by kernel_rfl) (fun k hk => by cases hk; kernel_rfl) (by kernel_rfl) (Fig.met os _))) ?_
  intro W base args ds gs before hval0 hW hcnd hcond hsz0 hL _ _
  have hG := Fig.of_laid hL
  have hk : Rows.uptoSmall H (ds ++ gs) = true := hcond _ rfl
  have hsz : (DataW.weightsEach Tryz.prog (Tryz.f11.params.toList ++ Rows.shapeValueSpec.plain.varTypes Tryz.prog) (ds ++ gs)).all (· ≤ reachBytes) = true := hsz0
  have hval : ∀ (j : Nat) t v, Tryz.f11.params[j]? = some t → args[j]? = some v → Value.okWide Tryz.prog W .any base t v := hval0
  have hW' := hW
  obtain ⟨p, q, hA0, hV, rfl, hfz, hnd⟩ := hW
  have hA : DataW.TrodAll enc Tryz.prog W 0 (fun _ => true) true Tryz.f11.params.toList args.toList ds p := hA0
  rw [Tryz.params11] at hA hval hsz
  obtain ⟨v0, vs0, d0, ds0, p0, q0, hargs, rfl, rfl, h0, r0⟩ := trodAll_cons hA
  obtain ⟨v1, vs1, d1, ds1, p1, q1, rfl, rfl, rfl, h1, r1⟩ := trodAll_cons r0
  obtain ⟨v2, vs2, d2, ds2, p2, q2, rfl, rfl, rfl, h2, r2⟩ := trodAll_cons r1
  obtain ⟨rfl, rfl, rfl⟩ := trodAll_nil r2
  obtain rfl : args = #[v0, v1, v2] := by cases args; simp_all
  obtain ⟨rfl, rfl⟩ := trodVars_none hV
  obtain ⟨a0, rfl, rfl, rfl, y0⟩ := open_string Tryz.underlying9 (hval 0 9 v0 rfl rfl) h0
  obtain ⟨a1, rfl, rfl, rfl, w1⟩ := open_int Tryz.underlying3 (hval 1 3 v1 rfl rfl) h1
  obtain ⟨a2_0, a2_1, a2_2, rfl, rfl, rfl, y2, w2_2⟩ := Fig.open_dec Tryz.underlying23 (by kernel_rfl) (by kernel_rfl) Tryz.underlying4 Tryz.underlying9 Tryz.underlying3 (hval 2 23 v2 rfl rfl) h2
  have w2_1 : a2_1.size ≤ 140737488351232 := by
    have z := Fig.sized_dec hsz (j := 2) (t := 23) rfl rfl Tryz.underlying23
    rw [Array.length_toList] at z
    exact z
  have w0 : a0.size ≤ 1048576 := by
    have hb := of_decide_eq_true hk
    simp only [List.append_nil, Rows.uptoBulkAll, Rows.uptoBulk] at hb
    have e : a0.data.toList.length = a0.size := by rw [Array.length_toList]; rfl
    omega
  clear hA0 hval0 hsz0 hsz
  refine (Go.Proofs.YtcmgdjnjmobkoaaGreatDoor.Px.value_law a0 w0 a1 a2_0 a2_1 a2_2 w2_1 W hG).mono fun e W' ⟨he, bel⟩ => ?_
  subst he
  exact ⟨_, rfl, _, _, _, [], _, [], hW', trodAll_mk1 (shut_bool Tryz.underlying4 _), (trodAll_cons_mk (shut_string Tryz.underlying9 y0) (trodAll_cons_mk (shut_int Tryz.underlying3 w1) (trodAll_cons_mk (Fig.shut_dec Tryz.underlying23 (by kernel_rfl) (by kernel_rfl) Tryz.underlying4 Tryz.underlying9 Tryz.underlying3 y2 w2_2) trodAll_mk0))), rfl, bel.frame _, fun h => by cases h⟩
theorem zmD : Rows.ShapeValueUptoSaid :=
  OpenClaim.holds_of_cond 11 Tryz.f11 rfl rfl rfl rfl rfl rfl rfl ⟨rfl, rfl, rfl, rfl, rfl⟩ rfl rfl rfl rfl rfl (by kernel_rfl) Tryz.func11 (by kernel_rfl)
    (of_decide_eq_true (by kernel_rfl)) (by unfold Func.isWrapper; first | (rw [if_pos (by decide +kernel)]; kernel_rfl) | (rw [if_neg (by decide +kernel)]; exact ⟨rfl, rfl⟩))
    (fun os started H enc _ F => by rw [OpenClaim.pre_eq_preRow]; exact zoP os started H enc F)
theorem plain (f : FuncId) (fn : Func) (hf : Tryz.pinned.checked.prog.funcNamed "figurehead/figureheadlaw19.ShapeValue" = some f) (hfn : Tryz.pinned.checked.prog.funcs[f]? = some fn) :
    false = Tryz.pinned.checked.prog.looks [] ∧ ∀ (j : Nat) t, fn.params[j]? = some t → Tryz.pinned.checked.prog.wantsStandIn t = false := by
  obtain rfl : f = 11 := Option.some.inj ((show Tryz.prog.funcNamed "figurehead/figureheadlaw19.ShapeValue" = some 11 by kernel_rfl).symm.trans hf) |>.symm
  obtain rfl : fn = Tryz.f11 := (Option.some.inj (Tryz.func11.symm.trans hfn)).symm
  refine ⟨by kernel_rfl, fun j t ht => ?_⟩
  rw [Tryz.params11] at ht
  have hm : t ∈ [9, 3, 23] := by simpa using Array.mem_of_getElem? ht
  have hall : ([9, 3, 23].all fun u => !Tryz.prog.wantsStandIn u) = true := by kernel_rfl
  exact (show Tryz.prog.wantsStandIn t = false by simpa using List.all_eq_true.1 hall t hm)
theorem cardUpto : Rows.ShapeValueUptoCardSaid :=
  Claim7.holds_tied_plain_at .later [] _ _ _ _ zmD (fun _ h => by cases h) (by kernel_rfl) (fun _ h => by cases h) shapeValueUpto_row_tie rfl ⟨rfl, rfl⟩ (by kernel_rfl) rfl plain (by kernel_rfl)
end Go.Proofs.YtcmgdjnjmobkoaaGreatDoor.shapeValue
namespace Go.Proofs.YtcmgdjnjmobkoaaGreatDoor
/-- The row, under a short name, for the claim. -/
theorem shapeValueUptoCard_holds : Rows.ShapeValueUptoCardSaid := shapeValue.cardUpto
#print axioms shapeValueUptoCard_holds
end Go.Proofs.YtcmgdjnjmobkoaaGreatDoor
