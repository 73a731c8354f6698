/- The law PlaceNear: for every input the call returns true, and its arguments read behind it as before. -/
import Derived.Test.YtjpokifkbclkiaaDoorRows
import Derived.Test.YtjpokifkbclkiaaDoorCPlaceNear4
import Derived.Test.YtjpokifkbclkiaaDoorCards
import Derived.Test.YtjpokifkbclkiaaDoorTie
import Derived.WalkKit
import Derived.ProofKit
import Derived.OpenShut
import Derived.ShutString
import Derived.ChangeOld
import Derived.Below
import Derived.SizedLaws
import Derived.Lib.SmallJoins
import Derived.LaidMore
import Derived.LaidHandle
import Derived.Lay
import Derived.SevenTiedAt
import Derived.Stop.Joined
namespace Go.Proofs.YtjpokifkbclkiaaDoor.placeNear
open Go.ChangeShapes Go.WideShapes Go.ChangeAt Go.RowKit Go.Proofs.YtjpokifkbclkiaaDoorW.PrintWords
open Go.ChangeMaps (open_string shut_string)
theorem own : ownKnob Tryd.prog.godebug = none := by kernel_rfl
theorem walk (a0 : Int) (a1_0 : Bool) (a1_1 : ByteArray) (a1_2 : Int) (a2 : Int) (w : World) (hG : Fig.Glob w) (w0 : (Lit.int .i64 a0).wf = true) (w1_1 : a1_1.size ≤ 140737488351232) (w1_2 : (Lit.int .i64 a1_2).wf = true) (w2 : (Lit.int .i64 a2).wf = true) :
    Calls Tryd.prog 5 #[.int .i64 a0, .agg #[.bool a1_0, .string a1_1, .int .i64 a1_2], .int .i64 a2] w fun e w' => e = .returned (.bool true) ∧ Below w.heap.size w w' := by
  obtain ⟨k, h⟩ := Px.PlaceNear_pure a0 a1_0 a1_1 a1_2 a2 w0 w1_1 w1_2 w2
  refine (Px.figureheadlaw08_PlaceNear.calls k a0 a1_0 a1_1 a1_2 a2 true w hG ⟨rfl⟩  h).mono ?_
  rintro e w' ⟨rfl, hd⟩
  exact ⟨rfl, hd⟩
set_option maxRecDepth 100000 in
theorem lifted (os : Os) (started : os.Started) (H : Type) (enc : TypeId × Value → H) :
    ReturnsInHanded {} Tryd.checked os 5 .any (fun w args => (Rows.placeNearSpec.pre enc Tryd.prog Tryd.f5 Rows.placeNearRow.domain false w args ∧ laidMetH Tryd.prog Fig.laidL w) ∧ sizedMet enc Tryd.prog Tryd.f5 (OpenSpec.ofChange Rows.placeNearSpec) false w args)
      (Rows.placeNearSpec.post enc Tryd.prog Tryd.f5 false true false false) := by
  refine returnsInHanded_of_change_and (C := Tryd.checked) (X := fun w _ => laidMetH Tryd.prog Fig.laidL w) (fun _ _ _ hh h => h.of_heap hh) own started (by kernel_rfl) Tryd.func5
    (ChangeSpec.witness_shaped (enc := enc) (C := Tryd.checked) (os := os) (X := fun w _ => laidMetH Tryd.prog Fig.laidL w) false (Fig.startW os) #[.int .i64 0, .agg #[.bool false, .string ByteArray.empty, .int .i64 0], .int .i64 0] 8 (Fig.startW_os os) (World.shaped_of_ZipB (by kernel_rfl) (by kernel_rfl)) (by kernel_rfl) (by kernel_rfl) (by kernel_rfl) (Fig.met os _)) ?_
  intro W base args ds gs before hval0 hW hcnd hsz0 hL _
  have hG := Fig.of_laid hL
  have hsz : (DataW.weightsEach Tryd.prog (Tryd.f5.params.toList ++ Rows.placeNearSpec.plain.varTypes Tryd.prog) (ds ++ gs)).all (· ≤ reachBytes) = true := hsz0
  have hval : ∀ (j : Nat) t v, Tryd.f5.params[j]? = some t → args[j]? = some v → Value.okWide Tryd.prog W .any base t v := hval0
  have hW' := hW
  obtain ⟨p, q, hA0, hV, rfl, hfz, hnd⟩ := hW
  have hA : DataW.TrodAll enc Tryd.prog W 0 (fun _ => true) true Tryd.f5.params.toList args.toList ds p := hA0
  rw [Tryd.params5] at hA hval hsz
  obtain ⟨v0, vs0, d0, ds0, p0, q0, hargs, rfl, rfl, h0, r0⟩ := trodAll_cons hA
  obtain ⟨v1, vs1, d1, ds1, p1, q1, rfl, rfl, rfl, h1, r1⟩ := trodAll_cons r0
  obtain ⟨v2, vs2, d2, ds2, p2, q2, rfl, rfl, rfl, h2, r2⟩ := trodAll_cons r1
  obtain ⟨rfl, rfl, rfl⟩ := trodAll_nil r2
  obtain rfl : args = #[v0, v1, v2] := by cases args; simp_all
  obtain ⟨rfl, rfl⟩ := trodVars_none hV
  obtain ⟨a0, rfl, rfl, rfl, w0⟩ := open_int Tryd.underlying3 (hval 0 3 v0 rfl rfl) h0
  obtain ⟨a1_0, a1_1, a1_2, rfl, rfl, rfl, y1, w1_2⟩ := Fig.open_dec Tryd.underlying23 (by kernel_rfl) (by kernel_rfl) Tryd.underlying4 Tryd.underlying9 Tryd.underlying3 (hval 1 23 v1 rfl rfl) h1
  have w1_1 : a1_1.size ≤ 140737488351232 := by
    have z := Fig.sized_dec hsz (j := 1) (t := 23) rfl rfl Tryd.underlying23
    rw [Array.length_toList] at z
    exact z
  obtain ⟨a2, rfl, rfl, rfl, w2⟩ := open_int Tryd.underlying3 (hval 2 3 v2 rfl rfl) h2
  clear hA0 hval0 hsz0 hsz
  refine (walk a0 a1_0 a1_1 a1_2 a2 W hG w0 w1_1 w1_2 w2).mono fun e W' ⟨he, bel⟩ => ?_
  subst he
  exact ⟨_, rfl, _, _, _, [], _, [], hW', trodAll_mk1 (shut_bool Tryd.underlying4 _), (trodAll_cons_mk (shut_int Tryd.underlying3 w0) (trodAll_cons_mk (Fig.shut_dec Tryd.underlying23 (by kernel_rfl) (by kernel_rfl) Tryd.underlying4 Tryd.underlying9 Tryd.underlying3 y1 w1_2) (trodAll_cons_mk (shut_int Tryd.underlying3 w2) trodAll_mk0))), rfl, bel.frame _, fun h => by cases h⟩
theorem over : Rows.placeNearRow.holds Tryd.pinned (OpenSpec.ofChange Rows.placeNearSpec) :=
  OpenClaim.holds_of_wide 5 Tryd.f5 rfl rfl rfl rfl rfl rfl rfl ⟨rfl, rfl, rfl, rfl, rfl⟩ rfl rfl rfl rfl rfl (by kernel_rfl) Tryd.func5 (by kernel_rfl)
    (of_decide_eq_true (by kernel_rfl)) (by unfold Func.isWrapper; first | (rw [if_pos (by decide +kernel)]; kernel_rfl) | (rw [if_neg (by decide +kernel)]; exact ⟨rfl, rfl⟩))
    (fun os started H enc _ => lifted os started H enc)
theorem proved : Rows.PlaceNearSaid := over
theorem card : Rows.PlaceNearCardSaid :=
  Claim7.holds_tied_plain_at .later [] [.funcs, .data, .data, .pinned] true (true, "9d37f841e137d1a79f43b4e791658ab8fd270e5f7ee036f96d219676a3c9c771") false over (fun _ h => by cases h) (by kernel_rfl) (fun _ h => by cases h) placeNear_row_tie rfl ⟨rfl, rfl⟩ (by kernel_rfl) rfl
    (fun f fn hf hfn => by
      obtain rfl : f = 5 := Option.some.inj ((show Tryd.prog.funcNamed "figurehead/figureheadlaw08.PlaceNear" = some 5 by kernel_rfl).symm.trans hf) |>.symm
      obtain rfl : fn = Tryd.f5 := (Option.some.inj (Tryd.func5.symm.trans hfn)).symm
      exact ⟨by kernel_rfl, fun j t ht => by
        rw [Tryd.params5] at ht
        have hm : t ∈ [3, 23, 3] := by simpa using Array.mem_of_getElem? ht
        have hall : ([3, 23, 3].all fun u => !Tryd.prog.wantsStandIn u) = true := by kernel_rfl
        exact (show Tryd.prog.wantsStandIn t = false by simpa using List.all_eq_true.1 hall t hm)⟩)
    (by kernel_rfl)
end Go.Proofs.YtjpokifkbclkiaaDoor.placeNear
namespace Go.Proofs.YtjpokifkbclkiaaDoor
/-- The row, under a short name, for the claim. -/
theorem placeNearCard_holds : Rows.PlaceNearCardSaid := placeNear.card
#print axioms placeNearCard_holds
end Go.Proofs.YtjpokifkbclkiaaDoor
