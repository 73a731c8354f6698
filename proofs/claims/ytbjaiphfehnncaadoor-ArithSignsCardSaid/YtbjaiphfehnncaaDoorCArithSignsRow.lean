/- The law ArithSigns: for every input the call returns true, and its arguments read behind it as before. -/
import Derived.Test.YtbjaiphfehnncaaDoorRows
import Derived.Test.YtbjaiphfehnncaaDoorCArithSigns3
import Derived.Test.YtbjaiphfehnncaaDoorCards
import Derived.Test.YtbjaiphfehnncaaDoorTie
import Derived.WalkKit
import Derived.ProofKit
import Derived.OpenShut
import Derived.ShutString
import Derived.ChangeOld
import Derived.Below
import Derived.SizedLaws
import Derived.Lib.SmallJoins
import Derived.LaidMore
import Derived.LaidHandle
import Derived.Lay
import Derived.SevenTiedAt
import Derived.Stop.Joined
namespace Go.Proofs.YtbjaiphfehnncaaDoor.arithSigns
open Go.ChangeShapes Go.WideShapes Go.ChangeAt Go.RowKit Go.Proofs.YtbjaiphfehnncaaDoorW.PrintWords
open Go.ChangeMaps (open_string shut_string)
theorem own : ownKnob Tryd.prog.godebug = none := by kernel_rfl
theorem walk (a0_0 : Bool) (a0_1 : ByteArray) (a0_2 : Int) (a1_0 : Bool) (a1_1 : ByteArray) (a1_2 : Int) (w : World) (hG : Fig.Glob w) (w0_1 : a0_1.size ≤ 140737488351232) (w0_2 : (Lit.int .i64 a0_2).wf = true) (w1_1 : a1_1.size ≤ 140737488351232) (w1_2 : (Lit.int .i64 a1_2).wf = true) :
    Calls Tryd.prog 14 #[.agg #[.bool a0_0, .string a0_1, .int .i64 a0_2], .agg #[.bool a1_0, .string a1_1, .int .i64 a1_2]] w fun e w' => e = .returned (.bool true) ∧ Below w.heap.size w w' := by
  obtain ⟨k, h⟩ := Px.ArithSigns_pure a0_0 a0_1 a0_2 a1_0 a1_1 a1_2 w0_1 w0_2 w1_1 w1_2
  refine (Px.figureheadlaw06_ArithSigns.calls k a0_0 a0_1 a0_2 a1_0 a1_1 a1_2 true w hG ⟨rfl⟩  h).mono ?_
  rintro e w' ⟨rfl, hd⟩
  exact ⟨rfl, hd⟩
set_option maxRecDepth 100000 in
theorem lifted (os : Os) (started : os.Started) (H : Type) (enc : TypeId × Value → H) :
    ReturnsInHanded {} Tryd.checked os 14 .any (fun w args => (Rows.arithSignsSpec.pre enc Tryd.prog Tryd.f14 Rows.arithSignsRow.domain false w args ∧ laidMetH Tryd.prog Fig.laidL w) ∧ sizedMet enc Tryd.prog Tryd.f14 (OpenSpec.ofChange Rows.arithSignsSpec) false w args)
      (Rows.arithSignsSpec.post enc Tryd.prog Tryd.f14 false true false false) := by
  refine returnsInHanded_of_change_and (C := Tryd.checked) (X := fun w _ => laidMetH Tryd.prog Fig.laidL w) (fun _ _ _ hh h => h.of_heap hh) own started (by kernel_rfl) Tryd.func14
    (ChangeSpec.witness_shaped (enc := enc) (C := Tryd.checked) (os := os) (X := fun w _ => laidMetH Tryd.prog Fig.laidL w) false (Fig.startW os) #[.agg #[.bool false, .string ByteArray.empty, .int .i64 0], .agg #[.bool false, .string ByteArray.empty, .int .i64 0]] 8 (Fig.startW_os os) (World.shaped_of_ZipB (by kernel_rfl) (by kernel_rfl)) (by kernel_rfl) (by kernel_rfl) (by kernel_rfl) (Fig.met os _)) ?_
  intro W base args ds gs before hval0 hW hcnd hsz0 hL _
  have hG := Fig.of_laid hL
  have hsz : (DataW.weightsEach Tryd.prog (Tryd.f14.params.toList ++ Rows.arithSignsSpec.plain.varTypes Tryd.prog) (ds ++ gs)).all (· ≤ reachBytes) = true := hsz0
  have hval : ∀ (j : Nat) t v, Tryd.f14.params[j]? = some t → args[j]? = some v → Value.okWide Tryd.prog W .any base t v := hval0
  have hW' := hW
  obtain ⟨p, q, hA0, hV, rfl, hfz, hnd⟩ := hW
  have hA : DataW.TrodAll enc Tryd.prog W 0 (fun _ => true) true Tryd.f14.params.toList args.toList ds p := hA0
  rw [Tryd.params14] at hA hval hsz
  obtain ⟨v0, vs0, d0, ds0, p0, q0, hargs, rfl, rfl, h0, r0⟩ := trodAll_cons hA
  obtain ⟨v1, vs1, d1, ds1, p1, q1, rfl, rfl, rfl, h1, r1⟩ := trodAll_cons r0
  obtain ⟨rfl, rfl, rfl⟩ := trodAll_nil r1
  obtain rfl : args = #[v0, v1] := by cases args; simp_all
  obtain ⟨rfl, rfl⟩ := trodVars_none hV
  obtain ⟨a0_0, a0_1, a0_2, rfl, rfl, rfl, y0, w0_2⟩ := Fig.open_dec Tryd.underlying23 (by kernel_rfl) (by kernel_rfl) Tryd.underlying4 Tryd.underlying9 Tryd.underlying3 (hval 0 23 v0 rfl rfl) h0
  have w0_1 : a0_1.size ≤ 140737488351232 := by
    have z := Fig.sized_dec hsz (j := 0) (t := 23) rfl rfl Tryd.underlying23
    rw [Array.length_toList] at z
    exact z
  obtain ⟨a1_0, a1_1, a1_2, rfl, rfl, rfl, y1, w1_2⟩ := Fig.open_dec Tryd.underlying23 (by kernel_rfl) (by kernel_rfl) Tryd.underlying4 Tryd.underlying9 Tryd.underlying3 (hval 1 23 v1 rfl rfl) h1
  have w1_1 : a1_1.size ≤ 140737488351232 := by
    have z := Fig.sized_dec hsz (j := 1) (t := 23) rfl rfl Tryd.underlying23
    rw [Array.length_toList] at z
    exact z
  clear hA0 hval0 hsz0 hsz
  refine (walk a0_0 a0_1 a0_2 a1_0 a1_1 a1_2 W hG w0_1 w0_2 w1_1 w1_2).mono fun e W' ⟨he, bel⟩ => ?_
  subst he
  exact ⟨_, rfl, _, _, _, [], _, [], hW', trodAll_mk1 (shut_bool Tryd.underlying4 _), (trodAll_cons_mk (Fig.shut_dec Tryd.underlying23 (by kernel_rfl) (by kernel_rfl) Tryd.underlying4 Tryd.underlying9 Tryd.underlying3 y0 w0_2) (trodAll_cons_mk (Fig.shut_dec Tryd.underlying23 (by kernel_rfl) (by kernel_rfl) Tryd.underlying4 Tryd.underlying9 Tryd.underlying3 y1 w1_2) trodAll_mk0)), rfl, bel.frame _, fun h => by cases h⟩
theorem over : Rows.arithSignsRow.holds Tryd.pinned (OpenSpec.ofChange Rows.arithSignsSpec) :=
  OpenClaim.holds_of_wide 14 Tryd.f14 rfl rfl rfl rfl rfl rfl rfl ⟨rfl, rfl, rfl, rfl, rfl⟩ rfl rfl rfl rfl rfl (by kernel_rfl) Tryd.func14 (by kernel_rfl)
    (of_decide_eq_true (by kernel_rfl)) (by unfold Func.isWrapper; first | (rw [if_pos (by decide +kernel)]; kernel_rfl) | (rw [if_neg (by decide +kernel)]; exact ⟨rfl, rfl⟩))
    (fun os started H enc _ => lifted os started H enc)
theorem proved : Rows.ArithSignsSaid := over
theorem card : Rows.ArithSignsCardSaid :=
  Claim7.holds_tied_plain_at .later [] [.data, .data, .pinned] true (true, "a501a031b347b3e59efc0d8674e8d95cab34dca0313e5d5132846e44e12465e5") false over (fun _ h => by cases h) (by kernel_rfl) (fun _ h => by cases h) arithSigns_row_tie rfl ⟨rfl, rfl⟩ (by kernel_rfl) rfl
    (fun f fn hf hfn => by
      obtain rfl : f = 14 := Option.some.inj ((show Tryd.prog.funcNamed "figurehead/figureheadlaw06.ArithSigns" = some 14 by kernel_rfl).symm.trans hf) |>.symm
      obtain rfl : fn = Tryd.f14 := (Option.some.inj (Tryd.func14.symm.trans hfn)).symm
      exact ⟨by kernel_rfl, fun j t ht => by
        rw [Tryd.params14] at ht
        have hm : t ∈ [23, 23] := by simpa using Array.mem_of_getElem? ht
        have hall : ([23, 23].all fun u => !Tryd.prog.wantsStandIn u) = true := by kernel_rfl
        exact (show Tryd.prog.wantsStandIn t = false by simpa using List.all_eq_true.1 hall t hm)⟩)
    (by kernel_rfl)
end Go.Proofs.YtbjaiphfehnncaaDoor.arithSigns
namespace Go.Proofs.YtbjaiphfehnncaaDoor
/-- The row, under a short name, for the claim. -/
theorem arithSignsCard_holds : Rows.ArithSignsCardSaid := arithSigns.card
#print axioms arithSignsCard_holds
end Go.Proofs.YtbjaiphfehnncaaDoor
