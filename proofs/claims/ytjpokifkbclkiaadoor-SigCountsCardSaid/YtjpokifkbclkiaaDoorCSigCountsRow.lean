/- The law SigCounts: for every input the call returns true, and its arguments read behind it as before. -/
import Derived.Test.YtjpokifkbclkiaaDoorRows
import Derived.Test.YtjpokifkbclkiaaDoorCSigCounts3
import Derived.Test.YtjpokifkbclkiaaDoorCards
import Derived.Test.YtjpokifkbclkiaaDoorTie
import Derived.WalkKit
import Derived.ProofKit
import Derived.OpenShut
import Derived.ShutString
import Derived.ChangeOld
import Derived.Below
import Derived.SizedLaws
import Derived.Lib.SmallJoins
import Derived.LaidMore
import Derived.LaidHandle
import Derived.Lay
import Derived.SevenTiedAt
import Derived.Stop.Joined
namespace Go.Proofs.YtjpokifkbclkiaaDoor.sigCounts
open Go.ChangeShapes Go.WideShapes Go.ChangeAt Go.RowKit Go.Proofs.YtjpokifkbclkiaaDoorW.PrintWords
open Go.ChangeMaps (open_string shut_string)
theorem own : ownKnob Tryd.prog.godebug = none := by kernel_rfl
theorem walk (a0_0 : Bool) (a0_1 : ByteArray) (a0_2 : Int) (a1 : Int) (w : World) (hG : Fig.Glob w) (w0_1 : a0_1.size ≤ 140737488351232) (w0_2 : (Lit.int .i64 a0_2).wf = true) (w1 : (Lit.int .u8 a1).wf = true) :
    Calls Tryd.prog 10 #[.agg #[.bool a0_0, .string a0_1, .int .i64 a0_2], .int .u8 a1] w fun e w' => e = .returned (.bool true) ∧ Below w.heap.size w w' := by
  obtain ⟨k, h⟩ := Px.SigCounts_pure a0_0 a0_1 a0_2 a1 w0_1 w0_2 w1
  refine (Px.figureheadlaw09_SigCounts.calls k a0_0 a0_1 a0_2 a1 true w hG ⟨rfl⟩  h).mono ?_
  rintro e w' ⟨rfl, hd⟩
  exact ⟨rfl, hd⟩
set_option maxRecDepth 100000 in
theorem lifted (os : Os) (started : os.Started) (H : Type) (enc : TypeId × Value → H) :
    ReturnsInHanded {} Tryd.checked os 10 .any (fun w args => (Rows.sigCountsSpec.pre enc Tryd.prog Tryd.f10 Rows.sigCountsRow.domain false w args ∧ laidMetH Tryd.prog Fig.laidL w) ∧ sizedMet enc Tryd.prog Tryd.f10 (OpenSpec.ofChange Rows.sigCountsSpec) false w args)
      (Rows.sigCountsSpec.post enc Tryd.prog Tryd.f10 false true false false) := by
  refine returnsInHanded_of_change_and (C := Tryd.checked) (X := fun w _ => laidMetH Tryd.prog Fig.laidL w) (fun _ _ _ hh h => h.of_heap hh) own started (by kernel_rfl) Tryd.func10
    (ChangeSpec.witness_shaped (enc := enc) (C := Tryd.checked) (os := os) (X := fun w _ => laidMetH Tryd.prog Fig.laidL w) false (Fig.startW os) #[.agg #[.bool false, .string ByteArray.empty, .int .i64 0], .int .u8 0] 8 (Fig.startW_os os) (World.shaped_of_ZipB (by kernel_rfl) (by kernel_rfl)) (by kernel_rfl) (by kernel_rfl) (by kernel_rfl) (Fig.met os _)) ?_
  intro W base args ds gs before hval0 hW hcnd hsz0 hL _
  have hG := Fig.of_laid hL
  have hsz : (DataW.weightsEach Tryd.prog (Tryd.f10.params.toList ++ Rows.sigCountsSpec.plain.varTypes Tryd.prog) (ds ++ gs)).all (· ≤ reachBytes) = true := hsz0
  have hval : ∀ (j : Nat) t v, Tryd.f10.params[j]? = some t → args[j]? = some v → Value.okWide Tryd.prog W .any base t v := hval0
  have hW' := hW
  obtain ⟨p, q, hA0, hV, rfl, hfz, hnd⟩ := hW
  have hA : DataW.TrodAll enc Tryd.prog W 0 (fun _ => true) true Tryd.f10.params.toList args.toList ds p := hA0
  rw [Tryd.params10] at hA hval hsz
  obtain ⟨v0, vs0, d0, ds0, p0, q0, hargs, rfl, rfl, h0, r0⟩ := trodAll_cons hA
  obtain ⟨v1, vs1, d1, ds1, p1, q1, rfl, rfl, rfl, h1, r1⟩ := trodAll_cons r0
  obtain ⟨rfl, rfl, rfl⟩ := trodAll_nil r1
  obtain rfl : args = #[v0, v1] := by cases args; simp_all
  obtain ⟨rfl, rfl⟩ := trodVars_none hV
  obtain ⟨a0_0, a0_1, a0_2, rfl, rfl, rfl, y0, w0_2⟩ := Fig.open_dec Tryd.underlying23 (by kernel_rfl) (by kernel_rfl) Tryd.underlying4 Tryd.underlying9 Tryd.underlying3 (hval 0 23 v0 rfl rfl) h0
  have w0_1 : a0_1.size ≤ 140737488351232 := by
    have z := Fig.sized_dec hsz (j := 0) (t := 23) rfl rfl Tryd.underlying23
    rw [Array.length_toList] at z
    exact z
  obtain ⟨a1, rfl, rfl, rfl, w1⟩ := open_int Tryd.underlying5 (hval 1 5 v1 rfl rfl) h1
  clear hA0 hval0 hsz0 hsz
  refine (walk a0_0 a0_1 a0_2 a1 W hG w0_1 w0_2 w1).mono fun e W' ⟨he, bel⟩ => ?_
  subst he
  exact ⟨_, rfl, _, _, _, [], _, [], hW', trodAll_mk1 (shut_bool Tryd.underlying4 _), (trodAll_cons_mk (Fig.shut_dec Tryd.underlying23 (by kernel_rfl) (by kernel_rfl) Tryd.underlying4 Tryd.underlying9 Tryd.underlying3 y0 w0_2) (trodAll_cons_mk (shut_int Tryd.underlying5 w1) trodAll_mk0)), rfl, bel.frame _, fun h => by cases h⟩
theorem over : Rows.sigCountsRow.holds Tryd.pinned (OpenSpec.ofChange Rows.sigCountsSpec) :=
  OpenClaim.holds_of_wide 10 Tryd.f10 rfl rfl rfl rfl rfl rfl rfl ⟨rfl, rfl, rfl, rfl, rfl⟩ rfl rfl rfl rfl rfl (by kernel_rfl) Tryd.func10 (by kernel_rfl)
    (of_decide_eq_true (by kernel_rfl)) (by unfold Func.isWrapper; first | (rw [if_pos (by decide +kernel)]; kernel_rfl) | (rw [if_neg (by decide +kernel)]; exact ⟨rfl, rfl⟩))
    (fun os started H enc _ => lifted os started H enc)
theorem proved : Rows.SigCountsSaid := over
theorem card : Rows.SigCountsCardSaid :=
  Claim7.holds_tied_plain_at .later [] [.funcs, .data, .data, .pinned] true (true, "9d37f841e137d1a79f43b4e791658ab8fd270e5f7ee036f96d219676a3c9c771") false over (fun _ h => by cases h) (by kernel_rfl) (fun _ h => by cases h) sigCounts_row_tie rfl ⟨rfl, rfl⟩ (by kernel_rfl) rfl
    (fun f fn hf hfn => by
      obtain rfl : f = 10 := Option.some.inj ((show Tryd.prog.funcNamed "figurehead/figureheadlaw09.SigCounts" = some 10 by kernel_rfl).symm.trans hf) |>.symm
      obtain rfl : fn = Tryd.f10 := (Option.some.inj (Tryd.func10.symm.trans hfn)).symm
      exact ⟨by kernel_rfl, fun j t ht => by
        rw [Tryd.params10] at ht
        have hm : t ∈ [23, 5] := by simpa using Array.mem_of_getElem? ht
        have hall : ([23, 5].all fun u => !Tryd.prog.wantsStandIn u) = true := by kernel_rfl
        exact (show Tryd.prog.wantsStandIn t = false by simpa using List.all_eq_true.1 hall t hm)⟩)
    (by kernel_rfl)
end Go.Proofs.YtjpokifkbclkiaaDoor.sigCounts
namespace Go.Proofs.YtjpokifkbclkiaaDoor
/-- The row, under a short name, for the claim. -/
theorem sigCountsCard_holds : Rows.SigCountsCardSaid := sigCounts.card
#print axioms sigCountsCard_holds
end Go.Proofs.YtjpokifkbclkiaaDoor
