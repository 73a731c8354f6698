/- The law IncNear: for every input the call returns true, and its arguments read behind it as before. -/
import Derived.Test.YtekkpmoppihlaaaDoorRows
import Derived.Test.YtekkpmoppihlaaaDoorCIncNear4
import Derived.Test.YtekkpmoppihlaaaDoorCards
import Derived.Test.YtekkpmoppihlaaaDoorTie
import Derived.WalkKit
import Derived.ProofKit
import Derived.OpenShut
import Derived.ShutString
import Derived.ChangeOld
import Derived.Below
import Derived.SizedLaws
import Derived.Lib.SmallJoins
import Derived.LaidMore
import Derived.LaidHandle
import Derived.Lay
import Derived.SevenTiedAt
import Derived.Stop.Joined
namespace Go.Proofs.YtekkpmoppihlaaaDoor.incNear
open Go.ChangeShapes Go.WideShapes Go.ChangeAt Go.RowKit Go.Proofs.YtekkpmoppihlaaaDoorW.PrintWords
open Go.ChangeMaps (open_string shut_string)
theorem own : ownKnob Tryd.prog.godebug = none := by kernel_rfl
theorem walk (a0 : Int) (a1_0 : Bool) (a1_1 : ByteArray) (a1_2 : Int) (a2 : ByteArray) (a3 : Int) (w : World) (hG : Fig.Glob w) (w0 : (Lit.int .i64 a0).wf = true) (w1_1 : a1_1.size ≤ 140737488351232) (w1_2 : (Lit.int .i64 a1_2).wf = true) (w2 : a2.size ≤ 140737488351232) (w3 : (Lit.int .i64 a3).wf = true) :
    Calls Tryd.prog 4 #[.int .i64 a0, .agg #[.bool a1_0, .string a1_1, .int .i64 a1_2], .string a2, .int .i64 a3] w fun e w' => e = .returned (.bool true) ∧ Below w.heap.size w w' := by
  obtain ⟨k, h⟩ := Px.IncNear_pure a0 a1_0 a1_1 a1_2 a2 a3 w0 w1_1 w1_2 w2 w3
  refine (Px.figureheadlaw10_IncNear.calls k a0 a1_0 a1_1 a1_2 a2 a3 true w hG ⟨rfl⟩  h).mono ?_
  rintro e w' ⟨rfl, hd⟩
  exact ⟨rfl, hd⟩
set_option maxRecDepth 100000 in
theorem lifted (os : Os) (started : os.Started) (H : Type) (enc : TypeId × Value → H) :
    ReturnsInHanded {} Tryd.checked os 4 .any (fun w args => (Rows.incNearSpec.pre enc Tryd.prog Tryd.f4 Rows.incNearRow.domain false w args ∧ laidMetH Tryd.prog Fig.laidL w) ∧ sizedMet enc Tryd.prog Tryd.f4 (OpenSpec.ofChange Rows.incNearSpec) false w args)
      (Rows.incNearSpec.post enc Tryd.prog Tryd.f4 false true false false) := by
  refine returnsInHanded_of_change_and (C := Tryd.checked) (X := fun w _ => laidMetH Tryd.prog Fig.laidL w) (fun _ _ _ hh h => h.of_heap hh) own started (by kernel_rfl) Tryd.func4
    (ChangeSpec.witness_shaped (enc := enc) (C := Tryd.checked) (os := os) (X := fun w _ => laidMetH Tryd.prog Fig.laidL w) false (Fig.startW os) #[.int .i64 0, .agg #[.bool false, .string ByteArray.empty, .int .i64 0], .string ByteArray.empty, .int .i64 0] 8 (Fig.startW_os os) (World.shaped_of_ZipB (by kernel_rfl) (by kernel_rfl)) (by kernel_rfl) (by kernel_rfl) (by kernel_rfl) (Fig.met os _)) ?_
  intro W base args ds gs before hval0 hW hcnd hsz0 hL _
  have hG := Fig.of_laid hL
  have hsz : (DataW.weightsEach Tryd.prog (Tryd.f4.params.toList ++ Rows.incNearSpec.plain.varTypes Tryd.prog) (ds ++ gs)).all (· ≤ reachBytes) = true := hsz0
  have hval : ∀ (j : Nat) t v, Tryd.f4.params[j]? = some t → args[j]? = some v → Value.okWide Tryd.prog W .any base t v := hval0
  have hW' := hW
  obtain ⟨p, q, hA0, hV, rfl, hfz, hnd⟩ := hW
  have hA : DataW.TrodAll enc Tryd.prog W 0 (fun _ => true) true Tryd.f4.params.toList args.toList ds p := hA0
  rw [Tryd.params4] at hA hval hsz
  obtain ⟨v0, vs0, d0, ds0, p0, q0, hargs, rfl, rfl, h0, r0⟩ := trodAll_cons hA
  obtain ⟨v1, vs1, d1, ds1, p1, q1, rfl, rfl, rfl, h1, r1⟩ := trodAll_cons r0
  obtain ⟨v2, vs2, d2, ds2, p2, q2, rfl, rfl, rfl, h2, r2⟩ := trodAll_cons r1
  obtain ⟨v3, vs3, d3, ds3, p3, q3, rfl, rfl, rfl, h3, r3⟩ := trodAll_cons r2
  obtain ⟨rfl, rfl, rfl⟩ := trodAll_nil r3
  obtain rfl : args = #[v0, v1, v2, v3] := by cases args; simp_all
  obtain ⟨rfl, rfl⟩ := trodVars_none hV
  obtain ⟨a0, rfl, rfl, rfl, w0⟩ := open_int Tryd.underlying3 (hval 0 3 v0 rfl rfl) h0
  obtain ⟨a1_0, a1_1, a1_2, rfl, rfl, rfl, y1, w1_2⟩ := Fig.open_dec Tryd.underlying23 (by kernel_rfl) (by kernel_rfl) Tryd.underlying4 Tryd.underlying9 Tryd.underlying3 (hval 1 23 v1 rfl rfl) h1
  have w1_1 : a1_1.size ≤ 140737488351232 := by
    have z := Fig.sized_dec hsz (j := 1) (t := 23) rfl rfl Tryd.underlying23
    rw [Array.length_toList] at z
    exact z
  obtain ⟨a2, rfl, rfl, rfl, y2⟩ := open_string Tryd.underlying9 (hval 2 9 v2 rfl rfl) h2
  have w2 : a2.size ≤ 140737488351232 := by
    have z := sized_string hsz (j := 2) (t := 9) rfl rfl
    rw [Array.length_toList] at z
    exact z
  obtain ⟨a3, rfl, rfl, rfl, w3⟩ := open_int Tryd.underlying3 (hval 3 3 v3 rfl rfl) h3
  clear hA0 hval0 hsz0 hsz
  refine (walk a0 a1_0 a1_1 a1_2 a2 a3 W hG w0 w1_1 w1_2 w2 w3).mono fun e W' ⟨he, bel⟩ => ?_
  subst he
  exact ⟨_, rfl, _, _, _, [], _, [], hW', trodAll_mk1 (shut_bool Tryd.underlying4 _), (trodAll_cons_mk (shut_int Tryd.underlying3 w0) (trodAll_cons_mk (Fig.shut_dec Tryd.underlying23 (by kernel_rfl) (by kernel_rfl) Tryd.underlying4 Tryd.underlying9 Tryd.underlying3 y1 w1_2) (trodAll_cons_mk (shut_string Tryd.underlying9 y2) (trodAll_cons_mk (shut_int Tryd.underlying3 w3) trodAll_mk0)))), rfl, bel.frame _, fun h => by cases h⟩
theorem over : Rows.incNearRow.holds Tryd.pinned (OpenSpec.ofChange Rows.incNearSpec) :=
  OpenClaim.holds_of_wide 4 Tryd.f4 rfl rfl rfl rfl rfl rfl rfl ⟨rfl, rfl, rfl, rfl, rfl⟩ rfl rfl rfl rfl rfl (by kernel_rfl) Tryd.func4 (by kernel_rfl)
    (of_decide_eq_true (by kernel_rfl)) (by unfold Func.isWrapper; first | (rw [if_pos (by decide +kernel)]; kernel_rfl) | (rw [if_neg (by decide +kernel)]; exact ⟨rfl, rfl⟩))
    (fun os started H enc _ => lifted os started H enc)
theorem proved : Rows.IncNearSaid := over
theorem card : Rows.IncNearCardSaid :=
  Claim7.holds_tied_plain_at .later [] [.funcs, .data, .data, .pinned] true (true, "fd631e2d20c0ba6a75b0349de3e250d0481866426e6dab0f435b4294ea39ae51") false over (fun _ h => by cases h) (by kernel_rfl) (fun _ h => by cases h) incNear_row_tie rfl ⟨rfl, rfl⟩ (by kernel_rfl) rfl
    (fun f fn hf hfn => by
      obtain rfl : f = 4 := Option.some.inj ((show Tryd.prog.funcNamed "figurehead/figureheadlaw10.IncNear" = some 4 by kernel_rfl).symm.trans hf) |>.symm
      obtain rfl : fn = Tryd.f4 := (Option.some.inj (Tryd.func4.symm.trans hfn)).symm
      exact ⟨by kernel_rfl, fun j t ht => by
        rw [Tryd.params4] at ht
        have hm : t ∈ [3, 23, 9, 3] := by simpa using Array.mem_of_getElem? ht
        have hall : ([3, 23, 9, 3].all fun u => !Tryd.prog.wantsStandIn u) = true := by kernel_rfl
        exact (show Tryd.prog.wantsStandIn t = false by simpa using List.all_eq_true.1 hall t hm)⟩)
    (by kernel_rfl)
end Go.Proofs.YtekkpmoppihlaaaDoor.incNear
namespace Go.Proofs.YtekkpmoppihlaaaDoor
/-- The row, under a short name, for the claim. -/
theorem incNearCard_holds : Rows.IncNearCardSaid := incNear.card
#print axioms incNearCard_holds
end Go.Proofs.YtekkpmoppihlaaaDoor
