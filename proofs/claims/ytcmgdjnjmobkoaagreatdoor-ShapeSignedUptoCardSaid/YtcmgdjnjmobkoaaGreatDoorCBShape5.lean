/- The functions that the laws ShapeCountsUpto, ShapeAgainUpto, ShapeSignedUpto reach, told as plain functions, with what is proved of them, and the words they need (part 5). -/
import Derived.Test.YtcmgdjnjmobkoaaGreatDoorRows
import Derived.Test.YtcmgdjnjmobkoaaGreatDoorCBShape0
import Derived.Test.YtcmgdjnjmobkoaaGreatDoorCBShape4
import Derived.Stop.LaidErr
import Derived.SizedLaws
import Derived.Lib.SmallJoins
import Derived.ChangeMaps5
set_option linter.unusedVariables false
set_option linter.unusedSimpArgs false
section
namespace Fig
open Go Go.Proofs Go.Proofs.YtcmgdjnjmobkoaaGreatDoor
set_option maxRecDepth 100000
def zip : List (String × DataW Unit) := [("unicode/utf8.acceptRanges", Rows.laid_unicode_utf8_acceptRanges), ("figurehead/ten.powers", Rows.laid_figurehead_ten_powers), ("unicode/utf8.first", Rows.laid_unicode_utf8_first)]
def zff : List (String × DataW Unit) := [("figurehead/mode.ways", Rows.laid_figurehead_mode_ways), ("unicode/utf8.acceptRanges", Rows.laid_unicode_utf8_acceptRanges), ("figurehead/ten.powers", Rows.laid_figurehead_ten_powers), ("unicode/utf8.first", Rows.laid_unicode_utf8_first)]
def zmM : List Value := [.func (.func 173) #[] #[], .func (.func 174) #[] #[], .func (.func 175) #[] #[], .func (.func 176) #[] #[], .func (.func 177) #[] #[], .func (.func 178) #[] #[], .func (.func 179) #[] #[], .func (.func 180) #[] #[]]
noncomputable def startW (os : Os) : World := (zmM.zipIdx 0).foldl (fun w x => w.setCell ⟨1, x.2, none⟩ x.1) (World.laidAll Tryz.prog os zip)
theorem startW_os (os : Os) : (startW os).os = os := (zfm _ _ _ _).trans (World.laidAll_os _ _ _)
theorem met (os : Os) (args : Array Value) : laidMetH Tryz.prog zff ((startW os).forCall (fun _ _ => 0) ⟨#[], args, []⟩).memory :=
 laidMetH_of_parts3 (fuel := 8) (laidMet_of_run' 8 (by kernel_rfl) (by kernel_rfl)) (by kernel_rfl) (by kernel_rfl)
theorem ziR : (zff.filter fun x => x.2.handleName?.isNone) = zip := by kernel_rfl
theorem zmz {W : World} (h : laidMetH Tryz.prog zff W) : laidMet Tryz.prog zip W := ziR ▸ (laidMetH_iff.1 h).1
theorem zoe {W : World} (h : laidMetH Tryz.prog zff W) : ∀ i f, ([173, 174, 175, 176, 177, 178, 179, 180] : List Nat)[i]? = some f → W.cell? ⟨1, i, none⟩ = some (.func (.func f) #[] #[]) := by
 have hF := h.funcs (n := "figurehead/mode.ways") (List.mem_cons_self)
 have gN : Tryz.prog.globalNamed "figurehead/mode.ways" = some 1 := by kernel_rfl
 have gT : (Tryz.prog.globals[1]?).map (·.type) = some 130 := by kernel_rfl
 have c1 : Tryz.prog.cellsOf 129 = 1 := by kernel_rfl
 have c2 : Tryz.prog.cellsOf 127 = 1 := by kernel_rfl
 have c3 : Tryz.prog.cellsOf 130 = 8 := by kernel_rfl
 intro i f hf
 have key : ∀ {b : UInt8} {r : List UInt8} {j : Nat} {f0 : FuncId}, j < 8 → _ → _ → W.cell? ⟨1, j, none⟩ = some (.func (.func f0) #[] #[]) := fun {b} {r} {j} {f0} hj hdi hone => zkH (b := b) (r := r) hF gN gT Tryz.underlying130 Tryz.underlying129 Tryz.underlying127 c1 c2 rfl c3 rfl hj hdi hone
 match i, hf with
 | 0, hf => obtain rfl := Option.some.inj hf; exact key (b := 102) (r := [105, 103, 117, 114, 101, 104, 101, 97, 100, 47, 109, 111, 100, 101, 46, 119, 97, 121, 115, 36, 49]) (by decide) rfl (by kernel_rfl)
 | 1, hf => obtain rfl := Option.some.inj hf; exact key (b := 102) (r := [105, 103, 117, 114, 101, 104, 101, 97, 100, 47, 109, 111, 100, 101, 46, 119, 97, 121, 115, 36, 50]) (by decide) rfl (by kernel_rfl)
 | 2, hf => obtain rfl := Option.some.inj hf; exact key (b := 102) (r := [105, 103, 117, 114, 101, 104, 101, 97, 100, 47, 109, 111, 100, 101, 46, 119, 97, 121, 115, 36, 51]) (by decide) rfl (by kernel_rfl)
 | 3, hf => obtain rfl := Option.some.inj hf; exact key (b := 102) (r := [105, 103, 117, 114, 101, 104, 101, 97, 100, 47, 109, 111, 100, 101, 46, 119, 97, 121, 115, 36, 52]) (by decide) rfl (by kernel_rfl)
 | 4, hf => obtain rfl := Option.some.inj hf; exact key (b := 102) (r := [105, 103, 117, 114, 101, 104, 101, 97, 100, 47, 109, 111, 100, 101, 46, 119, 97, 121, 115, 36, 53]) (by decide) rfl (by kernel_rfl)
 | 5, hf => obtain rfl := Option.some.inj hf; exact key (b := 102) (r := [105, 103, 117, 114, 101, 104, 101, 97, 100, 47, 109, 111, 100, 101, 46, 119, 97, 121, 115, 36, 54]) (by decide) rfl (by kernel_rfl)
 | 6, hf => obtain rfl := Option.some.inj hf; exact key (b := 102) (r := [105, 103, 117, 114, 101, 104, 101, 97, 100, 47, 109, 111, 100, 101, 46, 119, 97, 121, 115, 36, 55]) (by decide) rfl (by kernel_rfl)
 | 7, hf => obtain rfl := Option.some.inj hf; exact key (b := 102) (r := [105, 103, 117, 114, 101, 104, 101, 97, 100, 47, 109, 111, 100, 101, 46, 119, 97, 121, 115, 36, 56]) (by decide) rfl (by kernel_rfl)
 | k + 8, hf => simp at hf
theorem znW {W : World} (h : laidMetH Tryz.prog zff W) : ∀ i, i < 9 → W.cell? ⟨0, i, none⟩ = some (.int .u32 (([1, 10, 100, 1000, 10000, 100000, 1000000, 10000000, 100000000] : List Int).getD i 0)) := by
 have gN : Tryz.prog.globalNamed "figurehead/ten.powers" = some 0 := by kernel_rfl
 have gT : (Tryz.prog.globals[0]?).map (·.type) = some 124 := by kernel_rfl
 have hT := Lib.tabIs_of_head (k := .u32) (zs := [1, 10, 100, 1000, 10000, 100000, 1000000, 10000000, 100000000]) gN gT Tryz.underlying124 Tryz.underlying95 (by kernel_rfl) (by kernel_rfl) (laidMet.tail (zmz h))
 exact fun i hi => hT.cell gN i hi
theorem of_laid {W : World} (h : laidMetH Tryz.prog zff W) : Glob W := ⟨zoe h, znW h⟩
end Fig
end
section
namespace Fig
open Go Go.ChangeShapes Go.WideShapes Go.RowKit Go.Deep Go.WideElems Go.Joins
theorem open_dec {H : Type} {enc : TypeId × Value → H} {P : Program} {w : World} {base : Nat} {spare : Nat → Bool} {held : Bool} {r : Reach} {b0 : Nat} {t : TypeId} {f0 f1 f2 : Field} {v : Value} {d : DataW H} {p : List MemPlace} {k : IntKind} (hs : P.underlying t = some (.struct #[f0, f1, f2])) (hone : oneCellFields P #[f0, f1, f2] = true) (hC : P.cellsOf t = 3)
  (u0 : P.underlying f0.type = some .bool) (u1 : P.underlying f1.type = some .string) (u2 : P.underlying f2.type = some (.int k)) (hv : Value.okWide P w r b0 t v) (h : DataW.Trod enc P w base spare held t v d p) :
  ∃ (x : Bool) (s : ByteArray) (n : Int), v = .agg #[.bool x, .string s, .int k n] ∧ d = .agg [.lit (.bool x), .lit (.string s.data.toList), .lit (.int k n)] ∧ p = [] ∧ s.size ≤ maxLen ∧ (Lit.int k n).wf = true := by
 obtain ⟨v0, v1, v2, y0, y1, y2, n, rfl, rfl, rfl, h0, h1, h2⟩ := open_agg3 hs hone hC hv h
 obtain ⟨x, e0, rfl⟩ := DataW.trod_bool u0 h0
 obtain ⟨s, e1, rfl, hl⟩ := DataW.trod_string u1 h1
 obtain ⟨m, e2, rfl, hw⟩ := DataW.trod_int u2 h2
 simp only [List.cons.injEq, and_true] at e0 e1 e2
 subst e0 e1 e2
 exact ⟨x, s, m, rfl, rfl, rfl, hl, hw⟩
theorem shut_dec {H : Type} {enc : TypeId × Value → H} {P : Program} {w : World} {base : Nat} {spare : Nat → Bool} {held : Bool} {t : TypeId} {f0 f1 f2 : Field} {k : IntKind} {x : Bool} {s : ByteArray} {n : Int} (hs : P.underlying t = some (.struct #[f0, f1, f2])) (hone : oneCellFields P #[f0, f1, f2] = true) (hC : P.cellsOf t = 3)
  (u0 : P.underlying f0.type = some .bool) (u1 : P.underlying f1.type = some .string) (u2 : P.underlying f2.type = some (.int k)) (hl : s.size ≤ maxLen) (hw : (Lit.int k n).wf = true) :
  DataW.Trod enc P w base spare held t (.agg #[.bool x, .string s, .int k n]) (.agg [.lit (.bool x), .lit (.string s.data.toList), .lit (.int k n)]) [] :=
 shut_agg3 (y0 := (.lit (.bool x), [])) (y1 := (.lit (.string s.data.toList), [])) (y2 := (.lit (.int k n), [])) hs hone hC ⟨1, by simp [DataW.trod, u0]⟩ ⟨1, by simp [DataW.trod, u1, hl]⟩ ⟨1, by simp [DataW.trod, u2, hw]⟩
theorem sized_dec {H : Type} {P : Program} {ts : List TypeId} {ds : List (DataW H)} (h : (DataW.weightsEach P ts ds).all (· ≤ reachBytes) = true) {j : Nat} {t : TypeId} {f0 f1 f2 : Field} {x y : DataW H} {bytes : List UInt8} (ht : ts[j]? = some t) (hd : ds[j]? = some (.agg [x, .lit (.string bytes), y])) (hs : P.underlying t = some (.struct #[f0, f1, f2])) : bytes.length ≤ reachBytes := by
 have := List.all_eq_true.1 h _ (DataW.weights_mem_each ht hd bytes.length (by simp [DataW.weights, DataW.weightsEach, hs]))
 simpa using this
end Fig
end
namespace Go.Proofs.YtcmgdjnjmobkoaaGreatDoor.Px
open Fig Go.RowKit Go.Proofs.YtcmgdjnjmobkoaaGreatDoorW.PrintWords Go.Proofs.YtcmgdjnjmobkoaaGreatDoorW.PrintLast Go.Proofs.YtcmgdjnjmobkoaaGreatDoorW.PrintMore
attribute [local go_sem] yR yU vE vD yD yH yV yS
attribute [local go_sem] uR uT uZ uX qA uU uQ qB uO qC uV uW uY uS
def xK.f (a0_0 : Bool) (a0_1 : ByteArray) (a0_2 : Int) : Option (Bool × ByteArray × Int) := some (!a0_0, a0_1, a0_2)
set_option maxHeartbeats 8000000 in
set_option maxRecDepth 100000 in
theorem xK.calls (a0_0 : Bool) (a0_1 : ByteArray) (a0_2 : Int) (r1 : Bool) (r2 : ByteArray) (r3 : Int) (w : World) (h : xK.f a0_0 a0_1 a0_2 = some (r1, r2, r3)) :
  Calls Tryz.prog 15 #[.agg #[.bool a0_0, .string a0_1, .int .i64 a0_2]] w fun e w' => e = .returned (.agg #[.bool r1, .string r2, .int .i64 r3]) ∧ Below w.heap.size w w' := by
 have hu23 := Tryz.underlying23
 have HB := K_ (Below.refl w.heap.size w)
 have H : (some (!a0_0, a0_1, a0_2)) = some (r1, r2, r3) := h
 clear h
 simp only [Option.some.injEq, Prod.mk.injEq] at H
 obtain ⟨rfl, rfl, rfl⟩ := H
 go_enter Tryz.func15, Tryz.ntmps15
 go_wp2_with (first | (refine be_ 1 #[.bool a0_0, .string a0_1, .int .i64 a0_2] 23 ?_; intro gb586 hg w2 hbox hb; have BK586 := K_ (hbox); have GW586 := ge_ hg HB; have GE586 := ge_ hg HB; replace HB := zE HB hb; clear hb hbox hg) | (refine be_ 2 #[.bool false, .string (⟨#[]⟩ : ByteArray), .int .i64 0] 23 ?_; intro gb587 hg w3 hbox hb; have BK587 := K_ (hbox); have GW587 := ge_ hg HB; have GE587 := ge_ hg HB; replace HB := zE HB hb; have NB586_587 := nb_ hg BK586; have NB587_586 := nc_ hg BK586; replace BK586 := zC BK586 hb; clear hb hbox hg; have hnb4 := NB586_587.out; have hnc4 := NB587_586.out; obtain ⟨⟨hcz5_0, hcz5_1, hcz5_2⟩, hfz5_0, hfz5_1, hfz5_2⟩ := ce3 BK586; obtain ⟨⟨hcz6_0, hcz6_1, hcz6_2⟩, hfz6_0, hfz6_1, hfz6_2⟩ := ce3 BK587))
 refine bodyPost_ret (results_cell_row rfl _ _ gb587 23 #[.bool (!a0_0), .string a0_1, .int .i64 a0_2] (0, 0) _ rfl (by (with_reducible repeat (first | refine jF ?_ _ | refine jK ?_ | refine jG ?_ _)); refine zeY (cs := #[.bool (!a0_0), .string a0_1, .int .i64 0]) ?_ 2 _ rfl; (with_reducible repeat (first | refine jF ?_ _ | refine jK ?_ | refine jG ?_ _)); refine zeY (cs := #[.bool (!a0_0), .string (⟨#[]⟩ : ByteArray), .int .i64 0]) ?_ 1 _ rfl; (with_reducible repeat (first | refine jF ?_ _ | refine jK ?_ | refine jG ?_ _)); refine zeY (cs := #[.bool false, .string (⟨#[]⟩ : ByteArray), .int .i64 0]) ?_ 0 _ rfl; (with_reducible repeat (first | refine jF ?_ _ | refine jK ?_ | refine jG ?_ _)); refine zO ?_ NB587_586.out _; (with_reducible repeat (first | refine jF ?_ _ | refine jK ?_ | refine jG ?_ _)); exact BK587.out) Tryz.underlying23 rfl (by kernel_rfl)) rfl ?_
 exact ⟨ER, BL HB⟩
end Go.Proofs.YtcmgdjnjmobkoaaGreatDoor.Px
