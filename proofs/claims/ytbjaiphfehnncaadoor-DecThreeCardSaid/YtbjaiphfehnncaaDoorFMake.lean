/- A row that is made without elements. -/
import Derived.Test.YtbjaiphfehnncaaDoorWMore
namespace Go.Proofs.YtbjaiphfehnncaaDoorW.PrintWords
open Go.RowKit Go.Proofs.YtbjaiphfehnncaaDoorW.PrintLast Go.Proofs.YtbjaiphfehnncaaDoorW.PrintMore
/-- 'make([]T, 0, n)': a row of the call's own, without elements. -/
theorem R_make_cap {P : Program} {k : IntKind} {w0 W : World} {ops : Array Oper} {rest : List Oper} {o : Oper} {a : Act} {Q : Exit → Act → World → Prop} (base e : Nat) (hgd : o.guard = none) (t : TypeId) (x y : Operand) (ho : o.op = .makeSlice t x y) (m : Nat) (hx : a.eval x = .int .i64 0) (hy : a.eval y = .int .i64 (m : Int))
    (ht : P.underlying t = some (.slice e)) (z : Value) (bytes : Nat) (hinfo : (P.info? e).map (fun i => (i.zero, i.size, i.bytes)) = some (some z, 1, bytes)) (ok : Nat → Prop) (hok : ok W.heap.size) (hb0 : 0 < bytes)
    (hl : m * bytes ≤ 281474976710656) (HB : Below base w0 W) (hbase : base ≤ W.heap.size)
    (h : ∀ v1 w1, (Kd.int k).R e w1 base ok v1 [] → Below base w0 w1 → wpList P ops Q rest (a.put o.dst v1) w1) : wpList P ops Q (o :: rest) a W := by
  obtain ⟨i0, hi, hzz⟩ := Option.map_eq_some_iff.1 hinfo
  simp only [Prod.mk.injEq] at hzz
  obtain ⟨hz0, hz1, hz2⟩ := hzz
  have hm : m ≤ 281474976710656 := Nat.le_trans (Nat.le_mul_of_pos_right _ hb0) hl
  have hr := run_make (P := P) (w := W) t e i0 z ht hi hz0 .i64 .i64 (0 : Int) (m : Int) (by omega) (by omega)
    (by
      have h3 : ((i0.bytes * m : Nat) : Int) ≤ 281474976710656 := by rw [hz2, Nat.mul_comm]; omega
      rwa [Int.natCast_mul] at h3) (by omega)
  simp only [Int.toNat_natCast, Int.toNat_zero] at hr
  rw [hz1, Nat.mul_one] at hr
  refine wpList_plain hgd fun K hK => ?_
  unfold Oper.wp
  simp only [execOp, ho, hx, hy, Sem.run_bind, Sem.run_pure, hr, Result.andThen_ok]
  refine hK _ _ (h _ _ ⟨fun j hj => ?_, [], ⟨by simp, .inr ⟨W.heap.size, m, _, rfl, hbase, by simpa using heap_alloc_new W _, Nat.zero_le _, by unfold maxLen; omega, ?_, by simp⟩⟩, Reps.none _ _⟩ (HB.alloc hbase _))
  · have : W.heap.size = j := by simpa [Value.ownBlock] using hj
    rw [← this]; exact hok
  · simp [madeCells, show (Kd.int k).sz = 1 from rfl]
end Go.Proofs.YtbjaiphfehnncaaDoorW.PrintWords
