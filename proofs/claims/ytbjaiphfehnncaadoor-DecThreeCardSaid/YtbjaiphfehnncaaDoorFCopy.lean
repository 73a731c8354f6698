/- A copy into a row of the call's own, for the walk. -/
import Derived.Test.YtbjaiphfehnncaaDoorWMore
import Derived.Laws.CopyOwn
namespace Go.Proofs.YtbjaiphfehnncaaDoorW.PrintWords
open Go.RowKit Go.Proofs.YtbjaiphfehnncaaDoorW.PrintWords Go.Proofs.YtbjaiphfehnncaaDoorW.PrintLast Go.Proofs.YtbjaiphfehnncaaDoorW.PrintMore
/-- 'copy(out, src)': out a row of whole numbers of the call's own, src at least as long. -/
theorem R_copy {P : Program} {k : IntKind} {W w0 : World} {ops : Array Oper} {rest : List Oper} {o : Oper} {a : Act} {Q : Exit → Act → World → Prop} (base : Nat) (hgd : o.guard = none) (d s : Operand) (t e : TypeId)
    (ho : o.op = .call { callee := .builtin .copy, args := #[d, s], argTypes := #[t, t] }) (ht : P.underlying t = some (.slice e)) (hsz : (P.info? e).map (·.size) = some 1)
    (v : Value) (xs ys : List Int) (A : Option Addr) (m c : Nat) (ok : Nat → Prop) (hd : a.eval d = v) (hs : a.eval s = .slice A m c)
    (HO : (Kd.int k).R e W base ok v xs) (HR : (Kd.int k).C W A m ys) (hle : xs.length ≤ m) (HB : Below base w0 W)
    (h : ∀ w1, (Kd.int k).R e w1 base ok v (ys.take xs.length) → Below base w0 w1 → wpList P ops Q rest (a.put o.dst (goInt xs.length)) w1) :
    wpList P ops Q (o :: rest) a W := by
  obtain ⟨h0, inner, hown, hr⟩ := HO
  have hym : ys.length = m := HR.1
  rcases Nat.eq_zero_or_pos xs.length with hz | hz
  · have hx : xs = [] := List.eq_nil_of_length_eq_zero hz
    subst hx
    have hform : ∃ D cp, v = .slice D 0 cp := by
      rcases hown.2 with ⟨rfl, _⟩ | ⟨g, cap, cur, rfl, _⟩
      · exact ⟨none, 0, rfl⟩
      · exact ⟨_, cap, rfl⟩
    obtain ⟨D, cp, rfl⟩ := hform
    refine wpList_copy_nothing hgd d s t t ho e ht hsz D A 0 cp m c hd hs (Nat.min_zero m) ?_
    exact h W ⟨h0, inner, hown, hr⟩ HB
  · have hcells := HR.2.2 (by omega)
    obtain ⟨ad, rfl, hc⟩ := hcells
    rcases hown.2 with ⟨_, hn⟩ | ⟨g, cap, cur, rfl, hg, hh, hn1, hn2, hn3, hn4⟩
    · omega
    · simp only [show (Kd.int k).sz = 1 from rfl, Nat.mul_one] at hn3 hn4
      have hlen : ((ys.take xs.length).map (Value.int k)).length = xs.length := by rw [List.length_map, List.length_take]; omega
      have hcl : cur.toList.length = cap := by rw [Array.length_toList]; exact hn3
      refine wpList_copy_splice hgd d s t t ho e ht hsz (some ⟨g, 0, none⟩) (some ad) xs.length cap m c hd hs g 0 cur.toList e (by simpa using hh) ((ys.take xs.length).map (Value.int k)) (by rw [hlen]; exact (Nat.min_eq_right hle).symm) (fun _ => ⟨rfl, ad, rfl, ?_⟩) (by rw [hlen]; omega) ?_ base w0 HB hg ?_
      · intro j u hj
        rw [List.getElem?_map, Option.map_eq_some_iff] at hj
        obtain ⟨p, hp, rfl⟩ := hj
        have hp2 : ys[j]? = some p := by
          rw [List.getElem?_take] at hp
          split at hp
          · exact hp
          · cases hp
        obtain ⟨cc, hcl1, hcK, hcc⟩ := hc j p hp2
        have : cc = [Value.int k p] := hcK
        subst this
        have := hcc 0 _ rfl
        simpa [show (Kd.int k).sz = 1 from rfl] using this
      · intro u hu
        obtain ⟨p, _, rfl⟩ := List.mem_map.1 hu
        rfl
      · intro w' hg' hb'
        rw [hlen]
        refine h w' ⟨h0, (ys.take xs.length).map (Value.int k), ?_, ?_⟩ hb'
        · refine ⟨by rw [hlen, List.length_take, Nat.min_eq_left (by omega)]; simp [show (Kd.int k).sz = 1 from rfl], .inr ⟨g, cap, _, ?_, hg, hg'.out, ?_, hn2, ?_, ?_⟩⟩
          · rw [List.length_take, Nat.min_eq_left (by omega)]
          · rw [List.length_take, Nat.min_eq_left (by omega)]; exact hn1
          · simp only [show (Kd.int k).sz = 1 from rfl, Nat.mul_one]
            have := length_splice cur.toList 0 ((ys.take xs.length).map (Value.int k)) (by rw [hlen]; omega)
            rw [← hcl, ← this]; simp
          · simp only [show (Kd.int k).sz = 1 from rfl, Nat.mul_one]
            rw [List.length_take, Nat.min_eq_left (by omega)]
            unfold splice
            rw [List.take_zero, List.nil_append]
            show List.take xs.length (((ys.take xs.length).map (Value.int k)) ++ _) = _
            rw [List.take_append_of_le_length (by rw [hlen]; exact Nat.le_refl _), List.take_of_length_le (by rw [hlen]; exact Nat.le_refl _)]
        · exact Kd.reps_scalar (enc := Value.int k) _
end Go.Proofs.YtbjaiphfehnncaaDoorW.PrintWords
