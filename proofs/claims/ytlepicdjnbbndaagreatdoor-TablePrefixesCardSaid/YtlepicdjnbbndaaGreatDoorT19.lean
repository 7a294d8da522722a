/-
  slices.Index of operands; slices.Equal of bytes. Conditions: none.
-/
import Derived.Test.YtlepicdjnbbndaaGreatDoorK5
import Derived.Test.YtlepicdjnbbndaaGreatDoorT18
namespace Go.Proofs.YtlepicdjnbbndaaGreatDoor
open Go.RowKit Go.Shelf

/-- the place of an operand -/
def posO (x : Opd) : Nat → List Opd → Int
  | _, [] => -1
  | k, y :: r => if opdEq x y = true then k else posO x (k + 1) r
set_option maxHeartbeats 2000000 in
set_option maxRecDepth 100000 in
theorem IndexOpd_any (p : Blocks) (v : Value) (l : List Opd) (x : Opd) (w : World) (h : SlR opdR w p v l) :
    Calls Tryz.prog 90 #[v, x.val] w fun e w' => e = .returned (.int .i64 (posO x 0 l)) ∧ Below w.heap.size w w' := by
  obtain ⟨xk, xr, xn⟩ := x
  obtain ⟨a1, c1, rfl, hc1, hm1, g1⟩ := h.opd
  have HK := Lib.hid (Blk.new w 87 #[.int .i64 xk, .int .i64 xr, .int .i64 xn])
  have HB := Lib.hid ((Below.refl w.heap.size w).alloc (Nat.le_refl _) (.cells #[.int .i64 xk, .int .i64 xr, .int .i64 xn] 87))
  have hlt0 : ∀ b, Hid (b < w.heap.size) → ¬ b = w.heap.size := fun b hb => Nat.ne_of_lt hb.out
  have g2 : ∀ i y, l[i]? = some y → ∃ b o, a1 = some ⟨b, o, none⟩ ∧ (w.alloc (.cells #[.int .i64 xk, .int .i64 xr, .int .i64 xn] 87)).cell? ⟨b, o + i * 3, none⟩ = some (.int .i64 y.kind) ∧ (w.alloc (.cells #[.int .i64 xk, .int .i64 xr, .int .i64 xn] 87)).cell? ⟨b, o + i * 3 + 1, none⟩ = some (.int .i64 y.reg) ∧ (w.alloc (.cells #[.int .i64 xk, .int .i64 xr, .int .i64 xn] 87)).cell? ⟨b, o + i * 3 + 2, none⟩ = some (.int .i64 y.n) := by
    obtain ⟨a2, c2, e2, _, _, g3⟩ := (h.alloc (.cells #[.int .i64 xk, .int .i64 xr, .int .i64 xn] 87)).opd
    injection e2 with e2
    subst e2
    intro i y hy
    obtain ⟨b, o, e, _, d1, d2, d3⟩ := g3 i y hy
    exact ⟨b, o, e, d1, d2, d3⟩
  have HG := Lib.hid g2
  clear h g1 g2 hlt0
  have hop := run_eqOpd
  show Calls _ _ _ _ fun e w' => e = .returned (.int .i64 (posO ⟨xk, xr, xn⟩ 0 l)) ∧ _
  unfold Opd.val
  go_enter Tryz.func90, Tryz.ntmps90
  go_wp2
  obtain ⟨k0, k1, k2, _, _, _⟩ := HK.out.three
  have hbw : w.heap.size < (w.alloc (.cells #[.int .i64 xk, .int .i64 xr, .int .i64 xn] 87)).heap.size := HK.out.lt
  generalize (w.alloc (.cells #[.int .i64 xk, .int .i64 xr, .int .i64 xn] 87)) = w1 at *
  go_loopw [5, 8] (fun _ i wr => ∃ k n : Nat, k ≤ l.length ∧ i = .int .i64 k ∧ wr = w1.drewN n ∧ posO ⟨xk, xr, xn⟩ 0 l = posO ⟨xk, xr, xn⟩ k (l.drop k)) (fun _ i _ => l.length - (intOf i).toNat)
  case atStart => exact ⟨0, 0, Nat.zero_le _, rfl, rfl, rfl⟩
  case round =>
    obtain ⟨k, n, hk, rfl, rfl, ht⟩ := hrel
    by_cases hlt : k < l.length
    · obtain ⟨b1, o1, rfl, d1, d2, d3⟩ := HG.out k l[k] (List.getElem?_eq_getElem hlt)
      rw [List.drop_eq_getElem_cons hlt, posO] at ht
      generalize l[k] = y at *
      obtain ⟨yk, yr, yn⟩ := y
      dsimp only at d1 d2 d3
      by_cases hxy : opdEq ⟨xk, xr, xn⟩ ⟨yk, yr, yn⟩ = true
      · rw [if_pos hxy] at ht
        have HT := Lib.hid ht
        clear ht
        go_wp2
        go_quiet (fail)
        go_wp2
        go_ret
        exact ⟨by rw [HT.out]; rfl, below_dN (below_dN HB.out _) _⟩
      · rw [if_neg hxy] at ht
        have hxy : opdEq ⟨xk, xr, xn⟩ ⟨yk, yr, yn⟩ = false := by simpa using hxy
        have HT := Lib.hid ht
        clear ht
        go_wp2
        go_quiet (fail)
        go_wp2
        go_roundw
        case rel => exact ⟨k + 1, n + nq, by omega, by go_num, rfl, HT.out⟩
        case measure => simp [intOf]; omega
    · rw [List.drop_of_length_le (by omega), posO] at ht
      have HT := Lib.hid ht
      clear ht
      go_wp2
      go_ret
      exact ⟨by rw [HT.out]; rfl, below_dN HB.out _⟩
end Go.Proofs.YtlepicdjnbbndaaGreatDoor
