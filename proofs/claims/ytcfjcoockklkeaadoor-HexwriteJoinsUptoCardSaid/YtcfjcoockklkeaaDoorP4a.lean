/-
  PLAIN: images as lists of cells and as lists of runs. Conditions: none.
-/
import Derived.Test.YtcfjcoockklkeaaDoorFind
namespace Go.Proofs.YtcfjcoockklkeaaDoor

/-- the cells of bytes laid from an address on -/
def cellsF : Nat → List UInt8 → List CellV
  | _, [] => []
  | a, b :: l => ⟨a, b⟩ :: cellsF (a + 1) l
def cellsR (R : List (Nat × List UInt8)) : List CellV := R.flatMap fun r => cellsF r.1 r.2
/-- the cells of n addresses from a on -/
def segC (d : Nat → Bool) (v : Nat → UInt8) : Nat → Nat → List CellV
  | _, 0 => []
  | a, n + 1 => (if d a then [⟨a, v a⟩] else []) ++ segC d v (a + 1) n
def cellsOf (d : Nat → Bool) (v : Nat → UInt8) : List CellV := segC d v 0 65536
theorem segC_split (d : Nat → Bool) (v : Nat → UInt8) (n : Nat) : ∀ m a, segC d v a (m + n) = segC d v a m ++ segC d v (a + m) n
  | 0, a => by rw [Nat.zero_add]; rfl
  | m + 1, a => by
    rw [show m + 1 + n = (m + n) + 1 by omega, segC, segC, segC_split d v n m (a + 1), List.append_assoc, show a + 1 + m = a + (m + 1) by omega]
theorem segC_congr {d d' : Nat → Bool} {v v' : Nat → UInt8} : ∀ n a, (∀ x, a ≤ x → x < a + n → d x = d' x ∧ (d x = true → v x = v' x)) → segC d v a n = segC d' v' a n
  | 0, _, _ => rfl
  | n + 1, a, h => by
    obtain ⟨h1, h2⟩ := h a (Nat.le_refl _) (by omega)
    rw [segC, segC, segC_congr n (a + 1) (fun x hx hx2 => h x (by omega) (by omega)), ← h1]
    cases e : d a with
    | false => rfl
    | true => rw [h2 e]
theorem segC_none {d : Nat → Bool} {v : Nat → UInt8} : ∀ n a, (∀ x, a ≤ x → x < a + n → d x = false) → segC d v a n = []
  | 0, _, _ => rfl
  | n + 1, a, h => by
    rw [segC, segC_none n (a + 1) (fun x hx hx2 => h x (by omega) (by omega)), h a (Nat.le_refl _) (by omega)]; rfl
theorem bytesOf_succ (v : Nat → UInt8) (a n : Nat) : bytesOf v a (n + 1) = v a :: bytesOf v (a + 1) n := by
  unfold bytesOf
  rw [List.range_succ_eq_map, List.map_cons, List.map_map]
  congr 1
  apply List.map_congr_left
  intro i _
  show v (a + (i + 1)) = _
  rw [show a + (i + 1) = a + 1 + i by omega]
theorem segC_full {d : Nat → Bool} {v : Nat → UInt8} : ∀ n a, (∀ x, a ≤ x → x < a + n → d x = true) → segC d v a n = cellsF a (bytesOf v a n)
  | 0, _, _ => rfl
  | n + 1, a, h => by
    rw [segC, segC_full n (a + 1) (fun x hx hx2 => h x (by omega) (by omega)), h a (Nat.le_refl _) (by omega), bytesOf_succ]; rfl
theorem segC_mem {d : Nat → Bool} {v : Nat → UInt8} {c : CellV} : ∀ n a, c ∈ segC d v a n → a ≤ c.addr ∧ c.addr < a + n ∧ d c.addr = true ∧ c.byte = v c.addr
  | 0, _, h => by simp [segC] at h
  | n + 1, a, h => by
    rw [segC, List.mem_append] at h
    rcases h with h | h
    · cases e : d a with
      | false => simp [e] at h
      | true =>
        simp [e] at h
        subst h
        exact ⟨Nat.le_refl _, by show a < a + (n + 1); omega, e, rfl⟩
    · obtain ⟨h1, h2, h3⟩ := segC_mem n (a + 1) h
      exact ⟨by omega, by omega, h3⟩
theorem find02_app {a : Int} {l2 : List CellV} (h2 : ∀ c ∈ l2, ¬ (c.addr : Int) < a) : ∀ l1 : List CellV, (∀ c ∈ l1, (c.addr : Int) < a) → find02 a (l1 ++ l2) = l1.length
  | [], _ => by
    cases l2 with
    | nil => rfl
    | cons c r => show (if (c.addr : Int) < a then _ else 0) = 0; rw [if_neg (h2 c (by simp))]
  | c :: l1, h1 => by
    show (if (c.addr : Int) < a then _ else 0) = _
    rw [if_pos (h1 c (by simp))]
    exact congrArg (· + 1) (find02_app h2 l1 (fun x hx => h1 x (by simp [hx])))
/-- what the reference's Put answers -/
def put02 (m : List CellV) (a : Int) (l : List UInt8) : List CellV × Nat :=
  if a < 0 ∨ 65535 < a then (m, 2) else if (65536 : Int) - a < l.length then (m, 10) else if l = [] then (m, 0)
  else if ∃ c, m[find02 a m]? = some c ∧ (c.addr : Int) < a + l.length then (m, 4)
  else (m.take (find02 a m) ++ cellsF a.toNat l ++ m.drop (find02 a m), 0)
def imgPut (d : Nat → Bool) (v : Nat → UInt8) (a : Int) (l : List UInt8) : (Nat → Bool) × (Nat → UInt8) :=
  if putCode d a l.length = 0 then (span d a.toNat l.length, over v a.toNat l) else (d, v)
theorem nextS_found {d : Nat → Bool} {a x : Nat} (h1 : a ≤ x) (h2 : x < 65536) (h3 : d x = true) : nextS d true a ≤ x := by
  obtain ⟨g1, g2, g3, g4⟩ := nextS_spec d true a (by omega)
  rcases Nat.lt_or_ge x (nextS d true a) with h | h
  · have := g3 x h1 h
    rw [h3] at this; cases this
  · exact h
theorem segC_head {d : Nat → Bool} {v : Nat → UInt8} {a : Nat} (ha : a ≤ 65536) : (segC d v a (65536 - a))[0]? = if nextS d true a < 65536 then some ⟨nextS d true a, v (nextS d true a)⟩ else none := by
  obtain ⟨g1, g2, g3, g4⟩ := nextS_spec d true a ha
  generalize nextS d true a = t at *
  rw [show 65536 - a = (t - a) + (65536 - t) by omega, segC_split, segC_none (t - a) a (fun x h1 h2 => by have := g3 x h1 (by omega); simpa using this), List.nil_append, show a + (t - a) = t by omega]
  by_cases h : t < 65536
  · rw [if_pos h, show 65536 - t = (65536 - t - 1) + 1 by omega, segC]
    have := g4 h
    simp at this
    rw [this]; rfl
  · rw [if_neg h, show 65536 - t = 0 by omega]; rfl
theorem over_out {v : Nat → UInt8} {a x : Nat} {l : List UInt8} (h : x < a ∨ a + l.length ≤ x) : over v a l x = v x := by
  unfold over
  split
  · rw [List.getD_eq_getElem?_getD, List.getElem?_eq_none (by omega)]; rfl
  · rfl
theorem bytesOf_over (v : Nat → UInt8) (a : Nat) (l : List UInt8) : bytesOf (over v a l) a l.length = l := by
  unfold bytesOf
  apply List.ext_getElem
  · simp
  · intro i h1 h2
    simp [over, List.getD_eq_getElem?_getD, h2]
theorem put_match (d : Nat → Bool) (v : Nat → UInt8) (a : Int) (l : List UInt8) : put02 (cellsOf d v) a l = (cellsOf (imgPut d v a l).1 (imgPut d v a l).2, putCode d a l.length) := by
  unfold put02
  by_cases h1 : a < 0 ∨ 65535 < a
  · have e : putCode d a l.length = 2 := putCode_out (by omega)
    rw [if_pos h1, imgPut, e, if_neg (by decide)]
  · rw [if_neg h1]
    obtain ⟨a, rfl⟩ : ∃ m : Nat, a = m := ⟨a.toNat, by omega⟩
    have hA : (putCode d (a : Int) l.length) = if 65536 < a + l.length then 10 else if nextS d true a < a + l.length then 4 else 0 := by
      unfold putCode
      rw [if_neg (by omega)]
      simp only [Int.toNat_natCast]
      by_cases h1 : 65536 < a + l.length
      · rw [if_pos h1, if_pos (by omega)]
      · rw [if_neg h1, if_neg (by omega)]
    by_cases h2 : (65536 : Int) - a < l.length
    · have e : putCode d (a : Int) l.length = 10 := by rw [hA, if_pos (by omega)]
      rw [if_pos h2, imgPut, e, if_neg (by decide)]
    · rw [if_neg h2]
      by_cases h3 : l = []
      · subst h3
        obtain ⟨g1, _⟩ := nextS_spec d true a (by omega)
        have e0 : over v a [] = v := by funext x; exact over_out (by simp; omega)
        have e : putCode d (a : Int) ([] : List UInt8).length = 0 := by rw [hA, if_neg (by simp; omega), if_neg (by simp; omega)]
        rw [if_pos rfl, imgPut, e, if_pos rfl]
        show (_, _) = (cellsOf (span d a 0) (over v a []), 0)
        rw [span_zero, e0]
      · rw [if_neg h3]
        have hsp : cellsOf d v = segC d v 0 a ++ segC d v a (65536 - a) := by
          unfold cellsOf
          rw [show 65536 = a + (65536 - a) by omega, segC_split, Nat.zero_add, show a + (65536 - a) - a = 65536 - a by omega]
        have hf : find02 (a : Int) (cellsOf d v) = (segC d v 0 a).length := by
          rw [hsp]
          exact find02_app (fun c hc => by have := (segC_mem _ _ hc).1; omega) _ (fun c hc => by have := (segC_mem _ _ hc).2.1; omega)
        have hl : 0 < l.length := List.length_pos_iff.2 h3
        have hg : (cellsOf d v)[find02 (a : Int) (cellsOf d v)]? = (segC d v a (65536 - a))[0]? := by
          rw [hf, hsp, List.getElem?_append_right (Nat.le_refl _), Nat.sub_self]
        rw [hg, segC_head (by omega)]
        obtain ⟨g1, g2, g3, g4⟩ := nextS_spec d true a (by omega)
        by_cases h4 : nextS d true a < a + l.length
        · have hlt : nextS d true a < 65536 := by omega
          have e : putCode d (a : Int) l.length = 4 := by rw [hA, if_neg (by omega), if_pos h4]
          rw [if_pos ⟨_, if_pos hlt, by show ((nextS d true a : Nat) : Int) < _; omega⟩, imgPut, e, if_neg (by decide)]
        · have e : putCode d (a : Int) l.length = 0 := by rw [hA, if_neg (by omega), if_neg h4]
          rw [if_neg (by
            rintro ⟨c, hc, hlt⟩
            split at hc
            · injection hc with hc; subst hc; exact h4 (by have : ((nextS d true a : Nat) : Int) < _ := hlt; omega)
            · cases hc), imgPut, e, if_pos rfl]
          congr 1
          rw [hf, hsp, List.take_left, List.drop_left]
          simp only [Int.toNat_natCast]
          generalize hdk : l.length = k at *
          have hno : ∀ x, a ≤ x → x < a + k → d x = false := fun x h1 h2 => by have := g3 x h1 (by omega); simpa using this
          unfold cellsOf
          rw [show segC (span d a k) (over v a l) 0 65536 = segC (span d a k) (over v a l) 0 (a + (k + (65536 - a - k))) by congr 1; omega, segC_split, segC_split, Nat.zero_add]
          rw [show segC d v a (65536 - a) = segC d v a (k + (65536 - a - k)) by congr 1; omega, segC_split, segC_none k a hno, List.nil_append]
          rw [segC_full k a (fun x h1 h2 => by unfold span; simp; omega), ← hdk, bytesOf_over, List.append_assoc]
          congr 1
          · exact segC_congr _ _ (fun x h1 h2 => ⟨by unfold span; simp; omega, fun _ => (over_out (by omega)).symm⟩)
          · congr 1
            exact segC_congr _ _ (fun x h1 h2 => ⟨by unfold span; simp; omega, fun _ => (over_out (by omega)).symm⟩)
end Go.Proofs.YtcfjcoockklkeaaDoor
