/-
  PLAIN: the listing of runs, and of cells. Conditions: none.
-/
import Derived.Test.YtcfjcoockklkeaaDoorP4c
namespace Go.Proofs.YtcfjcoockklkeaaDoor

/-- how many bytes of a run stand in its first line -/
def inLine (a n : Nat) : Nat := min n (16 - a % 16)
def partF : Nat → Nat → List UInt8 → List (Nat × List UInt8)
  | 0, _, _ => []
  | f + 1, a, l => if l = [] then [] else (a, l.take (inLine a l.length)) :: partF f (a + inLine a l.length) (l.drop (inLine a l.length))
def partL (a : Nat) (l : List UInt8) : List (Nat × List UInt8) := partF l.length a l
theorem inLine_pos {a n : Nat} (h : 0 < n) : 0 < inLine a n ∧ inLine a n ≤ n ∧ inLine a n + a % 16 ≤ 16 := by unfold inLine; omega
theorem partF_nil : ∀ f a, partF f a [] = []
  | 0, _ => rfl
  | f + 1, a => by rw [partF, if_pos rfl]
theorem partF_fuel : ∀ f g a l, l.length ≤ f → l.length ≤ g → partF f a l = partF g a l
  | 0, g, a, l, h1, h2 => by
    obtain rfl : l = [] := List.length_eq_zero_iff.1 (by omega)
    rw [partF_nil, partF_nil]
  | f + 1, 0, a, l, h1, h2 => by
    obtain rfl : l = [] := List.length_eq_zero_iff.1 (by omega)
    rw [partF_nil, partF_nil]
  | f + 1, g + 1, a, l, h1, h2 => by
    rw [partF, partF]
    by_cases h : l = []
    · rw [if_pos h, if_pos h]
    · have := List.length_pos_iff.2 h
      have := (inLine_pos (a := a) this).1
      rw [if_neg h, if_neg h, partF_fuel f g _ _ (by simp; omega) (by simp; omega)]
theorem partL_nil (a : Nat) : partL a [] = [] := rfl
theorem partL_step (a : Nat) (l : List UInt8) (h : l ≠ []) : partL a l = (a, l.take (inLine a l.length)) :: partL (a + inLine a l.length) (l.drop (inLine a l.length)) := by
  have hp := List.length_pos_iff.2 h
  have hi := (inLine_pos (a := a) hp).1
  unfold partL
  rw [partF_fuel l.length (l.length - 1 + 1) a l (Nat.le_refl _) (by omega), partF, if_neg h]
  congr 1
  exact partF_fuel _ _ _ _ (by simp; omega) (Nat.le_refl _)
theorem partL_cells : ∀ (k : Nat) (a : Nat) (l : List UInt8), l.length ≤ k → cellsR (partL a l) = cellsF a l
  | 0, a, l, h => by
    obtain rfl : l = [] := List.length_eq_zero_iff.1 (by omega)
    rfl
  | k + 1, a, l, h => by
    by_cases hl : l = []
    · subst hl; rfl
    · have hp := List.length_pos_iff.2 hl
      obtain ⟨i1, i2, _⟩ := inLine_pos (a := a) hp
      rw [partL_step a l hl]
      generalize inLine a l.length = n at *
      show cellsF a (l.take n) ++ cellsR _ = _
      rw [partL_cells k _ _ (by simp; omega)]
      have := cellsF_app (l.take n) (l.drop n) a
      rw [List.take_append_drop, List.length_take, Nat.min_eq_left i2] at this
      exact this.symm
def dumpLine (a : Nat) (l : List UInt8) : List UInt8 := hexs a 4 ++ 58 :: l.flatMap fun b => 32 :: byteTxt b
def parts (R : List (Nat × List UInt8)) : List (Nat × List UInt8) := R.flatMap fun r => partL r.1 r.2
def dumpOf (R : List (Nat × List UInt8)) : List UInt8 := joinL ((parts R).map fun r => dumpLine r.1 r.2)
theorem parts_cells : ∀ R, cellsR (parts R) = cellsR R
  | [] => rfl
  | r :: R => by
    have e := parts_cells R
    unfold cellsR parts at *
    rw [List.flatMap_cons, List.flatMap_append, e]
    have := partL_cells r.2.length r.1 r.2 (Nat.le_refl _)
    unfold cellsR at this
    rw [this]; rfl
/-- the reference's listing, one cell more: the text, and the address that would go on -/
def dstep (s : List UInt8 × Option Nat) (c : CellV) : List UInt8 × Option Nat :=
  ((if s.2 ≠ none ∧ (s.2 ≠ some c.addr ∨ c.addr % 16 = 0) then s.1 ++ [10] else s.1) ++ (if s.2 ≠ some c.addr ∨ c.addr % 16 = 0 then hexs c.addr 4 ++ [58] else []) ++ 32 :: byteTxt c.byte, some (c.addr + 1))
def dump02 (m : List CellV) : List UInt8 := let s := (m.foldl dstep ([], none)).1; if s = [] then [] else s ++ [10]
theorem dstep_more (s : List UInt8) : ∀ (l : List UInt8) (q : Nat), q % 16 ≠ 0 → q % 16 + l.length ≤ 16 → (cellsF q l).foldl dstep (s, some q) = (s ++ l.flatMap (fun b => 32 :: byteTxt b), some (q + l.length))
  | [], q, _, _ => by simp [cellsF]
  | b :: l, q, h1, h2 => by
    show (cellsF (q + 1) l).foldl dstep (dstep (s, some q) ⟨q, b⟩) = _
    have e : dstep (s, some q) ⟨q, b⟩ = (s ++ 32 :: byteTxt b, some (q + 1)) := by
      unfold dstep
      simp [h1]
    rw [e]
    cases l with
    | nil => simp [cellsF]
    | cons b2 l =>
      rw [dstep_more _ (b2 :: l) (q + 1) (by simp at h2; omega) (by simp at h2 ⊢; omega)]
      simp; omega
theorem dstep_line {s : List UInt8} {p : Option Nat} {a : Nat} {l : List UInt8} (hl : l ≠ []) (h : p ≠ some a ∨ a % 16 = 0) (hn : a % 16 + l.length ≤ 16) :
    (cellsF a l).foldl dstep (s, p) = ((if p = none then s else s ++ [10]) ++ dumpLine a l, some (a + l.length)) := by
  cases l with
  | nil => exact absurd rfl hl
  | cons b l =>
    show (cellsF (a + 1) l).foldl dstep (dstep (s, p) ⟨a, b⟩) = _
    have e : dstep (s, p) ⟨a, b⟩ = ((if p = none then s else s ++ [10]) ++ (hexs a 4 ++ [58]) ++ 32 :: byteTxt b, some (a + 1)) := by
      unfold dstep
      simp only [if_pos h]
      cases p with
      | none => simp
      | some q => rw [if_pos ⟨by simp, h⟩, if_neg (by simp)]
    rw [e]
    cases l with
    | nil => simp [cellsF, dumpLine]
    | cons b2 l =>
      rw [dstep_more _ (b2 :: l) (a + 1) (by simp at hn; omega) (by simp at hn ⊢; omega)]
      simp [dumpLine]; omega
/-- lines of a listing: none empty, each within its 16, each fresh or at a 16's start -/
def Lined : Option Nat → List (Nat × List UInt8) → Prop
  | _, [] => True
  | p, (a, l) :: D => l ≠ [] ∧ a % 16 + l.length ≤ 16 ∧ (p ≠ some a ∨ a % 16 = 0) ∧ Lined (some (a + l.length)) D
theorem dstep_lines : ∀ (D : List (Nat × List UInt8)) (s : List UInt8) (p : Nat), Lined (some p) D → ((cellsR D).foldl dstep (s, some p)).1 = s ++ D.flatMap fun r => 10 :: dumpLine r.1 r.2
  | [], s, p, _ => by simp [cellsR]
  | (a, l) :: D, s, p, h => by
    obtain ⟨h1, h2, h3, h4⟩ := h
    show ((cellsF a l ++ cellsR D).foldl dstep (s, some p)).1 = _
    rw [List.foldl_append, dstep_line h1 h3 h2, dstep_lines D _ _ h4]
    simp
theorem join_shift : ∀ (L : List (List UInt8)) (x : List UInt8), x ++ (L.flatMap fun y => 10 :: y) ++ [10] = joinL (x :: L)
  | [], x => by simp [joinL]
  | y :: L, x => by
    have := join_shift L y
    rw [joinL_cons, ← this]
    simp
theorem dump02_lined {D : List (Nat × List UInt8)} (h : Lined none D) : dump02 (cellsR D) = joinL (D.map fun r => dumpLine r.1 r.2) := by
  cases D with
  | nil => rfl
  | cons r D =>
    obtain ⟨a, l⟩ := r
    obtain ⟨h1, h2, h3, h4⟩ := h
    have e : ((cellsR ((a, l) :: D)).foldl dstep ([], none)).1 = dumpLine a l ++ D.flatMap fun r => 10 :: dumpLine r.1 r.2 := by
      show ((cellsF a l ++ cellsR D).foldl dstep ([], none)).1 = _
      rw [List.foldl_append, dstep_line h1 h3 h2, dstep_lines D _ _ h4]
      simp
    unfold dump02
    rw [e]
    have hne : dumpLine a l ++ (D.flatMap fun r => 10 :: dumpLine r.1 r.2) ≠ [] := by simp [dumpLine]
    show (if _ then _ else _) = _
    rw [if_neg hne, List.map_cons, ← join_shift, List.flatMap_map]
theorem partL_lined : ∀ (k a : Nat) (l : List UInt8) (p : Option Nat) (D : List (Nat × List UInt8)), l.length ≤ k → l ≠ [] → (p ≠ some a ∨ a % 16 = 0) → Lined (some (a + l.length)) D → Lined p (partL a l ++ D)
  | 0, a, l, p, D, h, hl, _, _ => absurd (List.length_eq_zero_iff.1 (by omega)) hl
  | k + 1, a, l, p, D, h, hl, hp, hD => by
    have hpos := List.length_pos_iff.2 hl
    obtain ⟨i1, i2, i3⟩ := inLine_pos (a := a) hpos
    have hmin : inLine a l.length = l.length ∨ (a + inLine a l.length) % 16 = 0 := by unfold inLine; omega
    rw [partL_step a l hl]
    generalize inLine a l.length = n at *
    have ht : (l.take n).length = n := by simp; omega
    refine ⟨fun e => ?_, by rw [ht]; omega, hp, ?_⟩
    · rw [e] at ht; simp at ht; omega
    · rw [ht]
      by_cases hd : l.drop n = []
      · have hn : n = l.length := by have := List.drop_eq_nil_iff.1 hd; omega
        rw [hd, partL_nil, hn]
        exact hD
      · refine partL_lined k _ _ _ _ (by simp; omega) hd (.inr ?_) ?_
        · rcases hmin with e | e
          · rw [e] at hd; simp at hd
          · exact e
        · rw [List.length_drop, show a + n + (l.length - n) = a + l.length by omega]
          exact hD
theorem parts_lined : ∀ (R : List (Nat × List UInt8)) (lo : Nat) (p : Option Nat), Sep lo R → (∀ x, p = some x → x < lo) → Lined p (parts R)
  | [], _, _, _, _ => trivial
  | (a, l) :: R, lo, p, h, hp => by
    obtain ⟨h1, h2, h3, h4⟩ := h
    show Lined p (partL a l ++ parts R)
    refine partL_lined l.length a l p _ (Nat.le_refl _) h2 (.inl fun e => ?_) (parts_lined R _ _ h4 (fun x hx => by injection hx with hx; omega))
    have := hp a e
    omega
theorem dump02_of (d : Nat → Bool) (v : Nat → UInt8) : dump02 (cellsOf d v) = dumpOf (runsOf d v) := by
  rw [← runs_cells, ← parts_cells, dump02_lined (parts_lined _ 0 none (runs_sep d v) (fun x hx => by cases hx))]; rfl
theorem partL_mem : ∀ (k : Nat) (a : Nat) (l : List UInt8), l.length ≤ k → ∀ r ∈ partL a l, r.2 ≠ [] ∧ r.1 + r.2.length ≤ a + l.length
  | 0, a, l, h, r, hr => by
    obtain rfl : l = [] := List.length_eq_zero_iff.1 (by omega)
    simp [partL_nil] at hr
  | k + 1, a, l, h, r, hr => by
    by_cases hl : l = []
    · subst hl; simp [partL_nil] at hr
    · have hp := List.length_pos_iff.2 hl
      obtain ⟨i1, i2, _⟩ := inLine_pos (a := a) hp
      rw [partL_step a l hl] at hr
      generalize inLine a l.length = n at *
      rcases List.mem_cons.1 hr with rfl | hr
      · refine ⟨fun e => ?_, by show a + (l.take n).length ≤ _; rw [List.length_take]; omega⟩
        have := congrArg List.length e
        rw [List.length_take] at this
        simp only [List.length_nil] at this; omega
      · obtain ⟨g1, g4⟩ := partL_mem k _ _ (by simp; omega) r hr
        rw [List.length_drop] at g4
        exact ⟨g1, by omega⟩
theorem dumpLine_inj {a b : Nat} {l r : List UInt8} (ha : a < 65536) (hb : b < 65536) (h : dumpLine a l = dumpLine b r) : a = b ∧ l = r := by
  obtain ⟨e1, e2⟩ := List.append_inj h (by rw [hexs_len, hexs_len])
  injection e2 with _ e2
  exact ⟨hexs_inj 4 _ _ (by omega) (by omega) e1, flatMap_inj (n := 3) (by omega) (fun b => by rw [List.length_cons, byteTxt_len]) (fun x y e => by injection e with _ e; exact byteTxt_inj _ _ e) _ _ e2⟩
theorem dumpLine_no10 (a : Nat) (l : List UInt8) : ∀ c ∈ dumpLine a l, c ≠ 10 := by
  intro c hc e
  subst e
  rcases List.mem_append.1 hc with h | h
  · have := hexs_ge _ _ _ h
    simp at this
  · rcases List.mem_cons.1 h with h | h
    · cases h
    · obtain ⟨b, _, h⟩ := List.mem_flatMap.1 h
      rcases List.mem_cons.1 h with h | h
      · cases h
      · have := hexs_ge _ _ _ h
        simp at this
theorem parts_mem {R : List (Nat × List UInt8)} {lo : Nat} (h : Sep lo R) : ∀ r ∈ parts R, r.2 ≠ [] ∧ r.1 + r.2.length ≤ 65536 := by
  intro r hr
  obtain ⟨q, hq, hr⟩ := List.mem_flatMap.1 hr
  obtain ⟨g1, g4⟩ := partL_mem _ _ _ (Nat.le_refl _) r hr
  have := (sep_le h q hq).1
  exact ⟨g1, by omega⟩
theorem dump_inj {R S : List (Nat × List UInt8)} {a b : Nat} (hR : Sep a R) (hS : Sep b S) (h : dumpOf R = dumpOf S) : cellsR R = cellsR S := by
  have hno : ∀ D : List (Nat × List UInt8), ∀ x ∈ D.map (fun r => dumpLine r.1 r.2), ∀ c ∈ x, c ≠ 10 := fun D x hx => by
    obtain ⟨r, _, rfl⟩ := List.mem_map.1 hx
    exact dumpLine_no10 _ _
  have e := joinL_inj (hno _) (hno _) h
  have e := map_inj_on (f := fun r : Nat × List UInt8 => dumpLine r.1 r.2) (fun x hx y hy e => by
    obtain ⟨x1, x3⟩ := parts_mem hR x hx
    obtain ⟨y1, y3⟩ := parts_mem hS y hy
    have := List.length_pos_iff.2 x1
    have := List.length_pos_iff.2 y1
    obtain ⟨e1, e2⟩ := dumpLine_inj (by omega) (by omega) e
    exact Prod.ext e1 e2) e
  rw [← parts_cells R, e, parts_cells]
end Go.Proofs.YtcfjcoockklkeaaDoor
