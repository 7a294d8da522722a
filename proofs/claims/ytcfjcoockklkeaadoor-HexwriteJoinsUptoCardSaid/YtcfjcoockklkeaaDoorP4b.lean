/-
  PLAIN: the longest ranges of a list of cells. Conditions: none.
-/
import Derived.Test.YtcfjcoockklkeaaDoorP4a
namespace Go.Proofs.YtcfjcoockklkeaaDoor

theorem runsN_cells {d : Nat → Bool} {v : Nat → UInt8} : ∀ g f, f ≤ 65536 → 65536 < g + f → (f < 65536 → d f = true) → cellsR (runsN d v g f) = segC d v f (65536 - f)
  | 0, f, h1, h2, _ => by omega
  | g + 1, f, h1, h2, h3 => by
    rw [runsN]
    by_cases h : f < 65536
    · rw [if_pos h]
      obtain ⟨p1, p2⟩ := next_past h (h3 h)
      obtain ⟨g1, g2, g3, g4⟩ := nextS_spec d true (nextS d false f) p2
      obtain ⟨k1, k2, k3, _⟩ := nextS_spec d false f h1
      have ih := runsN_cells (d := d) (v := v) g (nextS d true (nextS d false f)) g2 (by omega) (fun hx => by simpa using g4 hx)
      show cellsF f _ ++ cellsR _ = _
      rw [ih]
      generalize nextS d true (nextS d false f) = u at *
      generalize nextS d false f = t at *
      rw [show 65536 - f = (t - f) + ((u - t) + (65536 - u)) by omega, segC_split, segC_split, show f + (t - f) = t by omega, show t + (u - t) = u by omega]
      rw [segC_full (t - f) f (fun x hx1 hx2 => by have := k3 x hx1 (by omega); simpa using this), segC_none (u - t) t (fun x hx1 hx2 => by have := g3 x hx1 (by omega); simpa using this)]
      rfl
    · rw [if_neg h, show 65536 - f = 0 by omega]; rfl
theorem runs_cells (d : Nat → Bool) (v : Nat → UInt8) : cellsR (runsOf d v) = cellsOf d v := by
  obtain ⟨g1, g2, g3, g4⟩ := nextS_spec d true 0 (by omega)
  unfold runsOf cellsOf
  rw [runsN_cells 65537 _ g2 (by omega) (fun h => by simpa using g4 h)]
  generalize nextS d true 0 = t at *
  rw [show (65536 : Nat) = t + (65536 - t) by omega, segC_split, segC_none t 0 (fun x h1 h2 => by have := g3 x h1 (by omega); simpa using this), show t + (65536 - t) - t = 65536 - t by omega, Nat.zero_add]; rfl
/-- runs that lie apart, in ascending order, none before lo -/
def Sep : Nat → List (Nat × List UInt8) → Prop
  | _, [] => True
  | lo, (a, l) :: R => lo ≤ a ∧ l ≠ [] ∧ a + l.length ≤ 65536 ∧ Sep (a + l.length + 1) R
theorem Sep.mono : ∀ {R : List (Nat × List UInt8)} {lo lo' : Nat}, Sep lo R → lo' ≤ lo → Sep lo' R
  | [], _, _, _, _ => trivial
  | (_, _) :: _, _, _, h, hl => ⟨Nat.le_trans hl h.1, h.2⟩
theorem bytesOf_len (v : Nat → UInt8) (a n : Nat) : (bytesOf v a n).length = n := by simp [bytesOf]
theorem runsN_sep {d : Nat → Bool} {v : Nat → UInt8} : ∀ g f, (f < 65536 → d f = true) → Sep f (runsN d v g f)
  | 0, f, _ => trivial
  | g + 1, f, h3 => by
    rw [runsN]
    by_cases h : f < 65536
    · rw [if_pos h]
      obtain ⟨p1, p2⟩ := next_past h (h3 h)
      obtain ⟨g1, g2, g3, g4⟩ := nextS_spec d true (nextS d false f) p2
      obtain ⟨k1, k2, k3, k4⟩ := nextS_spec d false f (by omega)
      have hgt : nextS d false f < nextS d true (nextS d false f) ∨ nextS d false f = 65536 := by
        rcases Nat.lt_or_ge (nextS d false f) 65536 with hx | hx
        · refine .inl ?_
          have e1 := k4 hx
          rcases Nat.lt_or_ge (nextS d false f) (nextS d true (nextS d false f)) with hy | hy
          · exact hy
          · have e : nextS d true (nextS d false f) = nextS d false f := Nat.le_antisymm hy g1
            have e2 := g4 (by omega)
            rw [e] at e2
            cases hd : d (nextS d false f) <;> simp [hd] at e1 e2
        · exact .inr (by omega)
      refine ⟨Nat.le_refl _, fun e => ?_, ?_, ?_⟩
      · have := bytesOf_len v f (nextS d false f - f)
        rw [e] at this
        simp at this; omega
      · rw [bytesOf_len]; omega
      · rw [bytesOf_len]
        rcases hgt with hx | hx
        · exact (runsN_sep g _ (fun hl => by simpa using g4 hl)).mono (by omega)
        · have e : nextS d true (nextS d false f) = 65536 := by omega
          rw [e, runsN_end]; trivial
    · rw [if_neg h]; trivial
theorem runs_sep (d : Nat → Bool) (v : Nat → UInt8) : Sep 0 (runsOf d v) := by
  obtain ⟨g1, g2, g3, g4⟩ := nextS_spec d true 0 (by omega)
  exact (runsN_sep 65537 _ (fun hl => by simpa using g4 hl)).mono (Nat.zero_le _)

def addLast (b : UInt8) : List (Nat × List UInt8) → List (Nat × List UInt8)
  | [] => []
  | [r] => [(r.1, r.2 ++ [b])]
  | r :: s :: t => r :: addLast b (s :: t)
theorem addLast_snoc (b : UInt8) (r : Nat × List UInt8) : ∀ R, addLast b (R ++ [r]) = R ++ [(r.1, r.2 ++ [b])]
  | [] => rfl
  | [s] => rfl
  | s :: t :: R => by
    show s :: addLast b ((t :: R) ++ [r]) = _
    rw [addLast_snoc b r (t :: R)]; rfl
/-- one more cell: the runs so far, and the address that would go on -/
def rstep (s : List (Nat × List UInt8) × Option Nat) (c : CellV) : List (Nat × List UInt8) × Option Nat :=
  (if s.2 = some c.addr then addLast c.byte s.1 else s.1 ++ [(c.addr, [c.byte])], some (c.addr + 1))
def runs02 (m : List CellV) : List (Nat × List UInt8) := (m.foldl rstep ([], none)).1
theorem rstep_run (R : List (Nat × List UInt8)) (a : Nat) : ∀ (l : List UInt8) (bs : List UInt8) (q : Nat), q = a + bs.length → (cellsF q l).foldl rstep (R ++ [(a, bs)], some q) = (R ++ [(a, bs ++ l)], some (q + l.length))
  | [], bs, q, _ => by simp [cellsF]
  | b :: l, bs, q, h => by
    show (cellsF (q + 1) l).foldl rstep (rstep (R ++ [(a, bs)], some q) ⟨q, b⟩) = _
    unfold rstep
    rw [if_pos rfl, addLast_snoc]
    have := rstep_run R a l (bs ++ [b]) (q + 1) (by simp; omega)
    rw [List.append_assoc] at this
    refine this.trans ?_
    simp; omega
theorem rstep_runs : ∀ (R Q : List (Nat × List UInt8)) (lo : Nat) (p : Option Nat), Sep lo R → (∀ x, p = some x → x < lo) → ((cellsR R).foldl rstep (Q, p)).1 = Q ++ R
  | [], Q, _, _, _, _ => by simp [cellsR]
  | (a, []) :: R, Q, lo, p, h, hp => absurd rfl h.2.1
  | (a, b :: l) :: R, Q, lo, p, h, hp => by
    obtain ⟨h1, _, _, h4⟩ := h
    show ((cellsF a (b :: l) ++ cellsR R).foldl rstep (Q, p)).1 = _
    rw [List.foldl_append]
    have e : (cellsF a (b :: l)).foldl rstep (Q, p) = (Q ++ [(a, b :: l)], some (a + (b :: l).length)) := by
      show (cellsF (a + 1) l).foldl rstep (rstep (Q, p) ⟨a, b⟩) = _
      have hr : rstep (Q, p) ⟨a, b⟩ = (Q ++ [(a, [b])], some (a + 1)) := by
        unfold rstep
        rw [if_neg (fun e => absurd (hp _ e) (by show ¬ a < lo; omega))]
      rw [hr, rstep_run Q a l [b] (a + 1) rfl]
      simp; omega
    rw [e, rstep_runs R _ _ _ h4 (fun x hx => by injection hx with hx; omega), List.append_assoc]; rfl
theorem runs02_sep {R : List (Nat × List UInt8)} {lo : Nat} (h : Sep lo R) : runs02 (cellsR R) = R := by
  have := rstep_runs R [] lo none h (fun x hx => by cases hx)
  simpa [runs02] using this
/-- the reference's runs are the program's -/
theorem runs02_of (d : Nat → Bool) (v : Nat → UInt8) : runs02 (cellsOf d v) = runsOf d v := by rw [← runs_cells]; exact runs02_sep (runs_sep d v)
theorem cellsF_len : ∀ (l : List UInt8) (a : Nat), (cellsF a l).length = l.length
  | [], _ => rfl
  | _ :: l, a => by rw [cellsF, List.length_cons, cellsF_len l, List.length_cons]
theorem cellsF_app : ∀ (l r : List UInt8) (a : Nat), cellsF a (l ++ r) = cellsF a l ++ cellsF (a + l.length) r
  | [], r, a => rfl
  | b :: l, r, a => by
    show _ :: cellsF (a + 1) (l ++ r) = _
    rw [cellsF_app l r (a + 1), show a + 1 + l.length = a + (b :: l).length by simp; omega]; rfl
/-- same cells, same runs -/
theorem runs_eq_iff {R S : List (Nat × List UInt8)} {a b : Nat} (hR : Sep a R) (hS : Sep b S) : R = S ↔ cellsR R = cellsR S :=
  ⟨fun h => by rw [h], fun h => by rw [← runs02_sep hR, h, runs02_sep hS]⟩
end Go.Proofs.YtcfjcoockklkeaaDoor
