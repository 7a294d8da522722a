/-
  PLAIN: the lines of a HEX text, and of a listing. Conditions: none.
-/
import Derived.Test.YtcfjcoockklkeaaDoorP4b
namespace Go.Proofs.YtcfjcoockklkeaaDoor

theorem dig_inj : ∀ i, i < 16 → ∀ j, j < 16 → digs.getD i 0 = digs.getD j 0 → i = j := by decide
theorem dig_ge : ∀ i, i < 16 → 48 ≤ (digs.getD i 0).toNat := by decide
theorem hexs_ge : ∀ k n, ∀ c ∈ hexs n k, 48 ≤ c.toNat
  | 0, _, c, h => by simp [hexs] at h
  | k + 1, n, c, h => by
    rw [hexs, List.mem_append] at h
    rcases h with h | h
    · exact hexs_ge k _ c h
    · simp only [List.mem_singleton] at h
      subst h
      exact dig_ge _ (Nat.mod_lt _ (by omega))
theorem hexs_inj : ∀ k n m, n < 16 ^ k → m < 16 ^ k → hexs n k = hexs m k → n = m
  | 0, n, m, h1, h2, _ => by simp at h1 h2; omega
  | k + 1, n, m, h1, h2, h => by
    rw [Nat.pow_succ] at h1 h2
    rw [hexs, hexs] at h
    obtain ⟨e1, e2⟩ := List.append_inj' h rfl
    have e3 := hexs_inj k (n / 16) (m / 16) (by omega) (by omega) e1
    have e4 := dig_inj _ (Nat.mod_lt n (by omega)) _ (Nat.mod_lt m (by omega)) (by simpa using e2)
    omega
def byteTxt (b : UInt8) : List UInt8 := hexs b.toNat 2
theorem byteTxt_len (b : UInt8) : (byteTxt b).length = 2 := hexs_len 2 _
theorem byteTxt_inj (a b : UInt8) (h : byteTxt a = byteTxt b) : a = b := by
  have h1 := a.toNat_lt
  have h2 := b.toNat_lt
  exact UInt8.toNat_inj.1 (hexs_inj 2 _ _ (by omega) (by omega) h)
theorem flatMap_inj {f : UInt8 → List UInt8} {n : Nat} (hn : 0 < n) (hl : ∀ b, (f b).length = n) (hi : ∀ a b, f a = f b → a = b) : ∀ l r : List UInt8, l.flatMap f = r.flatMap f → l = r
  | [], [], _ => rfl
  | [], b :: r, h => by
    have := congrArg List.length h
    simp [hl] at this; omega
  | a :: l, [], h => by
    have := congrArg List.length h
    simp [hl] at this; omega
  | a :: l, b :: r, h => by
    rw [List.flatMap_cons, List.flatMap_cons] at h
    obtain ⟨e1, e2⟩ := List.append_inj h (by rw [hl, hl])
    rw [hi _ _ e1, flatMap_inj hn hl hi l r e2]
/-- the lines, a line feed behind each -/
def joinL (L : List (List UInt8)) : List UInt8 := L.flatMap fun x => x ++ [10]
theorem split10 : ∀ {x y r s : List UInt8}, (∀ c ∈ x, c ≠ 10) → (∀ c ∈ y, c ≠ 10) → x ++ 10 :: r = y ++ 10 :: s → x = y ∧ r = s
  | [], [], _, _, _, _, h => ⟨rfl, by injection h⟩
  | [], c :: y, _, _, _, hy, h => by
    injection h with e _
    exact absurd e.symm (hy c (by simp))
  | c :: x, [], _, _, hx, _, h => by
    injection h with e _
    exact absurd e (hx c (by simp))
  | c :: x, d :: y, r, s, hx, hy, h => by
    injection h with e1 e2
    obtain ⟨h1, h2⟩ := split10 (fun z hz => hx z (by simp [hz])) (fun z hz => hy z (by simp [hz])) e2
    exact ⟨by rw [e1, h1], h2⟩
theorem joinL_cons (x : List UInt8) (L : List (List UInt8)) : joinL (x :: L) = x ++ 10 :: joinL L := by simp [joinL]
theorem joinL_inj : ∀ {L M : List (List UInt8)}, (∀ x ∈ L, ∀ c ∈ x, c ≠ 10) → (∀ x ∈ M, ∀ c ∈ x, c ≠ 10) → joinL L = joinL M → L = M
  | [], [], _, _, _ => rfl
  | [], y :: M, _, _, h => by rw [joinL_cons] at h; simp [joinL] at h
  | x :: L, [], _, _, h => by rw [joinL_cons] at h; simp [joinL] at h
  | x :: L, y :: M, hx, hy, h => by
    rw [joinL_cons, joinL_cons] at h
    obtain ⟨e1, e2⟩ := split10 (hx x (by simp)) (hy y (by simp)) h
    rw [e1, joinL_inj (fun z hz => hx z (by simp [hz])) (fun z hz => hy z (by simp [hz])) e2]
theorem joinL_app (L M : List (List UInt8)) : joinL (L ++ M) = joinL L ++ joinL M := by simp [joinL]
theorem joinL_count : ∀ (L : List (List UInt8)), (∀ x ∈ L, ∀ c ∈ x, c ≠ 10) → (joinL L).count 10 = L.length
  | [], _ => rfl
  | x :: L, h => by
    rw [joinL_cons, List.count_append, List.count_cons_self, joinL_count L (fun z hz => h z (by simp [hz])), List.count_eq_zero.2 (fun hm => h x (by simp) 10 hm rfl), List.length_cons]; omega

/-- data records of n bytes each -/
def splitF (n : Nat) : Nat → Nat → List UInt8 → List (Nat × List UInt8)
  | 0, _, _ => []
  | f + 1, a, l => if l = [] then [] else (a, l.take n) :: splitF n f (a + n) (l.drop n)
def splitL (n a : Nat) (l : List UInt8) : List (Nat × List UInt8) := splitF n l.length a l
theorem splitF_nil (n : Nat) : ∀ f a, splitF n f a [] = []
  | 0, _ => rfl
  | f + 1, a => by rw [splitF, if_pos rfl]
theorem splitF_fuel {n : Nat} (hn : 0 < n) : ∀ f g a l, l.length ≤ f → l.length ≤ g → splitF n f a l = splitF n g a l
  | 0, g, a, l, h1, h2 => by
    obtain rfl : l = [] := List.length_eq_zero_iff.1 (by omega)
    rw [splitF_nil, splitF_nil]
  | f + 1, 0, a, l, h1, h2 => by
    obtain rfl : l = [] := List.length_eq_zero_iff.1 (by omega)
    rw [splitF_nil, splitF_nil]
  | f + 1, g + 1, a, l, h1, h2 => by
    rw [splitF, splitF]
    by_cases h : l = []
    · rw [if_pos h, if_pos h]
    · have := List.length_pos_iff.2 h
      rw [if_neg h, if_neg h, splitF_fuel hn f g _ _ (by simp; omega) (by simp; omega)]
theorem splitL_nil (n a : Nat) : splitL n a [] = [] := rfl
theorem splitL_step {n : Nat} (hn : 0 < n) (a : Nat) (l : List UInt8) (h : l ≠ []) : splitL n a l = (a, l.take n) :: splitL n (a + n) (l.drop n) := by
  have hp := List.length_pos_iff.2 h
  unfold splitL
  rw [splitF_fuel hn l.length (l.length - 1 + 1) a l (Nat.le_refl _) (by omega), splitF, if_neg h]
  congr 1
  exact splitF_fuel hn _ _ _ _ (by simp; omega) (Nat.le_refl _)
theorem splitL_cells {n : Nat} (hn : 0 < n) : ∀ (k : Nat) (a : Nat) (l : List UInt8), l.length ≤ k → cellsR (splitL n a l) = cellsF a l
  | 0, a, l, h => by
    obtain rfl : l = [] := List.length_eq_zero_iff.1 (by omega)
    rfl
  | k + 1, a, l, h => by
    by_cases hl : l = []
    · subst hl; rfl
    · have hp := List.length_pos_iff.2 hl
      rw [splitL_step hn a l hl]
      show cellsF a (l.take n) ++ cellsR _ = _
      rw [splitL_cells hn k _ _ (by simp; omega)]
      by_cases hle : n ≤ l.length
      · have := cellsF_app (l.take n) (l.drop n) a
        rw [List.take_append_drop, List.length_take, Nat.min_eq_left hle] at this
        exact this.symm
      · rw [List.drop_eq_nil_of_le (by omega), List.take_of_length_le (by omega)]
        simp [cellsF]
/-- the parts of n bytes at most, none empty, none beyond the end -/
theorem splitL_mem {n : Nat} (hn : 0 < n) : ∀ (k : Nat) (a : Nat) (l : List UInt8), l.length ≤ k → ∀ r ∈ splitL n a l, r.2 ≠ [] ∧ r.2.length ≤ n ∧ a ≤ r.1 ∧ r.1 + r.2.length ≤ a + l.length
  | 0, a, l, h, r, hr => by
    obtain rfl : l = [] := List.length_eq_zero_iff.1 (by omega)
    simp [splitL_nil] at hr
  | k + 1, a, l, h, r, hr => by
    by_cases hl : l = []
    · subst hl; simp [splitL_nil] at hr
    · have hp := List.length_pos_iff.2 hl
      rw [splitL_step hn a l hl] at hr
      rcases List.mem_cons.1 hr with rfl | hr
      · refine ⟨fun e => ?_, by simp; omega, Nat.le_refl _, by show a + (l.take n).length ≤ _; rw [List.length_take]; omega⟩
        have := congrArg List.length e
        rw [List.length_take] at this
        simp only [List.length_nil] at this; omega
      · obtain ⟨g1, g2, g3, g4⟩ := splitL_mem hn k _ _ (by simp; omega) r hr
        have g5 : 0 < r.2.length := List.length_pos_iff.2 g1
        rw [List.length_drop] at g4
        exact ⟨g1, g2, by omega, by omega⟩
def recB (t a : Nat) (l : List UInt8) : List UInt8 := lowB l.length :: lowB (a / 256 : Nat) :: lowB a :: lowB t :: l
def recLine (t a : Nat) (l : List UInt8) : List UInt8 := 58 :: (recB t a l ++ [sum03 (recB t a l)]).flatMap byteTxt
theorem lowB_nat (n : Nat) : (lowB n).toNat = n % 256 := by have := lowB_is n; omega
theorem recLine_inj {a b : Nat} {l r : List UInt8} (ha : a < 65536) (hb : b < 65536) (h : recLine 0 a l = recLine 0 b r) : a = b ∧ l = r := by
  injection h with _ h
  have e := flatMap_inj (by omega) byteTxt_len byteTxt_inj _ _ h
  obtain ⟨e, _⟩ := List.append_inj' e rfl
  unfold recB at e
  injection e with e1 e
  injection e with e2 e
  injection e with e3 e
  injection e with e4 e
  have e2 := congrArg UInt8.toNat e2
  have e3 := congrArg UInt8.toNat e3
  rw [lowB_nat, lowB_nat] at e2 e3
  exact ⟨by omega, e⟩
theorem byteTxt_ge {c : UInt8} {l : List UInt8} (h : c ∈ l.flatMap byteTxt) : 48 ≤ c.toNat := by
  obtain ⟨b, _, hc⟩ := List.mem_flatMap.1 h
  exact hexs_ge _ _ _ hc
theorem recLine_no10 (t a : Nat) (l : List UInt8) : ∀ c ∈ recLine t a l, c ≠ 10 := by
  intro c hc e
  subst e
  rcases List.mem_cons.1 hc with h | h
  · cases h
  · have := byteTxt_ge h
    simp at this
def endLine : List UInt8 := [58, 48, 48, 48, 48, 48, 48, 48, 49, 70, 70]
theorem endLine_is : recLine 1 0 [] = endLine := by decide
/-- the data records of runs -/
def recs (n : Nat) (R : List (Nat × List UInt8)) : List (Nat × List UInt8) := R.flatMap fun r => splitL n r.1 r.2
def linesOf (n : Nat) (R : List (Nat × List UInt8)) : List (List UInt8) := (recs n R).map (fun r => recLine 0 r.1 r.2) ++ [endLine]
def textOf (n : Nat) (R : List (Nat × List UInt8)) : List UInt8 := joinL (linesOf n R)
theorem linesOf_no10 (n : Nat) (R : List (Nat × List UInt8)) : ∀ x ∈ linesOf n R, ∀ c ∈ x, c ≠ 10 := by
  intro x hx
  rcases List.mem_append.1 hx with h | h
  · obtain ⟨r, _, rfl⟩ := List.mem_map.1 h
    exact recLine_no10 _ _ _
  · simp at h
    subst h
    rw [← endLine_is]
    exact recLine_no10 _ _ _
theorem textOf_count (n : Nat) (R : List (Nat × List UInt8)) : (textOf n R).count 10 = (linesOf n R).length := joinL_count _ (linesOf_no10 n R)
theorem recs_cells {n : Nat} (hn : 0 < n) : ∀ R, cellsR (recs n R) = cellsR R
  | [] => rfl
  | r :: R => by
    have e := recs_cells hn R
    unfold cellsR recs at *
    rw [List.flatMap_cons, List.flatMap_append, e]
    have := splitL_cells hn r.2.length r.1 r.2 (Nat.le_refl _)
    unfold cellsR at this
    rw [this]; rfl
theorem sep_le : ∀ {R : List (Nat × List UInt8)} {lo : Nat}, Sep lo R → ∀ r ∈ R, r.1 + r.2.length ≤ 65536 ∧ r.2 ≠ []
  | [], _, _, r, hr => by simp at hr
  | (a, l) :: R, lo, h, r, hr => by
    rcases List.mem_cons.1 hr with rfl | hr
    · exact ⟨h.2.2.1, h.2.1⟩
    · exact sep_le h.2.2.2 r hr
theorem recs_mem {n : Nat} (hn : 0 < n) {R : List (Nat × List UInt8)} {lo : Nat} (h : Sep lo R) : ∀ r ∈ recs n R, r.2 ≠ [] ∧ r.2.length ≤ n ∧ r.1 + r.2.length ≤ 65536 := by
  intro r hr
  obtain ⟨q, hq, hr⟩ := List.mem_flatMap.1 hr
  obtain ⟨g1, g2, g3, g4⟩ := splitL_mem hn _ _ _ (Nat.le_refl _) r hr
  have := (sep_le h q hq).1
  exact ⟨g1, g2, by omega⟩
theorem map_inj_on {α β : Type} {f : α → β} : ∀ {l r : List α}, (∀ x ∈ l, ∀ y ∈ r, f x = f y → x = y) → l.map f = r.map f → l = r
  | [], [], _, _ => rfl
  | [], _ :: _, _, h => by simp at h
  | _ :: _, [], _, h => by simp at h
  | x :: l, y :: r, hf, h => by
    injection h with h1 h2
    rw [hf x (by simp) y (by simp) h1, map_inj_on (fun a ha b hb => hf a (by simp [ha]) b (by simp [hb])) h2]
theorem text_inj {R S : List (Nat × List UInt8)} {a b : Nat} (hR : Sep a R) (hS : Sep b S) (h : textOf 16 R = textOf 16 S) : cellsR R = cellsR S := by
  have e := joinL_inj (linesOf_no10 16 R) (linesOf_no10 16 S) h
  obtain ⟨e, _⟩ := List.append_inj' e rfl
  have e := map_inj_on (f := fun r : Nat × List UInt8 => recLine 0 r.1 r.2) (fun x hx y hy e => by
    obtain ⟨x1, _, x3⟩ := recs_mem (by omega) hR x hx
    obtain ⟨y1, _, y3⟩ := recs_mem (by omega) hS y hy
    have := List.length_pos_iff.2 x1
    have := List.length_pos_iff.2 y1
    obtain ⟨e1, e2⟩ := recLine_inj (by omega) (by omega) e
    exact Prod.ext e1 e2) e
  rw [← recs_cells (n := 16) (by omega) R, e, recs_cells (by omega)]
end Go.Proofs.YtcfjcoockklkeaaDoor
