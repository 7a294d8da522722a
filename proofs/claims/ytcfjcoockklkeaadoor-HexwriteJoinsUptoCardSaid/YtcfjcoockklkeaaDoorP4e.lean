/-
  PLAIN: the record of a line; records put one after the other. Conditions: none.
-/
import Derived.Test.YtcfjcoockklkeaaDoorP4d
namespace Go.Proofs.YtcfjcoockklkeaaDoor

def hexV (c : UInt8) : Nat := if 48 ≤ c.toNat ∧ c.toNat ≤ 57 then c.toNat - 48 else if 97 ≤ c.toNat ∧ c.toNat ≤ 102 then c.toNat - 97 + 10 else if 65 ≤ c.toNat ∧ c.toNat ≤ 70 then c.toNat - 65 + 10 else 99
/-- the bytes that digits denote -/
def bytesH : List UInt8 → Option (List UInt8)
  | [] => some []
  | [_] => none
  | a :: b :: r => if 15 < hexV a ∨ 15 < hexV b then none else (bytesH r).map (UInt8.ofNat (16 * hexV a + hexV b) :: ·)
structure RecV where
  t : Nat
  a : Nat
  l : List UInt8
def recZ : RecV := ⟨0, 0, []⟩
def byteN (b : List UInt8) (i : Nat) : Nat := (b.getD i 0).toNat
def parseB (b : List UInt8) : Nat × RecV :=
  if b.length < 5 then (3, recZ) else if byteN b 0 + 5 ≠ b.length then (6, recZ) else if sumN b ≠ 0 then (5, recZ)
  else (0, ⟨byteN b 3, byteN b 1 * 256 + byteN b 2, (b.drop 4).take (b.length - 5)⟩)
def parseH (s : List UInt8) : Nat × RecV :=
  match s with
  | [] => (3, recZ)
  | c :: r => if c = 58 then (match bytesH r with | none => (3, recZ) | some b => parseB b) else (3, recZ)
theorem parseH_colon (r : List UInt8) : parseH (58 :: r) = (match bytesH r with | none => (3, recZ) | some b => parseB b) := rfl
theorem hexV_dig : ∀ i, i < 16 → hexV (digs.getD i 0) = i := by decide
theorem byteTxt_two (b : UInt8) : byteTxt b = [digs.getD (b.toNat / 16 % 16) 0, digs.getD (b.toNat % 16) 0] := rfl
theorem bytesH_cons (b : UInt8) (r : List UInt8) : bytesH (byteTxt b ++ r) = (bytesH r).map (b :: ·) := by
  rw [byteTxt_two]
  show (if _ then _ else _) = _
  have hb := b.toNat_lt
  rw [hexV_dig _ (Nat.mod_lt _ (by omega)), hexV_dig _ (Nat.mod_lt _ (by omega)), if_neg (by omega)]
  have e : 16 * (b.toNat / 16 % 16) + b.toNat % 16 = b.toNat := by omega
  rw [e, UInt8.ofNat_toNat]; rfl
theorem bytesH_txt : ∀ l : List UInt8, bytesH (l.flatMap byteTxt) = some l
  | [] => rfl
  | b :: l => by rw [List.flatMap_cons, bytesH_cons, bytesH_txt l]; rfl
theorem sumN_app (l : List UInt8) (c : UInt8) : sumN (l ++ [c]) = (sumN l + c.toNat) % 256 := by
  unfold sumN
  rw [List.foldl_append]; rfl
theorem sumN_256 (l : List UInt8) : sumN l < 256 := by
  unfold sumN
  suffices ∀ (l : List UInt8) n, n < 256 → l.foldl (fun n x => (n + x.toNat) % 256) n < 256 from this l 0 (by omega)
  intro l
  induction l with
  | nil => exact fun n h => h
  | cons x l ih => exact fun n _ => ih _ (Nat.mod_lt _ (by omega))
theorem sumN_sum (l : List UInt8) : sumN (l ++ [sum03 l]) = 0 := by
  have h := sumN_256 l
  have e : ((sum03 l).toNat : Int) = ((256 - (sumN l : Int)) % 256) % 256 := lowB_is _
  rw [sumN_app]
  omega
theorem parse_lineT {t a : Nat} {l : List UInt8} (ht : t < 256) (ha : a < 65536) (hl : l.length ≤ 255) : parseH (recLine t a l) = (0, ⟨t, a, l⟩) := by
  unfold recLine
  rw [parseH_colon, bytesH_txt]
  show parseB _ = _
  have hlen : (recB t a l ++ [sum03 (recB t a l)]).length = l.length + 5 := by simp [recB]
  have hs := sumN_sum (recB t a l)
  have h0 : byteN (recB t a l ++ [sum03 (recB t a l)]) 0 = l.length := (lowB_nat l.length).trans (by omega)
  have h1 : byteN (recB t a l ++ [sum03 (recB t a l)]) 1 = a / 256 := (lowB_nat (a / 256)).trans (by omega)
  have h2 : byteN (recB t a l ++ [sum03 (recB t a l)]) 2 = a % 256 := lowB_nat a
  have h3 : byteN (recB t a l ++ [sum03 (recB t a l)]) 3 = t := (lowB_nat t).trans (by omega)
  have h4 : ((recB t a l ++ [sum03 (recB t a l)]).drop 4).take (l.length + 5 - 5) = l := by
    show (l ++ [_]).take (l.length + 5 - 5) = l
    rw [Nat.add_sub_cancel, List.take_left]
  unfold parseB
  rw [hlen, if_neg (by omega), h0, if_neg (by omega), hs, if_neg (by omega), h1, h2, h3, h4]
  have : a / 256 * 256 + a % 256 = a := by omega
  rw [this]
theorem parse_line {a : Nat} {l : List UInt8} (ha : a < 65536) (hl : l.length ≤ 255) : parseH (recLine 0 a l) = (0, ⟨0, a, l⟩) := parse_lineT (by omega) ha hl

/-- runs in ascending order, none before lo -/
def Asc : Nat → List (Nat × List UInt8) → Prop
  | _, [] => True
  | lo, (a, l) :: D => lo ≤ a ∧ l ≠ [] ∧ a + l.length ≤ 65536 ∧ Asc (a + l.length) D
theorem Asc.mono : ∀ {R : List (Nat × List UInt8)} {lo lo' : Nat}, Asc lo R → lo' ≤ lo → Asc lo' R
  | [], _, _, _, _ => trivial
  | (_, _) :: _, _, _, h, hl => ⟨Nat.le_trans hl h.1, h.2⟩
theorem splitL_asc {n : Nat} (hn : 0 < n) : ∀ (k a : Nat) (l : List UInt8) (D : List (Nat × List UInt8)), l.length ≤ k → a + l.length ≤ 65536 → Asc (a + l.length) D → Asc a (splitL n a l ++ D)
  | 0, a, l, D, h, _, hD => by
    obtain rfl : l = [] := List.length_eq_zero_iff.1 (by omega)
    exact hD
  | k + 1, a, l, D, h, ha, hD => by
    by_cases hl : l = []
    · subst hl; exact hD
    · have hp := List.length_pos_iff.2 hl
      rw [splitL_step hn a l hl]
      have ht : (l.take n).length = min n l.length := by simp
      refine ⟨Nat.le_refl _, fun e => ?_, by rw [ht]; omega, ?_⟩
      · rw [e] at ht; simp at ht; omega
      · rw [ht]
        by_cases hle : n ≤ l.length
        · rw [Nat.min_eq_left hle]
          refine splitL_asc hn k _ _ _ (by simp; omega) (by simp; omega) ?_
          rw [List.length_drop, show a + n + (l.length - n) = a + l.length by omega]
          exact hD
        · rw [List.drop_eq_nil_of_le (by omega), splitL_nil, Nat.min_eq_right (by omega)]
          exact hD
theorem recs_asc {n : Nat} (hn : 0 < n) : ∀ {R : List (Nat × List UInt8)} {lo : Nat}, Sep lo R → Asc lo (recs n R)
  | [], _, _ => trivial
  | (a, l) :: R, lo, h => by
    obtain ⟨h1, h2, h3, h4⟩ := h
    show Asc lo (splitL n a l ++ recs n R)
    exact (splitL_asc hn l.length a l _ (Nat.le_refl _) h3 ((recs_asc hn h4).mono (by omega))).mono h1
/-- bytes behind all that there is -/
theorem put_behind {d : Nat → Bool} {v : Nat → UInt8} {a : Nat} {l : List UInt8} (h : ∀ c ∈ cellsOf d v, c.addr < a) (hl : l ≠ []) (ha : a + l.length ≤ 65536) :
    cellsOf (imgPut d v a l).1 (imgPut d v a l).2 = cellsOf d v ++ cellsF a l ∧ putCode d a l.length = 0 := by
  have hp := List.length_pos_iff.2 hl
  have hf : find02 (a : Int) (cellsOf d v) = (cellsOf d v).length := by
    have := find02_app (a := (a : Int)) (l2 := []) (fun c hc => by cases hc) (cellsOf d v) (fun c hc => by have := h c hc; omega)
    rwa [List.append_nil] at this
  have e := put_match d v a l
  unfold put02 at e
  rw [hf, if_neg (by omega), if_neg (by omega), if_neg hl, if_neg (by
    rintro ⟨c, hc, _⟩
    rw [List.getElem?_eq_none (Nat.le_refl _)] at hc
    cases hc), List.take_length, List.drop_length, List.append_nil, Int.toNat_natCast] at e
  exact ⟨(congrArg Prod.fst e).symm, (congrArg Prod.snd e).symm⟩
theorem cellsF_lt : ∀ (l : List UInt8) (a : Nat), ∀ c ∈ cellsF a l, c.addr < a + l.length
  | [], _, c, h => by cases h
  | b :: l, a, c, h => by
    rcases List.mem_cons.1 h with rfl | h
    · show a < a + (l.length + 1); omega
    · have := cellsF_lt l (a + 1) c h
      rw [List.length_cons]; omega
/-- images put together of runs in ascending order -/
def putAll (D : List (Nat × List UInt8)) : (Nat → Bool) × (Nat → UInt8) := D.foldl (fun s r => imgPut s.1 s.2 r.1 r.2) (fun _ => false, fun _ => 0)
theorem putAll_snoc (D : List (Nat × List UInt8)) (r : Nat × List UInt8) : putAll (D ++ [r]) = imgPut (putAll D).1 (putAll D).2 r.1 r.2 := by
  unfold putAll
  rw [List.foldl_append]; rfl
theorem cellsOf_none (v : Nat → UInt8) : cellsOf (fun _ => false) v = [] := segC_none _ _ (fun _ _ _ => rfl)
theorem putAll_asc : ∀ (D E : List (Nat × List UInt8)) (lo : Nat), cellsOf (putAll E).1 (putAll E).2 = cellsR E → (∀ c ∈ cellsR E, c.addr < lo) → Asc lo D →
    cellsOf (putAll (E ++ D)).1 (putAll (E ++ D)).2 = cellsR (E ++ D) ∧ ∀ k r, D[k]? = some r → putCode (putAll (E ++ D.take k)).1 r.1 r.2.length = 0
  | [], E, lo, h1, h2, _ => by rw [List.append_nil]; exact ⟨h1, fun k r hk => by simp at hk⟩
  | (a, l) :: D, E, lo, h1, h2, h => by
    obtain ⟨g1, g2, g3, g4⟩ := h
    obtain ⟨p1, p2⟩ := put_behind (d := (putAll E).1) (v := (putAll E).2) (a := a) (l := l) (fun c hc => by rw [h1] at hc; have := h2 c hc; omega) g2 g3
    have hc : cellsR (E ++ [(a, l)]) = cellsR E ++ cellsF a l := by simp [cellsR]
    obtain ⟨q1, q2⟩ := putAll_asc D (E ++ [(a, l)]) (a + l.length) (by rw [putAll_snoc, p1, h1, hc]) (fun c hx => by
      rw [hc] at hx
      rcases List.mem_append.1 hx with hx | hx
      · have := h2 c hx; omega
      · exact cellsF_lt l a c hx) g4
    rw [List.append_assoc] at q1
    refine ⟨q1, fun k r hk => ?_⟩
    cases k with
    | zero =>
      injection hk with hk
      subst hk
      rw [List.take_zero, List.append_nil]
      exact p2
    | succ k =>
      have := q2 k r hk
      rw [List.append_assoc] at this
      exact this
/-- the records of an image, put one after the other, give the image again -/
theorem putAll_recs (d : Nat → Bool) (v : Nat → UInt8) {n : Nat} (hn : 0 < n) : cellsOf (putAll (recs n (runsOf d v))).1 (putAll (recs n (runsOf d v))).2 = cellsOf d v ∧
    ∀ k r, (recs n (runsOf d v))[k]? = some r → putCode (putAll ((recs n (runsOf d v)).take k)).1 r.1 r.2.length = 0 := by
  obtain ⟨h1, h2⟩ := putAll_asc (recs n (runsOf d v)) [] 0 (cellsOf_none _) (fun c hc => by cases hc) (recs_asc hn (runs_sep d v))
  rw [List.nil_append] at h1
  exact ⟨by rw [h1, recs_cells hn, runs_cells], h2⟩
theorem asc_pairs : ∀ {D : List (Nat × List UInt8)} {lo : Nat}, Asc lo D → ∀ (k : Nat) (r : Nat × List UInt8), D[k]? = some r → lo ≤ r.1 ∧ ∀ (j : Nat) (q : Nat × List UInt8), j < k → D[j]? = some q → q.1 < r.1
  | [], _, _, k, r, hk => by simp at hk
  | (a, l) :: D, lo, h, k, r, hk => by
    obtain ⟨g1, g2, g3, g4⟩ := h
    cases k with
    | zero =>
      injection hk with hk
      subst hk
      exact ⟨g1, fun j q hj => absurd hj (Nat.not_lt_zero _)⟩
    | succ k =>
      obtain ⟨i1, i2⟩ := asc_pairs g4 k r hk
      have := List.length_pos_iff.2 g2
      refine ⟨by omega, fun j q hj hq => ?_⟩
      cases j with
      | zero =>
        injection hq with hq
        subst hq
        show a < _; omega
      | succ j => exact i2 j q (by omega) hq
theorem same_runs {d d' : Nat → Bool} {v v' : Nat → UInt8} : runsOf d v = runsOf d' v' ↔ cellsOf d v = cellsOf d' v' :=
  ⟨fun h => by rw [← runs_cells, h, runs_cells], fun h => by rw [← runs02_of, h, runs02_of]⟩
end Go.Proofs.YtcfjcoockklkeaaDoor
