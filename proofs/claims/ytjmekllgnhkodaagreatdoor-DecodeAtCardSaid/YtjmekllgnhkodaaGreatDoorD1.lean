/-
  What decode makes of some bytes, and what each entry of the table says of it. Conditions: none.
-/
import Derived.Test.YtjmekllgnhkodaaGreatDoorEX
import Derived.Test.YtjmekllgnhkodaaGreatDoorPM
import Derived.Test.YtjmekllgnhkodaaGreatDoorPN
import Derived.Test.YtjmekllgnhkodaaGreatDoorQT
namespace Go.Proofs.YtjmekllgnhkodaaGreatDoor
open Go.RowKit Go.Shelf Go.Sort

def bAt (l : List UInt8) (k : Nat) : Nat := (l.getD k 0).toNat
theorem bAt_lt (l : List UInt8) (k : Nat) : bAt l k < 256 := UInt8.toNat_lt _
theorem bAt_get {l : List UInt8} {k : Nat} (h : k < l.length) : bAt l k = (l[k]).toNat := by simp [bAt, List.getD, List.getElem?_eq_getElem h]
def sg (b : Nat) : Int := if 128 ≤ b then (b : Int) - 256 else b
/-- the numbers that the letters stand for -/
def rdF : List UInt8 → List UInt8 → Nat → Int → Int → Int × Int
  | [], _, _, d, n => (d, n)
  | c :: ex, l, k, d, n =>
    if c = 100 then rdF ex l (k + 1) (sg (bAt l k)) n
    else if c = 101 then rdF ex l (k + 1) d (sg (bAt l k))
    else if c = 110 then rdF ex l (k + 1) d (bAt l k)
    else rdF ex l (k + 2) d ((bAt l k : Int) + 256 * bAt l (k + 1))
def rdN : List UInt8 → Nat
  | [] => 0
  | c :: ex => (if c = 119 then 2 else 1) + rdN ex
theorem rdN_le : ∀ ex : List UInt8, ex.length ≤ rdN ex ∧ rdN ex ≤ 2 * ex.length
  | [] => by simp [rdN]
  | c :: ex => by
    have := rdN_le ex
    rw [rdN, List.length_cons]
    split <;> omega
theorem rdN_lenX : ∀ ex : List UInt8, lenX ex = (rdN ex : Int)
  | [] => rfl
  | c :: ex => by
    have e : ((c.toNat : Int) == 119) = true ↔ c = 119 := by
      rw [beq_iff_eq]
      constructor
      · intro h; exact UInt8.toNat_inj.1 (by show c.toNat = 119; omega)
      · rintro rfl; rfl
    rw [lenX, rdN, rdN_lenX ex]
    by_cases h : c = 119
    · rw [if_pos (e.2 h), if_pos h]; omega
    · rw [if_neg (fun k => h (e.1 k)), if_neg h]; omega
theorem rdN_count : ∀ ex : List UInt8, (ex.length : Int) + (Lib.countByte ex 119 : Int) = (rdN ex : Int)
  | [] => rfl
  | c :: ex => by
    have ih := rdN_count ex
    rw [rdN, List.length_cons]
    unfold Lib.countByte at ih ⊢
    by_cases h : c = 119
    · subst h; rw [List.count_cons_self, if_pos rfl]; omega
    · rw [List.count_cons_of_ne h, if_neg h]; omega
structure Itm where
  k : Int
  n : Nat
  op : List UInt8
  args : List Opd
  al : Bool
def sizF (e : EntV) : Nat := (prefF e.pg).length + 1 + rdN e.ex
/-- the index of the opcode -/
def pos (p : Nat) : Nat := (prefF p).length + (if 5 ≤ p then 1 else 0)
def pgB (l : List UInt8) : Nat :=
  if bAt l 0 = 203 then 1 else if bAt l 0 = 237 then 2
  else if bAt l 0 = 221 then (if 1 < l.length ∧ bAt l 1 = 203 then 5 else 3)
  else if bAt l 0 = 253 then (if 1 < l.length ∧ bAt l 1 = 203 then 6 else 4) else 0
def insF (e : EntV) (d n : Int) : List UInt8 × List Opd := match fillF e.ex e.args d n with | some c => (e.iop, c) | none => ([], [])
def numB (p : Nat) (e : EntV) (l : List UInt8) : Int × Int := rdF e.ex l (if 5 ≤ p then 2 else pos p + 1) 0 0
def itE (p : Nat) (e : EntV) (l : List UInt8) : Itm :=
  if l.length < sizF e then ⟨4, l.length, [], [], false⟩
  else ⟨1, sizF e, (insF e (numB p e l).1 (numB p e l).2).1, (insF e (numB p e l).1 (numB p e l).2).2, e.al⟩
def itS (p : Nat) (l : List UInt8) : Itm :=
  if l.length ≤ pos p then ⟨4, l.length, [], [], false⟩
  else match atF p (bAt l (pos p)) with
    | (some e, _) => itE p e l
    | (none, k) => if k = 0 then ⟨2, 1, [], [], false⟩ else ⟨3, 2, [], [], false⟩
/-- the first item -/
def itF (l : List UInt8) : Itm := itS (pgB l) l
def isPre (p x : Nat) : Bool := ((p == 0) && ((x == 203) || ((x == 237) || ((x == 221) || (x == 253))))) || (((p == 3) || (p == 4)) && (x == 203))
def nx (p x : Nat) : Nat := if p = 0 then (if x = 203 then 1 else if x = 237 then 2 else if x = 221 then 3 else 4) else p + 2
def chkD (p x : Nat) : Bool := match atF p x with
  | (none, k) => ((k == 2) && isPre p x) || (!isPre p x && (((k == 0) && ((p == 3) || (p == 4))) || ((k == 3) && (p == 2))))
  | (some e, k) => !isPre p x && ((k == 1) && decide (p < 5 ∨ e.ex = [100]))
theorem ckd : ∀ p : Fin 7, ∀ x : Fin 256, chkD p.val x.val = true := by decide +kernel
theorem at_pre {p x : Nat} (hp : p < 7) (hx : x < 256) (h : isPre p x = true) : atF p x = (none, 2) := by
  have := ckd ⟨p, hp⟩ ⟨x, hx⟩
  unfold chkD at this
  dsimp only at this
  rw [h] at this
  cases hA : atF p x with
  | mk o k =>
    rw [hA] at this
    cases o with
    | none => simp at this; rw [this]
    | some e => simp at this
theorem at_none {p x : Nat} {k : Int} (hp : p < 7) (hx : x < 256) (h : isPre p x = false) (ha : atF p x = (none, k)) : (k = 0 ∧ (p = 3 ∨ p = 4)) ∨ (k = 3 ∧ p = 2) := by
  have := ckd ⟨p, hp⟩ ⟨x, hx⟩
  unfold chkD at this
  dsimp only at this
  rw [h, ha] at this
  simpa using this
theorem at_some {p x : Nat} {k : Int} {e : EntV} (hp : p < 7) (hx : x < 256) (ha : atF p x = (some e, k)) : k = 1 ∧ isPre p x = false ∧ (p < 5 ∨ e.ex = [100]) := by
  have := ckd ⟨p, hp⟩ ⟨x, hx⟩
  unfold chkD at this
  dsimp only at this
  rw [ha] at this
  obtain ⟨h1, h2⟩ := Bool.and_eq_true_iff.1 this
  obtain ⟨h2, h3⟩ := Bool.and_eq_true_iff.1 h2
  exact ⟨eq_of_beq h2, by simpa using h1, of_decide_eq_true h3⟩
theorem prefs : ∀ p : Fin 7, pageF (prefF p.val) 7 0 = some p.val := by decide +kernel
/-- how far the prefixes have been read -/
structure PgI (p : Nat) (l : List UInt8) : Prop where
  lt : p < 7
  le : (prefF p).length ≤ l.length
  adv : (if p = 0 then pgB l else if (p = 3 ∨ p = 4) ∧ 1 < l.length ∧ bAt l 1 = 203 then p + 2 else p) = pgB l
theorem pgI0 (l : List UInt8) : PgI 0 l := ⟨by decide, Nat.zero_le _, rfl⟩
theorem PgI.stop {p : Nat} {l : List UInt8} (h : PgI p l) (hl : 0 < l.length) (hs : l.length ≤ pos p ∨ isPre p (bAt l (pos p)) = false) : pgB l = p := by
  obtain ⟨h1, h2, h3⟩ := h
  have : p = 0 ∨ p = 1 ∨ p = 2 ∨ p = 3 ∨ p = 4 ∨ p = 5 ∨ p = 6 := by omega
  rcases this with rfl | rfl | rfl | rfl | rfl | rfl | rfl
  · rcases hs with hs | hs
    · exact absurd hs (by show ¬ l.length ≤ 0; omega)
    · have hs : isPre 0 (bAt l 0) = false := hs
      simp [isPre] at hs
      unfold pgB
      rw [if_neg hs.1, if_neg hs.2.1, if_neg hs.2.2.1, if_neg hs.2.2.2]
  · exact h3.symm
  · exact h3.symm
  · rcases hs with hs | hs
    · have hs : l.length ≤ 1 := hs
      rw [if_neg (by decide), if_neg (by omega)] at h3; exact h3.symm
    · have hs : isPre 3 (bAt l 1) = false := hs
      simp [isPre] at hs
      rw [if_neg (by decide), if_neg (by omega)] at h3; exact h3.symm
  · rcases hs with hs | hs
    · have hs : l.length ≤ 1 := hs
      rw [if_neg (by decide), if_neg (by omega)] at h3; exact h3.symm
    · have hs : isPre 4 (bAt l 1) = false := hs
      simp [isPre] at hs
      rw [if_neg (by decide), if_neg (by omega)] at h3; exact h3.symm
  · exact h3.symm
  · exact h3.symm
theorem PgI.go {p : Nat} {l : List UInt8} (h : PgI p l) (hl : pos p < l.length) (hs : isPre p (bAt l (pos p)) = true) : PgI (nx p (bAt l (pos p))) l ∧ p < nx p (bAt l (pos p)) ∧ prefF (nx p (bAt l (pos p))) = prefF p ++ [l[pos p]] := by
  obtain ⟨h1, h2, h3⟩ := h
  have hb := bAt_get hl
  have : p = 0 ∨ p = 1 ∨ p = 2 ∨ p = 3 ∨ p = 4 ∨ p = 5 ∨ p = 6 := by omega
  rcases this with rfl | rfl | rfl | rfl | rfl | rfl | rfl
  · have e : pos ((0 : Nat) : Int).toNat = 0 := rfl
    have hs : isPre 0 (bAt l 0) = true := hs
    have hl : 0 < l.length := hl
    have hb : bAt l 0 = l[0].toNat := hb
    simp [isPre] at hs
    show PgI (nx 0 (bAt l 0)) l ∧ 0 < nx 0 (bAt l 0) ∧ prefF (nx 0 (bAt l 0)) = prefF 0 ++ [l[0]]
    have key : ∀ (x : UInt8) (q : Nat), bAt l 0 = x.toNat → nx 0 x.toNat = q → prefF q = [x] → 0 < q → q < 7 → q < 5 → (if (q = 3 ∨ q = 4) ∧ 1 < l.length ∧ bAt l 1 = 203 then q + 2 else q) = pgB l → PgI (nx 0 (bAt l 0)) l ∧ 0 < nx 0 (bAt l 0) ∧ prefF (nx 0 (bAt l 0)) = prefF 0 ++ [l[0]] := by
      intro x q e1 e2 e3 e4 e5 e6 e7
      have e8 : l[0] = x := UInt8.toNat_inj.1 (hb.symm.trans e1)
      rw [e1, e2, e8]
      exact ⟨⟨e5, by rw [e3]; exact hl, by rw [if_neg (by omega)]; exact e7⟩, e4, by rw [e3]; rfl⟩
    rcases hs with hs | hs | hs | hs
    · exact key 203 1 hs rfl rfl (by decide) (by decide) (by decide) (by rw [show pgB l = 1 by unfold pgB; rw [if_pos hs]]; rfl)
    · have n1 : ¬ bAt l 0 = 203 := by rw [hs]; decide
      exact key 237 2 hs rfl rfl (by decide) (by decide) (by decide) (by rw [show pgB l = 2 by unfold pgB; rw [if_neg n1, if_pos hs]]; rfl)
    · have n1 : ¬ bAt l 0 = 203 := by rw [hs]; decide
      have n2 : ¬ bAt l 0 = 237 := by rw [hs]; decide
      exact key 221 3 hs rfl rfl (by decide) (by decide) (by decide) (by unfold pgB; rw [if_neg n1, if_neg n2, if_pos hs]; simp)
    · have n1 : ¬ bAt l 0 = 203 := by rw [hs]; decide
      have n2 : ¬ bAt l 0 = 237 := by rw [hs]; decide
      have n3 : ¬ bAt l 0 = 221 := by rw [hs]; decide
      exact key 253 4 hs rfl rfl (by decide) (by decide) (by decide) (by unfold pgB; rw [if_neg n1, if_neg n2, if_neg n3, if_pos hs]; simp)
  · simp [isPre] at hs
  · simp [isPre] at hs
  · have hs : isPre 3 (bAt l 1) = true := hs
    have hl : 1 < l.length := hl
    have hb : bAt l 1 = l[1].toNat := hb
    simp [isPre] at hs
    have e8 : l[1] = 203 := UInt8.toNat_inj.1 (hb.symm.trans hs)
    exact ⟨⟨by show 5 < 7; decide, by show 2 ≤ l.length; omega, by rw [if_neg (by decide), if_pos ⟨.inl rfl, hl, hs⟩] at h3; exact h3⟩, by show 3 < 5; decide, by show prefF 5 = prefF 3 ++ [l[1]]; rw [e8]; rfl⟩
  · have hs : isPre 4 (bAt l 1) = true := hs
    have hl : 1 < l.length := hl
    have hb : bAt l 1 = l[1].toNat := hb
    simp [isPre] at hs
    have e8 : l[1] = 203 := UInt8.toNat_inj.1 (hb.symm.trans hs)
    exact ⟨⟨by show 6 < 7; decide, by show 2 ≤ l.length; omega, by rw [if_neg (by decide), if_pos ⟨.inr rfl, hl, hs⟩] at h3; exact h3⟩, by show 4 < 6; decide, by show prefF 6 = prefF 4 ++ [l[1]]; rw [e8]; rfl⟩
  · simp [isPre] at hs
  · simp [isPre] at hs
theorem pgB_pre {l : List UInt8} : pgB l < 7 ∧ (pos (pgB l) < l.length → isPre (pgB l) (bAt l (pos (pgB l))) = false) := by
  by_cases h1 : bAt l 0 = 203
  · rw [show pgB l = 1 by unfold pgB; rw [if_pos h1]]; exact ⟨by decide, fun _ => by simp [isPre]⟩
  by_cases h2 : bAt l 0 = 237
  · rw [show pgB l = 2 by unfold pgB; rw [if_neg h1, if_pos h2]]; exact ⟨by decide, fun _ => by simp [isPre]⟩
  by_cases h3 : bAt l 0 = 221
  · by_cases h4 : 1 < l.length ∧ bAt l 1 = 203
    · rw [show pgB l = 5 by unfold pgB; rw [if_neg h1, if_neg h2, if_pos h3, if_pos h4]]; exact ⟨by decide, fun _ => by simp [isPre]⟩
    · rw [show pgB l = 3 by unfold pgB; rw [if_neg h1, if_neg h2, if_pos h3, if_neg h4]]
      refine ⟨by decide, fun h => ?_⟩
      have h : 1 < l.length := h
      show isPre 3 (bAt l 1) = false
      simp [isPre]; omega
  by_cases h5 : bAt l 0 = 253
  · by_cases h4 : 1 < l.length ∧ bAt l 1 = 203
    · rw [show pgB l = 6 by unfold pgB; rw [if_neg h1, if_neg h2, if_neg h3, if_pos h5, if_pos h4]]; exact ⟨by decide, fun _ => by simp [isPre]⟩
    · rw [show pgB l = 4 by unfold pgB; rw [if_neg h1, if_neg h2, if_neg h3, if_pos h5, if_neg h4]]
      refine ⟨by decide, fun h => ?_⟩
      have h : 1 < l.length := h
      show isPre 4 (bAt l 1) = false
      simp [isPre]; omega
  · rw [show pgB l = 0 by unfold pgB; rw [if_neg h1, if_neg h2, if_neg h3, if_neg h5]]
    refine ⟨by decide, fun _ => ?_⟩
    show isPre 0 (bAt l 0) = false
    simp [isPre]; omega
/-- a word is an entry's only number -/
def chkX (p x : Nat) : Bool := match (atF p x).1 with
  | some e => (e.ex == [119]) || !(e.ex.contains 119)
  | none => true
theorem ckx : ∀ p : Fin 7, ∀ x : Fin 256, chkX p.val x.val = true := by decide +kernel
theorem at_word {p x : Nat} (hp : p < 7) (hx : x < 256) {e : EntV} (he : (atF p x).1 = some e) : e.ex = [119] ∨ ¬ (119 : UInt8) ∈ e.ex := by
  have := ckx ⟨p, hp⟩ ⟨x, hx⟩
  unfold chkX at this
  dsimp only at this
  rw [he] at this
  rcases Bool.or_eq_true_iff.1 this with h | h
  · exact .inl (eq_of_beq h)
  · exact .inr (by simpa using h)
end Go.Proofs.YtjmekllgnhkodaaGreatDoor
