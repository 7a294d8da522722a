/-
  PLAIN: as many bytes as Need says. Conditions: none.
-/
import Derived.Test.YtnbmbcjnncbaiaaGreatDoorD20
import Derived.Test.YtnbmbcjnncbaiaaGreatDoorJ1
namespace Go.Proofs.YtnbmbcjnncbaiaaGreatDoor
open Go.RowKit Go.Shelf Go.Sort

def chkZ (p x : Nat) : Bool := match (atF p x).1 with
  | some e => decide (sizF e ≤ 4)
  | none => true
theorem ckz : ∀ p : Fin 7, ∀ x : Fin 256, chkZ p.val x.val = true := by decide +kernel
theorem siz4 {p x : Nat} (hp : p < 7) (hx : x < 256) {e : EntV} (he : (atF p x).1 = some e) : sizF e ≤ 4 := by
  have h := ckz ⟨p, hp⟩ ⟨x, hx⟩
  unfold chkZ at h
  dsimp only at h
  rw [he] at h
  exact of_decide_eq_true h
def chkOZ (p : Nat) : Bool := match (atF p 0).1 with
  | some e => decide (sizF e ≤ pos p + 1)
  | none => true
theorem ckoZ : ∀ p : Fin 7, chkOZ p.val = true := by decide +kernel
/-- the bytes, and no more than four noughts -/
def padF (l : List UInt8) (m : Nat) : List UInt8 := (l ++ [0, 0, 0, 0]).take m
theorem padF_at {l : List UInt8} {m : Nat} (h : l.length ≤ m) (k : Nat) : bAt (padF l m) k = bAt l k := by
  unfold bAt padF
  rw [List.getD_eq_getElem?_getD, List.getD_eq_getElem?_getD, List.getElem?_take]
  by_cases hk : k < l.length
  · rw [if_pos (by omega), List.getElem?_append_left hk]
  · have h2 : l[k]? = none := List.getElem?_eq_none (by omega)
    rw [h2]
    split
    · rw [List.getElem?_append_right (by omega), show ([0, 0, 0, 0] : List UInt8) = List.replicate 4 0 from rfl, List.getElem?_replicate]
      split <;> rfl
    · rfl
theorem padF_len {l : List UInt8} {m : Nat} (h : m ≤ l.length + 4) : (padF l m).length = m := by
  unfold padF; rw [List.length_take, List.length_append]; show min m (l.length + 4) = m; omega
theorem pgB_pad {l : List UInt8} {m : Nat} (h : l.length ≤ m) (h2 : m ≤ l.length + 4) : pgB (padF l m) = pgB l := by
  have key : (1 < (padF l m).length ∧ bAt l 1 = 203) = (1 < l.length ∧ bAt l 1 = 203) := by
    rw [padF_len h2]
    refine propext ⟨fun ⟨_, h4⟩ => ⟨?_, h4⟩, fun ⟨h3, h4⟩ => ⟨by omega, h4⟩⟩
    refine Nat.lt_of_not_le (fun h5 => ?_)
    rw [show bAt l 1 = 0 by unfold bAt; rw [List.getD_eq_getElem?_getD, List.getElem?_eq_none h5]; rfl] at h4
    exact absurd h4 (by decide)
  unfold pgB
  rw [padF_at h, padF_at h]
  simp only [key]
theorem need_le (l : List UInt8) (h0 : 0 < l.length) : 1 ≤ needF l ∧ needF l ≤ 4 := by
  obtain ⟨h7, _⟩ := pgB_pre (l := l)
  have hq : pos (pgB l) ≤ 3 := by
    rcases pos_pre h7 with ⟨_, h⟩ | ⟨h1, h⟩ <;> omega
  unfold needF
  rcases itF_ways l h0 with ⟨h, hc⟩ | ⟨_, _, h⟩ | ⟨h1, h2, _, h⟩ | ⟨_, e, he, h2, h⟩
  · rw [if_pos (by rw [h])]
    rcases hc with hc | ⟨e, he, hs⟩
    · rw [if_pos hc]; omega
    · split
      · omega
      · rw [he]; exact ⟨by show 1 ≤ sizF e; unfold sizF; omega, siz4 h7 (bAt_lt _ _) he⟩
  · rw [if_neg (by rw [h]; show ¬ (2 : Int) = 4; decide), itF_raw l h0, h]; exact ⟨by decide, by decide⟩
  · rw [if_neg (by rw [h]; show ¬ (3 : Int) = 4; decide), itF_raw l h0, h]; exact ⟨by decide, by decide⟩
  · rw [if_neg (by rw [h]; show ¬ (1 : Int) = 4; decide), itF_raw l h0, h]; exact ⟨by show 1 ≤ sizF e; unfold sizF; omega, siz4 h7 (bAt_lt _ _) he⟩
theorem need_iff (l : List UInt8) (h0 : 0 < l.length) : needF l ≤ l.length ↔ ¬ (itF l).k = 4 := by
  unfold needF
  rcases itF_ways l h0 with ⟨h, hc⟩ | ⟨_, _, h⟩ | ⟨h1, h2, _, h⟩ | ⟨_, e, he, h2, h⟩
  · rw [if_pos (by rw [h])]
    refine ⟨fun hn => ?_, fun hn => absurd (by rw [h]) hn⟩
    rcases hc with hc | ⟨e, he, hs⟩
    · rw [if_pos hc] at hn; omega
    · split at hn
      · omega
      · rw [he] at hn; have hn : sizF e ≤ l.length := hn; omega
  all_goals
    have hk : ¬ (itF l).k = 4 := by rw [h]; first | (show ¬ (2 : Int) = 4; decide) | (show ¬ (3 : Int) = 4; decide) | (show ¬ (1 : Int) = 4; decide)
    rw [if_neg hk]
    exact ⟨fun _ => hk, fun _ => by rw [List.length_take]; omega⟩
/-- with noughts up to as many bytes, an item is whole -/
theorem needs_law (l : List UInt8) (h0 : 0 < l.length) : ¬ (itF (padF l (max (needF l) l.length))).k = 4 := by
  obtain ⟨h7, _⟩ := pgB_pre (l := l)
  have hn := need_le l h0
  have hi := need_iff l h0
  by_cases hk : (itF l).k = 4
  · have hm : max (needF l) l.length = needF l := by
      have : ¬ needF l ≤ l.length := fun h => (hi.1 h) hk
      omega
    rw [hm]
    have hlm : l.length ≤ needF l := by omega
    have hl := padF_len (l := l) (m := needF l) (by omega)
    have hp := pgB_pad (l := l) (m := needF l) hlm (by omega)
    have hneed : needF l = if l.length ≤ pos (pgB l) then pos (pgB l) + 1 else match (atF (pgB l) (bAt l (pos (pgB l)))).1 with | some e => sizF e | none => 0 := by unfold needF; rw [if_pos hk]; rfl
    unfold itF itS
    rw [hp, padF_at hlm, hl]
    by_cases hpos : l.length ≤ pos (pgB l)
    · rw [if_pos hpos] at hneed
      rw [if_neg (by omega)]
      have hz : bAt l (pos (pgB l)) = 0 := by unfold bAt; rw [List.getD_eq_getElem?_getD, List.getElem?_eq_none hpos]; rfl
      rw [hz]
      have hc := ckoZ ⟨pgB l, h7⟩
      unfold chkOZ at hc
      dsimp only at hc
      cases ha : atF (pgB l) 0 with
      | mk o k =>
        rw [ha] at hc
        cases o with
        | none =>
          dsimp only
          split
          · show ¬ (2 : Int) = 4; decide
          · show ¬ (3 : Int) = 4; decide
        | some e =>
          have hc : sizF e ≤ pos (pgB l) + 1 := of_decide_eq_true hc
          dsimp only
          unfold itE
          rw [hl, if_neg (by omega)]
          show ¬ (1 : Int) = 4; decide
    · rw [if_neg hpos] at hneed
      cases ha : atF (pgB l) (bAt l (pos (pgB l))) with
      | mk o k =>
        rw [ha] at hneed
        cases o with
        | none => exact absurd hn.1 (by rw [hneed]; show ¬ 1 ≤ 0; decide)
        | some e =>
          have hneed : needF l = sizF e := hneed
          rw [if_neg (by omega)]
          dsimp only
          unfold itE
          rw [hl, if_neg (by omega)]
          show ¬ (1 : Int) = 4; decide
  · have hm : max (needF l) l.length = l.length := by
      have : needF l ≤ l.length := hi.2 hk
      omega
    rw [hm]
    have hpl : padF l l.length = l := by unfold padF; rw [List.take_append_of_le_length (Nat.le_refl _), List.take_length]
    rw [hpl]
    exact hk
end Go.Proofs.YtnbmbcjnncbaiaaGreatDoor
