/-
  PLAIN: how many ways there are to divide bytes into encodings. Conditions: none.
-/
import Derived.Test.YtnbmbcjnncbaiaaGreatDoorD24
namespace Go.Proofs.YtnbmbcjnncbaiaaGreatDoor
open Go.RowKit Go.Shelf Go.Sort

/-- an encoding that no alias has made -/
def okI (x : It) : Bool := decide (x.k = 1) && !x.al
/-- how many ways there are -/
def waysF (l : List UInt8) : Nat := if (itemsF l).all okI then 1 else 0
theorem itF_take {l : List UInt8} (h0 : 0 < l.length) (hk : (itF l).k = 1) : itF (l.take (itF l).n) = itF l := by
  obtain ⟨h7, _⟩ := pgB_pre (l := l)
  rcases itF_ways l h0 with ⟨h, _⟩ | ⟨_, _, h⟩ | ⟨_, _, _, h⟩ | ⟨hp, e, he, hs, h⟩
  · rw [h] at hk; exact absurd hk (by show ¬ (4 : Int) = 1; decide)
  · rw [h] at hk; exact absurd hk (by show ¬ (2 : Int) = 1; decide)
  · rw [h] at hk; exact absurd hk (by show ¬ (3 : Int) = 1; decide)
  have hn : (itF l).n = sizF e := by rw [h]
  obtain ⟨hw, hpg, _⟩ := entW_at h7 (bAt_lt _ _) he
  have hsp : pos (pgB l) < sizF e := by
    unfold sizF; rw [hpg]
    unfold pos
    split
    · rename_i h5
      rw [hw.hi (by rw [hpg]; omega)]
      show _ < _ + 1 + 1
      omega
    · omega
  rw [hn]
  have hlen : (l.take (sizF e)).length = sizF e := by rw [List.length_take]; omega
  have hb : ∀ j, j < sizF e → bAt (l.take (sizF e)) j = bAt l j := fun j hj => by
    unfold bAt; rw [List.getD_eq_getElem?_getD, List.getD_eq_getElem?_getD, List.getElem?_take_of_lt hj]
  have hpp : pgB (l.take (sizF e)) = pgB l := by
    have e0 := hb 0 (by omega)
    by_cases h2 : 1 < sizF e
    · have e1 := hb 1 h2
      unfold pgB
      rw [e0, e1, hlen]
      have : 1 < l.length := by omega
      simp only [h2, this, true_and]
    · have h1 : sizF e = 1 := by omega
      have hz : pgB l = 0 := by
        have hp0 : pos (pgB l) = 0 := by omega
        have : pgB l = 0 ∨ pgB l = 1 ∨ pgB l = 2 ∨ pgB l = 3 ∨ pgB l = 4 ∨ pgB l = 5 ∨ pgB l = 6 := by omega
        rcases this with e | e | e | e | e | e | e
        · exact e
        all_goals (rw [e] at hp0; exact absurd hp0 (by decide))
      have n1 : ¬ bAt l 0 = 203 := fun e => by unfold pgB at hz; rw [if_pos e] at hz; exact absurd hz (by decide)
      have n2 : ¬ bAt l 0 = 237 := fun e => by unfold pgB at hz; rw [if_neg n1, if_pos e] at hz; exact absurd hz (by decide)
      have n3 : ¬ bAt l 0 = 221 := fun e => by unfold pgB at hz; rw [if_neg n1, if_neg n2, if_pos e] at hz; split at hz <;> exact absurd hz (by decide)
      have n4 : ¬ bAt l 0 = 253 := fun e => by unfold pgB at hz; rw [if_neg n1, if_neg n2, if_neg n3, if_pos e] at hz; split at hz <;> exact absurd hz (by decide)
      rw [hz]
      unfold pgB
      rw [e0, if_neg n1, if_neg n2, if_neg n3, if_neg n4]
  rw [h]
  unfold itF itS
  rw [hpp, hlen, if_neg (by omega), hb _ hsp]
  cases ha : atF (pgB l) (bAt l (pos (pgB l))) with
  | mk o k =>
    rw [ha] at he
    have he : o = some e := he
    subst he
    dsimp only
    unfold itE
    rw [hlen, if_neg (Nat.lt_irrefl _), numB_same h7 (bAt_lt _ _) (e := e) (by rw [ha]) hb]
/-- the way of a first encoding of n bytes -/
def wayB (l : List UInt8) (n : Nat) : Bool := decide ((itF (l.take n)).k = 1) && (!(itF (l.take n)).al && decide ((itF (l.take n)).n = n))
theorem wayB_iff (l : List UInt8) (n : Nat) (h1 : 1 ≤ n) (h2 : n ≤ l.length) : wayB l n = (okI ((itF l).it l) && decide (n = (itF l).n)) := by
  have h0 : 0 < l.length := by omega
  have hlt : (l.take n).length = n := by rw [List.length_take]; omega
  unfold wayB okI
  show _ = (decide ((itF l).k = 1) && !(itF l).al && decide (n = (itF l).n))
  by_cases hk : (itF (l.take n)).k = 1
  · have e := itF_app (a := l.take n) (b := l.drop n) (by rw [hk]; decide)
    rw [List.take_append_drop] at e
    rw [← e] at hk ⊢
    simp [hk, eq_comm]
  · have : ¬ ((itF l).k = 1 ∧ n = (itF l).n) := fun ⟨g1, g2⟩ => hk (by rw [g2, itF_take h0 g1]; exact g1)
    rw [decide_eq_false hk]
    by_cases g1 : (itF l).k = 1
    · have g2 : ¬ n = (itF l).n := fun g => this ⟨g1, g⟩
      simp [g2]
    · simp [g1]
theorem itF_four {l : List UInt8} (h0 : 0 < l.length) (hk : ¬ (itF l).k = 4) : (itF l).n ≤ 4 := by
  have := need_le l h0
  unfold needF at this
  rw [if_neg hk, itF_raw l h0] at this
  exact this.2
theorem waysF_nil : waysF [] = 1 := rfl
theorem waysF_cons {l : List UInt8} (h0 : 0 < l.length) : waysF l = if okI ((itF l).it l) then waysF (l.drop (itF l).n) else 0 := by
  unfold waysF
  rw [itemsF_cons h0, List.all_cons]
  cases okI ((itF l).it l) <;> simp
end Go.Proofs.YtnbmbcjnncbaiaaGreatDoor
