/-
  PLAIN: all items of some bytes. Conditions: none.
-/
import Derived.Test.YtnbmbcjnncbaiaaGreatDoorD22
import Derived.Test.YtnbmbcjnncbaiaaGreatDoorQD
namespace Go.Proofs.YtnbmbcjnncbaiaaGreatDoor
open Go.RowKit Go.Shelf Go.Sort

theorem itF_ways (l : List UInt8) (_h0 : 0 < l.length) :
    (itF l = ⟨4, l.length, [], [], false⟩ ∧ (l.length ≤ pos (pgB l) ∨ ∃ e, (atF (pgB l) (bAt l (pos (pgB l)))).1 = some e ∧ l.length < sizF e)) ∨
    (pos (pgB l) < l.length ∧ (atF (pgB l) (bAt l (pos (pgB l)))).1 = none ∧ itF l = ⟨2, 1, [], [], false⟩) ∨
    (pos (pgB l) < l.length ∧ pgB l = 2 ∧ (atF (pgB l) (bAt l (pos (pgB l)))).1 = none ∧ itF l = ⟨3, 2, [], [], false⟩) ∨
    (pos (pgB l) < l.length ∧ ∃ e, (atF (pgB l) (bAt l (pos (pgB l)))).1 = some e ∧ sizF e ≤ l.length ∧ itF l = ⟨1, sizF e, (insF e (numB (pgB l) e l).1 (numB (pgB l) e l).2).1, (insF e (numB (pgB l) e l).1 (numB (pgB l) e l).2).2, e.al⟩) := by
  unfold itF itS
  by_cases h : l.length ≤ pos (pgB l)
  · rw [if_pos h]; exact .inl ⟨rfl, .inl h⟩
  rw [if_neg h]
  have h : pos (pgB l) < l.length := by omega
  obtain ⟨h7, hp⟩ := pgB_pre (l := l)
  cases ha : atF (pgB l) (bAt l (pos (pgB l))) with
  | mk o k =>
    cases o with
    | none =>
      rcases at_none h7 (bAt_lt _ _) (hp h) ha with ⟨rfl, _⟩ | ⟨rfl, hq⟩
      · exact .inr (.inl ⟨h, rfl, rfl⟩)
      · exact .inr (.inr (.inl ⟨h, hq, rfl, rfl⟩))
    | some e =>
      dsimp only
      unfold itE
      by_cases hs : l.length < sizF e
      · rw [if_pos hs]; exact .inl ⟨rfl, .inr ⟨e, rfl, hs⟩⟩
      · rw [if_neg hs]; exact .inr (.inr (.inr ⟨h, e, rfl, by omega, rfl⟩))
theorem itF_n (l : List UInt8) (h0 : 0 < l.length) : 1 ≤ (itF l).n ∧ (itF l).n ≤ l.length := by
  rcases itF_ways l h0 with ⟨h, _⟩ | ⟨_, _, h⟩ | ⟨h1, h2, _, h⟩ | ⟨_, e, _, h2, h⟩
  · rw [h]; exact ⟨h0, Nat.le_refl _⟩
  · rw [h]; exact ⟨Nat.le_refl _, h0⟩
  · rw [h]; rw [h2] at h1; have : pos 2 = 1 := rfl; exact ⟨by decide, by show 2 ≤ _; omega⟩
  · rw [h]; exact ⟨by show 1 ≤ sizF e; unfold sizF; omega, h2⟩
theorem itF_raw (l : List UInt8) (h0 : 0 < l.length) : (l.take (itF l).n).length = (itF l).n := by rw [List.length_take]; have := itF_n l h0; omega
def itemsN : Nat → List UInt8 → List It
  | 0, _ => []
  | f + 1, l => if l.length = 0 then [] else (itF l).it l :: itemsN f (l.drop (itF l).n)
/-- all items -/
def itemsF (l : List UInt8) : List It := itemsN l.length l
theorem itemsN_more : ∀ (f g : Nat) (l : List UInt8), l.length ≤ f → l.length ≤ g → itemsN f l = itemsN g l
  | 0, g, l, h, _ => by
    have h : l.length = 0 := by omega
    cases g with
    | zero => rfl
    | succ g => rw [itemsN, itemsN, if_pos h]
  | f + 1, 0, l, _, h => by
    have h : l.length = 0 := by omega
    rw [itemsN, itemsN, if_pos h]
  | f + 1, g + 1, l, h1, h2 => by
    rw [itemsN, itemsN]
    by_cases h : l.length = 0
    · rw [if_pos h, if_pos h]
    · have := itF_n l (by omega)
      rw [if_neg h, if_neg h, itemsN_more f g _ (by rw [List.length_drop]; omega) (by rw [List.length_drop]; omega)]
theorem itemsF_nil {l : List UInt8} (h : l.length = 0) : itemsF l = [] := by unfold itemsF; rw [h]; rfl
theorem itemsF_cons {l : List UInt8} (h : 0 < l.length) : itemsF l = (itF l).it l :: itemsF (l.drop (itF l).n) := by
  unfold itemsF
  have := itF_n l h
  cases hl : l.length with
  | zero => omega
  | succ f => rw [itemsN, if_neg (by omega), itemsN_more f (l.drop (itF l).n).length _ (by rw [List.length_drop]; omega) (Nat.le_refl _)]
theorem items_ind {P : List UInt8 → Prop} (h0 : ∀ l, l.length = 0 → P l) (h1 : ∀ l, 0 < l.length → P (l.drop (itF l).n) → P l) : ∀ l, P l := by
  have : ∀ n (l : List UInt8), l.length ≤ n → P l := by
    intro n
    induction n with
    | zero => intro l h; exact h0 l (by omega)
    | succ n ih =>
      intro l h
      by_cases hl : l.length = 0
      · exact h0 l hl
      · have := itF_n l (by omega)
        exact h1 l (by omega) (ih _ (by rw [List.length_drop]; omega))
  exact fun l => this l.length l (Nat.le_refl _)
theorem itemsF_raw (l : List UInt8) : (itemsF l).flatMap (·.raw) = l := by
  refine items_ind (P := fun l => (itemsF l).flatMap (·.raw) = l) ?_ ?_ l
  · intro l h; rw [itemsF_nil h, List.length_eq_zero_iff.1 h]; rfl
  · intro l h ih
    rw [itemsF_cons h, List.flatMap_cons, ih]
    exact List.take_append_drop _ _
theorem itemsF_len (l : List UInt8) : (itemsF l).length ≤ l.length := by
  refine items_ind (P := fun l => (itemsF l).length ≤ l.length) ?_ ?_ l
  · intro l h; rw [itemsF_nil h]; exact Nat.zero_le _
  · intro l h ih
    have := itF_n l h
    rw [itemsF_cons h, List.length_cons]
    rw [List.length_drop] at ih
    omega
/-- only the last item is cut off -/
theorem itemsF_cut (l : List UInt8) : ∀ (i : Nat) (x : It), (itemsF l)[i]? = some x → x.k = 4 → i + 1 = (itemsF l).length := by
  refine items_ind (P := fun l => ∀ (i : Nat) (x : It), (itemsF l)[i]? = some x → x.k = 4 → i + 1 = (itemsF l).length) ?_ ?_ l
  · intro l h i x hx; rw [itemsF_nil h] at hx; cases hx
  · intro l h ih i x hx hk
    rw [itemsF_cons h] at hx ⊢
    rw [List.length_cons]
    cases i with
    | zero =>
      rw [List.getElem?_cons_zero] at hx
      injection hx with hx
      subst hx
      have h4 := itF_k4 (l := l) hk
      rw [h4, itemsF_nil (by rw [List.length_drop]; show l.length - l.length = 0; omega)]
      rfl
    | succ i =>
      rw [List.getElem?_cons_succ] at hx
      rw [ih i x hx hk]
/-- an item that is whole does not hang on what follows it -/
theorem bAt_app {a b : List UInt8} {k : Nat} (h : k < a.length) : bAt (a ++ b) k = bAt a k := by
  unfold bAt; rw [List.getD_eq_getElem?_getD, List.getD_eq_getElem?_getD, List.getElem?_append_left h]
theorem rdF_same {a c : List UInt8} : ∀ (ex : List UInt8) (k : Nat) (d n : Int), (∀ b ∈ ex, okLet b) → (∀ j, j < k + rdN ex → bAt c j = bAt a j) → rdF ex c k d n = rdF ex a k d n
  | [], _, _, _, _, _ => rfl
  | x :: ex, k, d, n, ho, h => by
    have ho' : ∀ b ∈ ex, okLet b := fun b hb => ho b (List.mem_cons_of_mem _ hb)
    rw [rdN] at h
    unfold rdF
    by_cases h1 : x = 100
    · rw [if_pos h1, if_pos h1, h k (by split <;> omega), rdF_same ex (k + 1) _ _ ho' (fun j hj => h j (by split <;> omega))]
    rw [if_neg h1, if_neg h1]
    by_cases h2 : x = 101
    · rw [if_pos h2, if_pos h2, h k (by split <;> omega), rdF_same ex (k + 1) _ _ ho' (fun j hj => h j (by split <;> omega))]
    rw [if_neg h2, if_neg h2]
    by_cases h3 : x = 110
    · rw [if_pos h3, if_pos h3, h k (by split <;> omega), rdF_same ex (k + 1) _ _ ho' (fun j hj => h j (by split <;> omega))]
    rw [if_neg h3, if_neg h3]
    have h4 : x = 119 := by
      rcases ho x (List.mem_cons_self ..) with e | e | e | e
      · exact absurd e h1
      · exact absurd e h2
      · exact absurd e h3
      · exact e
    rw [if_pos h4] at h
    rw [h k (by omega), h (k + 1) (by omega), rdF_same ex (k + 2) _ _ ho' (fun j hj => h j (by omega))]
theorem numB_same {a c : List UInt8} {p x : Nat} (hp : p < 7) (hx : x < 256) {e : EntV} (he : (atF p x).1 = some e) (h : ∀ j, j < sizF e → bAt c j = bAt a j) : numB p e c = numB p e a := by
  obtain ⟨hw, hpg, _⟩ := entW_at hp hx he
  unfold numB
  refine rdF_same _ _ _ _ hw.lets (fun j hj => h j ?_)
  unfold sizF
  rw [hpg]
  by_cases h5 : 5 ≤ p
  · rw [if_pos h5, hw.hi (by rw [hpg]; omega)] at hj
    have : p = 5 ∨ p = 6 := by omega
    rw [hw.hi (by rw [hpg]; omega)]
    rcases this with e | e <;> subst e
    · show j < 2 + 1 + 1; have hj : j < 2 + 1 := hj; omega
    · show j < 2 + 1 + 1; have hj : j < 2 + 1 := hj; omega
  · rw [if_neg h5] at hj
    unfold pos at hj
    rw [if_neg h5] at hj
    omega
theorem itF_like {a c : List UInt8} (hp : pgB c = pgB a) (hb : ∀ j, j < a.length → bAt c j = bAt a j) (hl : a.length ≤ c.length) (hk : ¬ (itF a).k = 4) : itF c = itF a := by
  obtain ⟨h7, _⟩ := pgB_pre (l := a)
  unfold itF itS at hk ⊢
  rw [hp]
  by_cases h : a.length ≤ pos (pgB a)
  · rw [if_pos h] at hk; exact absurd rfl hk
  rw [if_neg h] at hk ⊢
  rw [if_neg (by omega), hb _ (by omega)]
  cases ha : atF (pgB a) (bAt a (pos (pgB a))) with
  | mk o k =>
    rw [ha] at hk
    cases o with
    | none => rfl
    | some e =>
      dsimp only at hk ⊢
      unfold itE at hk ⊢
      by_cases hs : a.length < sizF e
      · rw [if_pos hs] at hk; exact absurd rfl hk
      · rw [if_neg hs, if_neg (by omega), numB_same h7 (bAt_lt _ _) (by rw [ha]) (fun j hj => hb j (by omega))]
theorem pgB_app {a b : List UInt8} (h : pos (pgB a) < a.length) : pgB (a ++ b) = pgB a := by
  have h0 : 0 < a.length := by omega
  have e0 : bAt (a ++ b) 0 = bAt a 0 := bAt_app h0
  by_cases h2 : 1 < a.length
  · unfold pgB
    rw [e0, bAt_app h2]
    have : 1 < (a ++ b).length := by rw [List.length_append]; omega
    simp only [this, h2, true_and]
  · have h1 : a.length = 1 := by omega
    rw [h1] at h
    have n1 : ¬ bAt a 0 = 221 := fun e => by
      have : pgB a = 3 := by unfold pgB; rw [if_neg (by omega), if_neg (by omega), if_pos e, if_neg (by omega)]
      rw [this] at h; exact absurd h (by decide)
    have n2 : ¬ bAt a 0 = 253 := fun e => by
      have : pgB a = 4 := by unfold pgB; rw [if_neg (by omega), if_neg (by omega), if_neg n1, if_pos e, if_neg (by omega)]
      rw [this] at h; exact absurd h (by decide)
    unfold pgB
    rw [e0]
    simp only [n1, n2, if_false]
theorem itF_pos {a : List UInt8} (hk : ¬ (itF a).k = 4) : pos (pgB a) < a.length := by
  refine Nat.lt_of_not_le (fun h => hk ?_)
  unfold itF itS
  rw [if_pos h]
theorem itF_app {a b : List UInt8} (hk : ¬ (itF a).k = 4) : itF (a ++ b) = itF a :=
  itF_like (pgB_app (itF_pos hk)) (fun _ h => bAt_app h) (by rw [List.length_append]; omega) hk
theorem it_app {a b : List UInt8} (h0 : 0 < a.length) (hk : ¬ (itF a).k = 4) : (itF (a ++ b)).it (a ++ b) = (itF a).it a := by
  rw [itF_app hk]
  unfold Itm.it
  rw [List.take_append_of_le_length (itF_n a h0).2]
theorem items_app (a b : List UInt8) (h : ∀ x ∈ itemsF a, ¬ x.k = 4) : itemsF (a ++ b) = itemsF a ++ itemsF b := by
  revert h
  refine items_ind (P := fun a => (∀ x ∈ itemsF a, ¬ x.k = 4) → itemsF (a ++ b) = itemsF a ++ itemsF b) ?_ ?_ a
  · intro l h _
    rw [List.length_eq_zero_iff.1 h]
    show itemsF b = itemsF [] ++ itemsF b
    rw [itemsF_nil (l := []) rfl]
    rfl
  · intro l h ih hx
    have hk : ¬ (itF l).k = 4 := hx ((itF l).it l) (by rw [itemsF_cons h]; exact List.mem_cons_self ..)
    rw [itemsF_cons h, itemsF_cons (by rw [List.length_append]; omega), it_app h hk, itF_app hk, List.drop_append_of_le_length (itF_n l h).2, ih (fun x hm => hx x (by rw [itemsF_cons h]; exact List.mem_cons_of_mem _ hm))]
    rfl
end Go.Proofs.YtnbmbcjnncbaiaaGreatDoor
