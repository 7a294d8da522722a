/-
  PLAIN: the lines of a text in another order, as they may be written. Conditions: none.
-/
import Derived.Test.YtcfjcoockklkeaaGreatDoorV21
namespace Go.Proofs.YtcfjcoockklkeaaGreatDoor

def tailL : List UInt8 := [13, 10, 32, 9]
def flagF (k i : Nat) : Bool := (i + k) % 3 == 0
def chunkL (q : Bool) (x : List UInt8) : List UInt8 := if q then x.map lowU ++ tailL else x
theorem splitNL_app : ∀ (a b : List UInt8), splitNL (a ++ 10 :: b) = splitNL a ++ splitNL b
  | [], b => by
    show splitNL (10 :: b) = [] :: splitNL b
    rw [splitNL, if_pos rfl]
  | c :: a, b => by
    show splitNL (c :: (a ++ 10 :: b)) = _
    rw [splitNL, splitNL, splitNL_app a b]
    split
    · rfl
    · have h := splitNL_ne a
      generalize splitNL a = L at *
      cases L with
      | nil => exact absurd rfl h
      | cons x L => rfl
theorem join_two (a b : List UInt8) (r : List (List UInt8)) : Lib.join (a :: b :: r) [10] = a ++ 10 :: Lib.join (b :: r) [10] := by
  simp [Lib.join, List.intercalate]
theorem join_one (a : List UInt8) : Lib.join [a] [10] = a := by
  simp [Lib.join, List.intercalate]
theorem splitNL_inter : ∀ (a : List UInt8) (L : List (List UInt8)), splitNL (Lib.join (a :: L) [10]) = (a :: L).flatMap splitNL
  | a, [] => by rw [join_one]; simp
  | a, b :: L => by
    rw [join_two, splitNL_app, splitNL_inter b L]; rfl
theorem lowU_no10 {c : UInt8} (h : c ≠ 10) : lowU c ≠ 10 := by
  unfold lowU
  split
  · rename_i h2
    intro e
    have := congrArg UInt8.toNat e
    rw [UInt8.toNat_add] at this
    have h3 : ((32 : UInt8).toNat) = 32 := rfl
    have h4 : ((10 : UInt8).toNat) = 10 := rfl
    omega
  · exact h
theorem splitNL_chunk (q : Bool) (x : List UInt8) (h : ∀ c ∈ x, c ≠ 10) : splitNL (chunkL q x) = mess q x := by
  cases q with
  | false => exact splitNL_last x h
  | true =>
    show splitNL (x.map lowU ++ tailL) = _
    rw [show x.map lowU ++ tailL = (x.map lowU ++ [13]) ++ 10 :: [32, 9] by simp [tailL], splitNL_app]
    rw [splitNL_last (x.map lowU ++ [13]) (fun c hc => by
      rcases List.mem_append.1 hc with hc | hc
      · obtain ⟨d, hd, rfl⟩ := List.mem_map.1 hc
        exact lowU_no10 (h d hd)
      · simp at hc; subst hc; decide)]
    rfl
def messF (k : Nat) : Nat → List (List UInt8) → List (List UInt8)
  | _, [] => []
  | i, x :: r => chunkL (flagF k i) x :: messF k (i + 1) r
def zipF (k : Nat) : Nat → List (Nat × List UInt8) → List (Bool × (Nat × List UInt8))
  | _, [] => []
  | i, x :: r => (flagF k i, x) :: zipF k (i + 1) r
theorem zipF_snd (k : Nat) : ∀ (rs : List (Nat × List UInt8)) (i : Nat), (zipF k i rs).map Prod.snd = rs
  | [], _ => rfl
  | x :: r, i => by rw [zipF, List.map_cons, zipF_snd k r (i + 1)]
theorem messF_recs (k : Nat) (M : List (List UInt8)) : ∀ (rs : List (Nat × List UInt8)) (i : Nat), (∀ r ∈ rs, ∀ c ∈ recLine 0 r.1 r.2, c ≠ 10) →
    (messF k i (rs.map (fun r => recLine 0 r.1 r.2) ++ M)).flatMap splitNL = ((zipF k i rs).flatMap fun x => mess x.1 (recLine 0 x.2.1 x.2.2)) ++ (messF k (i + rs.length) M).flatMap splitNL
  | [], i, _ => by simp [zipF]
  | x :: r, i, h => by
    rw [List.map_cons, List.cons_append, messF, zipF, List.flatMap_cons, List.flatMap_cons, splitNL_chunk _ _ (h x (by simp)), messF_recs k M r (i + 1) (fun y hy => h y (by simp [hy])), List.length_cons, List.append_assoc, show i + 1 + r.length = i + (r.length + 1) by omega]
theorem messF_len (k : Nat) : ∀ (L : List (List UInt8)) (i : Nat), (messF k i L).length = L.length
  | [], _ => rfl
  | x :: r, i => by rw [messF, List.length_cons, List.length_cons, messF_len k r (i + 1)]
theorem messF_get (k : Nat) : ∀ (L : List (List UInt8)) (i j : Nat), (messF k i L)[j]? = (L[j]?).map (chunkL (flagF k (i + j)))
  | [], _, _ => by simp [messF]
  | x :: r, i, 0 => rfl
  | x :: r, i, j + 1 => by
    rw [messF, List.getElem?_cons_succ, List.getElem?_cons_succ, messF_get k r (i + 1) j, show i + 1 + j = i + (j + 1) by omega]
/-- the lines with their records turned round -/
def turned (S : ImgS) : List (List UInt8) := (recs 16 (runsOf S.1 S.2)).reverse.map (fun r => recLine 0 r.1 r.2) ++ [endLine, []]
theorem order_read (S : ImgS) (k : Nat) : ∃ T : ImgS, readH (Lib.join (messF k 0 (turned S)) [10]) = ((0, 0), (T, true)) ∧ cellsOf T.1 T.2 = cellsOf S.1 S.2 := by
  have hl := linesOf_no10 16 (runsOf S.1 S.2)
  have hr : ∀ r ∈ (recs 16 (runsOf S.1 S.2)).reverse, ∀ c ∈ recLine 0 r.1 r.2, c ≠ 10 := fun r hr => hl _ (List.mem_append.2 (.inl (List.mem_map.2 ⟨r, List.mem_reverse.1 hr, rfl⟩)))
  have he : ∀ c ∈ endLine, c ≠ 10 := hl _ (List.mem_append.2 (.inr (by simp)))
  unfold readH
  obtain ⟨a, L, ha⟩ : ∃ a L, messF k 0 (turned S) = a :: L := by
    have h := messF_len k (turned S) 0
    cases hm : messF k 0 (turned S) with
    | nil => rw [hm] at h; simp [turned] at h
    | cons a L => exact ⟨a, L, rfl⟩
  rw [ha, splitNL_inter, ← ha]
  unfold turned
  rw [messF_recs k _ _ 0 hr]
  have hz := read_messed S.1 S.2 (show 0 < 16 by omega) (by omega) (zipF k 0 (recs 16 (runsOf S.1 S.2)).reverse) (by rw [zipF_snd]; exact List.reverse_perm _) (flagF k (0 + (recs 16 (runsOf S.1 S.2)).reverse.length)) (flagF k (0 + (recs 16 (runsOf S.1 S.2)).reverse.length + 1)) 0
  have hm : (messF k (0 + (recs 16 (runsOf S.1 S.2)).reverse.length) [endLine, []]).flatMap splitNL = mess (flagF k (0 + (recs 16 (runsOf S.1 S.2)).reverse.length)) endLine ++ mess (flagF k (0 + (recs 16 (runsOf S.1 S.2)).reverse.length + 1)) [] := by
    rw [messF, messF, messF, List.flatMap_cons, List.flatMap_cons, splitNL_chunk _ _ he, splitNL_chunk _ [] (fun c hc => by cases hc)]
    simp
  rw [hm, ← List.append_assoc]
  exact hz
def tot (L : List (List UInt8)) : Nat := (L.map fun x => x.length + 1).sum
theorem tot_cons (x : List UInt8) (L : List (List UInt8)) : tot (x :: L) = x.length + 1 + tot L := by unfold tot; rw [List.map_cons, List.sum_cons]
theorem tot_app (L M : List (List UInt8)) : tot (L ++ M) = tot L + tot M := by unfold tot; rw [List.map_append, List.sum_append]
theorem tot_rev : ∀ L : List (List UInt8), tot L.reverse = tot L
  | [] => rfl
  | x :: L => by rw [List.reverse_cons, tot_app, tot_rev L, tot_cons, tot_cons]; show _ + (x.length + 1 + 0) = _; omega
theorem join_tot : ∀ (a : List UInt8) (L : List (List UInt8)), (Lib.join (a :: L) [10]).length ≤ tot (a :: L)
  | a, [] => by rw [join_one, tot_cons]; omega
  | a, b :: L => by
    have h := join_tot b L
    rw [join_two, tot_cons, List.length_append, List.length_cons]
    omega
theorem messF_tot (k : Nat) : ∀ (L : List (List UInt8)) (i : Nat), tot (messF k i L) ≤ 5 * tot L
  | [], _ => Nat.zero_le _
  | x :: r, i => by
    have h := messF_tot k r (i + 1)
    rw [messF, tot_cons, tot_cons]
    have h2 : (chunkL (flagF k i) x).length ≤ x.length + 4 := by
      unfold chunkL
      split
      · rw [List.length_append, List.length_map]; exact Nat.le_refl _
      · omega
    omega
theorem joinL_tot : ∀ L : List (List UInt8), (joinL L).length = tot L
  | [] => rfl
  | x :: L => by rw [joinL_cons, List.length_append, List.length_cons, tot_cons, joinL_tot L]; omega
theorem turned_tot (S : ImgS) : tot (turned S) = (textOf 16 (runsOf S.1 S.2)).length + 1 := by
  have h : (textOf 16 (runsOf S.1 S.2)).length = tot (linesOf 16 (runsOf S.1 S.2)) := joinL_tot _
  rw [h]
  unfold turned linesOf
  rw [List.map_reverse, tot_app, tot_rev, tot_app, tot_cons, tot_cons, tot_cons]
  show _ + (_ + (0 + 1 + 0)) = _ + (_ + 0) + 1
  omega
theorem textOf_len40 (R : List (Nat × List UInt8)) (hS : Sep 0 R) : (textOf 16 R).length ≤ 40000000 := by
  have hsum : ∀ L : List (Nat × List UInt8), (∀ y ∈ L, y.2.length ≤ 255) → (txtP L).length ≤ 600 * L.length := by
    intro L
    induction L with
    | nil => intro _; exact Nat.zero_le _
    | cons y L ih =>
      intro h
      have h1 := ih (fun z hz => h z (by simp [hz]))
      have h2 := h y (by simp)
      have : txtP (y :: L) = recLine 0 y.1 y.2 ++ [10] ++ txtP L := by simp [txtP, joinL]
      rw [this, List.length_append, List.length_append, recLine_len, List.length_cons]
      simp only [List.length_cons, List.length_nil]
      omega
  have hcnt : (recs 16 R).length ≤ 65536 := by
    rcases recs_count (n := 16) (by omega) hS with h | h
    · rw [h]; simp [recs]
    · omega
  have h1 := hsum (recs 16 R) (fun y hy => by have := (recs_mem (n := 16) (by omega) hS y hy).2.1; omega)
  rw [textOf_is, List.length_append]
  have h2 : (endLine ++ [10]).length = 12 := rfl
  omega
theorem order_size (S : ImgS) (k : Nat) : (Lib.join (messF k 0 (turned S)) [10]).length ≤ 300000000 := by
  have h1 := turned_tot S
  have h2 := textOf_len40 (runsOf S.1 S.2) (runs_sep _ _)
  have h3 := messF_tot k (turned S) 0
  cases hm : messF k 0 (turned S) with
  | nil => exact Nat.zero_le _
  | cons a L =>
    have h4 := join_tot a L
    rw [← hm] at h4 ⊢
    omega
theorem turned_len (S : ImgS) : (turned S).length = (recs 16 (runsOf S.1 S.2)).length + 2 := by
  unfold turned
  rw [List.length_append, List.length_map, List.length_reverse]; rfl
theorem turned_of {L : List (List UInt8)} {S : ImgS} (h : L = linesOf 16 (runsOf S.1 S.2) ++ [[]]) : (L.take (recs 16 (runsOf S.1 S.2)).length).reverse ++ L.drop (recs 16 (runsOf S.1 S.2)).length = turned S := by
  subst h
  unfold linesOf turned
  rw [List.append_assoc, List.take_left' (by simp), List.drop_left' (by simp), List.map_reverse]
  rfl
theorem lowerA_eq (l : List UInt8) : Lib.toLowerA l = l.map lowU := by
  unfold Lib.toLowerA
  apply List.map_congr_left
  intro c _
  unfold Lib.lowerB lowU Lib.isUpperB
  have e1 : (65 ≤ c) ↔ 65 ≤ c.toNat := UInt8.le_iff_toNat_le
  have e2 : (c ≤ 90) ↔ c.toNat ≤ 90 := UInt8.le_iff_toNat_le
  by_cases h : 65 ≤ c.toNat ∧ c.toNat ≤ 90
  · rw [if_pos h, if_pos (by simp only [Bool.and_eq_true, decide_eq_true_eq, e1, e2]; exact h)]
  · rw [if_neg h, if_neg (by simp only [Bool.and_eq_true, decide_eq_true_eq, e1, e2]; exact h)]
end Go.Proofs.YtcfjcoockklkeaaGreatDoor
