/-
  PLAIN: where two images differ. Conditions: none.
-/
import Derived.Test.YtcfjcoockklkeaaDoorV31
namespace Go.Proofs.YtcfjcoockklkeaaDoor

/-- the addresses from a on that a test picks -/
def pickN (p : Nat → Bool) : Nat → Nat → List Nat
  | _, 0 => []
  | a, n + 1 => (if p a then [a] else []) ++ pickN p (a + 1) n
theorem pickN_mem {p : Nat → Bool} {x : Nat} : ∀ n a, x ∈ pickN p a n ↔ a ≤ x ∧ x < a + n ∧ p x = true
  | 0, a => by simp [pickN]; omega
  | n + 1, a => by
    rw [pickN, List.mem_append, pickN_mem n (a + 1)]
    constructor
    · rintro (h | ⟨h1, h2, h3⟩)
      · cases e : p a with
        | false => simp [e] at h
        | true =>
          simp [e] at h
          subst h
          exact ⟨Nat.le_refl _, by omega, e⟩
      · exact ⟨by omega, by omega, h3⟩
    · rintro ⟨h1, h2, h3⟩
      by_cases hx : x = a
      · subst hx
        left
        simp [h3]
      · right
        exact ⟨by omega, by omega, h3⟩
theorem pickN_sorted {p : Nat → Bool} : ∀ n a, (pickN p a n).Pairwise (· < ·)
  | 0, _ => List.Pairwise.nil
  | n + 1, a => by
    rw [pickN]
    have h := pickN_sorted (p := p) n (a + 1)
    cases p a with
    | false => exact h
    | true => exact List.Pairwise.cons (fun x hx => by have := (pickN_mem _ _).1 hx; omega) h
theorem pickN_congr {p q : Nat → Bool} : ∀ n a, (∀ x, a ≤ x → x < a + n → p x = q x) → pickN p a n = pickN q a n
  | 0, _, _ => rfl
  | n + 1, a, h => by rw [pickN, pickN, h a (Nat.le_refl _) (by omega), pickN_congr n (a + 1) (fun x h1 h2 => h x (by omega) (by omega))]
theorem pickN_none {p : Nat → Bool} : ∀ n a, (∀ x, a ≤ x → x < a + n → p x = false) → pickN p a n = []
  | 0, _, _ => rfl
  | n + 1, a, h => by rw [pickN, h a (Nat.le_refl _) (by omega), pickN_none n (a + 1) (fun x h1 h2 => h x (by omega) (by omega))]; rfl
theorem pickN_perm {p q r : Nat → Bool} (h : ∀ x, r x = (p x || q x)) (hd : ∀ x, ¬ (p x = true ∧ q x = true)) : ∀ n a, (pickN p a n ++ pickN q a n).Perm (pickN r a n)
  | 0, _ => List.Perm.refl _
  | n + 1, a => by
    have ih := pickN_perm h hd n (a + 1)
    rw [pickN, pickN, pickN, h a]
    have hda := hd a
    cases hp : p a <;> cases hq : q a
    · exact ih
    · show (pickN p (a + 1) n ++ a :: pickN q (a + 1) n).Perm (a :: pickN r (a + 1) n)
      exact List.perm_middle.trans (ih.cons a)
    · show (a :: (pickN p (a + 1) n ++ pickN q (a + 1) n)).Perm (a :: pickN r (a + 1) n)
      exact ih.cons a
    · exact absurd ⟨hp, hq⟩ hda
/-- which cells of one image are told against the other -/
def difT (T : ImgS) (both : Bool) (c : CellV) : Bool := !T.1 c.addr || (both && c.byte != T.2 c.addr)
theorem segC_pick (S : ImgS) (f : CellV → Bool) : ∀ n a, ((segC S.1 S.2 a n).filter f).map (·.addr) = pickN (fun x => S.1 x && f ⟨x, S.2 x⟩) a n
  | 0, _ => rfl
  | n + 1, a => by
    rw [segC, pickN, List.filter_append, List.map_append, segC_pick S f n (a + 1)]
    congr 1
    cases S.1 a with
    | false => rfl
    | true =>
      cases e : f ⟨a, S.2 a⟩ <;> simp [e]
/-- where two images differ -/
def difP (S T : ImgS) (x : Nat) : Bool := (S.1 x || T.1 x) && !(S.1 x && T.1 x && S.2 x == T.2 x)
theorem difP_comm (S T : ImgS) (x : Nat) : difP S T x = difP T S x := by
  unfold difP
  rw [Bool.or_comm, Bool.and_comm (S.1 x) (T.1 x), show (S.2 x == T.2 x) = (T.2 x == S.2 x) from by rw [Bool.eq_iff_iff]; simp only [beq_iff_eq]; exact eq_comm]
def difL (S T : ImgS) : List Nat := pickN (difP S T) 0 65536
/-- what the program collects -/
def difA (S T : ImgS) : List Nat := ((cellsOf S.1 S.2).filter (difT T true)).map (·.addr) ++ ((cellsOf T.1 T.2).filter (difT S false)).map (·.addr)
theorem difA_perm (S T : ImgS) : (difA S T).Perm (difL S T) := by
  unfold difA cellsOf
  rw [segC_pick, segC_pick]
  refine pickN_perm (fun x => ?_) (fun x h => ?_) _ _
  · simp only [difP, difT]
    cases S.1 x <;> cases T.1 x <;> cases h : (S.2 x == T.2 x) <;> simp_all
  · simp only [difT] at h
    cases h1 : S.1 x <;> cases h2 : T.1 x <;> simp_all
theorem sorted_perm {l : List Int} : ∀ {r : List Int}, l.Pairwise (· ≤ ·) → r.Pairwise (· ≤ ·) → l.Perm r → l = r := by
  induction l with
  | nil => intro r _ _ h; exact (List.nil_perm.1 h).symm
  | cons x l ih =>
    intro r h1 h2 h
    cases r with
    | nil => exact absurd (h.length_eq) (by simp)
    | cons y r =>
      have hx : x ∈ y :: r := h.mem_iff.1 (by simp)
      have hy : y ∈ x :: l := h.mem_iff.2 (by simp)
      have e : x = y := by
        rcases List.mem_cons.1 hx with e | hx
        · exact e
        · rcases List.mem_cons.1 hy with e | hy
          · exact e.symm
          · have a1 := (List.pairwise_cons.1 h1).1 y hy
            have a2 := (List.pairwise_cons.1 h2).1 x hx
            omega
      subst e
      rw [ih (List.pairwise_cons.1 h1).2 (List.pairwise_cons.1 h2).2 ((List.perm_cons x).1 h)]
def difI (S T : ImgS) : List Int := (difL S T).map fun n : Nat => (n : Int)
theorem difI_sorted (S T : ImgS) : (difI S T).Pairwise (· ≤ ·) := by
  refine List.Pairwise.map _ (fun a b h => ?_) (pickN_sorted (p := difP S T) 65536 0)
  omega
theorem difA_sort (S T : ImgS) : ((difA S T).map fun n : Nat => (n : Int)).mergeSort (fun x y => decide (x ≤ y)) = difI S T := by
  refine sorted_perm ?_ (difI_sorted S T) ((List.mergeSort_perm _ _).trans ((difA_perm S T).map _))
  have h := List.pairwise_mergeSort (le := fun (x y : Int) => decide (x ≤ y)) (fun a b c h1 h2 => by simp only [decide_eq_true_eq] at *; omega) (fun a b => by simp only [Bool.or_eq_true, decide_eq_true_eq]; omega) ((difA S T).map fun n : Nat => (n : Int))
  exact h.imp (fun h => by simpa using h)
/-- what the reference says -/
def dif05 : List CellV → List CellV → List Nat
  | [], B => B.map (·.addr)
  | x :: A, [] => (x :: A).map (·.addr)
  | x :: A, y :: B => if x.addr < y.addr then x.addr :: dif05 A (y :: B) else if y.addr < x.addr then y.addr :: dif05 (x :: A) B else (if x.byte ≠ y.byte then [x.addr] else []) ++ dif05 A B
termination_by A B => A.length + B.length
theorem dif05_nil (A : List CellV) : dif05 A [] = A.map (·.addr) := by
  cases A <;> rw [dif05] <;> rfl
theorem dif05_left {x : CellV} {A B : List CellV} (h : ∀ y ∈ B, x.addr < y.addr) : dif05 (x :: A) B = x.addr :: dif05 A B := by
  cases B with
  | nil => rw [dif05_nil, dif05_nil]; rfl
  | cons y B => rw [dif05, if_pos (h y (by simp))]
theorem dif05_right {y : CellV} {A B : List CellV} (h : ∀ x ∈ A, y.addr < x.addr) : dif05 A (y :: B) = y.addr :: dif05 A B := by
  cases A with
  | nil => rw [dif05, dif05]; rfl
  | cons x A =>
    have := h x (by simp)
    rw [dif05, if_neg (by omega), if_pos this]
theorem dif05_same {x y : CellV} {A B : List CellV} (h : x.addr = y.addr) : dif05 (x :: A) (y :: B) = (if x.byte ≠ y.byte then [x.addr] else []) ++ dif05 A B := by
  rw [dif05, if_neg (by omega), if_neg (by omega)]
theorem dif05_seg (S T : ImgS) : ∀ n a, dif05 (segC S.1 S.2 a n) (segC T.1 T.2 a n) = pickN (difP S T) a n
  | 0, _ => by rw [segC, segC, dif05]; rfl
  | n + 1, a => by
    have ih := dif05_seg S T n (a + 1)
    rw [segC, segC, pickN, ← ih]
    have hS : ∀ c ∈ segC S.1 S.2 (a + 1) n, a < c.addr := fun c hc => by have := segC_mem _ _ hc; omega
    have hT : ∀ c ∈ segC T.1 T.2 (a + 1) n, a < c.addr := fun c hc => by have := segC_mem _ _ hc; omega
    unfold difP
    cases S.1 a <;> cases T.1 a
    · rfl
    · exact dif05_right (y := ⟨a, T.2 a⟩) hS
    · exact dif05_left (x := ⟨a, S.2 a⟩) hT
    · refine (dif05_same (x := ⟨a, S.2 a⟩) (y := ⟨a, T.2 a⟩) rfl).trans ?_
      by_cases e : S.2 a = T.2 a <;> simp [e]
theorem dif05_of (S T : ImgS) : dif05 (cellsOf S.1 S.2) (cellsOf T.1 T.2) = difL S T := dif05_seg S T 65536 0
theorem difL_comm (S T : ImgS) : difL S T = difL T S := by
  unfold difL
  exact pickN_congr _ _ (fun x _ _ => difP_comm S T x)
theorem difL_nil (S T : ImgS) : difL S T = [] ↔ cellsOf S.1 S.2 = cellsOf T.1 T.2 := by
  constructor
  · intro h
    refine segC_congr _ _ (fun x h1 h2 => ?_)
    have hx : difP S T x = false := by
      cases e : difP S T x with
      | false => rfl
      | true =>
        have : x ∈ difL S T := (pickN_mem _ _).2 ⟨h1, h2, e⟩
        rw [h] at this
        cases this
    unfold difP at hx
    cases h1 : S.1 x <;> cases h2 : T.1 x <;> simp_all
  · intro h
    rw [← dif05_of, h]
    rw [dif05_of]
    refine pickN_none _ _ (fun x _ _ => ?_)
    unfold difP
    cases T.1 x <;> simp
theorem difL_empty (S : ImgS) : (difL S (fun _ => false, fun _ => 0)).length = (cellsOf S.1 S.2).length := by
  rw [← dif05_of]
  have e : cellsOf (fun _ => false) (fun _ => 0) = [] := segC_none _ _ (fun _ _ _ => rfl)
  show (dif05 _ (cellsOf (fun _ => false) (fun _ => 0))).length = _
  rw [e, dif05_nil, List.length_map]
theorem difL_len (S T : ImgS) : (difL S T).length ≤ 65536 := by
  have : ∀ n a, (pickN (difP S T) a n).length ≤ n := by
    intro n
    induction n with
    | zero => intro a; exact Nat.le_refl _
    | succ n ih =>
      intro a
      rw [pickN, List.length_append]
      have := ih (a + 1)
      split <;> simp <;> omega
  exact this _ _
theorem difA_len (S T : ImgS) : (difA S T).length ≤ 65536 := by rw [(difA_perm S T).length_eq]; exact difL_len S T
end Go.Proofs.YtcfjcoockklkeaaDoor
