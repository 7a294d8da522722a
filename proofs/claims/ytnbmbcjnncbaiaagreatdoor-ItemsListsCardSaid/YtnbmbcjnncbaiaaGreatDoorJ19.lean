/-
  breadboardref13.Few, Raw, Check; items.Offsets. Conditions: sizes.
-/
import Derived.Test.YtnbmbcjnncbaiaaGreatDoorJ6
namespace Go.Proofs.YtnbmbcjnncbaiaaGreatDoor
open Go.RowKit Go.Shelf Go.Sort

def fewI (x : It) : Bool := decide (x.raw.length ≤ 100) && (decide (x.args.length ≤ 20) && decide ((⟨x.op.toArray⟩ : ByteArray).size ≤ 100))
def fewF (L : List It) : Bool := L.all fewI && decide (L.length ≤ 60)
theorem few_no {L : List It} {k : Nat} (h : k < L.length) (hn : fewI L[k] = false) : fewF L = false := by
  unfold fewF
  rw [Bool.and_eq_false_iff]
  left
  rw [Bool.eq_false_iff]
  intro e
  rw [List.all_eq_true.1 e _ (List.getElem_mem h)] at hn
  cases hn
theorem few_all {L : List It} (h : ∀ j (hj : j < L.length), fewI L[j] = true) : fewF L = decide (L.length ≤ 60) := by
  unfold fewF
  rw [show L.all fewI = true from List.all_eq_true.2 (fun x hx => by obtain ⟨j, hj, e⟩ := List.getElem_of_mem hx; rw [← e]; exact h j hj), Bool.true_and]
theorem fewI_at {L : List It} (h : fewF L = true) : L.length ≤ 60 ∧ ∀ x ∈ L, x.raw.length ≤ 100 := by
  unfold fewF at h
  obtain ⟨h1, h2⟩ := Bool.and_eq_true_iff.1 h
  exact ⟨of_decide_eq_true h2, fun x hx => by
    have := List.all_eq_true.1 h1 x hx
    unfold fewI at this
    exact of_decide_eq_true (Bool.and_eq_true_iff.1 this).1⟩
theorem few_raw : ∀ {L : List It} {n : Nat}, (∀ x ∈ L, x.raw.length ≤ n) → (rawF L).length ≤ n * L.length
  | [], n, _ => by simp [rawF]
  | x :: L, n, h => by
    have ih := few_raw (L := L) (n := n) (fun y hy => h y (List.mem_cons_of_mem _ hy))
    have hx := h x (List.mem_cons_self ..)
    unfold rawF at ih ⊢
    rw [List.flatMap_cons, List.length_append, List.length_cons, Nat.mul_add, Nat.mul_one]
    omega
theorem fewF_raw {L : List It} (h : fewF L = true) : (rawF L).length ≤ 6000 := by
  obtain ⟨h1, h2⟩ := fewI_at h
  have := few_raw h2
  have : 100 * L.length ≤ 6000 := by omega
  omega
set_option maxHeartbeats 4000000 in
set_option maxRecDepth 100000 in
theorem Few_any (p : Blocks) (v : Value) (ls : List It) (w : World) (h : SlR itR w p v ls) :
    Calls Tryz.prog 38 #[v] w fun e w' => e = .returned (.bool (fewF ls)) ∧ w' = w := by
  obtain ⟨a, c, rfl, _, _, g8⟩ := h.it
  have HNO := Lib.hid (fun k h => @few_no ls k h)
  have HAL := Lib.hid (@few_all ls)
  clear h
  generalize fewF ls = R at *
  go_enter Tryz.func38, Tryz.ntmps38
  go_wp2
  go_loopw [3] (fun i wr => ∃ k : Nat, k ≤ ls.length ∧ i = .int .i64 k ∧ wr = w ∧ ∀ j (hj : j < ls.length), j < k → fewI ls[j] = true) (fun i _ => ls.length - (intOf i).toNat)
  case atStart => exact ⟨0, Nat.zero_le _, rfl, rfl, fun j _ h => absurd h (Nat.not_lt_zero _)⟩
  case round =>
    obtain ⟨k, hk, rfl, rfl, hall⟩ := hrel
    have HA := Lib.hid hall
    clear hall
    by_cases hlt : k < ls.length
    · obtain ⟨b1, o1, ra1, rc1, va1, vc1, rfl, _, x0, x1, x2, x3, x4, _, _⟩ := g8 k ls[k] (List.getElem?_eq_getElem hlt)
      have HN := Lib.hid (HNO.out k hlt)
      have HY : Hid (fewI ls[k] = true → ∀ j (hj : j < ls.length), j < k + 1 → fewI ls[j] = true) := Lib.hid (fun h j hj hjk => by
        by_cases e : j = k
        · subst e; exact h
        · exact HA.out j hj (by omega))
      have HF : Hid (fewI ls[k] = (decide (ls[k].raw.length ≤ 100) && (decide (ls[k].args.length ≤ 20) && decide ((⟨ls[k].op.toArray⟩ : ByteArray).size ≤ 100)))) := Lib.hid rfl
      generalize hB : fewI ls[k] = B at *
      clear hB g8
      generalize ls[k] = x at *
      obtain ⟨k9, R1, op, args, al⟩ := x
      dsimp only at x0 x1 x2 x3 x4 HF
      generalize (⟨op.toArray⟩ : ByteArray) = O at *
      by_cases t1 : R1.length ≤ 100
      · by_cases t2 : args.length ≤ 20
        · by_cases t3 : O.size ≤ 100
          · have q1 : ¬ (100 : Int) < (R1.length : Int) := by omega
            have q2 : ¬ (20 : Int) < (args.length : Int) := by omega
            have q3 : ¬ (100 : Int) < (O.size : Int) := by omega
            have HR := Lib.hid (HY.out (by rw [HF.out, decide_eq_true t1, decide_eq_true t2, decide_eq_true t3]; rfl))
            go_wp2
            go_roundw
            case rel => exact ⟨k + 1, by omega, by go_num, by first | rfl | trivial, HR.out⟩
            case measure => simp [intOf]; omega
          · have q1 : ¬ (100 : Int) < (R1.length : Int) := by omega
            have q2 : ¬ (20 : Int) < (args.length : Int) := by omega
            have q3 : (100 : Int) < (O.size : Int) := by omega
            have HR := Lib.hid (HN.out (by rw [HF.out, decide_eq_false t3]; simp))
            go_wp2
            go_ret
            exact ⟨ret_bool HR.out.symm, rfl⟩
        · have q1 : ¬ (100 : Int) < (R1.length : Int) := by omega
          have q2 : (20 : Int) < (args.length : Int) := by omega
          have HR := Lib.hid (HN.out (by rw [HF.out, decide_eq_false t2]; simp))
          go_wp2
          go_ret
          exact ⟨ret_bool HR.out.symm, rfl⟩
      · have q1 : (100 : Int) < (R1.length : Int) := by omega
        have HR := Lib.hid (HN.out (by rw [HF.out, decide_eq_false t1]; simp))
        go_wp2
        go_ret
        exact ⟨ret_bool HR.out.symm, rfl⟩
    · have HR := Lib.hid (HAL.out (fun j hj => HA.out j hj (by omega)))
      by_cases t : ls.length ≤ 60
      · have t' : (ls.length : Int) ≤ 60 := by omega
        have HR2 : Hid (R = true) := Lib.hid (by rw [HR.out, decide_eq_true t])
        go_wp2
        go_ret
        exact ⟨ret_bool HR2.out.symm, rfl⟩
      · have t' : ¬ (ls.length : Int) ≤ 60 := by omega
        have HR2 : Hid (R = false) := Lib.hid (by rw [HR.out, decide_eq_false t])
        go_wp2
        go_ret
        exact ⟨ret_bool HR2.out.symm, rfl⟩
end Go.Proofs.YtnbmbcjnncbaiaaGreatDoor
