/-
  The reference's At, whole: it hands back what the program's At does. Conditions: the opcode is a byte.
-/
import Derived.Test.YtlepicdjnbbndaaGreatDoorS14
namespace Go.Proofs.YtlepicdjnbbndaaGreatDoor
open Go.RowKit Go.Shelf Go.Sort

theorem bytes_nil {s : ByteArray} : s.data.toList = [] ↔ s = ⟨#[]⟩ := by
  obtain ⟨⟨l⟩⟩ := s
  simp
theorem atP_no {w : World} {k : Int} {e : Ending} {w' : World} (h : e = .returned (.tuple #[ent9, .int .i64 k]) ∧ Below w.heap.size w w') : AtP w none k e w' := ⟨h.1, h.2⟩
theorem atP_yes {w : World} {pg : Int} {op : Nat} {s ex : ByteArray} {l : List Opd} {al : Bool} {e : Ending} {w' : World}
    (h : ∃ v, e = .returned (.tuple #[.agg #[.int .i64 pg, .int .u8 op, .string s, v, .string ex, .bool al], .int .i64 1]) ∧ OpdOwn w' (fun b => w.heap.size ≤ b) v l ∧ Below w.heap.size w w') : AtP w (some ⟨pg, op, s.data.toList, l, ex.data.toList, al⟩) 1 e w' := by
  obtain ⟨v, h1, h2, h3⟩ := h
  refine ⟨⟨v, ?_, h2⟩, h3⟩
  rw [h1]
  rfl
theorem opt9_calls {pg k : Int} {op : Nat} {s ex : ByteArray} {l : List Opd} {al : Bool} {w : World} {args : Array Value}
    (hno : s = ⟨#[]⟩ → Calls Tryz.prog 17 args w fun e w' => e = .returned (.tuple #[ent9, .int .i64 k]) ∧ Below w.heap.size w w')
    (hyes : ¬ s = ⟨#[]⟩ → Calls Tryz.prog 17 args w fun e w' => ∃ v, e = .returned (.tuple #[.agg #[.int .i64 pg, .int .u8 op, .string s, v, .string ex, .bool al], .int .i64 1]) ∧ OpdOwn w' (fun b => w.heap.size ≤ b) v l ∧ Below w.heap.size w w') :
    Calls Tryz.prog 17 args w (AtP w (opt9 pg op k s l ex al).1 (opt9 pg op k s l ex al).2) := by
  unfold opt9
  by_cases hs : s.data.toList = []
  · rw [if_pos hs]
    exact (hno (bytes_nil.1 hs)).mono fun _ _ h => atP_no h
  · rw [if_neg hs]
    exact (hyes (fun e => hs (bytes_nil.2 e))).mono fun _ _ h => atP_yes h
theorem cb_name : ∀ x : Fin 256, decide ((cbF x.val (rF ((x.val : Int) % 8))).1.data.toList = []) = false := by decide +kernel
theorem AtRef_any (page : Int) (op : Nat) (hop : op < 256) (w : World) : Calls Tryz.prog 17 #[.int .i64 page, .int .u8 op] w (AtP w (atF page op).1 (atF page op).2) := by
  have h0 : (0 : Int) ≤ op := by omega
  have h8 : (op : Int) < 256 := by omega
  have hsm := small9 ⟨op, hop⟩
  simp only [Bool.and_eq_true, decide_eq_true_eq] at hsm
  obtain ⟨l1, l2, l3, l4, l5⟩ := hsm
  by_cases p0 : page = 0
  · subst p0
    rw [← sameB_eq (same0 ⟨op, hop⟩)]
    exact opt9_calls (fun hs => At9_0_no op h0 h8 hs w) (fun hs => At9_0_yes op h0 h8 hs w)
  by_cases p1 : page = 1
  · subst p1
    rw [← sameB_eq (same1 ⟨op, hop⟩)]
    exact opt9_calls (fun hs => absurd (bytes_nil.2 hs) (of_decide_eq_false (cb_name ⟨op, hop⟩))) (fun hs => At9_1_yes op h0 h8 hs w)
  by_cases p2 : page = 2
  · subst p2
    rw [← sameB_eq (same2 ⟨op, hop⟩)]
    exact opt9_calls (fun hs => At9_2_no op h0 h8 hs w) (fun hs => At9_2_yes op h0 h8 hs w)
  by_cases p3 : page = 3
  · subst p3
    by_cases hcb : op = 203
    · subst hcb
      rw [← sameB_eq (same3 ⟨203, by decide⟩)]
      exact (At9_cb3 w).mono fun _ _ h => atP_no h
    · rw [← sameB_eq (same3 ⟨op, hop⟩)]
      have e : at9F 3 op = opt9 3 op 0 (ixR 5 (mainF op).1 (mainF op).2.1 (mainF op).2.2).1 (ixR 5 (mainF op).1 (mainF op).2.1 (mainF op).2.2).2.1 (ixR 5 (mainF op).1 (mainF op).2.1 (mainF op).2.2).2.2 false := by
        unfold at9F; rw [if_neg (by decide), if_neg (by decide), if_neg (by decide), if_pos (by decide), if_neg hcb]; rfl
      show Calls _ _ _ _ (AtP w (at9F 3 op).1 (at9F 3 op).2)
      rw [e]
      exact opt9_calls (fun hs => At9_3_no op h0 h8 (by omega) l1 l2 l3 hs w) (fun hs => At9_3_yes op h0 h8 (by omega) l1 l2 l3 hs w)
  by_cases p4 : page = 4
  · subst p4
    by_cases hcb : op = 203
    · subst hcb
      rw [← sameB_eq (same4 ⟨203, by decide⟩)]
      exact (At9_cb4 w).mono fun _ _ h => atP_no h
    · rw [← sameB_eq (same4 ⟨op, hop⟩)]
      have e : at9F 4 op = opt9 4 op 0 (ixR 6 (mainF op).1 (mainF op).2.1 (mainF op).2.2).1 (ixR 6 (mainF op).1 (mainF op).2.1 (mainF op).2.2).2.1 (ixR 6 (mainF op).1 (mainF op).2.1 (mainF op).2.2).2.2 false := by
        unfold at9F; rw [if_neg (by decide), if_neg (by decide), if_neg (by decide), if_pos (by decide), if_neg hcb]; rfl
      show Calls _ _ _ _ (AtP w (at9F 4 op).1 (at9F 4 op).2)
      rw [e]
      exact opt9_calls (fun hs => At9_4_no op h0 h8 (by omega) l1 l2 l3 hs w) (fun hs => At9_4_yes op h0 h8 (by omega) l1 l2 l3 hs w)
  by_cases p5 : page = 5
  · subst p5
    rw [← sameB_eq (same5 ⟨op, hop⟩)]
    exact (At9_5 op h0 h8 l4 w).mono fun _ _ h => atP_yes h
  by_cases p6 : page = 6
  · subst p6
    rw [← sameB_eq (same6 ⟨op, hop⟩)]
    exact (At9_6 op h0 h8 l5 w).mono fun _ _ h => atP_yes h
  have e : atF page op = (none, 0) := by
    unfold atF; rw [if_neg p0, if_neg p1, if_neg p2, if_neg (fun e => e.elim p3 p4), if_neg (fun e => e.elim p5 p6)]
  rw [e]
  exact (At9_out page op (by omega) w).mono fun _ _ h => atP_no h
end Go.Proofs.YtlepicdjnbbndaaGreatDoor
