/-
  hexread.Accepts, the examples of chapter 5, a text of the writer's read again. Conditions: the library's table as its initialiser lays it.
-/
import Derived.Test.YtcfjcoockklkeaaGreatDoorV19
import Derived.Test.YtcfjcoockklkeaaGreatDoorV20
namespace Go.Proofs.YtcfjcoockklkeaaGreatDoor
open Go.RowKit

def fltEq (a b c d : Int) : Bool := decide (a = c) && decide (b = d)
theorem run_eqFlt (a b c d : Int) (w : World) : (binOp .eql 26 (.agg #[.int .i64 a, .int .i64 b]) (.agg #[.int .i64 c, .int .i64 d])).run Tryz.prog w = .ok (.bool (fltEq a b c d)) w := by
  have hS : Tryz.prog.underlying 26 = some (.struct (Tryz.prog.fieldsOf 26)) := by kernel_rfl
  have hp : Tryz.prog.stoodInHeld 26 = false := by kernel_rfl
  rw [run_eql_struct, show (10000 : Nat) = 9999 + 1 from rfl, run_equalIn_agg w 9999 26 _ _ hS hp]
  simp only [Program.fieldsOf, Tryz.underlying26]
  go_simp
  by_cases h1 : a = c <;> by_cases h2 : b = d <;> simp [h1, h2, fltEq]
theorem run_neqFlt (a b c d : Int) (w : World) : (binOp .neq 26 (.agg #[.int .i64 a, .int .i64 b]) (.agg #[.int .i64 c, .int .i64 d])).run Tryz.prog w = .ok (.bool (!fltEq a b c d)) w := by
  have hS : Tryz.prog.underlying 26 = some (.struct (Tryz.prog.fieldsOf 26)) := by kernel_rfl
  have hp : Tryz.prog.stoodInHeld 26 = false := by kernel_rfl
  rw [run_neq_struct, show (10000 : Nat) = 9999 + 1 from rfl, run_equalIn_agg w 9999 26 _ _ hS hp]
  simp only [Program.fieldsOf, Tryz.underlying26]
  go_simp
  by_cases h1 : a = c <;> by_cases h2 : b = d <;> simp [h1, h2, fltEq]
theorem Read_good (s : ByteArray) (w : World) (hs : s.size ≤ 1000000000) (hT : Deb w) (h : (readH s.data.toList).1.2 = 0) :
    Calls Tryz.prog 6 #[.string s] w fun e w' => ∃ ib, e = .returned (.tuple #[.pointer (some ⟨ib, 0, none⟩), .agg #[.int .i64 0, .int .i64 0]]) ∧ w.heap.size ≤ ib ∧ ImgC w' ib (readH s.data.toList).2.1.1 (readH s.data.toList).2.1.2 (cellsOf (readH s.data.toList).2.1.1 (readH s.data.toList).2.1.2).length ∧ Below w.heap.size w w' :=
  (Read_any s w hs hT).mono fun e w' ⟨h1, hb⟩ => by
    rcases h1 with ⟨_, ib, h2, h3, h4⟩ | ⟨h2, _⟩
    · exact ⟨ib, h2, h3, h4, hb⟩
    · exact absurd h h2
theorem Read_bad (s : ByteArray) (w : World) (hs : s.size ≤ 1000000000) (hT : Deb w) (h : (readH s.data.toList).1.2 ≠ 0) :
    Calls Tryz.prog 6 #[.string s] w fun e w' => e = .returned (.tuple #[.pointer none, .agg #[.int .i64 (readH s.data.toList).1.1, .int .i64 (readH s.data.toList).1.2]]) ∧ Below w.heap.size w w' :=
  (Read_any s w hs hT).mono fun e w' ⟨h1, hb⟩ => by
    rcases h1 with ⟨h2, _⟩ | ⟨_, h2⟩
    · exact absurd h2 h
    · exact ⟨h2, hb⟩
set_option maxHeartbeats 1000000 in
theorem Accepts_yes (s : ByteArray) (w : World) (hs : s.size ≤ 1000000000) (hT : Deb w) (h : (readH s.data.toList).1.2 = 0) :
    Calls Tryz.prog 10 #[.string s] w fun e w' => e = .returned (.bool true) ∧ Below w.heap.size w w' := by
  have HG := Lib.hid (Read_good s w hs hT h)
  clear hs hT h
  go_enter Tryz.func10, Tryz.ntmps10
  go_wp2_with (go_at_call 6; refine HG.out.mono ?_; rintro e w1 ⟨ib, rfl, _, _, hb⟩; have HB := Lib.hid hb; clear hb)
  go_ret
  exact ⟨rfl, HB.out.alloc HB.out.size _⟩
theorem read_ex1 : (readH (⟨#[58, 48, 48, 48, 48, 48, 48, 48, 49, 70, 70, 10, 120]⟩ : ByteArray).data.toList).1 = (2, 9) := by decide +kernel
theorem read_ex2 : (readH (⟨#[58, 48, 48, 48, 48, 48, 48, 48, 49, 102, 102]⟩ : ByteArray).data.toList).1 = (0, 0) := by decide +kernel
set_option maxHeartbeats 1000000 in
set_option maxRecDepth 100000 in
theorem alive5_any (w : World) (hT : Deb w) : Calls Tryz.prog 5 #[] w fun e w' => e = .returned (.bool true) ∧ Below w.heap.size w w' := by
  have h1 := Read_bad ⟨#[58, 48, 48, 48, 48, 48, 48, 48, 49, 70, 70, 10, 120]⟩ w (by decide) hT (by rw [read_ex1]; decide)
  rw [read_ex1] at h1
  have H1 : Hid (Calls Tryz.prog 6 #[.string ⟨#[58, 48, 48, 48, 48, 48, 48, 48, 49, 70, 70, 10, 120]⟩] w fun e w' => e = .returned (.tuple #[.pointer none, .agg #[.int .i64 2, .int .i64 9]]) ∧ Below w.heap.size w w') := h1
  have H2 := Lib.hid (fun (W : World) (hD : Deb W) => Accepts_yes ⟨#[58, 48, 48, 48, 48, 48, 48, 48, 49, 102, 102]⟩ W (by decide) hD (by rw [read_ex2]))
  have HT := Lib.hid hT
  have hop := run_eqFlt
  have heq : fltEq 2 9 2 9 = true := rfl
  clear h1 hT
  go_enter Tryz.func5, Tryz.ntmps5
  go_wp2_with (first
    | (go_at_call 6; refine H1.out.mono ?_; rintro e w1 ⟨rfl, hb⟩; have HB := Lib.hid hb; clear hb)
    | (go_at_call 10; refine (H2.out _ (HT.out.below (HB.out.alloc HB.out.size _))).mono ?_; rintro e w2 ⟨rfl, hb⟩; have HB2 := Lib.hid ((HB.out.alloc HB.out.size _).trans (hb.mono (HB.out.alloc HB.out.size _).size)); obtain ⟨d0, d1, _, _⟩ := ((Blk.new w1 26 #[.int .i64 2, .int .i64 9]).below hb (Blk.new w1 _ _).lt).two; clear hb))
  go_ret
  exact ⟨rfl, HB2.out⟩
set_option maxRecDepth 100000 in
/-- a text of the writer's, read again -/
theorem ReadText (n : Nat) (S : ImgS) (w : World) (hn : 1 ≤ n) (hn2 : n ≤ 255) (hT : Deb w) :
    Calls Tryz.prog 6 #[.string ⟨(textOf n (runsOf S.1 S.2)).toArray⟩] w fun e w' => ∃ (ib : Nat) (T : ImgS), e = .returned (.tuple #[.pointer (some ⟨ib, 0, none⟩), .agg #[.int .i64 0, .int .i64 0]]) ∧ w.heap.size ≤ ib ∧ ImgC w' ib T.1 T.2 (cellsOf T.1 T.2).length ∧ cellsOf T.1 T.2 = cellsOf S.1 S.2 ∧ Below w.heap.size w w' := by
  have hr := read_text S.1 S.2 (show 0 < n by omega) hn2 [] (fun s hs => by
    rw [splitNL] at hs
    simp at hs
    subst hs; rfl)
  rw [List.append_nil] at hr
  have hlen := (textOf_len n (runsOf S.1 S.2) hn hn2 (runs_sep _ _)).1
  have h := Read_good ⟨(textOf n (runsOf S.1 S.2)).toArray⟩ w (by show (textOf n (runsOf S.1 S.2)).toArray.size ≤ _; rw [List.size_toArray]; omega) hT
  have hd : (⟨(textOf n (runsOf S.1 S.2)).toArray⟩ : ByteArray).data.toList = textOf n (runsOf S.1 S.2) := by simp
  rw [hd, hr] at h
  refine (h rfl).mono fun e w' ⟨ib, h1, h2, h3, h4⟩ => ⟨ib, _, h1, h2, h3, ?_, h4⟩
  exact (putAll_recs S.1 S.2 (show 0 < n by omega)).1
end Go.Proofs.YtcfjcoockklkeaaGreatDoor
