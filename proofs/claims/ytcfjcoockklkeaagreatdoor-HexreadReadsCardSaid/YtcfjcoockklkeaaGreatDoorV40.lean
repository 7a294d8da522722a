/-
  hexread.Normal; hexread.Accepts of a text with a fault. Conditions: the text's size; the library's table as its initialiser lays it.
-/
import Derived.Test.YtcfjcoockklkeaaGreatDoorV21
namespace Go.Proofs.YtcfjcoockklkeaaGreatDoor
open Go.RowKit

set_option maxHeartbeats 1000000 in
theorem Accepts_no (s : ByteArray) (w : World) (hs : s.size ≤ 1000000000) (hT : Deb w) (h : (readH s.data.toList).1.2 ≠ 0) :
    Calls Tryz.prog 10 #[.string s] w fun e w' => e = .returned (.bool false) ∧ Below w.heap.size w w' := by
  have HG := Lib.hid (Read_bad s w hs hT h)
  clear hs hT h
  generalize (readH s.data.toList).1 = ft at *
  go_enter Tryz.func10, Tryz.ntmps10
  go_wp2_with (go_at_call 6; refine HG.out.mono ?_; rintro e w1 ⟨rfl, hb⟩; have HB := Lib.hid hb; clear hb)
  go_ret
  exact ⟨rfl, HB.out.alloc HB.out.size _⟩
/-- what stands behind the writer's call -/
def NrP (w : World) (fb tb : Nat) (txt : ByteArray) (e : Ending) (w' : World) : Prop :=
  e = .returned (.string txt) ∧ w'.cell? ⟨tb, 0, none⟩ = some (.int .i64 0) ∧ w'.cell? ⟨tb, 1, none⟩ = some (.int .i64 0) ∧ w'.cell? ⟨fb, 0, none⟩ = some (.int .i64 0) ∧ w'.cell? ⟨fb, 1, none⟩ = some (.int .i64 0) ∧ w'.frozen? ⟨fb, 0, none⟩ = false ∧ w'.frozen? ⟨fb, 1, none⟩ = false ∧ Below w.heap.size w w'
theorem nrP_of {w W : World} {fb tb : Nat} {S : ImgS} {ib : Nat} (hT : Deb w) (hb : Below w.heap.size w W) (hi : ImgC W ib S.1 S.2 (cellsOf S.1 S.2).length) (hf : Blk W fb 26 #[.int .i64 0, .int .i64 0]) (ht : Blk W tb 26 #[.int .i64 0, .int .i64 0]) :
    Calls Tryz.prog 27 #[.pointer (some ⟨ib, 0, none⟩)] W (NrP w fb tb ⟨(textOf 16 (runsOf S.1 S.2)).toArray⟩) :=
  (Write_any _ _ W (.inr ⟨ib, _, _, _, rfl, hi, rfl⟩) (hT.below hb) (runs_len _ _)).mono fun e w' ⟨h1, h2⟩ => by
    obtain ⟨a0, a1, _, _⟩ := (ht.below h2 ht.lt).two
    obtain ⟨b0, b1, b2, b3⟩ := (hf.below h2 hf.lt).two
    exact ⟨h1, a0, a1, b0, b1, b2, b3, hb.trans (h2.mono hb.size)⟩
set_option maxHeartbeats 4000000 in
set_option maxRecDepth 100000 in
theorem Normal_good (s : ByteArray) (w : World) (hs : s.size ≤ 1000000000) (hT : Deb w) (h : (readH s.data.toList).1.2 = 0) :
    Calls Tryz.prog 8 #[.string s] w fun e w' => e = .returned (.tuple #[.string ⟨(textOf 16 (runsOf (readH s.data.toList).2.1.1 (readH s.data.toList).2.1.2)).toArray⟩, .agg #[.int .i64 0, .int .i64 0]]) ∧ Below w.heap.size w w' := by
  have hb0 : Below w.heap.size w (w.alloc (.cells #[.int .i64 0, .int .i64 0] 26)) := (Below.refl _ w).alloc (Nat.le_refl _) _
  have HRD := Lib.hid (Read_good s _ hs (hT.below hb0) h)
  have HB0 := Lib.hid hb0
  have HT := Lib.hid hT
  have HK0 := Lib.hid (Blk.new w 26 #[.int .i64 0, .int .i64 0])
  clear hs hT h hb0
  generalize (readH s.data.toList).2.1 = S at *
  have HNR := Lib.hid (fun (W : World) (fb tb ib : Nat) => @nrP_of w W fb tb S ib HT.out)
  generalize (⟨(textOf 16 (runsOf S.1 S.2)).toArray⟩ : ByteArray) = txt at *
  go_enter Tryz.func8, Tryz.ntmps8
  go_upto_region 4 with (go_at_call 6; refine HRD.out.mono ?_; rintro e w1 ⟨ib, rfl, hib, hi, hb⟩; have hin : ib ≠ w.heap.size := fun e => by { rw [e, World.size_alloc] at hib; omega }; have hal := (Below.refl w1.heap.size w1).alloc (Nat.le_refl _) (.cells #[.int .i64 0, .int .i64 0] 26); have HI := Lib.hid (hi.below hal hi.lt); have HKF := Lib.hid ((HK0.out.below hb HK0.out.lt).below hal (Nat.lt_of_lt_of_le HK0.out.lt hb.size)); have HKT := Lib.hid (Blk.new w1 26 #[.int .i64 0, .int .i64 0]); have HB := Lib.hid ((HB0.out.trans (hb.mono HB0.out.size)).trans (hal.mono (HB0.out.trans (hb.mono HB0.out.size)).size)); have hfl : w.heap.size < w1.heap.size := Nat.lt_of_lt_of_le HK0.out.lt hb.size; clear hi hb hal hib)
  obtain ⟨z0, z1, y0, y1⟩ := HKF.out.two
  obtain ⟨t0, t1, _, _⟩ := HKT.out.two
  have hne1 : ¬ w.heap.size = w1.heap.size := Nat.ne_of_lt hfl
  have hne2 : ¬ w1.heap.size = w.heap.size := fun e => hne1 e.symm
  clear hfl HB0 HK0
  generalize w1.alloc (.cells #[.int .i64 0, .int .i64 0] 26) = wA at *
  generalize w1.heap.size = tb at *
  have HW1 := Lib.hid (HNR.out wA.drew w.heap.size tb ib HB.out.drew HI.out.drew HKF.out HKT.out)
  have hset : Blk ((wA.setCell ⟨w.heap.size, 0, none⟩ (.int .i64 0)).setCell ⟨w.heap.size, 1, none⟩ (.int .i64 0)) w.heap.size 26 #[.int .i64 0, .int .i64 0] := (HKF.out.set 0 _).set 1 _
  have hset2 : Blk ((wA.setCell ⟨w.heap.size, 0, none⟩ (.int .i64 0)).setCell ⟨w.heap.size, 1, none⟩ (.int .i64 0)) tb 26 #[.int .i64 0, .int .i64 0] := (HKT.out.far (p := ⟨w.heap.size, 0, none⟩) hne2 _).far (p := ⟨w.heap.size, 1, none⟩) hne2 _
  have hset3 : ImgC ((wA.setCell ⟨w.heap.size, 0, none⟩ (.int .i64 0)).setCell ⟨w.heap.size, 1, none⟩ (.int .i64 0)) ib S.1 S.2 (cellsOf S.1 S.2).length := (HI.out.far (p := ⟨w.heap.size, 0, none⟩) hin _).far (p := ⟨w.heap.size, 1, none⟩) hin _
  have hset4 : Below w.heap.size w ((wA.setCell ⟨w.heap.size, 0, none⟩ (.int .i64 0)).setCell ⟨w.heap.size, 1, none⟩ (.int .i64 0)) := (HB.out.setCell (Nat.le_refl _) _).setCell (Nat.le_refl _) _
  have HW2 := Lib.hid (HNR.out ((wA.setCell ⟨w.heap.size, 0, none⟩ (.int .i64 0)).setCell ⟨w.heap.size, 1, none⟩ (.int .i64 0)).drew w.heap.size tb ib hset4.drew hset3.drew hset hset2)
  clear hset hset2 hset3 hset4 HNR hin
  unfold NrP at HW1 HW2
  go_region_held3 (fun w' => w'.cell? ⟨tb, 0, none⟩ = some (.int .i64 0) ∧ w'.cell? ⟨tb, 1, none⟩ = some (.int .i64 0)) (go_keep)
    (first
      | (go_at_call 27; with_reducible refine HW1.out.mono ?_; rintro e w5 ⟨rfl, q0, q1, r0, r1, f0, f1, hb⟩; have HB5 := Lib.hid hb; clear hb)
      | (go_at_call 27; with_reducible refine HW2.out.mono ?_; rintro e w5 ⟨rfl, q0, q1, r0, r1, f0, f1, hb⟩; have HB5 := Lib.hid hb; clear hb))
  all_goals
    go_wp2
    exact bodyPost_ret (v := .tuple #[.string txt, .agg #[.int .i64 0, .int .i64 0]]) (by simp [results, Tryz.results8, go_sem, r0, r1]) rfl ⟨rfl, by first | exact HB5.out | exact HB5.out.drew | exact (HB5.out.setCell (Nat.le_refl _) _).setCell (Nat.le_refl _) _ | exact ((HB5.out.setCell (Nat.le_refl _) _).setCell (Nat.le_refl _) _).drew⟩
set_option maxHeartbeats 4000000 in
set_option maxRecDepth 100000 in
theorem Normal_bad (s : ByteArray) (w : World) (hs : s.size ≤ 1000000000) (hT : Deb w) (h : (readH s.data.toList).1.2 ≠ 0) :
    Calls Tryz.prog 8 #[.string s] w fun e w' => e = .returned (.tuple #[.string ⟨#[]⟩, .agg #[.int .i64 (readH s.data.toList).1.1, .int .i64 (readH s.data.toList).1.2]]) ∧ Below w.heap.size w w' := by
  have hb0 : Below w.heap.size w (w.alloc (.cells #[.int .i64 0, .int .i64 0] 26)) := (Below.refl _ w).alloc (Nat.le_refl _) _
  have HRD := Lib.hid (Read_bad s _ hs (hT.below hb0) h)
  have HB0 := Lib.hid hb0
  have HK0 := Lib.hid (Blk.new w 26 #[.int .i64 0, .int .i64 0])
  clear hs hT h hb0
  generalize ((readH s.data.toList).1.1 : Int) = ln at *
  generalize ((readH s.data.toList).1.2 : Int) = cd at *
  go_enter Tryz.func8, Tryz.ntmps8
  go_upto_region 3 with (go_at_call 6; refine HRD.out.mono ?_; rintro e w1 ⟨rfl, hb⟩; have hal := (Below.refl w1.heap.size w1).alloc (Nat.le_refl _) (.cells #[.int .i64 ln, .int .i64 cd] 26); have HKF := Lib.hid ((HK0.out.below hb HK0.out.lt).below hal (Nat.lt_of_lt_of_le HK0.out.lt hb.size)); have HKT := Lib.hid (Blk.new w1 26 #[.int .i64 ln, .int .i64 cd]); have HB := Lib.hid ((HB0.out.trans (hb.mono HB0.out.size)).trans (hal.mono (HB0.out.trans (hb.mono HB0.out.size)).size)); have hfl : w.heap.size < w1.heap.size := Nat.lt_of_lt_of_le HK0.out.lt hb.size; clear hb hal)
  obtain ⟨z0, z1, y0, y1⟩ := HKF.out.two
  obtain ⟨t0, t1, _, _⟩ := HKT.out.two
  have hne1 : ¬ w.heap.size = w1.heap.size := Nat.ne_of_lt hfl
  have hne2 : ¬ w1.heap.size = w.heap.size := fun e => hne1 e.symm
  clear hfl HB0 HK0
  generalize w1.alloc (.cells #[.int .i64 ln, .int .i64 cd] 26) = wA at *
  generalize w1.heap.size = tb at *
  go_region_held3 (fun w' => w'.cell? ⟨tb, 0, none⟩ = some (.int .i64 ln) ∧ w'.cell? ⟨tb, 1, none⟩ = some (.int .i64 cd)) (go_keep) (fail)
  all_goals
    go_wp2
    exact bodyPost_ret (v := .tuple #[.string ⟨#[]⟩, .agg #[.int .i64 ln, .int .i64 cd]]) (by simp [results, Tryz.results8, go_sem, z0, z1]) rfl ⟨rfl, ((HB.out.setCell (Nat.le_refl _) _).setCell (Nat.le_refl _) _).drew⟩
end Go.Proofs.YtcfjcoockklkeaaGreatDoor
