/-
  THE CLOSURE OF instr.Shape: it appends the mark of an operand.
-/
import Derived.Test.YtkkjoghfdmmpaaaDoorShape1
import Derived.Laws.CopyOwn
namespace Go.Proofs.YtkkjoghfdmmpaaaDoor
open Go.RowKit

theorem elStr : ElT Tryd.prog 33 9 strR.size 16 := ElT.mk' (z := .string ⟨#[]⟩) Tryd.underlying33 (by kernel_rfl) rfl (by decide)

set_option maxHeartbeats 2000000 in
theorem add_any (o : Opd) (bm B0 : Nat) (v : Value) (ms : List ByteArray) (w : World) (hk : Blk w bm 33 #[v]) (ho : Own strR w (bm + 1) 9 NoB v ms) (h0 : B0 ≤ bm) (hl : ms.length ≤ 1000) :
    Calls Tryd.prog 100 #[.agg #[.int .i64 o.kind, .int .i64 o.reg, .int .i64 o.n], .pointer (some ⟨bm, 0, none⟩)] w fun e w' => e = .returned (.tuple #[]) ∧
      (∃ v', Blk w' bm 33 #[v'] ∧ Own strR w' (bm + 1) 9 NoB v' (ms ++ [markP o])) ∧ Below B0 w w' := by
  obtain ⟨oa, oc, rfl⟩ := ho.form
  have HA : Hid (Below w.heap.size w (w.alloc (.cells #[.int .i64 o.kind, .int .i64 o.reg, .int .i64 o.n] 47))) := (Below.refl _ _).alloc (Nat.le_refl _) _
  have HKA : Hid (Blk (w.alloc (.cells #[.int .i64 o.kind, .int .i64 o.reg, .int .i64 o.n] 47)) w.heap.size 47 #[.int .i64 o.kind, .int .i64 o.reg, .int .i64 o.n]) := Blk.new w _ _
  have HK := Lib.hid hk
  have HO := Lib.hid ho
  have HL := Lib.hid hl
  have hma := fun wz => marked_any o wz
  have hbm : bm < w.heap.size := hk.lt
  clear hk ho
  cases hn : hasNum o
  all_goals
    rw [hn] at hma
    have HMA := Lib.hid hma
    clear hma
  · have HM := Lib.hid (show textOf o = markP o by simp [markP, hn])
    have htx := fun wz => text_any o hn wz
    rw [HM.out] at htx
    have HTX := Lib.hid htx
    clear htx
    go_enter Tryd.func100, Tryd.ntmps100
    go_wp2_with (first | (go_at_call 101; refine (HMA.out _).mono ?_; rintro e W1 ⟨rfl, hb⟩; have HB1 := Lib.hid (HA.out.trans (hb.mono HA.out.size)); have c0 : W1.cell? ⟨w.heap.size, 0, none⟩ = some (.int .i64 o.kind) := (hb.cell (p := ⟨w.heap.size, 0, none⟩) HKA.out.lt).trans (HKA.out.cell 0); have c1 : W1.cell? ⟨w.heap.size, 1, none⟩ = some (.int .i64 o.reg) := (hb.cell (p := ⟨w.heap.size, 1, none⟩) HKA.out.lt).trans (HKA.out.cell 1); have c2 : W1.cell? ⟨w.heap.size, 2, none⟩ = some (.int .i64 o.n) := (hb.cell (p := ⟨w.heap.size, 2, none⟩) HKA.out.lt).trans (HKA.out.cell 2); clear hb)
                       | (go_at_call 102; refine (HTX.out _).mono ?_; rintro e WW ⟨rfl, hb⟩; have HBB := Lib.hid (HB1.out.trans (hb.mono HB1.out.size)); have HO1 := Lib.hid (HO.out.stay HBB.out); have HK1 := Lib.hid (HK.out.below HBB.out hbm); have HSZ := Lib.hid (Nat.lt_of_lt_of_le hbm HBB.out.size); obtain ⟨p0, p1⟩ := HK1.out.one; have hbm1 : bm < WW.heap.size := HSZ.out; clear hb)
                       | (at_builtin; refine wpList_append_R _ rfl (.tmp 14) (.tmp 16) 33 rfl (bm + 1) 9 16 elStr NoB (fun j => NoB j ∨ j = WW.heap.size) _ _ ms [markP o] rfl rfl (HO1.out.stay ((Below.refl _ _).alloc (Nat.le_refl _) _)) (slR_one (R := strR) (p := NoB) rfl _) (fun _ h => False.elim h) (fun j hj e => by rcases hj with hj | rfl; exact hj.elim; exact absurd (HO1.out.lt _ e.symm).2 (Nat.lt_irrefl _)) (by have := HL.out; simp; omega) (by have := HL.out; simp; omega) (by have := HSZ.out; simp; omega) ?_; intro v' w' hap; have HAP := Lib.hid hap; obtain ⟨oa', oc', rfl⟩ := hap.1.form; have hkb := HK1.out; have hkn : Blk w' bm 33 #[.slice oa ms.length oc] := (hkb.alloc _).grown hap.2.1 (fun e => by have := (HO1.out.lt bm e.symm).1; omega); obtain ⟨q0, q1⟩ := hkn.one; clear hap))
    go_end0
    obtain ⟨ho2, hg, _⟩ := HAP.out
    have ho3 : Own strR w' (bm + 1) 9 NoB (.slice oa' (ms ++ [markP o]).length oc') (ms ++ [markP o]) := ho2.flat NoB
    have hlt3 := ho3.lt
    rw [List.length_append] at ho3 hlt3
    refine ⟨rfl, ⟨_, hkn.set 0 _, ho3.keep (Keep.setCell (fun k hk => ?_) _)⟩, ?_⟩
    · rcases hk with hk | hk
      · exact hk.elim
      · have := (hlt3 k hk).1
        show k ≠ bm
        omega
    · exact (((HBB.out.mono (Nat.le_trans h0 (Nat.le_of_lt hbm))).alloc (Nat.le_trans h0 (Nat.le_of_lt hbm1)) _).grown hg (by simp; omega) (fun j hj => by have := (HO1.out.lt j hj).1; omega)).setCell (p := ⟨bm, 0, none⟩) h0 _
  · have HM := Lib.hid (show markS o = markP o by simp [markP, hn])
    rw [HM.out] at HMA
    go_enter Tryd.func100, Tryd.ntmps100
    go_wp2_with (first | (go_at_call 101; refine (HMA.out _).mono ?_; rintro e WW ⟨rfl, hb⟩; have HB1 := Lib.hid (HA.out.trans (hb.mono HA.out.size)); have HBB := HB1; have HO1 := Lib.hid (HO.out.stay HB1.out); have HK1 := Lib.hid (HK.out.below HB1.out hbm); have HSZ := Lib.hid (Nat.lt_of_lt_of_le hbm HB1.out.size); obtain ⟨p0, p1⟩ := HK1.out.one; have hbm1 : bm < WW.heap.size := HSZ.out; clear hb)
                       | (at_builtin; refine wpList_append_R _ rfl (.tmp 14) (.tmp 16) 33 rfl (bm + 1) 9 16 elStr NoB (fun j => NoB j ∨ j = WW.heap.size) _ _ ms [markP o] rfl rfl (HO1.out.stay ((Below.refl _ _).alloc (Nat.le_refl _) _)) (slR_one (R := strR) (p := NoB) rfl _) (fun _ h => False.elim h) (fun j hj e => by rcases hj with hj | rfl; exact hj.elim; exact absurd (HO1.out.lt _ e.symm).2 (Nat.lt_irrefl _)) (by have := HL.out; simp; omega) (by have := HL.out; simp; omega) (by have := HSZ.out; simp; omega) ?_; intro v' w' hap; have HAP := Lib.hid hap; obtain ⟨oa', oc', rfl⟩ := hap.1.form; have hkb := HK1.out; have hkn : Blk w' bm 33 #[.slice oa ms.length oc] := (hkb.alloc _).grown hap.2.1 (fun e => by have := (HO1.out.lt bm e.symm).1; omega); obtain ⟨q0, q1⟩ := hkn.one; clear hap))
    go_end0
    obtain ⟨ho2, hg, _⟩ := HAP.out
    have ho3 : Own strR w' (bm + 1) 9 NoB (.slice oa' (ms ++ [markP o]).length oc') (ms ++ [markP o]) := ho2.flat NoB
    have hlt3 := ho3.lt
    rw [List.length_append] at ho3 hlt3
    refine ⟨rfl, ⟨_, hkn.set 0 _, ho3.keep (Keep.setCell (fun k hk => ?_) _)⟩, ?_⟩
    · rcases hk with hk | hk
      · exact hk.elim
      · have := (hlt3 k hk).1
        show k ≠ bm
        omega
    · exact (((HBB.out.mono (Nat.le_trans h0 (Nat.le_of_lt hbm))).alloc (Nat.le_trans h0 (Nat.le_of_lt hbm1)) _).grown hg (by simp; omega) (fun j hj => by have := (HO1.out.lt j hj).1; omega)).setCell (p := ⟨bm, 0, none⟩) h0 _
end Go.Proofs.YtkkjoghfdmmpaaaDoor
