/-
  (*table.builder).arg, whole. Conditions: sizes; the library's table as its initialiser lays it.
-/
import Derived.Test.YtlepicdjnbbndaaGreatDoorT12
namespace Go.Proofs.YtlepicdjnbbndaaGreatDoor
open Go.RowKit Go.Shelf

theorem grown_one (w : World) (bp q : Nat) (v : Value) (o1 : Obj) : w.grownBy ((w.setCell ⟨bp, q, none⟩ v).alloc o1).drew (some bp) := by
  refine ⟨rfl, rfl, rfl, ?_, fun k hk hne => ?_⟩
  · show _ ≤ (World.alloc _ _).heap.size
    rw [World.size_alloc, World.size_setCell]; omega
  · show (World.alloc _ _).heap[k]? = _
    rw [Below.heap_alloc _ _ _ (by rw [World.size_setCell]; omega)]
    exact Below.heap_setCell _ _ _ _ (fun e => hne (by rw [e]))
set_option maxHeartbeats 2000000 in
set_option maxRecDepth 100000 in
theorem arg_65 (bp : Nat) (x : BdrV) (o : Opd) (ho : wordF [65] = some o) (w : World) (h : BK w bp x) :
    Calls Tryz.prog 89 #[.pointer (some ⟨bp, 0, none⟩), .string ⟨#[65]⟩] w (ArgP w bp x o []) := by
  have hlt : bp < w.heap.size := h.lt
  have hA := h.alloc (.cells #[.int .i64 0, .int .i64 0, .int .i64 0] 87)
  have hmf : ∀ (fn : Fn) (first cap : Array Value) (w : World), (Instr.makeFunc fn first cap).run Tryz.prog w = .ok (.func fn first cap) w := fun _ _ _ _ => rfl
  have hKB := fun (w1 : World) (hb : Below (w.alloc (.cells #[.int .i64 0, .int .i64 0, .int .i64 0] 87)).heap.size (w.alloc (.cells #[.int .i64 0, .int .i64 0, .int .i64 0] 87)) w1) => show BK w1 bp { x with ex := x.ex ++ [] } from by rw [bdr_same]; exact hA.below hb hA.lt
  have HM := Lib.hid (bname_any bp 65 o (w.alloc (.cells #[.int .i64 0, .int .i64 0, .int .i64 0] 87)) ho)
  clear ho
  obtain ⟨ok, orr, on⟩ := o
  clear h hA
  go_enter Tryz.func89, Tryz.ntmps89
  go_wp2_with (go_at_call 138; refine HM.out.mono ?_; rintro e w1 ⟨rfl, hb⟩; have HK1 := Lib.hid (hKB w1 hb); have hg := grown_of bp hb; unfold Opd.val; obtain ⟨hf1, hfin⟩ := arg_fin HK1.out hlt hg; obtain ⟨z0, z1, z2, y0, y1, y2⟩ := hf1.three; have HFIN := Lib.hid hfin; clear hb hg hf1 hfin)
  obtain ⟨q1, q2, q3⟩ := HFIN.out (.int .i64 ok) (.int .i64 orr) (.int .i64 on)
  exact bodyPost_ret (results_row1 rfl _ _ w.heap.size 87 _ (0, 0) _ rfl q1 Tryz.underlying87 rfl (by kernel_rfl)) rfl ⟨rfl, q2, q3⟩
set_option maxHeartbeats 2000000 in
set_option maxRecDepth 100000 in
theorem arg_73 (bp : Nat) (x : BdrV) (o : Opd) (ho : wordF [73] = some o) (w : World) (h : BK w bp x) :
    Calls Tryz.prog 89 #[.pointer (some ⟨bp, 0, none⟩), .string ⟨#[73]⟩] w (ArgP w bp x o []) := by
  have hlt : bp < w.heap.size := h.lt
  have hA := h.alloc (.cells #[.int .i64 0, .int .i64 0, .int .i64 0] 87)
  have hmf : ∀ (fn : Fn) (first cap : Array Value) (w : World), (Instr.makeFunc fn first cap).run Tryz.prog w = .ok (.func fn first cap) w := fun _ _ _ _ => rfl
  have hKB := fun (w1 : World) (hb : Below (w.alloc (.cells #[.int .i64 0, .int .i64 0, .int .i64 0] 87)).heap.size (w.alloc (.cells #[.int .i64 0, .int .i64 0, .int .i64 0] 87)) w1) => show BK w1 bp { x with ex := x.ex ++ [] } from by rw [bdr_same]; exact hA.below hb hA.lt
  have HM := Lib.hid (bname_any bp 73 o (w.alloc (.cells #[.int .i64 0, .int .i64 0, .int .i64 0] 87)) ho)
  clear ho
  obtain ⟨ok, orr, on⟩ := o
  clear h hA
  go_enter Tryz.func89, Tryz.ntmps89
  go_wp2_with (go_at_call 138; refine HM.out.mono ?_; rintro e w1 ⟨rfl, hb⟩; have HK1 := Lib.hid (hKB w1 hb); have hg := grown_of bp hb; unfold Opd.val; obtain ⟨hf1, hfin⟩ := arg_fin HK1.out hlt hg; obtain ⟨z0, z1, z2, y0, y1, y2⟩ := hf1.three; have HFIN := Lib.hid hfin; clear hb hg hf1 hfin)
  obtain ⟨q1, q2, q3⟩ := HFIN.out (.int .i64 ok) (.int .i64 orr) (.int .i64 on)
  exact bodyPost_ret (results_row1 rfl _ _ w.heap.size 87 _ (0, 0) _ rfl q1 Tryz.underlying87 rfl (by kernel_rfl)) rfl ⟨rfl, q2, q3⟩
set_option maxHeartbeats 2000000 in
set_option maxRecDepth 100000 in
theorem arg_82 (bp : Nat) (x : BdrV) (o : Opd) (ho : wordF [82] = some o) (w : World) (h : BK w bp x) :
    Calls Tryz.prog 89 #[.pointer (some ⟨bp, 0, none⟩), .string ⟨#[82]⟩] w (ArgP w bp x o []) := by
  have hlt : bp < w.heap.size := h.lt
  have hA := h.alloc (.cells #[.int .i64 0, .int .i64 0, .int .i64 0] 87)
  have hmf : ∀ (fn : Fn) (first cap : Array Value) (w : World), (Instr.makeFunc fn first cap).run Tryz.prog w = .ok (.func fn first cap) w := fun _ _ _ _ => rfl
  have hKB := fun (w1 : World) (hb : Below (w.alloc (.cells #[.int .i64 0, .int .i64 0, .int .i64 0] 87)).heap.size (w.alloc (.cells #[.int .i64 0, .int .i64 0, .int .i64 0] 87)) w1) => show BK w1 bp { x with ex := x.ex ++ [] } from by rw [bdr_same]; exact hA.below hb hA.lt
  have HM := Lib.hid (bname_any bp 82 o (w.alloc (.cells #[.int .i64 0, .int .i64 0, .int .i64 0] 87)) ho)
  clear ho
  obtain ⟨ok, orr, on⟩ := o
  clear h hA
  go_enter Tryz.func89, Tryz.ntmps89
  go_wp2_with (go_at_call 138; refine HM.out.mono ?_; rintro e w1 ⟨rfl, hb⟩; have HK1 := Lib.hid (hKB w1 hb); have hg := grown_of bp hb; unfold Opd.val; obtain ⟨hf1, hfin⟩ := arg_fin HK1.out hlt hg; obtain ⟨z0, z1, z2, y0, y1, y2⟩ := hf1.three; have HFIN := Lib.hid hfin; clear hb hg hf1 hfin)
  obtain ⟨q1, q2, q3⟩ := HFIN.out (.int .i64 ok) (.int .i64 orr) (.int .i64 on)
  exact bodyPost_ret (results_row1 rfl _ _ w.heap.size 87 _ (0, 0) _ rfl q1 Tryz.underlying87 rfl (by kernel_rfl)) rfl ⟨rfl, q2, q3⟩
set_option maxHeartbeats 2000000 in
set_option maxRecDepth 100000 in
theorem arg_long (bp : Nat) (x : BdrV) (s : ByteArray) (o : Opd) (ho : wordF s.data.toList = some o) (hs : s.size ≤ 1000) (h1 : 1 < s.size) (hn : s.data.toList ≠ [40, 110, 41]) (hw : s.data.toList ≠ [40, 119, 41]) (w : World) (h : BK w bp x) :
    Calls Tryz.prog 89 #[.pointer (some ⟨bp, 0, none⟩), .string s] w (ArgP w bp x o []) := by
  have hlt : bp < w.heap.size := h.lt
  have hA := h.alloc (.cells #[.int .i64 0, .int .i64 0, .int .i64 0] 87)
  have hmf : ∀ (fn : Fn) (first cap : Array Value) (w : World), (Instr.makeFunc fn first cap).run Tryz.prog w = .ok (.func fn first cap) w := fun _ _ _ _ => rfl
  have hKB := fun (w1 : World) (hb : Below (w.alloc (.cells #[.int .i64 0, .int .i64 0, .int .i64 0] 87)).heap.size (w.alloc (.cells #[.int .i64 0, .int .i64 0, .int .i64 0] 87)) w1) => show BK w1 bp { x with ex := x.ex ++ [] } from by rw [bdr_same]; exact hA.below hb hA.lt
  have HM := Lib.hid (tword_any s o (w.alloc (.cells #[.int .i64 0, .int .i64 0, .int .i64 0] 87)) ho hs)
  have hs1 : (s.size : Int) ≤ 1000 := by omega
  have hs2 : (1 : Int) < (s.size : Int) := by omega
  have e1 : (s.toList == [40, 110, 41]) = false := by rw [Go.ByteArray.toList_eq, beq_eq_false_iff_ne]; exact hn
  have e2 : (s.toList == [40, 119, 41]) = false := by rw [Go.ByteArray.toList_eq, beq_eq_false_iff_ne]; exact hw
  clear ho hn hw
  obtain ⟨ok, orr, on⟩ := o
  clear h hA
  go_enter Tryz.func89, Tryz.ntmps89
  go_wp2_with (go_at_call 137; refine HM.out.mono ?_; rintro e w1 ⟨rfl, hb⟩; have HK1 := Lib.hid (hKB w1 hb); have hg := grown_of bp hb; unfold Opd.val; obtain ⟨hf1, hfin⟩ := arg_fin HK1.out hlt hg; obtain ⟨z0, z1, z2, y0, y1, y2⟩ := hf1.three; have HFIN := Lib.hid hfin; clear hb hg hf1 hfin)
  obtain ⟨q1, q2, q3⟩ := HFIN.out (.int .i64 ok) (.int .i64 orr) (.int .i64 on)
  exact bodyPost_ret (results_row1 rfl _ _ w.heap.size 87 _ (0, 0) _ rfl q1 Tryz.underlying87 rfl (by kernel_rfl)) rfl ⟨rfl, q2, q3⟩
set_option maxHeartbeats 4000000 in
set_option maxRecDepth 100000 in
theorem arg_mem110 (bp : Nat) (x : BdrV) (w : World) (h : BK w bp x) (hx : x.ok) :
    Calls Tryz.prog 89 #[.pointer (some ⟨bp, 0, none⟩), .string ⟨#[40, 110, 41]⟩] w (ArgP w bp x ⟨7, 0, 0⟩ [110]) := by
  obtain ⟨pg, op, iop, ia, ex, al, bits, rop, ra, ral⟩ := x
  have hex := hx.ex
  simp only at hex
  have h0 : Blk w bp 131 (bdr pg op iop ia ex al bits rop ra ral) := h
  have hlt : bp < w.heap.size := h.lt
  have hne1 : ¬ bp = w.heap.size := Nat.ne_of_lt hlt
  have hsl : ∀ W : World, (Instr.sliceAt 9 (.string ⟨#[40, 110, 41]⟩) (some (.int .i64 1)) (some (.int .i64 2)) none).run Tryz.prog W = .ok (.string ⟨#[110]⟩) W := fun W => by kernel_rfl
  have a4 : (w.alloc (.cells #[.int .i64 0, .int .i64 0, .int .i64 0] 87)).cell? ⟨bp, 4, none⟩ = some (.string ⟨ex.toArray⟩) := (h0.alloc (.cells #[.int .i64 0, .int .i64 0, .int .i64 0] 87)).cell 4
  have a4f : (w.alloc (.cells #[.int .i64 0, .int .i64 0, .int .i64 0] 87)).frozen? ⟨bp, 4, none⟩ = false := (h0.alloc (.cells #[.int .i64 0, .int .i64 0, .int .i64 0] 87)).free 4
  have HK0 := Lib.hid h0
  obtain ⟨exB, hexB⟩ : ∃ b : ByteArray, b = ⟨ex.toArray⟩ := ⟨_, rfl⟩
  have hsz : exB.size ≤ 100 := by rw [hexB]; show ex.toArray.size ≤ _; rw [List.size_toArray]; exact hex
  have HEX := Lib.hid hexB
  rw [← hexB] at a4
  clear h h0 hx hex hexB
  go_enter Tryz.func89, Tryz.ntmps89
  go_upto_region 2 with fail
  go_region
  all_goals
    go_wp2
    have hcat : (exB ++ ⟨#[110]⟩ : ByteArray) = ⟨(ex ++ [110]).toArray⟩ := by rw [HEX.out]; apply ByteArray.ext; simp
    rw [hcat]
    have hfin : Blk ((w.setCell ⟨bp, 4, none⟩ (.string ⟨(ex ++ [110]).toArray⟩)).alloc (.cells #[.int .i64 7, .int .i64 0, .int .i64 0] 87)).drew w.heap.size 87 #[.int .i64 7, .int .i64 0, .int .i64 0] := by
      have h1 := Blk.new (w.setCell ⟨bp, 4, none⟩ (.string ⟨(ex ++ [110]).toArray⟩)) 87 #[.int .i64 7, .int .i64 0, .int .i64 0]
      rw [World.size_setCell] at h1
      exact h1
    refine bodyPost_ret (results_row1 rfl _ _ w.heap.size 87 #[.int .i64 7, .int .i64 0, .int .i64 0] (0, 0) _ rfl hfin Tryz.underlying87 rfl (by kernel_rfl)) rfl ⟨rfl, ?_, ?_⟩
    · exact (HK0.out.set 4 (.string ⟨(ex ++ [110]).toArray⟩)).alloc (.cells #[.int .i64 7, .int .i64 0, .int .i64 0] 87)
    · exact grown_one w bp 4 _ _
set_option maxHeartbeats 4000000 in
set_option maxRecDepth 100000 in
theorem arg_mem119 (bp : Nat) (x : BdrV) (w : World) (h : BK w bp x) (hx : x.ok) :
    Calls Tryz.prog 89 #[.pointer (some ⟨bp, 0, none⟩), .string ⟨#[40, 119, 41]⟩] w (ArgP w bp x ⟨7, 0, 0⟩ [119]) := by
  obtain ⟨pg, op, iop, ia, ex, al, bits, rop, ra, ral⟩ := x
  have hex := hx.ex
  simp only at hex
  have h0 : Blk w bp 131 (bdr pg op iop ia ex al bits rop ra ral) := h
  have hlt : bp < w.heap.size := h.lt
  have hne1 : ¬ bp = w.heap.size := Nat.ne_of_lt hlt
  have hsl : ∀ W : World, (Instr.sliceAt 9 (.string ⟨#[40, 119, 41]⟩) (some (.int .i64 1)) (some (.int .i64 2)) none).run Tryz.prog W = .ok (.string ⟨#[119]⟩) W := fun W => by kernel_rfl
  have a4 : (w.alloc (.cells #[.int .i64 0, .int .i64 0, .int .i64 0] 87)).cell? ⟨bp, 4, none⟩ = some (.string ⟨ex.toArray⟩) := (h0.alloc (.cells #[.int .i64 0, .int .i64 0, .int .i64 0] 87)).cell 4
  have a4f : (w.alloc (.cells #[.int .i64 0, .int .i64 0, .int .i64 0] 87)).frozen? ⟨bp, 4, none⟩ = false := (h0.alloc (.cells #[.int .i64 0, .int .i64 0, .int .i64 0] 87)).free 4
  have HK0 := Lib.hid h0
  obtain ⟨exB, hexB⟩ : ∃ b : ByteArray, b = ⟨ex.toArray⟩ := ⟨_, rfl⟩
  have hsz : exB.size ≤ 100 := by rw [hexB]; show ex.toArray.size ≤ _; rw [List.size_toArray]; exact hex
  have HEX := Lib.hid hexB
  rw [← hexB] at a4
  clear h h0 hx hex hexB
  go_enter Tryz.func89, Tryz.ntmps89
  go_upto_region 2 with fail
  go_region
  all_goals
    go_wp2
    have hcat : (exB ++ ⟨#[119]⟩ : ByteArray) = ⟨(ex ++ [119]).toArray⟩ := by rw [HEX.out]; apply ByteArray.ext; simp
    rw [hcat]
    have hfin : Blk ((w.setCell ⟨bp, 4, none⟩ (.string ⟨(ex ++ [119]).toArray⟩)).alloc (.cells #[.int .i64 7, .int .i64 0, .int .i64 0] 87)).drew w.heap.size 87 #[.int .i64 7, .int .i64 0, .int .i64 0] := by
      have h1 := Blk.new (w.setCell ⟨bp, 4, none⟩ (.string ⟨(ex ++ [119]).toArray⟩)) 87 #[.int .i64 7, .int .i64 0, .int .i64 0]
      rw [World.size_setCell] at h1
      exact h1
    refine bodyPost_ret (results_row1 rfl _ _ w.heap.size 87 #[.int .i64 7, .int .i64 0, .int .i64 0] (0, 0) _ rfl hfin Tryz.underlying87 rfl (by kernel_rfl)) rfl ⟨rfl, ?_, ?_⟩
    · exact (HK0.out.set 4 (.string ⟨(ex ++ [119]).toArray⟩)).alloc (.cells #[.int .i64 7, .int .i64 0, .int .i64 0] 87)
    · exact grown_one w bp 4 _ _
end Go.Proofs.YtlepicdjnbbndaaGreatDoor
