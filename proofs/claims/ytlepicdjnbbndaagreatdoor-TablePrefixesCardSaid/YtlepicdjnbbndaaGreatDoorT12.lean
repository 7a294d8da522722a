/-
  (*table.builder).arg. Conditions: sizes; the library's table as its initialiser lays it.
-/
import Derived.Test.YtlepicdjnbbndaaGreatDoorT11
namespace Go.Proofs.YtlepicdjnbbndaaGreatDoor
open Go.RowKit Go.Shelf

theorem grown_of {w w1 : World} (bp : Nat) (hb : Below w.heap.size w w1) : w.grownBy w1 (some bp) := ⟨hb.os, hb.tape, hb.output, hb.size, fun k hk _ => hb.block k hk⟩
/-- behind a method's call: the result's block, and what stands at the end -/
theorem arg_fin {w w1 : World} {bp : Nat} {x : BdrV} (h : BK w1 bp x) (hlt : bp < w.heap.size) (hg : (w.alloc (.cells #[.int .i64 0, .int .i64 0, .int .i64 0] 87)).grownBy w1 (some bp)) : Blk w1 w.heap.size 87 #[.int .i64 0, .int .i64 0, .int .i64 0] ∧ ∀ a b c : Value,
    Blk (((w1.setCell ⟨w.heap.size, 0, none⟩ a).setCell ⟨w.heap.size, 1, none⟩ b).setCell ⟨w.heap.size, 2, none⟩ c) w.heap.size 87 #[a, b, c] ∧ BK (((w1.setCell ⟨w.heap.size, 0, none⟩ a).setCell ⟨w.heap.size, 1, none⟩ b).setCell ⟨w.heap.size, 2, none⟩ c) bp x ∧ w.grownBy (((w1.setCell ⟨w.heap.size, 0, none⟩ a).setCell ⟨w.heap.size, 1, none⟩ b).setCell ⟨w.heap.size, 2, none⟩ c) (some bp) := by
  have hf : Blk w1 w.heap.size 87 #[.int .i64 0, .int .i64 0, .int .i64 0] := (Blk.new w 87 #[.int .i64 0, .int .i64 0, .int .i64 0]).grown hg (fun e => by injection e with e; omega)
  refine ⟨hf, fun a b c => ⟨((hf.set 0 a).set 1 b).set 2 c, ?_, ?_⟩⟩
  · have hne : bp ≠ w.heap.size := by omega
    exact ((h.far (p := ⟨w.heap.size, 0, none⟩) hne a).far (p := ⟨w.heap.size, 1, none⟩) hne b).far (p := ⟨w.heap.size, 2, none⟩) hne c
  · refine ⟨hg.os, hg.tape, hg.output, ?_, fun k hk hne => ?_⟩
    · rw [World.size_setCell, World.size_setCell, World.size_setCell]
      have := hg.size
      rw [World.size_alloc] at this
      omega
    · have hne2 : k ≠ w.heap.size := by omega
      exact (((Below.heap_setCell _ _ _ _ hne2).trans (Below.heap_setCell _ _ _ _ hne2)).trans (Below.heap_setCell _ _ _ _ hne2)).trans ((hg.block k (by rw [World.size_alloc]; omega) hne).trans (Below.heap_alloc _ _ _ hk))
/-- the answer -/
def ArgP (w : World) (bp : Nat) (x : BdrV) (o : Opd) (ext : List UInt8) (e : Ending) (w' : World) : Prop := e = .returned o.val ∧ BK w' bp { x with ex := x.ex ++ ext } ∧ w.grownBy w' (some bp)
theorem bdr_same (x : BdrV) : { x with ex := x.ex ++ [] } = x := by cases x; simp
set_option maxHeartbeats 2000000 in
set_option maxRecDepth 100000 in
theorem arg_114 (bp : Nat) (x : BdrV) (y : List UInt8) (o : Opd) (hy : (Lib.fields listR)[fieldF 114 x.op 0 0 x.bits.data.toList]? = some y) (ho : wordF y = some o) (hyl : y.length ≤ 1000) (w : World) (h : BK w bp x) (hx : x.ok) (hT : Spc w) :
    Calls Tryz.prog 89 #[.pointer (some ⟨bp, 0, none⟩), .string ⟨#[114]⟩] w (ArgP w bp x o []) := by
  have hlt : bp < w.heap.size := h.lt
  have hA := h.alloc (.cells #[.int .i64 0, .int .i64 0, .int .i64 0] 87)
  have hmf : ∀ (fn : Fn) (first cap : Array Value) (w : World), (Instr.makeFunc fn first cap).run Tryz.prog w = .ok (.func fn first cap) w := fun _ _ _ _ => rfl
  have hKB := fun (w1 : World) (hb : Below (w.alloc (.cells #[.int .i64 0, .int .i64 0, .int .i64 0] 87)).heap.size (w.alloc (.cells #[.int .i64 0, .int .i64 0, .int .i64 0] 87)) w1) => show BK w1 bp { x with ex := x.ex ++ [] } from by rw [bdr_same]; exact hA.below hb hA.lt
  have HM := Lib.hid (register_any bp x 114 y o _ hA hx hy ho hyl (hT.below ((Below.refl _ w).alloc (Nat.le_refl _) _)))
  clear hT hy ho hyl
  obtain ⟨ok, orr, on⟩ := o
  clear h hx hA
  go_enter Tryz.func89, Tryz.ntmps89
  go_wp2_with (go_at_call 139; refine HM.out.mono ?_; rintro e w1 ⟨rfl, hb⟩; have HK1 := Lib.hid (hKB w1 hb); have hg := grown_of bp hb; unfold Opd.val; obtain ⟨hf1, hfin⟩ := arg_fin HK1.out hlt hg; obtain ⟨z0, z1, z2, y0, y1, y2⟩ := hf1.three; have HFIN := Lib.hid hfin; clear hb hg hf1 hfin)
  obtain ⟨q1, q2, q3⟩ := HFIN.out (.int .i64 ok) (.int .i64 orr) (.int .i64 on)
  exact bodyPost_ret (results_row1 rfl _ _ w.heap.size 87 _ (0, 0) _ rfl q1 Tryz.underlying87 rfl (by kernel_rfl)) rfl ⟨rfl, q2, q3⟩
set_option maxHeartbeats 2000000 in
set_option maxRecDepth 100000 in
theorem arg_115 (bp : Nat) (x : BdrV) (y : List UInt8) (o : Opd) (hy : (Lib.fields listR)[fieldF 115 x.op 0 0 x.bits.data.toList]? = some y) (ho : wordF y = some o) (hyl : y.length ≤ 1000) (w : World) (h : BK w bp x) (hx : x.ok) (hT : Spc w) :
    Calls Tryz.prog 89 #[.pointer (some ⟨bp, 0, none⟩), .string ⟨#[115]⟩] w (ArgP w bp x o []) := by
  have hlt : bp < w.heap.size := h.lt
  have hA := h.alloc (.cells #[.int .i64 0, .int .i64 0, .int .i64 0] 87)
  have hmf : ∀ (fn : Fn) (first cap : Array Value) (w : World), (Instr.makeFunc fn first cap).run Tryz.prog w = .ok (.func fn first cap) w := fun _ _ _ _ => rfl
  have hKB := fun (w1 : World) (hb : Below (w.alloc (.cells #[.int .i64 0, .int .i64 0, .int .i64 0] 87)).heap.size (w.alloc (.cells #[.int .i64 0, .int .i64 0, .int .i64 0] 87)) w1) => show BK w1 bp { x with ex := x.ex ++ [] } from by rw [bdr_same]; exact hA.below hb hA.lt
  have HM := Lib.hid (register_any bp x 115 y o _ hA hx hy ho hyl (hT.below ((Below.refl _ w).alloc (Nat.le_refl _) _)))
  clear hT hy ho hyl
  obtain ⟨ok, orr, on⟩ := o
  clear h hx hA
  go_enter Tryz.func89, Tryz.ntmps89
  go_wp2_with (go_at_call 139; refine HM.out.mono ?_; rintro e w1 ⟨rfl, hb⟩; have HK1 := Lib.hid (hKB w1 hb); have hg := grown_of bp hb; unfold Opd.val; obtain ⟨hf1, hfin⟩ := arg_fin HK1.out hlt hg; obtain ⟨z0, z1, z2, y0, y1, y2⟩ := hf1.three; have HFIN := Lib.hid hfin; clear hb hg hf1 hfin)
  obtain ⟨q1, q2, q3⟩ := HFIN.out (.int .i64 ok) (.int .i64 orr) (.int .i64 on)
  exact bodyPost_ret (results_row1 rfl _ _ w.heap.size 87 _ (0, 0) _ rfl q1 Tryz.underlying87 rfl (by kernel_rfl)) rfl ⟨rfl, q2, q3⟩
set_option maxHeartbeats 2000000 in
set_option maxRecDepth 100000 in
theorem arg_112 (bp : Nat) (x : BdrV) (y : List UInt8) (o : Opd) (hy : (Lib.fields listP)[fieldF 112 x.op 0 0 x.bits.data.toList]? = some y) (ho : wordF y = some o) (hyl : y.length ≤ 1000) (w : World) (h : BK w bp x) (hx : x.ok) (hT : Spc w) :
    Calls Tryz.prog 89 #[.pointer (some ⟨bp, 0, none⟩), .string ⟨#[112]⟩] w (ArgP w bp x o []) := by
  have hlt : bp < w.heap.size := h.lt
  have hA := h.alloc (.cells #[.int .i64 0, .int .i64 0, .int .i64 0] 87)
  have hmf : ∀ (fn : Fn) (first cap : Array Value) (w : World), (Instr.makeFunc fn first cap).run Tryz.prog w = .ok (.func fn first cap) w := fun _ _ _ _ => rfl
  have hKB := fun (w1 : World) (hb : Below (w.alloc (.cells #[.int .i64 0, .int .i64 0, .int .i64 0] 87)).heap.size (w.alloc (.cells #[.int .i64 0, .int .i64 0, .int .i64 0] 87)) w1) => show BK w1 bp { x with ex := x.ex ++ [] } from by rw [bdr_same]; exact hA.below hb hA.lt
  have HM := Lib.hid (pair_any bp x 112 y o _ hA hx hy ho hyl (hT.below ((Below.refl _ w).alloc (Nat.le_refl _) _)))
  clear hT hy ho hyl
  obtain ⟨ok, orr, on⟩ := o
  clear h hx hA
  go_enter Tryz.func89, Tryz.ntmps89
  go_wp2_with (go_at_call 140; refine HM.out.mono ?_; rintro e w1 ⟨rfl, hb⟩; have HK1 := Lib.hid (hKB w1 hb); have hg := grown_of bp hb; unfold Opd.val; obtain ⟨hf1, hfin⟩ := arg_fin HK1.out hlt hg; obtain ⟨z0, z1, z2, y0, y1, y2⟩ := hf1.three; have HFIN := Lib.hid hfin; clear hb hg hf1 hfin)
  obtain ⟨q1, q2, q3⟩ := HFIN.out (.int .i64 ok) (.int .i64 orr) (.int .i64 on)
  exact bodyPost_ret (results_row1 rfl _ _ w.heap.size 87 _ (0, 0) _ rfl q1 Tryz.underlying87 rfl (by kernel_rfl)) rfl ⟨rfl, q2, q3⟩
set_option maxHeartbeats 2000000 in
set_option maxRecDepth 100000 in
theorem arg_113 (bp : Nat) (x : BdrV) (y : List UInt8) (o : Opd) (hy : (Lib.fields listQ)[fieldF 113 x.op 0 0 x.bits.data.toList]? = some y) (ho : wordF y = some o) (hyl : y.length ≤ 1000) (w : World) (h : BK w bp x) (hx : x.ok) (hT : Spc w) :
    Calls Tryz.prog 89 #[.pointer (some ⟨bp, 0, none⟩), .string ⟨#[113]⟩] w (ArgP w bp x o []) := by
  have hlt : bp < w.heap.size := h.lt
  have hA := h.alloc (.cells #[.int .i64 0, .int .i64 0, .int .i64 0] 87)
  have hmf : ∀ (fn : Fn) (first cap : Array Value) (w : World), (Instr.makeFunc fn first cap).run Tryz.prog w = .ok (.func fn first cap) w := fun _ _ _ _ => rfl
  have hKB := fun (w1 : World) (hb : Below (w.alloc (.cells #[.int .i64 0, .int .i64 0, .int .i64 0] 87)).heap.size (w.alloc (.cells #[.int .i64 0, .int .i64 0, .int .i64 0] 87)) w1) => show BK w1 bp { x with ex := x.ex ++ [] } from by rw [bdr_same]; exact hA.below hb hA.lt
  have HM := Lib.hid (stack_any bp x 113 y o _ hA hx hy ho hyl (hT.below ((Below.refl _ w).alloc (Nat.le_refl _) _)))
  clear hT hy ho hyl
  obtain ⟨ok, orr, on⟩ := o
  clear h hx hA
  go_enter Tryz.func89, Tryz.ntmps89
  go_wp2_with (go_at_call 141; refine HM.out.mono ?_; rintro e w1 ⟨rfl, hb⟩; have HK1 := Lib.hid (hKB w1 hb); have hg := grown_of bp hb; unfold Opd.val; obtain ⟨hf1, hfin⟩ := arg_fin HK1.out hlt hg; obtain ⟨z0, z1, z2, y0, y1, y2⟩ := hf1.three; have HFIN := Lib.hid hfin; clear hb hg hf1 hfin)
  obtain ⟨q1, q2, q3⟩ := HFIN.out (.int .i64 ok) (.int .i64 orr) (.int .i64 on)
  exact bodyPost_ret (results_row1 rfl _ _ w.heap.size 87 _ (0, 0) _ rfl q1 Tryz.underlying87 rfl (by kernel_rfl)) rfl ⟨rfl, q2, q3⟩
set_option maxHeartbeats 2000000 in
set_option maxRecDepth 100000 in
theorem arg_99 (bp : Nat) (x : BdrV) (w : World) (h : BK w bp x) (hx : x.ok) :
    Calls Tryz.prog 89 #[.pointer (some ⟨bp, 0, none⟩), .string ⟨#[99]⟩] w (ArgP w bp x ⟨8, (fieldF 99 x.op 0 0 x.bits.data.toList : Nat), 0⟩ []) := by
  have hlt : bp < w.heap.size := h.lt
  have hA := h.alloc (.cells #[.int .i64 0, .int .i64 0, .int .i64 0] 87)
  have hmf : ∀ (fn : Fn) (first cap : Array Value) (w : World), (Instr.makeFunc fn first cap).run Tryz.prog w = .ok (.func fn first cap) w := fun _ _ _ _ => rfl
  have hKB := fun (w1 : World) (hb : Below (w.alloc (.cells #[.int .i64 0, .int .i64 0, .int .i64 0] 87)).heap.size (w.alloc (.cells #[.int .i64 0, .int .i64 0, .int .i64 0] 87)) w1) => show BK w1 bp { x with ex := x.ex ++ [] } from by rw [bdr_same]; exact hA.below hb hA.lt
  have HM := Lib.hid (condition_any bp x 99 _ hA hx)
  clear h hx hA
  go_enter Tryz.func89, Tryz.ntmps89
  go_wp2_with (go_at_call 142; refine HM.out.mono ?_; rintro e w1 ⟨rfl, hb⟩; have HK1 := Lib.hid (hKB w1 hb); have hg := grown_of bp hb; unfold Opd.val; obtain ⟨hf1, hfin⟩ := arg_fin HK1.out hlt hg; obtain ⟨z0, z1, z2, y0, y1, y2⟩ := hf1.three; have HFIN := Lib.hid hfin; clear hb hg hf1 hfin)
  obtain ⟨q1, q2, q3⟩ := HFIN.out (.int .i64 8) (.int .i64 (fieldF 99 x.op 0 0 x.bits.data.toList : Nat)) (.int .i64 0)
  exact bodyPost_ret (results_row1 rfl _ _ w.heap.size 87 _ (0, 0) _ rfl q1 Tryz.underlying87 rfl (by kernel_rfl)) rfl ⟨rfl, q2, q3⟩
set_option maxHeartbeats 2000000 in
set_option maxRecDepth 100000 in
theorem arg_107 (bp : Nat) (x : BdrV) (w : World) (h : BK w bp x) (hx : x.ok) :
    Calls Tryz.prog 89 #[.pointer (some ⟨bp, 0, none⟩), .string ⟨#[107]⟩] w (ArgP w bp x ⟨8, (fieldF 107 x.op 0 0 x.bits.data.toList : Nat), 0⟩ []) := by
  have hlt : bp < w.heap.size := h.lt
  have hA := h.alloc (.cells #[.int .i64 0, .int .i64 0, .int .i64 0] 87)
  have hmf : ∀ (fn : Fn) (first cap : Array Value) (w : World), (Instr.makeFunc fn first cap).run Tryz.prog w = .ok (.func fn first cap) w := fun _ _ _ _ => rfl
  have hKB := fun (w1 : World) (hb : Below (w.alloc (.cells #[.int .i64 0, .int .i64 0, .int .i64 0] 87)).heap.size (w.alloc (.cells #[.int .i64 0, .int .i64 0, .int .i64 0] 87)) w1) => show BK w1 bp { x with ex := x.ex ++ [] } from by rw [bdr_same]; exact hA.below hb hA.lt
  have HM := Lib.hid (condition_any bp x 107 _ hA hx)
  clear h hx hA
  go_enter Tryz.func89, Tryz.ntmps89
  go_wp2_with (go_at_call 142; refine HM.out.mono ?_; rintro e w1 ⟨rfl, hb⟩; have HK1 := Lib.hid (hKB w1 hb); have hg := grown_of bp hb; unfold Opd.val; obtain ⟨hf1, hfin⟩ := arg_fin HK1.out hlt hg; obtain ⟨z0, z1, z2, y0, y1, y2⟩ := hf1.three; have HFIN := Lib.hid hfin; clear hb hg hf1 hfin)
  obtain ⟨q1, q2, q3⟩ := HFIN.out (.int .i64 8) (.int .i64 (fieldF 107 x.op 0 0 x.bits.data.toList : Nat)) (.int .i64 0)
  exact bodyPost_ret (results_row1 rfl _ _ w.heap.size 87 _ (0, 0) _ rfl q1 Tryz.underlying87 rfl (by kernel_rfl)) rfl ⟨rfl, q2, q3⟩
set_option maxHeartbeats 2000000 in
set_option maxRecDepth 100000 in
theorem arg_98 (bp : Nat) (x : BdrV) (w : World) (h : BK w bp x) (hx : x.ok) :
    Calls Tryz.prog 89 #[.pointer (some ⟨bp, 0, none⟩), .string ⟨#[98]⟩] w (ArgP w bp x ⟨6, 0, (fieldF 98 x.op 0 0 x.bits.data.toList : Nat)⟩ []) := by
  have hlt : bp < w.heap.size := h.lt
  have hA := h.alloc (.cells #[.int .i64 0, .int .i64 0, .int .i64 0] 87)
  have hmf : ∀ (fn : Fn) (first cap : Array Value) (w : World), (Instr.makeFunc fn first cap).run Tryz.prog w = .ok (.func fn first cap) w := fun _ _ _ _ => rfl
  have hKB := fun (w1 : World) (hb : Below (w.alloc (.cells #[.int .i64 0, .int .i64 0, .int .i64 0] 87)).heap.size (w.alloc (.cells #[.int .i64 0, .int .i64 0, .int .i64 0] 87)) w1) => show BK w1 bp { x with ex := x.ex ++ [] } from by rw [bdr_same]; exact hA.below hb hA.lt
  have HM := Lib.hid (bit_any bp x 98 _ hA hx)
  clear h hx hA
  go_enter Tryz.func89, Tryz.ntmps89
  go_wp2_with (go_at_call 143; refine HM.out.mono ?_; rintro e w1 ⟨rfl, hb⟩; have HK1 := Lib.hid (hKB w1 hb); have hg := grown_of bp hb; unfold Opd.val; obtain ⟨hf1, hfin⟩ := arg_fin HK1.out hlt hg; obtain ⟨z0, z1, z2, y0, y1, y2⟩ := hf1.three; have HFIN := Lib.hid hfin; clear hb hg hf1 hfin)
  obtain ⟨q1, q2, q3⟩ := HFIN.out (.int .i64 6) (.int .i64 0) (.int .i64 (fieldF 98 x.op 0 0 x.bits.data.toList : Nat))
  exact bodyPost_ret (results_row1 rfl _ _ w.heap.size 87 _ (0, 0) _ rfl q1 Tryz.underlying87 rfl (by kernel_rfl)) rfl ⟨rfl, q2, q3⟩
set_option maxHeartbeats 2000000 in
set_option maxRecDepth 100000 in
theorem arg_116 (bp : Nat) (x : BdrV) (w : World) (h : BK w bp x) (hx : x.ok) :
    Calls Tryz.prog 89 #[.pointer (some ⟨bp, 0, none⟩), .string ⟨#[116]⟩] w (ArgP w bp x ⟨6, 0, (8 * (fieldF 116 x.op 0 0 x.bits.data.toList : Nat))⟩ []) := by
  have hlt : bp < w.heap.size := h.lt
  have hA := h.alloc (.cells #[.int .i64 0, .int .i64 0, .int .i64 0] 87)
  have hmf : ∀ (fn : Fn) (first cap : Array Value) (w : World), (Instr.makeFunc fn first cap).run Tryz.prog w = .ok (.func fn first cap) w := fun _ _ _ _ => rfl
  have hKB := fun (w1 : World) (hb : Below (w.alloc (.cells #[.int .i64 0, .int .i64 0, .int .i64 0] 87)).heap.size (w.alloc (.cells #[.int .i64 0, .int .i64 0, .int .i64 0] 87)) w1) => show BK w1 bp { x with ex := x.ex ++ [] } from by rw [bdr_same]; exact hA.below hb hA.lt
  have HM := Lib.hid (restart_any bp x 116 _ hA hx)
  clear h hx hA
  go_enter Tryz.func89, Tryz.ntmps89
  go_wp2_with (go_at_call 144; refine HM.out.mono ?_; rintro e w1 ⟨rfl, hb⟩; have HK1 := Lib.hid (hKB w1 hb); have hg := grown_of bp hb; unfold Opd.val; obtain ⟨hf1, hfin⟩ := arg_fin HK1.out hlt hg; obtain ⟨z0, z1, z2, y0, y1, y2⟩ := hf1.three; have HFIN := Lib.hid hfin; clear hb hg hf1 hfin)
  obtain ⟨q1, q2, q3⟩ := HFIN.out (.int .i64 6) (.int .i64 0) (.int .i64 (8 * (fieldF 116 x.op 0 0 x.bits.data.toList : Nat)))
  exact bodyPost_ret (results_row1 rfl _ _ w.heap.size 87 _ (0, 0) _ rfl q1 Tryz.underlying87 rfl (by kernel_rfl)) rfl ⟨rfl, q2, q3⟩
set_option maxHeartbeats 2000000 in
set_option maxRecDepth 100000 in
theorem arg_101 (bp : Nat) (x : BdrV) (w : World) (h : BK w bp x) (hx : x.ok) :
    Calls Tryz.prog 89 #[.pointer (some ⟨bp, 0, none⟩), .string ⟨#[101]⟩] w (ArgP w bp x ⟨10, 0, 0⟩ [101]) := by
  have hlt : bp < w.heap.size := h.lt
  have hA := h.alloc (.cells #[.int .i64 0, .int .i64 0, .int .i64 0] 87)
  have hmf : ∀ (fn : Fn) (first cap : Array Value) (w : World), (Instr.makeFunc fn first cap).run Tryz.prog w = .ok (.func fn first cap) w := fun _ _ _ _ => rfl
  have HM := Lib.hid (distance_any bp x 101 _ hA hx)
  clear h hx hA
  go_enter Tryz.func89, Tryz.ntmps89
  go_wp2_with (go_at_call 145; refine HM.out.mono ?_; rintro e w1 ⟨rfl, hk, hg⟩; have HK1 := Lib.hid hk; unfold Opd.val; obtain ⟨hf1, hfin⟩ := arg_fin HK1.out hlt hg; obtain ⟨z0, z1, z2, y0, y1, y2⟩ := hf1.three; have HFIN := Lib.hid hfin; clear hk hg hf1 hfin)
  obtain ⟨q1, q2, q3⟩ := HFIN.out (.int .i64 10) (.int .i64 0) (.int .i64 0)
  exact bodyPost_ret (results_row1 rfl _ _ w.heap.size 87 _ (0, 0) _ rfl q1 Tryz.underlying87 rfl (by kernel_rfl)) rfl ⟨rfl, q2, q3⟩
set_option maxHeartbeats 2000000 in
set_option maxRecDepth 100000 in
theorem arg_110 (bp : Nat) (x : BdrV) (w : World) (h : BK w bp x) (hx : x.ok) :
    Calls Tryz.prog 89 #[.pointer (some ⟨bp, 0, none⟩), .string ⟨#[110]⟩] w (ArgP w bp x ⟨6, 0, 0⟩ [110]) := by
  have hlt : bp < w.heap.size := h.lt
  have hA := h.alloc (.cells #[.int .i64 0, .int .i64 0, .int .i64 0] 87)
  have hmf : ∀ (fn : Fn) (first cap : Array Value) (w : World), (Instr.makeFunc fn first cap).run Tryz.prog w = .ok (.func fn first cap) w := fun _ _ _ _ => rfl
  have HM := Lib.hid (value_any bp x 110 _ hA hx)
  clear h hx hA
  go_enter Tryz.func89, Tryz.ntmps89
  go_wp2_with (go_at_call 146; refine HM.out.mono ?_; rintro e w1 ⟨rfl, hk, hg⟩; have HK1 := Lib.hid hk; unfold Opd.val; obtain ⟨hf1, hfin⟩ := arg_fin HK1.out hlt hg; obtain ⟨z0, z1, z2, y0, y1, y2⟩ := hf1.three; have HFIN := Lib.hid hfin; clear hk hg hf1 hfin)
  obtain ⟨q1, q2, q3⟩ := HFIN.out (.int .i64 6) (.int .i64 0) (.int .i64 0)
  exact bodyPost_ret (results_row1 rfl _ _ w.heap.size 87 _ (0, 0) _ rfl q1 Tryz.underlying87 rfl (by kernel_rfl)) rfl ⟨rfl, q2, q3⟩
set_option maxHeartbeats 2000000 in
set_option maxRecDepth 100000 in
theorem arg_119 (bp : Nat) (x : BdrV) (w : World) (h : BK w bp x) (hx : x.ok) :
    Calls Tryz.prog 89 #[.pointer (some ⟨bp, 0, none⟩), .string ⟨#[119]⟩] w (ArgP w bp x ⟨6, 0, 0⟩ [119]) := by
  have hlt : bp < w.heap.size := h.lt
  have hA := h.alloc (.cells #[.int .i64 0, .int .i64 0, .int .i64 0] 87)
  have hmf : ∀ (fn : Fn) (first cap : Array Value) (w : World), (Instr.makeFunc fn first cap).run Tryz.prog w = .ok (.func fn first cap) w := fun _ _ _ _ => rfl
  have HM := Lib.hid (value_any bp x 119 _ hA hx)
  clear h hx hA
  go_enter Tryz.func89, Tryz.ntmps89
  go_wp2_with (go_at_call 146; refine HM.out.mono ?_; rintro e w1 ⟨rfl, hk, hg⟩; have HK1 := Lib.hid hk; unfold Opd.val; obtain ⟨hf1, hfin⟩ := arg_fin HK1.out hlt hg; obtain ⟨z0, z1, z2, y0, y1, y2⟩ := hf1.three; have HFIN := Lib.hid hfin; clear hk hg hf1 hfin)
  obtain ⟨q1, q2, q3⟩ := HFIN.out (.int .i64 6) (.int .i64 0) (.int .i64 0)
  exact bodyPost_ret (results_row1 rfl _ _ w.heap.size 87 _ (0, 0) _ rfl q1 Tryz.underlying87 rfl (by kernel_rfl)) rfl ⟨rfl, q2, q3⟩
set_option maxHeartbeats 2000000 in
set_option maxRecDepth 100000 in
theorem arg_48 (bp : Nat) (x : BdrV) (w : World) (h : BK w bp x) :
    Calls Tryz.prog 89 #[.pointer (some ⟨bp, 0, none⟩), .string ⟨#[48]⟩] w (ArgP w bp x ⟨6, 0, 0⟩ []) := by
  have hlt : bp < w.heap.size := h.lt
  have hA := h.alloc (.cells #[.int .i64 0, .int .i64 0, .int .i64 0] 87)
  have hmf : ∀ (fn : Fn) (first cap : Array Value) (w : World), (Instr.makeFunc fn first cap).run Tryz.prog w = .ok (.func fn first cap) w := fun _ _ _ _ => rfl
  have hKB := fun (w1 : World) (hb : Below (w.alloc (.cells #[.int .i64 0, .int .i64 0, .int .i64 0] 87)).heap.size (w.alloc (.cells #[.int .i64 0, .int .i64 0, .int .i64 0] 87)) w1) => show BK w1 bp { x with ex := x.ex ++ [] } from by rw [bdr_same]; exact hA.below hb hA.lt
  have HM : Hid (Calls Tryz.prog 147 #[.pointer (some ⟨bp, 0, none⟩), .int .u8 48] (w.alloc (.cells #[.int .i64 0, .int .i64 0, .int .i64 0] 87)) fun e w' => e = .returned (Opd.val ⟨6, 0, 0⟩) ∧ Below (w.alloc (.cells #[.int .i64 0, .int .i64 0, .int .i64 0] 87)).heap.size (w.alloc (.cells #[.int .i64 0, .int .i64 0, .int .i64 0] 87)) w') := zero_any bp 48 _ (by decide)
  clear h hA
  go_enter Tryz.func89, Tryz.ntmps89
  go_wp2_with (go_at_call 147; refine HM.out.mono ?_; rintro e w1 ⟨rfl, hb⟩; have HK1 := Lib.hid (hKB w1 hb); have hg := grown_of bp hb; unfold Opd.val; obtain ⟨hf1, hfin⟩ := arg_fin HK1.out hlt hg; obtain ⟨z0, z1, z2, y0, y1, y2⟩ := hf1.three; have HFIN := Lib.hid hfin; clear hb hg hf1 hfin)
  obtain ⟨q1, q2, q3⟩ := HFIN.out (.int .i64 6) (.int .i64 0) (.int .i64 0)
  exact bodyPost_ret (results_row1 rfl _ _ w.heap.size 87 _ (0, 0) _ rfl q1 Tryz.underlying87 rfl (by kernel_rfl)) rfl ⟨rfl, q2, q3⟩
set_option maxHeartbeats 2000000 in
set_option maxRecDepth 100000 in
theorem arg_49 (bp : Nat) (x : BdrV) (w : World) (h : BK w bp x) :
    Calls Tryz.prog 89 #[.pointer (some ⟨bp, 0, none⟩), .string ⟨#[49]⟩] w (ArgP w bp x ⟨6, 0, 1⟩ []) := by
  have hlt : bp < w.heap.size := h.lt
  have hA := h.alloc (.cells #[.int .i64 0, .int .i64 0, .int .i64 0] 87)
  have hmf : ∀ (fn : Fn) (first cap : Array Value) (w : World), (Instr.makeFunc fn first cap).run Tryz.prog w = .ok (.func fn first cap) w := fun _ _ _ _ => rfl
  have hKB := fun (w1 : World) (hb : Below (w.alloc (.cells #[.int .i64 0, .int .i64 0, .int .i64 0] 87)).heap.size (w.alloc (.cells #[.int .i64 0, .int .i64 0, .int .i64 0] 87)) w1) => show BK w1 bp { x with ex := x.ex ++ [] } from by rw [bdr_same]; exact hA.below hb hA.lt
  have HM : Hid (Calls Tryz.prog 147 #[.pointer (some ⟨bp, 0, none⟩), .int .u8 49] (w.alloc (.cells #[.int .i64 0, .int .i64 0, .int .i64 0] 87)) fun e w' => e = .returned (Opd.val ⟨6, 0, 1⟩) ∧ Below (w.alloc (.cells #[.int .i64 0, .int .i64 0, .int .i64 0] 87)).heap.size (w.alloc (.cells #[.int .i64 0, .int .i64 0, .int .i64 0] 87)) w') := zero_any bp 49 _ (by decide)
  clear h hA
  go_enter Tryz.func89, Tryz.ntmps89
  go_wp2_with (go_at_call 147; refine HM.out.mono ?_; rintro e w1 ⟨rfl, hb⟩; have HK1 := Lib.hid (hKB w1 hb); have hg := grown_of bp hb; unfold Opd.val; obtain ⟨hf1, hfin⟩ := arg_fin HK1.out hlt hg; obtain ⟨z0, z1, z2, y0, y1, y2⟩ := hf1.three; have HFIN := Lib.hid hfin; clear hb hg hf1 hfin)
  obtain ⟨q1, q2, q3⟩ := HFIN.out (.int .i64 6) (.int .i64 0) (.int .i64 1)
  exact bodyPost_ret (results_row1 rfl _ _ w.heap.size 87 _ (0, 0) _ rfl q1 Tryz.underlying87 rfl (by kernel_rfl)) rfl ⟨rfl, q2, q3⟩
set_option maxHeartbeats 2000000 in
set_option maxRecDepth 100000 in
theorem arg_50 (bp : Nat) (x : BdrV) (w : World) (h : BK w bp x) :
    Calls Tryz.prog 89 #[.pointer (some ⟨bp, 0, none⟩), .string ⟨#[50]⟩] w (ArgP w bp x ⟨6, 0, 2⟩ []) := by
  have hlt : bp < w.heap.size := h.lt
  have hA := h.alloc (.cells #[.int .i64 0, .int .i64 0, .int .i64 0] 87)
  have hmf : ∀ (fn : Fn) (first cap : Array Value) (w : World), (Instr.makeFunc fn first cap).run Tryz.prog w = .ok (.func fn first cap) w := fun _ _ _ _ => rfl
  have hKB := fun (w1 : World) (hb : Below (w.alloc (.cells #[.int .i64 0, .int .i64 0, .int .i64 0] 87)).heap.size (w.alloc (.cells #[.int .i64 0, .int .i64 0, .int .i64 0] 87)) w1) => show BK w1 bp { x with ex := x.ex ++ [] } from by rw [bdr_same]; exact hA.below hb hA.lt
  have HM : Hid (Calls Tryz.prog 147 #[.pointer (some ⟨bp, 0, none⟩), .int .u8 50] (w.alloc (.cells #[.int .i64 0, .int .i64 0, .int .i64 0] 87)) fun e w' => e = .returned (Opd.val ⟨6, 0, 2⟩) ∧ Below (w.alloc (.cells #[.int .i64 0, .int .i64 0, .int .i64 0] 87)).heap.size (w.alloc (.cells #[.int .i64 0, .int .i64 0, .int .i64 0] 87)) w') := zero_any bp 50 _ (by decide)
  clear h hA
  go_enter Tryz.func89, Tryz.ntmps89
  go_wp2_with (go_at_call 147; refine HM.out.mono ?_; rintro e w1 ⟨rfl, hb⟩; have HK1 := Lib.hid (hKB w1 hb); have hg := grown_of bp hb; unfold Opd.val; obtain ⟨hf1, hfin⟩ := arg_fin HK1.out hlt hg; obtain ⟨z0, z1, z2, y0, y1, y2⟩ := hf1.three; have HFIN := Lib.hid hfin; clear hb hg hf1 hfin)
  obtain ⟨q1, q2, q3⟩ := HFIN.out (.int .i64 6) (.int .i64 0) (.int .i64 2)
  exact bodyPost_ret (results_row1 rfl _ _ w.heap.size 87 _ (0, 0) _ rfl q1 Tryz.underlying87 rfl (by kernel_rfl)) rfl ⟨rfl, q2, q3⟩
end Go.Proofs.YtlepicdjnbbndaaGreatDoor
