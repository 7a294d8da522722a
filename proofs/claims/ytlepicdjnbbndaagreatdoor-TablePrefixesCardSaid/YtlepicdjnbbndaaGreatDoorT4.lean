/-
  table.lookup. Conditions: sizes.
-/
import Derived.Test.YtlepicdjnbbndaaGreatDoorT3
namespace Go.Proofs.YtlepicdjnbbndaaGreatDoor
open Go.RowKit Go.Shelf
attribute [local go_sem] Oper.semAt_some

theorem LkB.set {w0 w : World} {b op : Nat} {v1 v2 : Value} (h : LkB w0 b op v1 v2 w) (u1 u2 : Value) : LkB w0 b op u1 u2 ((w.setCell ⟨b + 1, 0, none⟩ u1).setCell ⟨b + 2, 0, none⟩ u2) :=
  ⟨(h.op.far (p := ⟨b + 1, 0, none⟩) (by show b ≠ b + 1; omega) _).far (p := ⟨b + 2, 0, none⟩) (by show b ≠ b + 2; omega) _, (h.r1.set 0 _).far (p := ⟨b + 2, 0, none⟩) (by show b + 1 ≠ b + 2; omega) _, (h.r2.far (p := ⟨b + 1, 0, none⟩) (by show b + 2 ≠ b + 1; omega) _).set 0 _, (h.below.setCell (by have := h.at_; show _ ≤ b + 1; omega) _).setCell (by have := h.at_; show _ ≤ b + 2; omega) _, h.at_⟩
theorem LkB.ret {w0 w : World} {b op : Nat} {v1 v2 : Value} (h : LkB w0 b op v1 v2 w) (D : Nat) (hD : b + 2 < D) (_ : w.heap[D]? = some (.deferred (some []))) : LkB w0 b op v1 v2 (w.putObj D (.deferred none)) :=
  h.own (bx := D) (B := D) hD (by have := h.at_; omega) (grownBy_putObj' _ D (.deferred none)) (fun r e => by injection e with e; exact .inl e.symm)
theorem lkB_start (w : World) (op : Nat) (s : ByteArray) : LkB w w.heap.size op (.string ⟨#[]⟩) (.bool false) ((((w.alloc (.cells #[.int .u8 op] 5)).alloc (.cells #[.string ⟨#[]⟩] 9)).alloc (.cells #[.bool false] 4)).alloc (.cells #[.string s] 9)) ∧
    Blk ((((w.alloc (.cells #[.int .u8 op] 5)).alloc (.cells #[.string ⟨#[]⟩] 9)).alloc (.cells #[.bool false] 4)).alloc (.cells #[.string s] 9)) (w.heap.size + 3) 9 #[.string s] := by
  have h1 := (((Blk.new w 5 #[.int .u8 op]).alloc (.cells #[.string ⟨#[]⟩] 9)).alloc (.cells #[.bool false] 4)).alloc (.cells #[.string s] 9)
  have h2 := ((Blk.new (w.alloc (.cells #[.int .u8 op] 5)) 9 #[.string ⟨#[]⟩]).alloc (.cells #[.bool false] 4)).alloc (.cells #[.string s] 9)
  have h3 := (Blk.new ((w.alloc (.cells #[.int .u8 op] 5)).alloc (.cells #[.string ⟨#[]⟩] 9)) 4 #[.bool false]).alloc (.cells #[.string s] 9)
  have h4 := Blk.new (((w.alloc (.cells #[.int .u8 op] 5)).alloc (.cells #[.string ⟨#[]⟩] 9)).alloc (.cells #[.bool false] 4)) 9 #[.string s]
  simp only [World.size_alloc] at h2 h3 h4
  refine ⟨⟨h1, h2, h3, ?_, Nat.le_refl _⟩, h4⟩
  refine ((((Below.refl _ w).alloc (Nat.le_refl _) _).alloc ?_ _).alloc ?_ _).alloc ?_ _ <;> simp only [World.size_alloc] <;> omega
set_option maxHeartbeats 4000000 in
set_option maxRecDepth 100000 in
theorem lookup_any (s : ByteArray) (op : Nat) (hop : op < 256) (w : World) (hs : s.size ≤ 1000000) :
    Calls Tryz.prog 68 #[.string s, .int .u8 op] w (lookP w (lookF op (splitC s.data.toList))) := by
  obtain ⟨hk, hb⟩ := lkB_start w op s
  have HK0 := Lib.hid hk
  have HSEQ := Lib.hid (texts_seq (w.heap.size + 3) s _ hb hs)
  have HLT : Hid (w.heap.size + 3 < ((((w.alloc (.cells #[.int .u8 op] 5)).alloc (.cells #[.string ⟨#[]⟩] 9)).alloc (.cells #[.bool false] 4)).alloc (.cells #[.string s] 9)).heap.size) := hb.lt
  clear hk hb hs
  generalize splitC s.data.toList = L at *
  refine (callsIn_wide (n := 9)).1 ?_
  refine callsIn_of_wp_marks Tryz.func68 rfl trivial ?_ rfl
  simp only [Tryz.ntmps68, List.size_toArray, List.length_cons, List.length_nil, Nat.reduceAdd, Nat.reduceSub, Array.replicate_succ, Array.replicate_zero, List.push_toArray, List.append_toArray, List.nil_append, List.cons_append]
  gi_wp2_with (refine ⟨trivial, ?_⟩; gi_at_call 114; refine (callsIn_wide.2 (texts_any s _)).mono ?_; rintro e w' ⟨rfl, rfl⟩)
  generalize (((w.alloc (.cells #[.int .u8 op] 5)).alloc (.cells #[.string ⟨#[]⟩] 9)).alloc (.cells #[.bool false] 4)).alloc (.cells #[.string s] 9) = W0 at *
  refine wpIn_rangeFunc_box rfl (by omega) (gf := 158) (lb := #[.pointer (some ⟨w.heap.size + 3, 0, none⟩)]) rfl trivial (enters_of Tryz.func158 (by kernel_rfl) rfl)
    (encs := encS) HLT.out HSEQ.out (Below.refl _ _) (fun _ => rfl)
    (fun pre W => (∀ y ∈ vals pre, fitsF y op = false) ∧ LkB w w.heap.size op (.string ⟨#[]⟩) (.bool false) W)
    (fun c pre W => c = .ret ∧ ∃ (p0 : List SL) (x : SL), pre = p0 ++ [x] ∧ (∀ y ∈ vals p0, fitsF y op = false) ∧ fitsF x.1 op = true ∧ LkB w w.heap.size op (.string ⟨x.1.toArray⟩) (.bool true) W)
    (fun pre W W' row hi hg hr => ⟨hi.1, hi.2.own (by omega) HK0.out.below.size hg hr⟩)
    (fun c pre W W' row hi hg hr => by
      dsimp only at hi ⊢
      obtain ⟨rfl, p0, x, h1, h2, h3, h4⟩ := hi
      exact ⟨rfl, p0, x, h1, h2, h3, h4.own (by omega) HK0.out.below.size hg hr⟩)
    ⟨fun y hy => (by cases hy), HK0.out⟩
    (fun x => { tmps := #[.string s, .int .u8 op, undef, .pointer (some ⟨w.heap.size, 0, none⟩), .pointer (some ⟨w.heap.size + 1, 0, none⟩), .pointer (some ⟨w.heap.size + 2, 0, none⟩), .string ⟨x.1.toArray⟩, .string s, .func (.func 158) #[] #[.pointer (some ⟨w.heap.size + 3, 0, none⟩)], .string ⟨x.1.toArray⟩, undef, undef, undef, undef], defers := [] })
    ?assign ?body ?done ?stop
  case assign =>
    intro l x W K hK
    dsimp only [encS]
    gi_wp2
    exact hK
  case body =>
    rintro l pre x W ⟨hp, hk⟩
    have HP := Lib.hid hp
    have HK := Lib.hid hk
    have d0 := hk.op.cell 0
    have d1 := hk.r1.cell 0
    have d2 := hk.r2.cell 0
    have g1 := hk.r1.free 0
    have g2 := hk.r2.free 0
    have HF := Lib.hid (tfits_any ⟨x.1.toArray⟩ op hop W (by show x.1.toArray.size ≤ _; rw [List.size_toArray]; exact x.2))
    rw [show (⟨x.1.toArray⟩ : ByteArray).data.toList = x.1 by simp] at HF
    clear hp hk
    have hsub : 9 - 1 - 1 = 7 := rfl
    simp only [hsub]
    cases hf : fitsF x.1 op
    · rw [hf] at HF
      have HFF := Lib.hid hf
      clear hf
      gi_wp2_with (refine ⟨trivial, ?_⟩; gi_at_call 67; refine (CallsIn.inRound l (callsIn_wide.2 HF.out)).mono ?_; rintro e w2 ⟨rfl, rfl⟩)
      exact ⟨KeepsFrom.refl _ _, rfl, fun y hy => by
        rw [vals, List.map_append, List.mem_append] at hy
        rcases hy with hy | hy
        · exact HP.out y hy
        · simp at hy; rw [hy]; exact HFF.out, HK.out⟩
    · rw [hf] at HF
      have HFF := Lib.hid hf
      clear hf
      gi_wp2_with (refine ⟨trivial, ?_⟩; gi_at_call 67; refine (CallsIn.inRound l (callsIn_wide.2 HF.out)).mono ?_; rintro e w2 ⟨rfl, rfl⟩)
      exact ⟨((KeepsOthers.setCell _ _ _).trans (KeepsOthers.setCell _ _ _)).from _, rfl, pre, x, rfl, HP.out, HFF.out, HK.out.set _ _⟩
  case done =>
    rintro D xs W hD hall ⟨hp, hk⟩ hK
    have HN : Hid (lookF op L = none) := by show _ = _; rw [← hall]; exact lookF_none hp
    have HK := Lib.hid hk
    have HKD := Lib.hid hK
    have hD2 : w.heap.size + 2 < D := by have := HLT.out; omega
    have d1 := hk.r1.cell 0
    have d2 := hk.r2.cell 0
    have g1 := hk.r1.free 0
    have g2 := hk.r2.free 0
    clear hp hk hK hall
    gi_wp2
    have HK2 := HK.out.set (.string ⟨#[]⟩) (.bool false)
    have hne1 : D ≠ w.heap.size + 1 := by omega
    have hne2 : D ≠ w.heap.size + 2 := by omega
    have HKD2 : ((W.setCell ⟨w.heap.size + 1, 0, none⟩ (.string ⟨#[]⟩)).setCell ⟨w.heap.size + 2, 0, none⟩ (.bool false)).heap[D]? = some (.deferred (some [])) := ((Below.heap_setCell _ _ _ _ hne2).trans (Below.heap_setCell _ _ _ _ hne1)).trans HKD.out
    refine ⟨by simp, .inl ⟨_, _, rfl, run_takeDeferred HKD2, ?_⟩⟩
    have HK3 := HK2.ret D hD2 HKD2
    have q1 := HK3.r1.cell 0
    have q2 : _ = _ := HK3.r2.cell 0
    have q3 : ((((W.setCell ⟨w.heap.size + 1, 0, none⟩ (.string ⟨#[]⟩)).setCell ⟨w.heap.size + 1 + 1, 0, none⟩ (.bool false)).putObj D (.deferred none))).cell? ⟨w.heap.size + 1 + 1, 0, none⟩ = some (.bool false) := q2
    refine ⟨.tuple #[.string ⟨#[]⟩, .bool false], ?_, ?_⟩
    · simp [results, Tryz.results68, go_sem, q1, q3]
    · exact ⟨by rw [HN.out], HK3.below⟩
  case stop =>
    rintro D c pre W hD hpre ⟨rfl, p0, x, rfl, hp, hf, hk⟩ hK
    have HN : Hid (lookF op L = some x.1) := by
      obtain ⟨r, hr⟩ := hpre
      show _ = _
      rw [← hr, vals, List.map_append, List.append_assoc]
      exact lookF_some hp hf
    have HK := Lib.hid hk
    have HKD := Lib.hid hK
    have hD2 : w.heap.size + 2 < D := by have := HLT.out; omega
    clear hp hk hK hpre hf
    gi_wp2
    refine ⟨by simp, .inl ⟨_, _, rfl, run_takeDeferred HKD.out, ?_⟩⟩
    have HK3 := HK.out.ret D hD2 HKD.out
    have q1 := HK3.r1.cell 0
    have q3 : (W.putObj D (.deferred none)).cell? ⟨w.heap.size + 1 + 1, 0, none⟩ = some (.bool true) := HK3.r2.cell 0
    refine ⟨.tuple #[.string ⟨x.1.toArray⟩, .bool true], ?_, ?_⟩
    · simp [results, Tryz.results68, go_sem, q1, q3]
    · exact ⟨by rw [HN.out], HK3.below⟩
end Go.Proofs.YtlepicdjnbbndaaGreatDoor
