/-
  breadboardlaw04.Build. Conditions: the addresses fit their type; the library's table as its initialiser lays it.
-/
import Derived.Test.YtcfjcoockklkeaaDoorW19
namespace Go.Proofs.YtcfjcoockklkeaaDoor
open Go.RowKit

def putF (R : List (Int × List UInt8)) : ImgS := R.foldl (fun s r => imgPut s.1 s.2 r.1 r.2) (fun _ => false, fun _ => 0)
theorem putF_succ {R : List (Int × List UInt8)} {k : Nat} (h : k < R.length) : putF (R.take (k + 1)) = imgPut (putF (R.take k)).1 (putF (R.take k)).2 R[k].1 R[k].2 := by
  unfold putF
  rw [List.take_succ_eq_append_getElem h, List.foldl_append]
  rfl
theorem segC_len (d : Nat → Bool) (v : Nat → UInt8) : ∀ n a, (segC d v a n).length ≤ n
  | 0, _ => Nat.le_refl _
  | n + 1, a => by
    have := segC_len d v n (a + 1)
    unfold segC
    split
    · simp; omega
    · rw [List.nil_append]; omega
theorem cellsOf_len (d : Nat → Bool) (v : Nat → UInt8) : (cellsOf d v).length ≤ 65536 := segC_len d v _ _
theorem le_sum {x : Nat} : ∀ {l : List Nat}, x ∈ l → x ≤ l.sum
  | y :: l, h => by
    rw [List.sum_cons]
    rcases List.mem_cons.1 h with rfl | h
    · omega
    · have := le_sum h; omega
theorem few_len {R : List (Int × List UInt8)} (h : fewB R = true) : R.length ≤ 60 ∧ ∀ r ∈ R, r.2.length ≤ 3000 := by
  unfold fewB at h
  simp only [Bool.and_eq_true, decide_eq_true_eq] at h
  refine ⟨h.1, fun r hr => ?_⟩
  have hle : min r.2.length 5000 ≤ sumF R := by
    unfold sumF
    exact le_sum (List.mem_map.2 ⟨r, hr, rfl⟩)
  omega
theorem put_img {w' : World} {b n : Nat} {d : Nat → Bool} {v : Nat → UInt8} {a : Int} {l : List UInt8} (h : Put w' b n d v a l) : ∃ n', n' ≤ n + l.length ∧ ImgC w' b (imgPut d v a l).1 (imgPut d v a l).2 n' := by
  unfold Put at h
  unfold imgPut
  by_cases hc : putCode d a l.length = 0
  · rw [if_pos hc] at h ⊢
    exact ⟨_, Nat.le_refl _, h⟩
  · rw [if_neg hc] at h ⊢
    exact ⟨n, by omega, h⟩
/-- image and cells side by side -/
structure Both (w0 w : World) (b : Nat) (cv : Value) (S : ImgS) (n : Nat) : Prop where
  img : ImgC w b S.1 S.2 n
  cells : CelV w (fun x => b < x) cv (cellsOf S.1 S.2)
  at_ : w0.heap.size ≤ b
  below : Below w0.heap.size w0 w
theorem CelV.keep {w w' : World} {p : Blocks} {v : Value} {m : List CellV} (h : CelV w p v m) (hk : Keep (fun k => p k ∧ k < w.heap.size) w w') : CelV w' p v m := by
  rcases h with ⟨rfl, rfl⟩ | ⟨h0, h⟩
  · exact .inl ⟨rfl, rfl⟩
  · exact .inr ⟨h0, (h.old.keep hk).mono fun _ hq => hq.1⟩
theorem Both.one {w0 w w1 : World} {b n : Nat} {cv : Value} {S : ImgS} {a : Int} {l : List UInt8} (h : Both w0 w b cv S n) (hb : Below w.heap.size w w1) :
    ImgC w1 b S.1 S.2 n ∧ ∀ w2, w1.grownBy w2 (some b) → Put w2 b n S.1 S.2 a l → ∃ n', n' ≤ n + l.length ∧ ImgC w2 b (imgPut S.1 S.2 a l).1 (imgPut S.1 S.2 a l).2 n' ∧ CelV w2 (fun x => b < x) cv (cellsOf S.1 S.2) ∧ Below w0.heap.size w0 w2 := by
  have hi := h.img.below hb h.img.lt
  refine ⟨hi, fun w2 hg hp => ?_⟩
  obtain ⟨n', hn, hi2⟩ := put_img hp
  refine ⟨n', hn, hi2, ?_, ?_⟩
  · have hc := h.cells.below hb (fun _ hk => hk)
    refine hc.keep (Keep.grown hg fun k hk => ⟨hk.2, fun e => ?_⟩)
    injection e with e
    have := hk.1
    omega
  · exact (h.below.trans (hb.mono h.below.size)).grown hg (Nat.le_trans h.below.size hb.size) (fun k e => by injection e with e; have := h.at_; omega)
theorem Both.two {w0 w2 w3 : World} {b n : Nat} {S : ImgS} {a : Int} {l : List UInt8} {e : Ending} (hi : ImgC w2 b (imgPut S.1 S.2 a l).1 (imgPut S.1 S.2 a l).2 n) (hat : w0.heap.size ≤ b) (hb0 : Below w0.heap.size w0 w2)
    (h : Put02R w2 (fun x => b < x) (cellsOf S.1 S.2) a l e w3) : ∃ v' c : Value, e = .returned (.tuple #[v', c]) ∧ Both w0 w3 b v' (imgPut S.1 S.2 a l) n := by
  obtain ⟨v', rfl, hv, hb⟩ := h
  rw [put_match] at hv ⊢
  refine ⟨v', _, rfl, hi.below hb hi.lt, ?_, hat, hb0.trans (hb.mono hb0.size)⟩
  rcases hv with ⟨h1, h2⟩ | ⟨h1, h2⟩
  · exact .inl ⟨h1, h2⟩
  · exact .inr ⟨h1, h2.mono fun k hk => by rcases hk with hk | hk; exact hk; have := hi.lt; omega⟩
theorem Build_no (p : Blocks) (v : Value) (R : List (Int × List UInt8)) (w : World) (h : SlR runIR w p v R) (hf : fewB R = false) :
    Calls Tryd.prog 12 #[v] w fun e w' => e = .returned (.tuple #[.pointer none, .slice none 0 0]) ∧ w = w' := by
  have HF := Lib.hid (Few_any p v R w h)
  rw [hf] at HF
  go_enter Tryd.func12, Tryd.ntmps12
  go_wp2_with (go_at_call 14; refine HF.out.mono ?_; rintro e w' ⟨rfl, rfl⟩)
  go_ret2
  exact ⟨rfl, rfl⟩
set_option maxHeartbeats 2000000 in
set_option maxRecDepth 100000 in
theorem Build_yes (p : Blocks) (v : Value) (R : List (Int × List UInt8)) (w : World) (h : SlR runIR w p v R) (hT : Deb w) (hA : ∀ r ∈ R, -9223372036854775808 ≤ r.1 ∧ r.1 ≤ 9223372036854775807) (hf : fewB R = true) :
    Calls Tryd.prog 12 #[v] w fun e w' => ∃ b n cv, e = .returned (.tuple #[.pointer (some ⟨b, 0, none⟩), cv]) ∧ Both w w' b cv (putF R) n := by
  have HF := Lib.hid (Few_any p v R w h)
  rw [hf] at HF
  obtain ⟨hl60, hl3⟩ := few_len hf
  obtain ⟨ra, rc, rfl, _, _, g⟩ := h.irun
  have G := Lib.hid g
  have HT := Lib.hid hT
  have HA := Lib.hid hA
  have HL3 := Lib.hid hl3
  have hlen : (R.length : Int) ≤ 60 := by omega
  clear g hT hA hl3 h hf
  go_enter Tryd.func12, Tryd.ntmps12
  go_wp2_with (first
    | (go_at_call 14; refine HF.out.mono ?_; rintro e w' ⟨rfl, rfl⟩)
    | (go_at_call 26; refine (New_any _).mono ?_; rintro e w1 ⟨rfl, hi, hb⟩; have HI1 := Lib.hid hi; have HB1 := Lib.hid hb; clear hi hb))
  go_loopw [5, 14] (fun cv i wr => ∃ k n : Nat, k ≤ R.length ∧ i = .int .i64 k ∧ n ≤ 3000 * k ∧ Both w wr w.heap.size cv (putF (R.take k)) n) (fun _ i _ => R.length - (intOf i).toNat)
  case atStart => exact ⟨0, 0, Nat.zero_le _, rfl, Nat.le_refl _, HI1.out, .inl ⟨cellsOf_none _, rfl⟩, Nat.le_refl _, HB1.out⟩
  case round =>
    obtain ⟨k, n, hk, rfl, hn, hr⟩ := hrel
    have HR := Lib.hid hr
    clear hr
    by_cases hlt : k < R.length
    · obtain ⟨b1, o1, sa, sc, rfl, _, d0, d1, hsl⟩ := G.out k R[k] (List.getElem?_eq_getElem hlt)
      have HSU := Lib.hid (putF_succ hlt)
      have hlx : R[k].2.length ≤ 3000 := HL3.out _ (List.getElem_mem hlt)
      obtain ⟨hx1, hx2⟩ := HA.out _ (List.getElem_mem hlt)
      have HSL := Lib.hid hsl
      have e0 := (HR.out.below.cell (World.block_lt_of_cell? _ _ d0)).trans d0
      have e1 := (HR.out.below.cell (World.block_lt_of_cell? _ _ d1)).trans d1
      generalize R[k] = x at *
      clear d0 d1 hsl
      have HAL : Hid (Below wr.heap.size wr (wr.alloc (.cells #[.int .i64 x.1, .slice sa x.2.length sc] 72))) := (Below.refl _ wr).alloc (Nat.le_refl _) _
      have HLT : Hid (w.heap.size < wr.heap.size) := HR.out.img.lt
      generalize putF (R.take k) = S at *
      have hn9 : n ≤ 900000000 := by omega
      go_wp2_with (first
        | (go_at_call 28
           have hone := HR.out.one (l := x.2) (a := x.1) HAL.out
           refine (Put_any w.heap.size n x.1 _ _ _ _ x.2 _ hone.1 hn9 (HSL.out.old.below (HR.out.below.trans (HAL.out.mono HR.out.below.size))) (HT.out.below (HR.out.below.trans (HAL.out.mono HR.out.below.size))) hx1 hx2 (by omega)).mono ?_
           rintro e w2 ⟨rfl, hp, hg⟩
           obtain ⟨n', hn', hi2, hc2, hb2⟩ := hone.2 w2 hg hp
           have HI2 := Lib.hid hi2
           have HC2 := Lib.hid hc2
           have HB2 := Lib.hid hb2
           have hbl := hg.block wr.heap.size (by simp) (fun e => by injection e with e; have := HLT.out; omega)
           have d2 : w2.cell? ⟨wr.heap.size, 0, none⟩ = some (.int .i64 x.1) := (World.cell?_of_block (w := wr.alloc (.cells #[.int .i64 x.1, .slice sa x.2.length sc] 72)) hbl).trans (by go_simp)
           have d3 : w2.cell? ⟨wr.heap.size, 1, none⟩ = some (.slice sa x.2.length sc) := (World.cell?_of_block (w := wr.alloc (.cells #[.int .i64 x.1, .slice sa x.2.length sc] 72)) hbl).trans (by go_simp)
           clear hone hp hg hi2 hc2 hb2 hbl)
        | (go_at_call 44
           refine (Put02_any (fun y => w.heap.size < y) _ _ _ _ x.1 x.2 _ HC2.out (HSL.out.old.below HB2.out) (by omega) (Nat.le_trans (cellsOf_len _ _) (by omega)) hx1 hx2).mono ?_
           rintro e w3 h3
           obtain ⟨v3, c3, rfl, hbo⟩ := Both.two HI2.out (Nat.le_refl _) HB2.out h3
           have HBO := Lib.hid hbo
           clear h3 hbo))
      go_roundw
      case rel => exact ⟨k + 1, n', by omega, by go_num, by omega, by rw [HSU.out]; exact HBO.out⟩
      case measure => simp [intOf]; omega
    · obtain rfl : k = R.length := by omega
      rw [List.take_length] at HR
      go_wp2
      go_ret2
      exact ⟨_, _, _, rfl, HR.out⟩
end Go.Proofs.YtcfjcoockklkeaaDoor
