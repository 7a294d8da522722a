/-
  breadboardlaw04.HexwriteJoins. Conditions: sizes; the library's table as its initialiser lays it.
-/
import Derived.Test.YtcfjcoockklkeaaDoorW22
namespace Go.Proofs.YtcfjcoockklkeaaDoor
open Go.RowKit

theorem joinS_succ {L : List ByteArray} {k : Nat} (h : k < L.length) : joinS (L.take (k + 1)) = joinS (L.take k) ++ (L[k].data.toList ++ [10]) := by
  unfold joinS
  rw [List.take_succ_eq_append_getElem h, List.map_append, joinL_app]
  congr 1
  simp [joinL]
theorem joinS_le (L : List ByteArray) (k : Nat) : (joinS (L.take k)).length ≤ (joinS L).length := by
  have : joinS L = joinS (L.take k) ++ joinS (L.drop k) := by
    unfold joinS
    rw [← joinL_app, ← List.map_append, List.take_append_drop]
  rw [this, List.length_append]; omega
theorem joinS_mem {L : List ByteArray} {k : Nat} (h : k < L.length) : L[k].size ≤ (joinS L).length := by
  have h1 := joinS_le L (k + 1)
  rw [joinS_succ h, List.length_append, List.length_append] at h1
  have e : L[k].data.toList.length = L[k].size := by simp
  omega
theorem lines_none_any (w : World) (hT : Deb w) : Calls Tryd.prog 20 #[.pointer none] w fun e w' => e = .returned (.int .i64 1) ∧ Below w.heap.size w w' := by
  have := Lines_any [] none w (.inl ⟨rfl, rfl⟩) hT (by simp)
  exact this
theorem write_none_any (w : World) (hT : Deb w) : Calls Tryd.prog 18 #[.pointer none] w fun e w' => e = .returned (.string ⟨#[58, 48, 48, 48, 48, 48, 48, 48, 49, 70, 70, 10]⟩) ∧ Below w.heap.size w w' := by
  have := Write_any [] none w (.inl ⟨rfl, rfl⟩) hT (by simp)
  rw [text_none] at this
  exact this
theorem dump_none_any (w : World) (hT : Deb w) : Calls Tryd.prog 15 #[.pointer none] w fun e w' => e = .returned (.string ⟨#[]⟩) ∧ Below w.heap.size w w' := Dump_any [] none w (.inl ⟨rfl, rfl⟩) hT (by simp)
set_option maxHeartbeats 1000000 in
theorem Join_big (p : Blocks) (v : Value) (L : List ByteArray) (w : World) (h : SlR strR w p v L) (hn : L.length ≤ 2000000) (hl : (joinS L).length ≤ 1000000000) :
    Calls Tryd.prog 19 #[v] w fun e w' => e = .returned (.string ⟨(joinS L).toArray⟩) ∧ Below w.heap.size w w' := by
  obtain ⟨a, c, rfl, hc1, hc2, g⟩ := h.str
  cases L with
  | nil =>
    go_enter Tryd.func19, Tryd.ntmps19
    go_wp2
    go_ret
    exact ⟨rfl, Below.refl _ _⟩
  | cons s0 L =>
    obtain ⟨b, o, rfl, _, hc0⟩ := g 0 s0 rfl
    have hblt : b < w.heap.size := World.block_lt_of_cell? _ _ hc0
    have hjl : (Lib.join ((s0 :: L).map (·.data.toList)) [10]).length + 1 = (joinS (s0 :: L)).length := by
      rw [joinS, ← join_is _ (by simp), List.length_append]; rfl
    have HJ := Lib.hid (Tryd.strings_Join b o c (s0 :: L) ⟨#[10]⟩ w (fun j x hx => by obtain ⟨b', o', e, _, hc⟩ := g j x hx; injection e with e; injection e with e1 e2; subst e1 e2; exact hc) hblt (by omega) hc1 (by show (Lib.join _ [10]).length ≤ _; omega))
    have HE : Hid (⟨(Lib.join ((s0 :: L).map (·.data.toList)) [10]).toArray⟩ ++ ⟨#[10]⟩ = (⟨(joinS (s0 :: L)).toArray⟩ : ByteArray)) := by
      refine ba_of ?_
      rw [ba_app, joinS, ← join_is _ (by simp)]
    have hne : decide (((s0 :: L).length : Int) = 0) = false := by simp; omega
    have hln : ((s0 :: L).length : Int) ≤ 2000000 := by omega
    have hl1 : (1 : Int) ≤ ((s0 :: L).length : Int) := by simp; omega
    have hsz : Hid ((⟨(Lib.join ((s0 :: L).map (·.data.toList)) [10]).toArray⟩ : ByteArray).size ≤ 1000000000) := by show (Lib.join _ [10]).toArray.size ≤ _; simp only [List.size_toArray]; omega
    clear g h hc0 hjl hc1 hc2 hn hl
    generalize s0 :: L = M at *
    generalize hS : (⟨(Lib.join (M.map (·.data.toList)) [10]).toArray⟩ : ByteArray) = S at *
    have HS := Lib.hid hS
    clear hS
    have hs9 := hsz.out
    go_enter Tryd.func19, Tryd.ntmps19
    go_wp2_with (go_at_call 50; refine HJ.out.mono ?_; rintro e w' ⟨rfl, hb⟩; have HB := Lib.hid hb; clear hb)
    go_ret
    exact ⟨ret_str HE.out, HB.out⟩
set_option maxHeartbeats 2000000 in
set_option maxRecDepth 100000 in
theorem Joins_any (p : Blocks) (v : Value) (L : List ByteArray) (w : World) (h : SlR strR w p v L) (hT : Deb w) (hn : L.length ≤ 2000000) (hl : (joinS L).length ≤ 1000000000) :
    Calls Tryd.prog 5 #[v] w fun e w' => e = .returned (.bool true) ∧ Below w.heap.size w w' := by
  have HJ := Lib.hid (fun (W : World) (hb : Below w.heap.size w W) => Join_big _ v L W (h.old.below hb) hn hl)
  obtain ⟨ra, rc, rfl, _, _, g⟩ := h.str
  have G := Lib.hid g
  have HT := Lib.hid hT
  have HM := Lib.hid (fun k (h : k < L.length) => Nat.le_trans (joinS_mem h) hl)
  have HLE := Lib.hid (fun k => Nat.le_trans (joinS_le L k) hl)
  have hlen : (L.length : Int) ≤ 2000000 := by omega
  clear g hT h hl hn
  go_enter Tryd.func5, Tryd.ntmps5
  go_wp2
  go_loop [3, 4, 9] (fun x n i => ∃ (k m : Nat) (s : ByteArray), k ≤ L.length ∧ x = .string s ∧ s.data.toList = joinS (L.take k) ∧ n = .int .i64 m ∧ m ≤ 2000 ∧ i = .int .i64 k) (fun _ _ i => L.length - (intOf i).toNat)
  case atStart => exact ⟨0, 0, ⟨#[]⟩, Nat.zero_le _, rfl, rfl, rfl, by omega, rfl⟩
  case round =>
    obtain ⟨k, m, s, hk, rfl, hs, rfl, hm, rfl⟩ := hrel
    have HS := Lib.hid hs
    have hsz : s.size ≤ 1000000000 := by
      have := HLE.out k
      rw [← hs] at this
      have e : s.data.toList.length = s.size := by simp
      omega
    clear hs
    by_cases hlt : k < L.length
    · obtain ⟨b1, o1, rfl, _, d0⟩ := G.out k L[k] (List.getElem?_eq_getElem hlt)
      have hx : L[k].size ≤ 1000000000 := HM.out k hlt
      have HN : Hid ((s ++ (L[k] ++ ⟨#[10]⟩) : ByteArray).data.toList = joinS (L.take (k + 1))) := by
        show _ = _
        rw [joinS_succ hlt, ba_app, ba_app, HS.out]
      generalize L[k] = x at *
      have hmn : min (x.size : Int) 2000 = ((min x.size 2000 : Nat) : Int) := by omega
      have hm2 : min x.size 2000 ≤ 2000 := Nat.min_le_right _ _
      generalize min x.size 2000 = y at *
      by_cases hy : m + y ≤ 2000
      · have hd : decide ((2000 : Int) < (m : Int) + (y : Int)) = false := by simp; omega
        go_wp2
        go_round
        case rel => exact ⟨k + 1, m + y, _, by omega, rfl, HN.out, by go_num, hy, by go_num⟩
        case measure => simp [intOf]; omega
      · have hd : decide ((2000 : Int) < (m : Int) + (y : Int)) = true := by simp; omega
        go_wp2_with (go_at_call 13; refine (alive4_any _ (HT.out)).mono ?_; rintro e w2 ⟨rfl, hb⟩; have HB2 := Lib.hid (hb); clear hb)
        go_ret
        exact ⟨rfl, HB2.out⟩
    · obtain rfl : k = L.length := by omega
      rw [List.take_length] at HS
      obtain rfl := ba_of HS.out
      generalize (⟨(joinS L).toArray⟩ : ByteArray) = t at *
      go_wp2_with (first
        | (go_at_call 13; refine (alive4_any _ (HT.out)).mono ?_; rintro e w2 ⟨rfl, hb⟩; have HB2 := Lib.hid (hb); clear hb)
        | (go_at_call 19; refine (HJ.out _ HB2.out).mono ?_; rintro e w3 ⟨rfl, hb⟩; have HB3 := Lib.hid (HB2.out.trans (hb.mono HB2.out.size)); clear hb)
        | (go_at_call 18; refine (write_none_any _ (HT.out.below HB3.out)).mono ?_; rintro e w4 ⟨rfl, hb⟩; have HB4 := Lib.hid (HB3.out.trans (hb.mono HB3.out.size)); clear hb)
        | (go_at_call 20; refine (lines_none_any _ (HT.out.below HB4.out)).mono ?_; rintro e w5 ⟨rfl, hb⟩; have HB5 := Lib.hid (HB4.out.trans (hb.mono HB4.out.size)); clear hb)
        | (go_at_call 15; refine (dump_none_any _ (HT.out.below HB5.out)).mono ?_; rintro e w6 ⟨rfl, hb⟩; have HB6 := Lib.hid (HB5.out.trans (hb.mono HB5.out.size)); clear hb))
      go_ret
      exact ⟨rfl, HB6.out⟩
end Go.Proofs.YtcfjcoockklkeaaDoor
