/-
  num.Bytes. Conditions: the string's size.
-/
import Derived.Test.YtcfjcoockklkeaaGreatDoorV2
import Derived.Test.YtcfjcoockklkeaaGreatDoorM4
namespace Go.Proofs.YtcfjcoockklkeaaGreatDoor
open Go.RowKit

section
variable {P : Program} {α : Type} {n : Nat} {enc : α → List Value} {h0 : ∀ x, (enc x).length = n} {h1 : ∀ x, ∀ u ∈ enc x, u.oneCell' = true}
/-- one element more in a captured variable of the call's own -/
theorem acc_app {t e : TypeId} {bytes : Nat} (hE : ElT P t e n bytes) (hte : e ≠ t) {w0 W w2 : World} {bO : Nat} {ov : Value} {L : List α} (x : α) (cs : Array Value) (hcs : cs = (enc x).toArray) (hko : Blk W bO t #[ov]) (hov : Own (Rep.flat n enc h0 h1) W w0.heap.size e NoB ov L) (hbw : Below w0.heap.size w0 W)
    (hx1 : (L.length + 1) * bytes ≤ 140737488355328) (hx2 : L.length + 1 ≤ 9223372036854775807) (hb : Below W.heap.size W w2) :
    ∃ a5 c5 w3, (Builtin.append_ #[t, t] t #[ov, .slice (some ⟨w2.heap.size, 0, none⟩) 1 1]).run P (w2.alloc (.cells cs e)) = .ok (.slice a5 (L.length + 1) c5) w3 ∧ Blk w3 bO t #[ov] ∧
      (w0.heap.size ≤ bO → (∃ ov', Blk (w3.setCell ⟨bO, 0, none⟩ (.slice a5 (L.length + 1) c5)) bO t #[ov'] ∧ Own (Rep.flat n enc h0 h1) (w3.setCell ⟨bO, 0, none⟩ (.slice a5 (L.length + 1) c5)) w0.heap.size e NoB ov' (L ++ [x])) ∧ Below w0.heap.size w0 (w3.setCell ⟨bO, 0, none⟩ (.slice a5 (L.length + 1) c5)) ∧
        ∀ k o, W.heap[k]? = some o → k ≠ bO → (∀ cs fz, o ≠ .cells cs e fz) → (w3.setCell ⟨bO, 0, none⟩ (.slice a5 (L.length + 1) c5)).heap[k]? = some o) := by
  have hov2 := hov.stayS hb
  have hB : w0.heap.size ≤ w2.heap.size := Nat.le_trans hbw.size hb.size
  obtain ⟨a5, c5, w3, hrun, hp, hg, _⟩ := Own.pushedA (P := P) (t := t) (ty := t) (x := x) hE hov2 cs hcs hx1 hx2 hB
  have hsame : ∀ k o, W.heap[k]? = some o → ov.ownBlock ≠ some k → w3.heap[k]? = some o := fun k o hk hne => by
    have hlt : k < W.heap.size := (Array.getElem?_eq_some_iff.1 hk).1
    exact (hg.block k (Nat.lt_of_lt_of_le hlt hb.size) (fun e => hne e.symm)).trans ((hb.block k hlt).trans hk)
  have hnr : ov.ownBlock ≠ some bO := fun e => by
    obtain ⟨cs2, h2⟩ := hov.rowT e
    have hk : W.heap[bO]? = some (.cells #[ov] t (0, 0)) := hko
    rw [hk] at h2
    injection h2 with h2
    injection h2 with _ h2
    exact hte h2.symm
  have hk3 : Blk w3 bO t #[ov] := hsame _ _ hko hnr
  refine ⟨a5, c5, w3, hrun, hk3, fun hBO => ⟨⟨_, hk3.set 0 _, ?_⟩, (hbw.trans (hb.mono hbw.size) |>.grown hg hB (fun k hk => (hov.lt k hk).1)).setCell (p := ⟨bO, 0, none⟩) hBO _, fun k o hk hne hty => ?_⟩⟩
  · refine hp.keep (fun k hk => ?_)
    rcases hk with hk | hk
    · exact hk.elim
    · refine Below.heap_setCell _ _ _ _ (fun e => ?_)
      obtain ⟨cs2, h2⟩ := hp.rowT hk
      subst e
      have hk : w3.heap[k]? = some (.cells #[ov] t (0, 0)) := hk3
      rw [hk] at h2
      injection h2 with h2
      injection h2 with _ h2
      exact hte h2.symm
  · refine (Below.heap_setCell _ _ _ _ hne).trans (hsame k o hk (fun e => ?_))
    obtain ⟨cs2, h2⟩ := hov.rowT e
    rw [hk] at h2; injection h2 with h2
    exact hty _ _ h2
end
/-- num.Bytes: the capitals, and the bytes so far -/
structure HexI (w0 : World) (bu bO : Nat) (u : ByteArray) (ys : List UInt8) (w : World) : Prop where
  str : Blk w bu 9 #[.string u]
  out : ∃ ov, Blk w bO 55 #[ov] ∧ Own byteR w w0.heap.size 5 NoB ov ys
  below : Below w0.heap.size w0 w
theorem hexI_app {w0 w : World} {bu bO : Nat} {u : ByteArray} {ys : List UInt8} (h : HexI w0 bu bO u ys w) (hB : w0.heap.size ≤ bO) (hne : bu ≠ bO) (hys : ys.length ≤ 1000000000) (n : Nat) (hn : n < 256) :
    ∃ ov a5 c5 w3, Blk w bO 55 #[ov] ∧ (Builtin.append_ #[55, 55] 55 #[ov, .slice (some ⟨w.heap.size, 0, none⟩) 1 1]).run Tryz.prog (w.alloc (.cells #[.int .u8 (n : Int)] 5)) = .ok (.slice a5 (ys.length + 1) c5) w3 ∧ Blk w3 bO 55 #[ov] ∧
      HexI w0 bu bO u (ys ++ [UInt8.ofNat n]) (w3.setCell ⟨bO, 0, none⟩ (.slice a5 (ys.length + 1) c5)) := by
  obtain ⟨ov, h1, h2⟩ := h.out
  obtain ⟨a5, c5, w3, hrun, hk, hrest⟩ := acc_app (P := Tryz.prog) elByte (by decide) (UInt8.ofNat n) #[.int .u8 (n : Int)] (by simp [ofNat_toNat hn]) h1 h2 h.below (by omega) (by omega) (Below.refl _ _)
  obtain ⟨g1, g2, g3⟩ := hrest hB
  refine ⟨ov, a5, c5, w3, h1, hrun, hk, ⟨g3 _ _ h.str hne (fun cs fz e => ?_), g1, g2⟩⟩
  injection e with _ e
  exact absurd e (by decide)
theorem dig2_lt (a b : UInt8) : (dig2 a b).1 < 256 := by
  unfold dig2
  split
  · show 16 * _ + _ < 256; omega
  · show 0 < 256; omega
set_option maxHeartbeats 2000000 in
set_option maxRecDepth 100000 in
theorem Bytes1_any (i : Nat) (u : ByteArray) (ys : List UInt8) (w0 w : World) (bu bO : Nat) (h : HexI w0 bu bO u ys w) (hi : i + 1 < u.size) (hu : u.size ≤ 1000000000) (hys : ys.length ≤ 1000000000) (hB : w0.heap.size ≤ bO) (hne : bu ≠ bO) :
    Calls Tryz.prog 102 #[.int .i64 i, .pointer (some ⟨bu, 0, none⟩), .pointer (some ⟨bO, 0, none⟩)] w fun e w' => e = .returned (.bool (dig2 u[i] u[i+1]).2) ∧ HexI w0 bu bO u (ys ++ [UInt8.ofNat (dig2 u[i] u[i+1]).1]) w' := by
  have hx2 : (u.extract i (i + 2)).size = 2 := by rw [ByteArray.size_extract]; omega
  have e0 : (u.extract i (i + 2))[0]'(by omega) = u[i] := by rw [ByteArray.getElem_extract]; congr 1
  have e1 : (u.extract i (i + 2))[1]'(by omega) = u[i+1] := by rw [ByteArray.getElem_extract]
  have HDG := Lib.hid (fun W => digits2_any _ hx2 W)
  rw [e0, e1] at HDG
  obtain ⟨ov, a5, c5, w3, hk, hrun, hk3, hr⟩ := hexI_app h hB hne hys _ (dig2_lt u[i] u[i+1])
  have hlt := dig2_lt u[i] u[i+1]
  have HRUN := Lib.hid hrun
  have HR := Lib.hid hr
  have d0 := h.str.cell 0
  have d1 := hk.cell 0
  have d2 := hk3.cell 0
  have g2 := hk3.free 0
  have hi1 : (i : Int) + 2 ≤ (u.size : Int) := by omega
  have hi0 : (0 : Int) ≤ (i : Int) := by omega
  have hu1 : (u.size : Int) ≤ 1000000000 := by omega
  have hi2 : ((i : Int) + 2).toNat = i + 2 := by omega
  clear e0 e1 hrun hr hk hk3 h hx2
  generalize dig2 u[i] u[i+1] = dd at *
  obtain ⟨x, b⟩ := dd
  have hx0 : (x : Int) < 256 := by omega
  clear hi hlt
  go_enter Tryz.func102, Tryz.ntmps102
  go_wp2_with (first
    | (go_at_call 103; refine (HDG.out _).mono ?_; rintro e w1 ⟨rfl, rfl⟩)
    | (at_builtin; refine wpList_run rfl (.tmp 16) (.tmp 19) 55 rfl _ _ HRUN.out ?_))
  go_ret
  exact ⟨rfl, HR.out⟩
theorem upper_size (s : ByteArray) : (upper s).size = s.size := by
  unfold upper
  show (List.toArray _).size = _
  simp
theorem upper_get (s : ByteArray) (i : Nat) (h : i < s.size) : (upper s)[i]'(by rw [upper_size]; exact h) = up s[i] := by
  show (upper s).data[i]'_ = _
  simp [upper]
  rfl
theorem dig2_hex (s : ByteArray) (i : Nat) (h : i + 1 < s.size) : dig2 ((upper s)[i]'(by rw [upper_size]; omega)) ((upper s)[i+1]'(by rw [upper_size]; omega)) = if hexV s[i] ≤ 15 ∧ hexV s[i+1] ≤ 15 then (16 * hexV s[i] + hexV s[i+1], true) else (0, false) := by
  rw [upper_get, upper_get]
  unfold dig2
  rw [idx_up, idx_up]
theorem dig2_hexU (s u : ByteArray) (hu : u = upper s) : ∀ (i : Nat) (h : i + 1 < s.size) (h1 : i < u.size) (h2 : i + 1 < u.size), dig2 u[i] u[i+1] = if hexV s[i] ≤ 15 ∧ hexV s[i+1] ≤ 15 then (16 * hexV s[i] + hexV s[i+1], true) else (0, false) := by
  subst hu
  exact fun i h _ _ => dig2_hex s i h
set_option maxHeartbeats 2000000 in
set_option maxRecDepth 100000 in
theorem Bytes_any (s : ByteArray) (w : World) (hs : s.size ≤ 1000000000) :
    Calls Tryz.prog 78 #[.string s] w (BytesP w s.data.toList) := by
  have hs1 : (s.size : Int) ≤ 1000000000 := by omega
  have HLEN : Hid (s.data.toList.length = s.size) := by show _ = _; simp
  have hmf : ∀ (fn : Fn) (first cap : Array Value) (w : World), (Instr.makeFunc fn first cap).run Tryz.prog w = .ok (.func fn first cap) w := fun _ _ _ _ => rfl
  by_cases hev : s.size % 2 = 1
  · have HN : Hid (bytesH s.data.toList = none) := bytesH_odd _ (by rw [HLEN.out]; exact hev)
    have hm : (s.size : Int) % 2 = 1 := by omega
    go_enter Tryz.func78, Tryz.ntmps78
    go_wp2
    go_ret2
    exact ⟨.inl ⟨HN.out, rfl⟩, Below.refl _ _⟩
  · have hm : (s.size : Int) % 2 = 0 := by omega
    have HEV : Hid (s.size % 2 = 0) := by show _ = _; omega
    obtain ⟨u, hu⟩ : ∃ u, u = upper s := ⟨_, rfl⟩
    have HU := Lib.hid (Upper_any s w (by omega))
    rw [← hu] at HU
    have HUS : Hid (u.size = s.size) := by show _ = _; rw [hu]; exact upper_size s
    have HD2 := Lib.hid (dig2_hexU s u hu)
    clear hu
    clear hev
    go_enter Tryz.func78, Tryz.ntmps78
    go_wp2_with (go_at_call 101; refine HU.out.mono ?_; rintro e w1 ⟨rfl, hb⟩; have HB1 := Lib.hid hb; clear hb)
    clear hm
    have HI0 : Hid (HexI w w1.heap.size (w1.heap.size + 1) u [] ((w1.alloc (.cells #[.string u] 9)).alloc (.cells #[.slice none 0 0] 55))) := by
      have hnew := Blk.new (w1.alloc (.cells #[.string u] 9)) 55 #[.slice none 0 0]
      rw [World.size_alloc] at hnew
      exact ⟨(Blk.new w1 _ _).alloc _, ⟨_, hnew, Own.nil _ _ _ _ _⟩, (HB1.out.alloc HB1.out.size _).alloc (by rw [World.size_alloc]; exact Nat.le_succ_of_le HB1.out.size) _⟩
    have HS1 : Hid (w.heap.size ≤ w1.heap.size) := HB1.out.size
    have hus : (u.size : Int) = (s.size : Int) := by have := HUS.out; omega
    go_loopw [7] (fun i wr => ∃ (k : Nat) (ys : List UInt8), k ≤ s.size ∧ k % 2 = 0 ∧ i = .int .i64 k ∧ ys.length ≤ k ∧ HexI w w1.heap.size (w1.heap.size + 1) u ys wr ∧ bytesH s.data.toList = (bytesH (s.data.toList.drop k)).map (ys ++ ·)) (fun i _ => s.size - (intOf i).toNat)
    case atStart => exact ⟨0, [], Nat.zero_le _, rfl, rfl, Nat.le_refl _, HI0.out, by simp⟩
    case round =>
      obtain ⟨k, ys, hk, hk2, rfl, hyl, hI, hbh⟩ := hrel
      have HI := Lib.hid hI
      have HBH := Lib.hid hbh
      have HK2 := Lib.hid hk2
      have d0 := hI.str.cell 0
      clear hI hbh hk2
      by_cases hlt : k < s.size
      · have hlt1 : k + 1 < s.size := by have := HK2.out; have := HEV.out; omega
        have hll : k + 1 < s.data.toList.length := by rw [HLEN.out]; exact hlt1
        have e1 : s.data.toList[k]'(by omega) = s[k] := rfl
        have e2 : s.data.toList[k+1] = s[k+1] := rfl
        have HBAD := Lib.hid (bytesH_bad hll)
        have HGOOD := Lib.hid (fun hx hy => bytesH_good hll hx hy HBH.out)
        rw [e1, e2] at HBAD HGOOD
        have hku : k + 1 < u.size := by have := HUS.out; omega
        have HX := Lib.hid (fun W h => Bytes1_any k u ys w W w1.heap.size (w1.heap.size + 1) h hku (by have := HUS.out; omega) (by omega) (Nat.le_succ_of_le HS1.out) (by omega))
        rw [HD2.out k hlt1 (by omega) hku] at HX
        clear e1 e2
        generalize hexV s[k] = x at *
        generalize hexV s[k+1] = y at *
        by_cases hxy : x ≤ 15 ∧ y ≤ 15
        · rw [if_pos hxy] at HX
          have HG := Lib.hid (HGOOD.out hxy.1 hxy.2)
          go_wp2_with (go_at_call 102; refine (HX.out _ HI.out).mono ?_; rintro e w2 ⟨rfl, hi2⟩; have HI2 := Lib.hid hi2; clear hi2)
          go_roundw
          case rel => exact ⟨k + 2, ys ++ [UInt8.ofNat (16 * x + y)], by omega, by have := HK2.out; omega, by go_num, by simp; omega, HI2.out, HG.out⟩
          case measure => simp [intOf]; omega
        · rw [if_neg hxy] at HX
          have HN : Hid (bytesH s.data.toList = none) := by show _ = _; rw [HBH.out, HBAD.out (by omega)]; rfl
          go_wp2_with (go_at_call 102; refine (HX.out _ HI.out).mono ?_; rintro e w2 ⟨rfl, hi2⟩; have HI2 := Lib.hid hi2; clear hi2)
          go_ret2
          exact ⟨.inl ⟨HN.out, rfl⟩, HI2.out.below⟩
      · have HE : Hid (bytesH s.data.toList = some ys) := bytesH_end (by rw [HLEN.out]; omega) HBH.out
        obtain ⟨ov, hov, hown⟩ := HI.out.out
        have d1 := hov.cell 0
        have HOW := Lib.hid hown
        clear hov hown
        go_wp2
        go_ret2
        exact ⟨.inr ⟨_, ys, HE.out, rfl, HOW.out⟩, HI.out.below⟩
end Go.Proofs.YtcfjcoockklkeaaGreatDoor
