/-
  record.Parse. Conditions: the line's size.
-/
import Derived.Test.YtcfjcoockklkeaaGreatDoorV4
namespace Go.Proofs.YtcfjcoockklkeaaGreatDoor
open Go.RowKit

theorem byteN_at {l : List UInt8} {i : Nat} (h : i < l.length) : byteN l i = l[i].toNat := by
  unfold byteN
  rw [List.getD_eq_getElem?_getD, List.getElem?_eq_getElem h]; rfl
theorem byteN_lt (l : List UInt8) (i : Nat) : byteN l i < 256 := by
  unfold byteN
  exact (l.getD i 0).toNat_lt
theorem beN_one {l : List UInt8} {i : Nat} (h : i < l.length) : beN ((l.drop i).take 1) = byteN l i := by
  rw [List.drop_eq_getElem_cons h, byteN_at h]
  show 256 * 0 + l[i].toNat = _
  omega
theorem beN_two {l : List UInt8} {i : Nat} (h : i + 1 < l.length) : beN ((l.drop i).take 2) = byteN l i * 256 + byteN l (i + 1) := by
  rw [drop_two h, byteN_at h, byteN_at (by omega)]
  show 256 * (256 * 0 + l[i].toNat) + l[i+1].toNat = _
  omega
theorem take_1 (w0 : World) (p : Blocks) (g bb oo c i : Nat) (l : List UInt8) (w : World) (h : Cur w0 w g bb oo l.length c i) (hs : SlR byteR w0 p (.slice (some ⟨bb, oo, none⟩) l.length c) l) (hp : ∀ k, p k → k < w0.heap.size) (hi : i + 1 < l.length) :
    Calls Tryz.prog 79 #[.pointer (some ⟨g, 0, none⟩), .int .i64 1] w fun e w' => e = .returned (.int .i64 (byteN l i)) ∧ Cur w0 w' g bb oo l.length c (i + 1) ∧ w'.heap.size = w.heap.size ∧ ∀ k, k ≠ g → w'.heap[k]? = w.heap[k]? := by
  have := take_cur 1 w0 p g bb oo c i l w h hs hp (by omega) hi
  rw [beN_one (by omega)] at this
  exact this
theorem take_2 (w0 : World) (p : Blocks) (g bb oo c i : Nat) (l : List UInt8) (w : World) (h : Cur w0 w g bb oo l.length c i) (hs : SlR byteR w0 p (.slice (some ⟨bb, oo, none⟩) l.length c) l) (hp : ∀ k, p k → k < w0.heap.size) (hi : i + 2 < l.length) :
    Calls Tryz.prog 79 #[.pointer (some ⟨g, 0, none⟩), .int .i64 2] w fun e w' => e = .returned (.int .i64 ((byteN l i * 256 + byteN l (i + 1) : Nat) : Int)) ∧ Cur w0 w' g bb oo l.length c (i + 2) ∧ w'.heap.size = w.heap.size ∧ ∀ k, k ≠ g → w'.heap[k]? = w.heap[k]? := by
  have := take_cur 2 w0 p g bb oo c i l w h hs hp (by omega) hi
  rw [beN_two (by omega)] at this
  exact this
theorem bytes_none (r : List UInt8) (w : World) (hs : r.length ≤ 1000000000) (h : bytesH r = none) : Calls Tryz.prog 78 #[.string ⟨r.toArray⟩] w fun e w' => e = .returned (.tuple #[.slice none 0 0, .bool false]) ∧ Below w.heap.size w w' :=
  (Bytes_any ⟨r.toArray⟩ w (by show r.toArray.size ≤ _; simpa using hs)).mono fun e w' ⟨h1, h2⟩ => by
    rcases h1 with ⟨_, rfl⟩ | ⟨v, ys, hy, _⟩
    · exact ⟨rfl, h2⟩
    · have hy : bytesH r = some ys := hy
      rw [h] at hy; cases hy
theorem bytes_yes (r ys : List UInt8) (w : World) (hs : r.length ≤ 1000000000) (h : bytesH r = some ys) : Calls Tryz.prog 78 #[.string ⟨r.toArray⟩] w fun e w' => ∃ a c, e = .returned (.tuple #[.slice a ys.length c, .bool true]) ∧ Own byteR w' w.heap.size 5 NoB (.slice a ys.length c) ys ∧ Below w.heap.size w w' :=
  (Bytes_any ⟨r.toArray⟩ w (by show r.toArray.size ≤ _; simpa using hs)).mono fun e w' ⟨h1, h2⟩ => by
    rcases h1 with ⟨hn, rfl⟩ | ⟨v, zs, hy, rfl, ho⟩
    · have hn : bytesH r = none := hn
      rw [h] at hn; cases hn
    · have hy : bytesH r = some zs := hy
      rw [h] at hy
      injection hy with hy
      subst hy
      obtain ⟨a, c, rfl⟩ := ho.form
      exact ⟨a, c, rfl, ho, h2⟩
theorem bytesH_len : ∀ (l ys : List UInt8), bytesH l = some ys → ys.length * 2 = l.length
  | [], ys, h => by injection h with h; subst h; rfl
  | [_], ys, h => by cases h
  | a :: b :: r, ys, h => by
    rw [bytesH] at h
    split at h
    · cases h
    · cases hr : bytesH r with
      | none => rw [hr] at h; cases h
      | some zs =>
        rw [hr] at h
        injection h with h
        subst h
        have := bytesH_len r zs hr
        simp only [List.length_cons]
        omega
set_option maxHeartbeats 2000000 in
set_option maxRecDepth 100000 in
theorem Parse_none (r : List UInt8) (w : World) (hs : r.length ≤ 1000000000) (h : bytesH r = none) :
    Calls Tryz.prog 46 #[.string ⟨(58 :: r).toArray⟩] w (ParseP w (58 :: r)) := by
  have HC := Lib.hid (fun W => cut58_yes r W)
  have HB := Lib.hid (fun W => bytes_none r W hs h)
  have HP : Hid (parseH (58 :: r) = (3, recZ)) := by show _ = _; rw [parseH_colon, h]
  clear h hs
  generalize (⟨(58 :: r).toArray⟩ : ByteArray) = s at *
  generalize (⟨r.toArray⟩ : ByteArray) = s2 at *
  generalize 58 :: r = l at *
  have HB0 : Hid (Below w.heap.size w (w.alloc (.cells #[.int .i64 0, .int .i64 0, .slice none 0 0] 98))) := (Below.refl _ w).alloc (Nat.le_refl _) _
  have HK := Lib.hid (Blk.new w 98 #[.int .i64 0, .int .i64 0, .slice none 0 0])
  go_enter Tryz.func46, Tryz.ntmps46
  go_wp2_with (first
    | (go_at_call 77; refine (HC.out _).mono ?_; rintro e w1 ⟨rfl, rfl⟩)
    | (go_at_call 78; refine (HB.out _).mono ?_; rintro e w2 ⟨rfl, hb⟩; have HB2 := Lib.hid (HB0.out.trans (hb.mono HB0.out.size)); obtain ⟨k0, k1, k2, f0, f1, f2⟩ := (HK.out.below hb HK.out.lt).three; clear hb))
  exact bodyPost_ret (v := .tuple #[.agg #[.int .i64 0, .int .i64 0, .slice none 0 0], .int .i64 3]) (by simp [results, Tryz.results46, go_sem, k0, k1, k2]) rfl (ParseP.bad HP.out (((HB2.out.setCell (Nat.le_refl _) _).setCell (Nat.le_refl _) _).setCell (Nat.le_refl _) _))
set_option maxHeartbeats 2000000 in
set_option maxRecDepth 100000 in
theorem Parse_short (r ys : List UInt8) (w : World) (hs : r.length ≤ 1000000000) (h : bytesH r = some ys) (h5 : ys.length < 5) :
    Calls Tryz.prog 46 #[.string ⟨(58 :: r).toArray⟩] w (ParseP w (58 :: r)) := by
  have HC := Lib.hid (fun W => cut58_yes r W)
  have HB := Lib.hid (fun W => bytes_yes r ys W hs h)
  have HP : Hid (parseH (58 :: r) = (3, recZ)) := by show _ = _; rw [parseH_colon, h]; show parseB ys = _; unfold parseB; rw [if_pos h5]
  clear h hs
  generalize (⟨(58 :: r).toArray⟩ : ByteArray) = s at *
  generalize (⟨r.toArray⟩ : ByteArray) = s2 at *
  generalize 58 :: r = l at *
  have HB0 : Hid (Below w.heap.size w (w.alloc (.cells #[.int .i64 0, .int .i64 0, .slice none 0 0] 98))) := (Below.refl _ w).alloc (Nat.le_refl _) _
  have HK := Lib.hid (Blk.new w 98 #[.int .i64 0, .int .i64 0, .slice none 0 0])
  go_enter Tryz.func46, Tryz.ntmps46
  go_wp2_with (first
    | (go_at_call 77; refine (HC.out _).mono ?_; rintro e w1 ⟨rfl, rfl⟩)
    | (go_at_call 78; refine (HB.out _).mono ?_; rintro e w2 ⟨a, c, rfl, _, hb⟩; have HB2 := Lib.hid (HB0.out.trans (hb.mono HB0.out.size)); obtain ⟨k0, k1, k2, f0, f1, f2⟩ := (HK.out.below hb HK.out.lt).three; clear hb))
  exact bodyPost_ret (v := .tuple #[.agg #[.int .i64 0, .int .i64 0, .slice none 0 0], .int .i64 3]) (by simp [results, Tryz.results46, go_sem, k0, k1, k2]) rfl (ParseP.bad HP.out (((HB2.out.setCell (Nat.le_refl _) _).setCell (Nat.le_refl _) _).setCell (Nat.le_refl _) _))
theorem own_someV {α : Type} {R : Rep α} {w : World} {B : Nat} {e : TypeId} {p : Blocks} {v : Value} {xs : List α} (h : Own R w B e p v xs) (h0 : 0 < xs.length) : ∃ g c, v = .slice (some ⟨g, 0, none⟩) xs.length c ∧ B ≤ g ∧ g < w.heap.size := by
  have hl := h.lt
  obtain ⟨cs, hrow, _⟩ := h
  rcases hrow.2 with ⟨_, hn⟩ | ⟨g, cap, cur, hv, _⟩
  · omega
  · subst hv
    exact ⟨g, cap, rfl, hl g rfl⟩
theorem Cur.start {w : World} {t : TypeId} {bb L c : Nat} : Cur w (w.alloc (.cells #[.slice (some ⟨bb, 0, none⟩) L c] t)) w.heap.size bb 0 L c 0 := by
  have hk := Blk.new w t #[.slice (some ⟨bb, 0, none⟩) L c]
  exact ⟨hk.cell 0, hk.free 0, Nat.le_refl _, hk.lt, (Below.refl _ w).alloc (Nat.le_refl _) _⟩
theorem Blk.kept {w w' : World} {g k : Nat} {t : TypeId} {cs : Array Value} (h : Blk w k t cs) (hk : ∀ k, k ≠ g → w'.heap[k]? = w.heap[k]?) (hne : k ≠ g) : Blk w' k t cs := (hk k hne).trans h
set_option maxHeartbeats 2000000 in
set_option maxRecDepth 100000 in
theorem Parse_len (r ys : List UInt8) (w : World) (hs : r.length ≤ 1000000000) (h : bytesH r = some ys) (h5 : 5 ≤ ys.length) (hn : byteN ys 0 + 5 ≠ ys.length) :
    Calls Tryz.prog 46 #[.string ⟨(58 :: r).toArray⟩] w (ParseP w (58 :: r)) := by
  have HC := Lib.hid (fun W => cut58_yes r W)
  have HB := Lib.hid (fun W => bytes_yes r ys W hs h)
  have HP : Hid (parseH (58 :: r) = (6, recZ)) := by show _ = _; rw [parseH_colon, h]; show parseB ys = _; unfold parseB; rw [if_neg (by omega), if_pos hn]
  have HL5 := Lib.hid h5
  have hl5 : (5 : Int) ≤ (ys.length : Int) := by omega
  have hl6 : (ys.length : Int) ≤ 1000000000 := by have := bytesH_len r ys h; omega
  have hnb : ((byteN ys 0 : Int) != (ys.length : Int) - 5) = true := by rw [bne_iff_ne]; omega
  clear h hs h5 hn
  generalize (⟨(58 :: r).toArray⟩ : ByteArray) = s at *
  generalize (⟨r.toArray⟩ : ByteArray) = s2 at *
  generalize 58 :: r = l at *
  have HB0 : Hid (Below w.heap.size w (w.alloc (.cells #[.int .i64 0, .int .i64 0, .slice none 0 0] 98))) := (Below.refl _ w).alloc (Nat.le_refl _) _
  have HK := Lib.hid (Blk.new w 98 #[.int .i64 0, .int .i64 0, .slice none 0 0])
  go_enter Tryz.func46, Tryz.ntmps46
  go_wp2_with (first
    | (go_at_call 77; refine (HC.out _).mono ?_; rintro e w1 ⟨rfl, rfl⟩)
    | (go_at_call 78; refine (HB.out _).mono ?_; rintro e w2 ⟨a, c, rfl, ho, hb⟩; have HB2 := Lib.hid (HB0.out.trans (hb.mono HB0.out.size)); have HK2 := Lib.hid (HK.out.below hb HK.out.lt); obtain ⟨bb, c', hv, hbb⟩ := own_someV ho (by have := HL5.out; omega); obtain ⟨rfl, rfl⟩ : a = some ⟨bb, 0, none⟩ ∧ c = c' := (by injection hv with h1 h2 h3; exact ⟨h1, h3⟩); have HSL : Hid (SlR byteR w2 (fun k => k < w2.heap.size) (.slice (some ⟨bb, 0, none⟩) ys.length c) ys) := ((ho.slR (q := fun _ => True) (fun _ h => h.elim) (fun _ _ => trivial)).old.mono fun _ h => h.2); clear hb ho hv hbb)
    | (go_at_call 79; refine (take_1 w2 (fun k => k < w2.heap.size) w2.heap.size bb 0 c 0 ys _ Cur.start HSL.out (fun _ h => h) (by have := HL5.out; omega)).mono ?_; rintro e w3 ⟨rfl, hcu, _, hkp⟩; have HB3 := Lib.hid (HB2.out.trans (hcu.below.mono HB2.out.size)); obtain ⟨k0, k1, k2, f0, f1, f2⟩ := ((HK2.out.alloc _).kept hkp (Nat.ne_of_lt HK2.out.lt)).three; clear hcu hkp))
  exact bodyPost_ret (v := .tuple #[.agg #[.int .i64 0, .int .i64 0, .slice none 0 0], .int .i64 6]) (by simp [results, Tryz.results46, go_sem, k0, k1, k2]) rfl (ParseP.bad HP.out (((HB3.out.setCell (Nat.le_refl _) _).setCell (Nat.le_refl _) _).setCell (Nat.le_refl _) _))
theorem sum_zero (l : List UInt8) : (sum03 l).toNat = 0 ↔ sumN l = 0 := by
  have h := sumN_256 l
  have e : ((sum03 l).toNat : Int) = ((256 - (sumN l : Int)) % 256) % 256 := lowB_is _
  omega
end Go.Proofs.YtcfjcoockklkeaaGreatDoor
