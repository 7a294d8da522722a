/-
  canon: numbers made positive. Conditions: the library's table of white space as its initialiser lays it.
-/
import Derived.Test.YtkkjoghfdmmpaaaDoorCanon3
namespace Go.Proofs.YtkkjoghfdmmpaaaDoor
open Go.RowKit

/-- a number made positive, the size being sz -/
def numb (sz : Int) (o : Opd) : Opd := if o.kind = 6 ∧ o.n < 0 ∧ -(sz / 2) ≤ o.n ∧ 1 < sz then { o with n := o.n + sz } else o
def sizeOfW (w : Int) : Int := if w = 2 then 65536 else if w = 1 then 256 else 1
theorem width_cases (x : Ins) : width x = 0 ∨ width x = 1 ∨ width x = 2 := by
  unfold width
  split
  · exact .inl rfl
  · split
    · exact .inr (.inr rfl)
    · exact .inr (.inl rfl)
/-- the first k made positive -/
def part (sz : Int) (l : List Opd) (k : Nat) : List Opd := (l.take k).map (numb sz) ++ l.drop k
theorem part_zero (sz : Int) (l : List Opd) : part sz l 0 = l := by simp [part]
theorem part_all (sz : Int) (l : List Opd) (k : Nat) (h : l.length ≤ k) : part sz l k = l.map (numb sz) := by simp [part, List.take_of_length_le h, List.drop_of_length_le h]
theorem part_len (sz : Int) (l : List Opd) (k : Nat) : (part sz l k).length = l.length := by simp [part]; omega
theorem part_at (sz : Int) (l : List Opd) (k : Nat) (h : k < l.length) : (part sz l k)[k]? = some l[k] := by
  unfold part
  rw [List.getElem?_append_right (by simp; omega)]
  simp [Nat.min_eq_left (Nat.le_of_lt h)]
theorem part_succ (sz : Int) (l : List Opd) (k : Nat) (h : k < l.length) : part sz l (k + 1) = (part sz l k).set k (numb sz l[k]) := by
  unfold part
  rw [List.set_append_right _ _ (by simp; omega), List.take_succ_eq_append_getElem h]
  simp only [List.length_map, List.length_take, Nat.min_eq_left (Nat.le_of_lt h), Nat.sub_self, List.map_append, List.map_cons, List.map_nil, List.append_assoc]
  rw [List.drop_eq_getElem_cons h]
  rfl
theorem part_same (sz : Int) (l : List Opd) (k : Nat) (h : k < l.length) (hn : numb sz l[k] = l[k]) : part sz l (k + 1) = part sz l k := by
  rw [part_succ sz l k h, hn]
  refine List.ext_getElem? fun i => ?_
  by_cases hi : k = i
  · subst hi
    rw [part_at sz l k h, List.getElem?_set_self (by rw [part_len]; exact h)]
  · rw [List.getElem?_set_ne hi]

/-- One operand's number is written. -/
theorem OpdOwn.setN {w : World} {q : Blocks} {b o n c : Nat} {l : List Opd} {k : Nat} {x : Opd} {m : Int} (h : OpdOwn w q (.slice (some ⟨b, o, none⟩) n c) l) (hx : l[k]? = some x) : OpdOwn (w.setCell ⟨b, o + k * 3 + 2, none⟩ (.int .i64 m)) q (.slice (some ⟨b, o, none⟩) n c) (l.set k { x with n := m }) := by
  obtain ⟨a, cap, e, h1, h2, h3⟩ := h
  injection e with e1 e2 e3
  subst e1 e3
  refine ⟨_, c, by rw [List.length_set, e2], by rw [List.length_set]; exact h1, h2, fun i z hz => ?_⟩
  have hk := (List.getElem?_eq_some_iff.1 hx).1
  have hi : i < l.length := by have := (List.getElem?_eq_some_iff.1 hz).1; simpa using this
  obtain ⟨b', o', eb, hq, hb, c0, c1, c2, f⟩ := h3 i l[i] (List.getElem?_eq_getElem hi)
  injection eb with eb
  injection eb with eb1 eb2
  subst eb1 eb2
  have far : ∀ j v, j ≠ o + k * 3 + 2 → w.cell? ⟨b, j, none⟩ = some v → (w.setCell ⟨b, o + k * 3 + 2, none⟩ (.int .i64 m)).cell? ⟨b, j, none⟩ = some v := fun j v hj hv => by
    rw [World.cell?_setCell_other _ _ _ _ (by simp)]; exact hv
  refine ⟨b, o, rfl, hq, by simpa [World.setCell] using hb, ?_, ?_, ?_, fun j => (World.frozen?_setCell _ _ _ _).trans (f j)⟩
  · by_cases hik : k = i
    · subst hik
      rw [List.getElem?_set_self hk] at hz
      obtain rfl := Option.some.inj hz
      obtain rfl : l[k] = x := Option.some.inj ((List.getElem?_eq_getElem hk).symm.trans hx)
      exact far _ _ (by omega) c0
    · rw [List.getElem?_set_ne hik, List.getElem?_eq_getElem hi] at hz
      obtain rfl := Option.some.inj hz
      exact far _ _ (by omega) c0
  · by_cases hik : k = i
    · subst hik
      rw [List.getElem?_set_self hk] at hz
      obtain rfl := Option.some.inj hz
      obtain rfl : l[k] = x := Option.some.inj ((List.getElem?_eq_getElem hk).symm.trans hx)
      exact far _ _ (by omega) c1
    · rw [List.getElem?_set_ne hik, List.getElem?_eq_getElem hi] at hz
      obtain rfl := Option.some.inj hz
      exact far _ _ (by omega) c1
  · by_cases hik : k = i
    · subst hik
      rw [List.getElem?_set_self hk] at hz
      obtain rfl := Option.some.inj hz
      exact World.cell?_setCell_same' _ _ _ (by rw [c2]; rfl)
    · rw [List.getElem?_set_ne hik, List.getElem?_eq_getElem hi] at hz
      obtain rfl := Option.some.inj hz
      exact far _ _ (by omega) c2
theorem Wr.setN {w0 w : World} {bw b o n c k : Nat} {s : ByteArray} {l : List Opd} {x : Opd} {m : Int} (h : Wr w0 w bw s (.slice (some ⟨b, o, none⟩) n c) l) (hx : l[k]? = some x) (hq : w0.heap.size ≤ b ∧ b ≠ bw) :
    Wr w0 (w.setCell ⟨b, o + k * 3 + 2, none⟩ (.int .i64 m)) bw s (.slice (some ⟨b, o, none⟩) n c) (l.set k { x with n := m }) :=
  ⟨h.blk.far (Ne.symm hq.2) _, h.own.setN hx, h.old, h.below.setCell hq.1 _, h.spc0⟩

set_option maxHeartbeats 2000000 in
theorem numbers_any (w0 w : World) (bw : Nat) (s : ByteArray) (v : Value) (l : List Opd) (h : Wr w0 w bw s v l) (hn : ∀ x ∈ l, -9223372036854775808 ≤ x.n ∧ x.n ≤ 9223372036854775807) :
    Calls Tryd.prog 73 #[.pointer (some ⟨bw, 0, none⟩)] w fun e w' => e = .returned (.tuple #[]) ∧ Wr w0 w' bw s v (l.map (numb (sizeOfW (width ⟨s, l⟩)))) := by
  obtain ⟨a, c, rfl, hc, hm, g⟩ := h.own
  have H := Lib.hid h
  have HN := Lib.hid hn
  have hwd := fun wx h1 h2 => Width_any (fun _ => True) ⟨s, l⟩ (.slice a l.length c) wx h1 h2
  obtain ⟨e0, e1, _, _⟩ := h.blk.two
  have HLEN : Hid (l.length ≤ 9223372036854775807) := Lib.hid (by omega)
  clear h hn g hc hm
  rcases width_cases ⟨s, l⟩ with hw | hw | hw
  · rw [hw]
    dsimp only at hwd
    rw [hw] at hwd
    have HWD := Lib.hid hwd
    clear hwd
    go_enter Tryd.func73, Tryd.ntmps73
    go_wp2_with fail
    refine (HWD.out _ (H.out.own.slR.mono (fun _ _ => trivial)) H.out.spc).mono ?_
    rintro e w1 ⟨rfl, hb1⟩
    have H1 := Lib.hid (H.out.later hb1)
    clear e0 e1 hb1
    obtain ⟨e0, e1, _, _⟩ := H1.out.blk.two
    go_wp2
    go_loopw [3, 4, 18] (fun _ _ i wr => ∃ k : Nat, k ≤ l.length ∧ i = .int .i64 k ∧ Wr w0 wr bw s (.slice a l.length c) (part 1 l k)) (fun _ _ i _ => l.length - (intOf i).toNat)
    case atStart => exact ⟨0, Nat.zero_le _, rfl, by rw [part_zero]; exact H1.out⟩
    case round =>
      clear e0 e1
      obtain ⟨k, hk, rfl, hwr⟩ := hrel
      have HR := Lib.hid hwr
      clear hwr
      have hbig := HLEN.out
      by_cases hlt : k < l.length
      · have hat := part_at 1 l k hlt
        obtain ⟨a', c', e', _, _, g⟩ := HR.out.own
        injection e' with e1' _ e3'
        subst e1' e3'
        obtain ⟨b, o, rfl, hq, hb, c0, c1, c2, fr⟩ := g k _ hat
        have hx := HN.out l[k] (List.getElem_mem hlt)
        have HST : Hid (∀ m : Int, Wr w0 _ bw s _ _) := fun m => (HR.out.setN (m := m) hat hq).alloc (.cells #[.int .i64 l[k].kind, .int .i64 l[k].reg, .int .i64 l[k].n] 47)
        have HSU := Lib.hid (part_succ 1 l k hlt)
        have HSA := Lib.hid (part_same 1 l k hlt)
        have hne : bw < wr.heap.size := HR.out.blk.lt
        obtain ⟨e0, e1, _, _⟩ := HR.out.blk.two
        have hq2 := hq.2
        clear g hat hq
        generalize l[k] = x at *
        obtain ⟨hx1, hx2⟩ := hx
        have f2 := fr (o + k * 3 + 2)
        clear fr
        have NO : Hid (¬ (x.kind = 6 ∧ x.n < 0 ∧ -(1 / 2) ≤ x.n ∧ (1 : Int) < 1) → numb 1 x = x) := fun h => by unfold numb; rw [if_neg h]
        have YES : Hid ((x.kind = 6 ∧ x.n < 0 ∧ -(1 / 2) ≤ x.n ∧ (1 : Int) < 1) → numb 1 x = { x with n := x.n + 1 }) := fun h => by unfold numb; rw [if_pos h]
        cases h6 : (x.kind == 6)
        · go_wp2
          go_roundw
          case rel => exact ⟨k + 1, by omega, by go_num, by rw [HSA.out (NO.out (fun h => by rw [h.1] at h6; cases h6))]; exact HR.out.alloc _⟩
          case measure => simp [intOf]; omega
        · by_cases h0 : x.n < 0
          · by_cases h1 : 0 ≤ x.n
            · exact absurd h1 (by omega)
            · go_wp2
              go_roundw
              case rel => exact ⟨k + 1, by omega, by go_num, by rw [HSA.out (NO.out (fun h => h1 (by have := h.2.2.1; omega)))]; exact HR.out.alloc _⟩
              case measure => simp [intOf]; omega
          · go_wp2
            go_roundw
            case rel => exact ⟨k + 1, by omega, by go_num, by rw [HSA.out (NO.out (fun h => h0 h.2.1))]; exact HR.out.alloc _⟩
            case measure => simp [intOf]; omega
      · go_wp2
        go_end0
        refine ⟨rfl, ?_⟩
        have : part 1 l k = l.map (numb (sizeOfW 0)) := part_all 1 l k (by omega)
        rw [← this]
        exact HR.out
  · rw [hw]
    dsimp only at hwd
    rw [hw] at hwd
    have HWD := Lib.hid hwd
    clear hwd
    go_enter Tryd.func73, Tryd.ntmps73
    go_wp2_with fail
    refine (HWD.out _ (H.out.own.slR.mono (fun _ _ => trivial)) H.out.spc).mono ?_
    rintro e w1 ⟨rfl, hb1⟩
    have H1 := Lib.hid (H.out.later hb1)
    clear e0 e1 hb1
    obtain ⟨e0, e1, _, _⟩ := H1.out.blk.two
    go_wp2
    go_loopw [3, 4, 18] (fun _ _ i wr => ∃ k : Nat, k ≤ l.length ∧ i = .int .i64 k ∧ Wr w0 wr bw s (.slice a l.length c) (part 256 l k)) (fun _ _ i _ => l.length - (intOf i).toNat)
    case atStart => exact ⟨0, Nat.zero_le _, rfl, by rw [part_zero]; exact H1.out⟩
    case round =>
      clear e0 e1
      obtain ⟨k, hk, rfl, hwr⟩ := hrel
      have HR := Lib.hid hwr
      clear hwr
      have hbig := HLEN.out
      by_cases hlt : k < l.length
      · have hat := part_at 256 l k hlt
        obtain ⟨a', c', e', _, _, g⟩ := HR.out.own
        injection e' with e1' _ e3'
        subst e1' e3'
        obtain ⟨b, o, rfl, hq, hb, c0, c1, c2, fr⟩ := g k _ hat
        have hx := HN.out l[k] (List.getElem_mem hlt)
        have HST : Hid (∀ m : Int, Wr w0 _ bw s _ _) := fun m => (HR.out.setN (m := m) hat hq).alloc (.cells #[.int .i64 l[k].kind, .int .i64 l[k].reg, .int .i64 l[k].n] 47)
        have HSU := Lib.hid (part_succ 256 l k hlt)
        have HSA := Lib.hid (part_same 256 l k hlt)
        have hne : bw < wr.heap.size := HR.out.blk.lt
        obtain ⟨e0, e1, _, _⟩ := HR.out.blk.two
        have hq2 := hq.2
        clear g hat hq
        generalize l[k] = x at *
        obtain ⟨hx1, hx2⟩ := hx
        have f2 := fr (o + k * 3 + 2)
        clear fr
        have NO : Hid (¬ (x.kind = 6 ∧ x.n < 0 ∧ -(256 / 2) ≤ x.n ∧ (1 : Int) < 256) → numb 256 x = x) := fun h => by unfold numb; rw [if_neg h]
        have YES : Hid ((x.kind = 6 ∧ x.n < 0 ∧ -(256 / 2) ≤ x.n ∧ (1 : Int) < 256) → numb 256 x = { x with n := x.n + 256 }) := fun h => by unfold numb; rw [if_pos h]
        cases h6 : (x.kind == 6)
        · go_wp2
          go_roundw
          case rel => exact ⟨k + 1, by omega, by go_num, by rw [HSA.out (NO.out (fun h => by rw [h.1] at h6; cases h6))]; exact HR.out.alloc _⟩
          case measure => simp [intOf]; omega
        · by_cases h0 : x.n < 0
          · by_cases h1 : -128 ≤ x.n
            · go_wp2
              go_roundw
              case rel => exact ⟨k + 1, by omega, by go_num, by rw [HSU.out, YES.out ⟨by simpa using h6, h0, by omega, by omega⟩]; exact HST.out _⟩
              case measure => simp [intOf]; omega
            · go_wp2
              go_roundw
              case rel => exact ⟨k + 1, by omega, by go_num, by rw [HSA.out (NO.out (fun h => h1 (by have := h.2.2.1; omega)))]; exact HR.out.alloc _⟩
              case measure => simp [intOf]; omega
          · go_wp2
            go_roundw
            case rel => exact ⟨k + 1, by omega, by go_num, by rw [HSA.out (NO.out (fun h => h0 h.2.1))]; exact HR.out.alloc _⟩
            case measure => simp [intOf]; omega
      · go_wp2
        go_end0
        refine ⟨rfl, ?_⟩
        have : part 256 l k = l.map (numb (sizeOfW 1)) := part_all 256 l k (by omega)
        rw [← this]
        exact HR.out
  · rw [hw]
    dsimp only at hwd
    rw [hw] at hwd
    have HWD := Lib.hid hwd
    clear hwd
    go_enter Tryd.func73, Tryd.ntmps73
    go_wp2_with fail
    refine (HWD.out _ (H.out.own.slR.mono (fun _ _ => trivial)) H.out.spc).mono ?_
    rintro e w1 ⟨rfl, hb1⟩
    have H1 := Lib.hid (H.out.later hb1)
    clear e0 e1 hb1
    obtain ⟨e0, e1, _, _⟩ := H1.out.blk.two
    go_wp2
    go_loopw [3, 4, 18] (fun _ _ i wr => ∃ k : Nat, k ≤ l.length ∧ i = .int .i64 k ∧ Wr w0 wr bw s (.slice a l.length c) (part 65536 l k)) (fun _ _ i _ => l.length - (intOf i).toNat)
    case atStart => exact ⟨0, Nat.zero_le _, rfl, by rw [part_zero]; exact H1.out⟩
    case round =>
      clear e0 e1
      obtain ⟨k, hk, rfl, hwr⟩ := hrel
      have HR := Lib.hid hwr
      clear hwr
      have hbig := HLEN.out
      by_cases hlt : k < l.length
      · have hat := part_at 65536 l k hlt
        obtain ⟨a', c', e', _, _, g⟩ := HR.out.own
        injection e' with e1' _ e3'
        subst e1' e3'
        obtain ⟨b, o, rfl, hq, hb, c0, c1, c2, fr⟩ := g k _ hat
        have hx := HN.out l[k] (List.getElem_mem hlt)
        have HST : Hid (∀ m : Int, Wr w0 _ bw s _ _) := fun m => (HR.out.setN (m := m) hat hq).alloc (.cells #[.int .i64 l[k].kind, .int .i64 l[k].reg, .int .i64 l[k].n] 47)
        have HSU := Lib.hid (part_succ 65536 l k hlt)
        have HSA := Lib.hid (part_same 65536 l k hlt)
        have hne : bw < wr.heap.size := HR.out.blk.lt
        obtain ⟨e0, e1, _, _⟩ := HR.out.blk.two
        have hq2 := hq.2
        clear g hat hq
        generalize l[k] = x at *
        obtain ⟨hx1, hx2⟩ := hx
        have f2 := fr (o + k * 3 + 2)
        clear fr
        have NO : Hid (¬ (x.kind = 6 ∧ x.n < 0 ∧ -(65536 / 2) ≤ x.n ∧ (1 : Int) < 65536) → numb 65536 x = x) := fun h => by unfold numb; rw [if_neg h]
        have YES : Hid ((x.kind = 6 ∧ x.n < 0 ∧ -(65536 / 2) ≤ x.n ∧ (1 : Int) < 65536) → numb 65536 x = { x with n := x.n + 65536 }) := fun h => by unfold numb; rw [if_pos h]
        cases h6 : (x.kind == 6)
        · go_wp2
          go_roundw
          case rel => exact ⟨k + 1, by omega, by go_num, by rw [HSA.out (NO.out (fun h => by rw [h.1] at h6; cases h6))]; exact HR.out.alloc _⟩
          case measure => simp [intOf]; omega
        · by_cases h0 : x.n < 0
          · by_cases h1 : -32768 ≤ x.n
            · go_wp2
              go_roundw
              case rel => exact ⟨k + 1, by omega, by go_num, by rw [HSU.out, YES.out ⟨by simpa using h6, h0, by omega, by omega⟩]; exact HST.out _⟩
              case measure => simp [intOf]; omega
            · go_wp2
              go_roundw
              case rel => exact ⟨k + 1, by omega, by go_num, by rw [HSA.out (NO.out (fun h => h1 (by have := h.2.2.1; omega)))]; exact HR.out.alloc _⟩
              case measure => simp [intOf]; omega
          · go_wp2
            go_roundw
            case rel => exact ⟨k + 1, by omega, by go_num, by rw [HSA.out (NO.out (fun h => h0 h.2.1))]; exact HR.out.alloc _⟩
            case measure => simp [intOf]; omega
      · go_wp2
        go_end0
        refine ⟨rfl, ?_⟩
        have : part 65536 l k = l.map (numb (sizeOfW 2)) := part_all 65536 l k (by omega)
        rw [← this]
        exact HR.out
end Go.Proofs.YtkkjoghfdmmpaaaDoor
