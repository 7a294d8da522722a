/-
  image.Put. Conditions: the library's table as its initialiser lays it.
-/
import Derived.Test.YtcfjcoockklkeaaDoorImg4
import Derived.Laws.IdiomCopy
import Derived.Shelf.Spec.SlicesInsert
namespace Go.Proofs.YtcfjcoockklkeaaDoor
open Go.RowKit

theorem byteR_size : byteR.size = 1 := rfl
theorem SlR.byte {w : World} {p : Blocks} {v : Value} {l : List UInt8} (h : SlR byteR w p v l) : ∃ a cap, v = .slice a l.length cap ∧ l.length ≤ cap ∧ cap ≤ 9223372036854775807 ∧
    ∀ i x, l[i]? = some x → ∃ b o, a = some ⟨b, o, none⟩ ∧ p b ∧ w.cell? ⟨b, o + i, none⟩ = some (.int .u8 x.toNat) := by
  obtain ⟨a, cap, e, h1, h2, h3⟩ := h
  refine ⟨a, cap, e, h1, by simpa [maxLen] using h2, fun i x hx => ?_⟩
  obtain ⟨b, o, cs, ea, hb, hbs, hc, hr⟩ := h3 i x hx
  have hr : cs = [.int .u8 x.toNat] := hr
  subst hr
  have := hc 0 _ rfl
  exact ⟨b, o, ea, hb, by simpa [byteR_size] using this⟩
def encB (l : List UInt8) : List Value := l.map fun x => .int .u8 x.toNat

/-- the set with k addresses from a on -/
def span (d : Nat → Bool) (a k : Nat) : Nat → Bool := fun x => d x || (decide (a ≤ x) && decide (x < a + k))
/-- the bytes l laid from a on -/
def over (v : Nat → UInt8) (a : Nat) (l : List UInt8) : Nat → UInt8 := fun x => if a ≤ x then l.getD (x - a) (v x) else v x
theorem span_zero (d : Nat → Bool) (a : Nat) : span d a 0 = d := by
  funext x
  have : (decide (a ≤ x) && decide (x < a + 0)) = false := by simp
  unfold span
  rw [this, Bool.or_false]
theorem span_succ (d : Nat → Bool) (a k : Nat) : addTo (span d a k) (a + k) = span d a (k + 1) := by
  funext x
  unfold addTo span
  rw [Bool.or_assoc]
  congr 1
  rw [Bool.eq_iff_iff]
  simp
  omega
theorem setCells_grown (b : Nat) : ∀ (vs : List Value) (o : Nat) (w : World), w.grownBy (w.setCells b o vs) (some b)
  | [], _, w => World.grownBy.refl w _
  | v :: r, o, w => grown_step (w1 := w.setCell ⟨b, o, none⟩ v) ⟨rfl, rfl, rfl, by simp [World.setCell], fun k _ hk => Below.heap_setCell _ _ _ _ (fun e => hk (by rw [e]))⟩ (setCells_grown b r (o + 1) _)
theorem ImgC.copied {w : World} {b n a : Nat} {d : Nat → Bool} {v : Nat → UInt8} (h : ImgC w b d v n) {l : List UInt8} (hl : a + l.length ≤ 65536) :
    ImgC (w.setCells b (1025 + a) (encB l)) b d (over v a l) n := by
  have hlen : (encB l).length = l.length := by simp [encB]
  refine ⟨fun i hi => ?_, ?_, fun x hx => ?_, fun o => ?_⟩
  · rw [World.cell?_setCells_out _ _ _ _ _ (fun _ _ => .inl (by show i < _; omega))]
    exact h.words i hi
  · rw [World.cell?_setCells_out _ _ _ _ _ (fun _ _ => .inl (by show 1024 < _; omega))]
    exact h.count
  · by_cases hin : a ≤ x ∧ x < a + l.length
    · have e := World.cell?_setCells_in b (encB l) (1025 + a) w (fun j hj => by rw [show 1025 + a + j = 1025 + (a + j) by omega, h.bytes (a + j) (by omega)]; rfl) (x - a) (by omega)
      rw [show 1025 + a + (x - a) = 1025 + x by omega] at e
      rw [e]
      have hx2 : x - a < l.length := by omega
      simp [encB, over, hin.1, List.getD_eq_getElem?_getD, hx2]
    · rw [World.cell?_setCells_out _ _ _ _ _ (fun _ _ => by rw [hlen]; show 1025 + x < _ ∨ _ ≤ 1025 + x; omega), h.bytes x hx]
      have : over v a l x = v x := by
        unfold over
        split
        · rw [List.getD_eq_getElem?_getD, List.getElem?_eq_none (by omega)]; rfl
        · rfl
      rw [this]
  · rw [World.frozen?_setCells]; exact h.free o
theorem run_copy_img (w : World) (b n a : Nat) (d : Nat → Bool) (v : Nat → UInt8) (h : ImgC w b d v n) (p : Blocks) (vl : Value) (l : List UInt8) (hs : SlR byteR w p vl l) (hl : a + l.length ≤ 65536) (ty : TypeId) :
    (Builtin.copy_ #[44, 44] ty #[.slice (some ⟨b, 1025 + a, none⟩) (65536 - a) (65536 - a), vl]).run Tryd.prog w = .ok (goInt l.length) (w.setCells b (1025 + a) (encB l)) := by
  obtain ⟨sa, cap, rfl, _, _, g⟩ := hs.byte
  have hlen : (encB l).length = l.length := by simp [encB]
  have hz : (Tryd.prog.info? 5).map (·.size) = some 1 := by kernel_rfl
  cases l with
  | nil => exact run_copy_none w _ _ _ 5 _ _ _ _ _ _ Tryd.underlying44 hz (by simp)
  | cons y r =>
    obtain ⟨sb, o, rfl, _, _⟩ := g 0 y rfl
    have e := run_copy_cells (P := Tryd.prog) w 44 44 ty 5 b (1025 + a) (65536 - a) (65536 - a) ⟨sb, o, none⟩ (y :: r).length cap (encB (y :: r)) Tryd.underlying44 hz
      (by rw [hlen]; exact (Nat.min_eq_left (Nat.le_sub_of_add_le (by rw [Nat.add_comm]; exact hl))).symm)
      (fun j u hu => by
        obtain ⟨x, hx, rfl⟩ : ∃ x, (y :: r)[j]? = some x ∧ Value.int .u8 x.toNat = u := by
          unfold encB at hu
          rw [List.getElem?_map] at hu
          exact Option.map_eq_some_iff.1 hu
        obtain ⟨b2, o2, e2, _, hc⟩ := g j x hx
        obtain ⟨rfl, rfl⟩ : sb = b2 ∧ o = o2 := by simpa using e2
        have ea : (⟨sb, o, none⟩ : Addr).add j = ⟨sb, o + j, none⟩ := by unfold Addr.add; split <;> simp_all
        rw [ea]
        exact hc)
      (fun j hj => by rw [show 1025 + a + j = 1025 + (a + j) by omega, h.bytes (a + j) (by omega)]; rfl) (fun j _ => h.free _)
      (fun u hu => by obtain ⟨x, _, rfl⟩ := List.mem_map.1 hu; rfl)
    rw [hlen] at e
    exact e

theorem run_cut_img (b a : Nat) (ha : a < 65536) (w : World) : (Instr.sliceAt 97 (.pointer (some ⟨b, 1025, none⟩)) (some (.int .i64 (a : Int))) none none).run Tryd.prog w = .ok (.slice (some ⟨b, 1025 + a, none⟩) (65536 - a) (65536 - a)) w := by
  have hu : Tryd.prog.underlying 97 = some (.array 65536 5) := by kernel_rfl
  have he : Tryd.prog.elem 97 = 5 := by simp [Program.elem, hu]
  have hl : Tryd.prog.arrayLen 97 = 65536 := by simp [Program.arrayLen, hu]
  have hz : (Tryd.prog.info? 5).map (·.size) = some 1 := by kernel_rfl
  have hs : (sizeOf 5).run Tryd.prog w = .ok 1 w := by
    cases hq : Tryd.prog.info? 5 with
    | none => simp [hq] at hz
    | some i => have : i.size = 1 := by simpa [hq] using hz
                simp [sizeOf, typeInfo, hq, this]
  have e := run_sliceAt_array_l (P := Tryd.prog) w 97 ⟨b, 1025, none⟩ (by rw [hl, he]; exact hu) .i64 (a : Int) (by omega) (by rw [hl]; omega)
  rw [e, he, hs, hl]
  have ea : (⟨b, 1025, none⟩ : Addr).add (a * 1) = ⟨b, 1025 + a, none⟩ := by rw [Nat.mul_one]; unfold Addr.add; split <;> simp_all
  have hne : ¬ (65536 = a) := by omega
  simp only [Result.andThen, slicedAt, Int.toNat_natCast, ea, if_neg hne]
def putCode (d : Nat → Bool) (a : Int) (k : Nat) : Nat := if a < 0 ∨ 65536 ≤ a then 2 else if 65536 < a + k then 10 else if nextS d true a.toNat < a.toNat + k then 4 else 0
/-- What Put leaves of an image. -/
def Put (w' : World) (b n : Nat) (d : Nat → Bool) (v : Nat → UInt8) (a : Int) (l : List UInt8) : Prop :=
  if putCode d a l.length = 0 then ImgC w' b (span d a.toNat l.length) (over v a.toNat l) (n + l.length) else ImgC w' b d v n
theorem putCode_out {d : Nat → Bool} {a : Int} {k : Nat} (h : a < 0 ∨ 65536 ≤ a) : putCode d a k = 2 := by unfold putCode; rw [if_pos h]
set_option maxRecDepth 100000 in
set_option maxHeartbeats 2000000 in
theorem Put_any (b n : Nat) (a : Int) (d : Nat → Bool) (v : Nat → UInt8) (p : Blocks) (vl : Value) (l : List UInt8) (w : World) (h : ImgC w b d v n) (hn : n ≤ 900000000) (hs : SlR byteR w p vl l) (hT : Deb w) (ha1 : -9223372036854775808 ≤ a) (ha2 : a ≤ 9223372036854775807) (hl : l.length ≤ 1000000) :
    Calls Tryd.prog 28 #[.pointer (some ⟨b, 0, none⟩), .int .i64 a, vl] w fun e w' => e = .returned (.int .i64 (putCode d a l.length)) ∧ Put w' b n d v a l ∧ w.grownBy w' (some b) := by
  obtain ⟨sa, cap, rfl, _⟩ := hs.byte
  by_cases ho : a < 0 ∨ 65536 ≤ a
  · have HI := Lib.hid h
    have HC := Lib.hid (putCode_out (d := d) (k := l.length) ho)
    have hfin : Put w b n d v a l := by unfold Put; rw [putCode_out ho, if_neg (by decide)]; exact h
    have HF := Lib.hid hfin
    clear h hfin hT hs
    rcases ho with ho | ho
    · have h1 : decide (a < 0) = true := by simpa using ho
      go_enter Tryd.func28, Tryd.ntmps28
      go_wp2
      go_ret
      exact ⟨by rw [HC.out]; rfl, HF.out, World.grownBy.refl w _⟩
    · have h1 : decide (a < 0) = false := by simp; omega
      have h2 : decide (65536 ≤ a) = true := by simpa using ho
      go_enter Tryd.func28, Tryd.ntmps28
      go_wp2
      go_ret
      exact ⟨by rw [HC.out]; rfl, HF.out, World.grownBy.refl w _⟩
  · obtain ⟨a, rfl⟩ : ∃ m : Nat, a = m := ⟨a.toNat, by omega⟩
    have hA : (putCode d (a : Int) l.length) = if 65536 < a + l.length then 10 else if nextS d true a < a + l.length then 4 else 0 := by
      unfold putCode
      rw [if_neg ho]
      simp only [Int.toNat_natCast]
      by_cases h1 : 65536 < a + l.length
      · rw [if_pos h1, if_pos (by omega)]
      · rw [if_neg h1, if_neg (by omega)]
    have hlt : a < 65536 := by omega
    have h1 : decide ((a : Int) < 0) = false := by simp
    have h2 : decide ((65536 : Int) ≤ a) = false := by simp; omega
    have ha0 : (0 : Int) ≤ a := by omega
    have ham : (a : Int) ≤ 100000 := by omega
    have HI := Lib.hid h
    have HS := Lib.hid hs
    have HT := Lib.hid hT
    have HLT := Lib.hid hlt
    clear h hs hT ho ha1 ha2 hlt
    by_cases hw : 65536 < a + l.length
    · have h3 : decide ((65536 : Int) - a < (l.length : Int)) = true := by simp; omega
      have hfin : Put w b n d v a l := by unfold Put; rw [hA, if_pos hw, if_neg (by decide)]; exact HI.out
      have HF := Lib.hid hfin
      rw [if_pos hw] at hA
      have HA := Lib.hid hA
      clear hfin hw hA
      go_enter Tryd.func28, Tryd.ntmps28
      go_wp2
      go_ret
      exact ⟨by rw [HA.out]; rfl, HF.out, World.grownBy.refl w _⟩
    · have h3 : decide ((65536 : Int) - a < (l.length : Int)) = false := by simp; omega
      have hfin : nextS d true a < a + l.length → Put w b n d v a l := fun hx => by unfold Put; rw [hA, if_neg hw, if_pos hx, if_neg (by decide)]; exact HI.out
      have HF := Lib.hid hfin
      rw [if_neg hw] at hA
      have HA := Lib.hid hA
      have HW := Lib.hid (Nat.not_lt.1 hw)
      have HN := Lib.hid (next_true b n a d v w HI.out HT.out (Nat.le_of_lt HLT.out))
      clear hfin hw hA
      generalize nextS d true a = t at *
      by_cases hx : t < a + l.length
      · have h4 : decide ((t : Int) < (a : Int) + (l.length : Int)) = true := by simp; omega
        rw [if_pos hx] at HA
        have HFX := Lib.hid (HF.out hx)
        clear hx
        go_enter Tryd.func28, Tryd.ntmps28
        go_wp2_with (go_at_call 64; refine HN.out.mono ?_; rintro e w' ⟨rfl, rfl⟩)
        go_ret
        exact ⟨by rw [HA.out]; rfl, HFX.out, World.grownBy.refl w _⟩
      · have h4 : decide ((t : Int) < (a : Int) + (l.length : Int)) = false := by simp; omega
        rw [if_neg hx] at HA
        clear hx
        have HRC := Lib.hid (run_copy_img w b n a d v HI.out p _ l HS.out HW.out)
        have HCP := Lib.hid (HI.out.copied HW.out)
        have hcut := run_cut_img b a HLT.out
        generalize 65536 - a = M at HRC hcut
        go_enter Tryd.func28, Tryd.ntmps28
        go_upto_region 9 with (go_at_call 64; refine HN.out.mono ?_; rintro e w' ⟨rfl, rfl⟩)
        clear h1 h2 h3 h4
        have hrc := HRC.out 3
        go_wp2
        have HG0 := Lib.hid (setCells_grown b (encB l) (1025 + a) w)
        generalize w.setCells b (1025 + a) (encB l) = W at *
        clear hcut hrc
        have ham2 : (a : Int) ≤ 100000 := ham
        have hll : (l.length : Int) ≤ 1000000 := by omega
        have HNN := Lib.hid hn
        clear hn hl
        go_loopw [44] (fun i wr => ∃ k : Nat, k ≤ l.length ∧ i = .int .i64 k ∧ ImgC wr b (span d a k) (over v a l) (n + k) ∧ w.grownBy wr (some b)) (fun i _ => l.length - (intOf i).toNat)
        case atStart => exact ⟨0, Nat.zero_le _, rfl, by rw [span_zero]; exact HCP.out, HG0.out⟩
        case round =>
          obtain ⟨k, hk, rfl, hi, hg⟩ := hrel
          have HI2 := Lib.hid hi
          have HG2 := Lib.hid hg
          clear hi hg
          by_cases hkl : k < l.length
          · have hb1 : (0 : Int) ≤ (k : Int) := by omega
            have hb2 : (k : Int) ≤ 1000000 := by omega
            have hadd := setAdd_any b (n + k) (a + k) (span d a k) (over v a l) wr HI2.out (by have := HW.out; omega) (by have := HNN.out; omega)
            rw [Int.natCast_add, span_succ] at hadd
            have HAD := Lib.hid hadd
            clear hadd
            go_wp2_with (go_at_call 65; refine HAD.out.mono ?_; rintro e w' ⟨rfl, hi, q, hw⟩; have HI3 := Lib.hid hi; have HQ := Lib.hid hw; clear hi hw)
            go_roundw
            case rel =>
              refine ⟨k + 1, by omega, by go_num, HI3.out, grown_step HG2.out ?_⟩
              rw [HQ.out]
              exact ⟨rfl, rfl, rfl, by simp [World.setCell], fun j _ hj => by
                have hjb : j ≠ b := fun e => hj (by rw [e])
                exact (Below.heap_setCell _ _ _ _ hjb).trans (Below.heap_setCell _ _ _ _ hjb)⟩
            case measure => simp [intOf]; omega
          · obtain rfl : k = l.length := by omega
            go_wp2
            go_ret
            refine ⟨by rw [HA.out]; rfl, ?_, HG2.out⟩
            unfold Put
            rw [HA.out, if_pos rfl]
            exact HI2.out
end Go.Proofs.YtcfjcoockklkeaaDoor
