/-
  image.Runs. Conditions: the library's table as its initialiser lays it.
-/
import Derived.Test.YtcfjcoockklkeaaDoorImg6
namespace Go.Proofs.YtcfjcoockklkeaaDoor
open Go.RowKit

def runR : Rep (Nat × List UInt8) := Rep.pair (intR.via fun n : Nat => (n : Int)) (Rep.slice byteR)
theorem runR_size : runR.size = 2 := rfl
theorem elRun : ElT Tryd.prog 77 79 runR.size 32 := ElT.mk' (z := .agg #[.int .i64 0, .slice none 0 0]) Tryd.underlying77 (by kernel_rfl) rfl (by decide)
def bytesOf (v : Nat → UInt8) (a n : Nat) : List UInt8 := (List.range n).map fun i => v (a + i)
/-- the longest ranges from f on -/
def runsN (d : Nat → Bool) (v : Nat → UInt8) : Nat → Nat → List (Nat × List UInt8)
  | 0, _ => []
  | g + 1, f => if f < 65536 then (f, bytesOf v f (nextS d false f - f)) :: runsN d v g (nextS d true (nextS d false f)) else []
def runsOf (d : Nat → Bool) (v : Nat → UInt8) : List (Nat × List UInt8) := runsN d v 65537 (nextS d true 0)
theorem next_past {d : Nat → Bool} {f : Nat} (hf : f < 65536) (h : d f = true) : f < nextS d false f ∧ nextS d false f ≤ 65536 := by
  obtain ⟨h1, h2, _, h4⟩ := nextS_spec d false f (Nat.le_of_lt hf)
  refine ⟨?_, h2⟩
  rcases Nat.lt_or_ge f (nextS d false f) with hlt | hge
  · exact hlt
  · have e : nextS d false f = f := Nat.le_antisymm hge h1
    rw [e] at h4
    have := h4 hf
    rw [h] at this
    cases this
theorem img_bytes {w : World} {b n f t : Nat} {d : Nat → Bool} {v : Nat → UInt8} (h : ImgC w b d v n) (hf : f ≤ t) (ht : t ≤ 65536) :
    SlR byteR w (fun k => k = b) (.slice (some ⟨b, 1025 + f, none⟩) (t - f) (65536 - f)) (bytesOf v f (t - f)) := by
  have hl : (bytesOf v f (t - f)).length = t - f := by simp [bytesOf]
  refine ⟨_, 65536 - f, by rw [hl], by omega, by unfold maxLen; omega, fun i x hx => ?_⟩
  have hi : i < t - f := by rw [← hl]; exact (List.getElem?_eq_some_iff.1 hx).1
  have hx2 : v (f + i) = x := by simpa [bytesOf, hi] using hx
  refine ⟨b, 1025 + f, [.int .u8 x.toNat], rfl, rfl, h.lt, fun j u hu => ?_, rfl⟩
  cases j with
  | succ j => simp at hu
  | zero =>
    simp at hu
    subst hu
    rw [byteR_size, show 1025 + f + i * 1 + 0 = 1025 + (f + i) by omega, h.bytes (f + i) (by omega), hx2]
theorem run_cut_img2 (b f t : Nat) (hf : f < 65536) (hft : f ≤ t) (ht : t ≤ 65536) (w : World) : (Instr.sliceAt 97 (.pointer (some ⟨b, 1025, none⟩)) (some (.int .i64 (f : Int))) (some (.int .i64 (t : Int))) none).run Tryd.prog w = .ok (.slice (some ⟨b, 1025 + f, none⟩) (t - f) (65536 - f)) w := by
  have hu : Tryd.prog.underlying 97 = some (.array 65536 5) := by kernel_rfl
  have he : Tryd.prog.elem 97 = 5 := by simp [Program.elem, hu]
  have hl : Tryd.prog.arrayLen 97 = 65536 := by simp [Program.arrayLen, hu]
  have hz : (Tryd.prog.info? 5).map (·.size) = some 1 := by kernel_rfl
  have hs : (sizeOf 5).run Tryd.prog w = .ok 1 w := by
    cases hq : Tryd.prog.info? 5 with
    | none => simp [hq] at hz
    | some i => have : i.size = 1 := by simpa [hq] using hz
                simp [sizeOf, typeInfo, hq, this]
  have e := run_sliceAt_array_lh (P := Tryd.prog) w 97 ⟨b, 1025, none⟩ (by rw [hl, he]; exact hu) .i64 .i64 (f : Int) (t : Int) (by omega) (by omega) (by rw [hl]; omega)
  rw [e, he, hs, hl]
  have ea : (⟨b, 1025, none⟩ : Addr).add (f * 1) = ⟨b, 1025 + f, none⟩ := by rw [Nat.mul_one]; unfold Addr.add; split <;> simp_all
  have hne : ¬ (65536 = f) := by omega
  simp only [Result.andThen, slicedAt, Int.toNat_natCast, ea, if_neg hne]
theorem runsN_end (d : Nat → Bool) (v : Nat → UInt8) : ∀ g, runsN d v g 65536 = []
  | 0 => rfl
  | g + 1 => by rw [runsN, if_neg (by omega)]
/-- What stands while Runs works. -/
structure RnH (w0 : World) (b n : Nat) (d : Nat → Bool) (v : Nat → UInt8) (rs : List (Nat × List UInt8)) (g f : Nat) (o : Value) (w : World) : Prop where
  le : f ≤ 65536
  at_ : f < 65536 → d f = true
  fuel : 65536 < g + f
  all : runsOf d v = rs ++ runsN d v g f
  own : OwnL runR w w0.heap.size 79 o rs
  few : rs.length ≤ f
  below : Below w0.heap.size w0 w
theorem rnH_start {w : World} {b n : Nat} {d : Nat → Bool} {v : Nat → UInt8} : RnH w b n d v [] 65537 (nextS d true 0) (.slice none 0 0) w := by
  obtain ⟨_, h2, _, h4⟩ := nextS_spec d true 0 (by omega)
  exact ⟨h2, fun h => by have := h4 h; simpa using this, by omega, rfl, OwnL.nil _ _ _, by simp, Below.refl _ _⟩
theorem RnH.step {w0 wr w' : World} {b n g f : Nat} {d : Nat → Bool} {v : Nat → UInt8} {rs : List (Nat × List UInt8)} {o o' : Value} (h : RnH w0 b n d v rs (g + 1) f o wr) (hf : f < 65536)
    (ho : OwnL runR w' w0.heap.size 79 o' (rs ++ [(f, bytesOf v f (nextS d false f - f))])) (hb : Below w0.heap.size w0 w') : RnH w0 b n d v (rs ++ [(f, bytesOf v f (nextS d false f - f))]) g (nextS d true (nextS d false f)) o' w' := by
  obtain ⟨h1, h2⟩ := next_past hf (h.at_ hf)
  obtain ⟨g1, g2, _, g4⟩ := nextS_spec d true (nextS d false f) h2
  refine ⟨g2, fun hx => by simpa using g4 hx, by have := h.fuel; omega, ?_, ho, by have := h.few; simp; omega, hb⟩
  rw [h.all, runsN, if_pos hf, List.append_assoc]; rfl

set_option maxRecDepth 100000 in
set_option maxHeartbeats 2000000 in
theorem Runs_any (b n : Nat) (d : Nat → Bool) (v : Nat → UInt8) (w : World) (h : ImgC w b d v n) (hT : Deb w) :
    Calls Tryd.prog 47 #[.pointer (some ⟨b, 0, none⟩)] w fun e w' => ∃ v', e = .returned v' ∧ OwnL runR w' w.heap.size 79 v' (runsOf d v) ∧ Below w.heap.size w w' := by
  have HI := Lib.hid h
  have HT := Lib.hid hT
  have HN0 := Lib.hid (next_true b n 0 d v w h hT (by omega))
  have HST := Lib.hid (rnH_start (w := w) (b := b) (n := n) (d := d) (v := v))
  have HBL := Lib.hid h.lt
  have hle0 : nextS d true 0 ≤ 65536 := HST.out.le
  have HL0 := Lib.hid hle0
  clear h hT hle0
  generalize nextS d true 0 = f0 at *
  go_enter Tryd.func47, Tryd.ntmps47
  go_wp2_with (go_at_call 64; refine HN0.out.mono ?_; rintro e w' ⟨rfl, rfl⟩)
  go_loopw [3, 4] (fun o i wr => ∃ g f : Nat, ∃ rs, i = .int .i64 f ∧ RnH w b n d v rs g f o wr) (fun _ i _ => 65536 - (intOf i).toNat)
  case atStart => exact ⟨65537, f0, [], rfl, HST.out⟩
  case round =>
    obtain ⟨g, f, rs, rfl, hr⟩ := hrel
    have HR := Lib.hid hr
    obtain ⟨oa, oc, rfl⟩ := hr.own.form
    have hf0 : (0 : Int) ≤ (f : Int) := by omega
    have hfm : (f : Int) ≤ 100000 := by have := hr.le; omega
    clear hr
    by_cases hlt : f < 65536
    · obtain ⟨g, rfl⟩ : ∃ k, g = k + 1 := ⟨g - 1, by have := HR.out.fuel; omega⟩
      have h1 : decide ((f : Int) < 65536) = true := by simp; omega
      obtain ⟨hp1, hp2⟩ := next_past hlt (HR.out.at_ hlt)
      have HIr := Lib.hid (HI.out.below HR.out.below HBL.out)
      have HTr := Lib.hid (HT.out.below HR.out.below)
      have HNF := Lib.hid (next_false b n f d v wr HIr.out HTr.out (Nat.le_of_lt hlt))
      have HSTEP := Lib.hid (fun (w' : World) (o' : Value) => HR.out.step (w' := w') (o' := o') hlt)
      have HSL := Lib.hid (img_bytes (f := f) HIr.out (Nat.le_of_lt hp1) hp2)
      have HLT := Lib.hid hlt
      have HLF := Lib.hid hp1
      have HLE := Lib.hid hp2
      have hlb : (bytesOf v f (nextS d false f - f)).length ≤ 1000000 := by simp [bytesOf]; omega
      have HLB := Lib.hid hlb
      clear hlt hp1 hp2 hlb
      generalize nextS d false f = t at *
      have HCUT := Lib.hid (run_cut_img2 b f t HLT.out (Nat.le_of_lt HLF.out) HLE.out)
      generalize bytesOf v f (t - f) = bl at *
      have ht0 : (0 : Int) ≤ (t : Int) := by omega
      have htm : (t : Int) ≤ 100000 := by have := HLE.out; omega
      have hcut := HCUT.out
      generalize t - f = k1 at *
      generalize 65536 - f = k2 at *
      go_upto_region 7 with (go_at_call 64; refine HNF.out.mono ?_; rintro e w' ⟨rfl, rfl⟩)
      clear h1
      have hs0 : w.heap.size ≤ wr.heap.size := HR.out.below.size
      have HS0 := Lib.hid hs0
      clear hs0
      go_wp2_with (first
        | (go_at_call 63; refine (CloneByte_any _ _ _ _ HSL.out HLB.out).mono ?_; rintro e w2 ⟨v2, rfl, ho2, hb2⟩; obtain ⟨a2, c2, rfl⟩ := ho2.form; have HO2 := Lib.hid ho2; have HB2 := Lib.hid hb2; clear ho2 hb2)
        | (at_builtin; refine wpList_pushL rfl (.tmp 19) (.tmp 29) 77 rfl w.heap.size 79 32 elRun _ rs (f, bl) _ (fun k => Value.ownBlock (.slice a2 bl.length c2) = some k) rfl rfl (HR.out.own.stay HB2.out) ⟨[.int .i64 f], [.slice a2 bl.length c2], rfl, rfl, ⟨_, rfl, HO2.out.slO (fun _ h => h.elim) (fun _ h => h)⟩⟩ (fun k hk => ⟨Nat.le_trans HS0.out (HO2.out.lt k hk).1, fun e => absurd (HR.out.own.lt _ e).2 (Nat.not_lt.2 (HO2.out.lt k hk).1), HO2.out.rowT hk⟩) (by have := HR.out.few; have := HR.out.le; omega) (by have := HR.out.few; have := HR.out.le; omega) (Nat.le_trans HS0.out HB2.out.size) ?_
           intro a' c' w' hp
           have HBW : Hid (Below w.heap.size w w') := (HR.out.below.trans (HB2.out.mono HS0.out)).grown hp.2 (Nat.le_trans HS0.out HB2.out.size) (fun k hk => (HR.out.own.lt k hk).1)
           have HP := Lib.hid hp.1
           clear hp)
        | (go_at_call 64; refine (next_true b n t d v w' (HI.out.below HBW.out HBL.out) (HT.out.below HBW.out) HLE.out).mono ?_; rintro e w3 ⟨rfl, rfl⟩))
      have hnx := (nextS_spec d true t HLE.out).1
      go_roundw
      case rel => exact ⟨g, nextS d true t, rs ++ [(f, bl)], rfl, HSTEP.out _ _ HP.out HBW.out⟩
      case measure => have := HLF.out; have := HLT.out; simp [intOf]; omega
    · obtain rfl : f = 65536 := by have := HR.out.le; omega
      have hall := HR.out.all
      rw [runsN_end, List.append_nil] at hall
      have HALL := Lib.hid hall
      clear hall
      go_wp2
      go_ret
      exact ⟨_, rfl, by rw [HALL.out]; exact HR.out.own, HR.out.below⟩
end Go.Proofs.YtcfjcoockklkeaaDoor
