/-
  table.parse. Conditions: sizes; the library's table as its initialiser lays it.
-/
import Derived.Test.YtlepicdjnbbndaaGreatDoorT14
namespace Go.Proofs.YtlepicdjnbbndaaGreatDoor
open Go.RowKit Go.Shelf

theorem Blk.drew' {w : World} {g : Nat} {t : TypeId} {cs : Array Value} (h : Blk w g t cs) : Blk w.drew g t cs := h
theorem four_cells {w : World} {g : Nat} {t : TypeId} {a b c d : Value} (h : Blk w g t #[a, b, c, d]) : w.cell? ⟨g, 0, none⟩ = some a ∧ w.cell? ⟨g, 1, none⟩ = some b ∧ w.cell? ⟨g, 2, none⟩ = some c ∧ w.cell? ⟨g, 3, none⟩ = some d := ⟨h.cell 0, h.cell 1, h.cell 2, h.cell 3⟩
theorem four_free {w : World} {g : Nat} {t : TypeId} {a b c d : Value} (h : Blk w g t #[a, b, c, d]) : w.frozen? ⟨g, 0, none⟩ = false ∧ w.frozen? ⟨g, 1, none⟩ = false ∧ w.frozen? ⟨g, 2, none⟩ = false ∧ w.frozen? ⟨g, 3, none⟩ = false := ⟨h.free 0, h.free 1, h.free 2, h.free 3⟩
theorem slR_strs' (w : World) (L : List ByteArray) (hm : L.length ≤ 1000000) : SlR strR (w.alloc (.cells (L.map Value.string).toArray 9)) (fun k => k = w.heap.size) (.slice (some ⟨w.heap.size, 0, none⟩) L.length L.length) L := by
  refine ⟨_, _, rfl, Nat.le_refl _, by unfold maxLen; omega, fun i x hx => ⟨w.heap.size, 0, [.string x], rfl, rfl, by rw [World.size_alloc]; omega, ?_, rfl⟩⟩
  have hb := Blk.new w 9 (L.map Value.string).toArray
  refine Cells.one ?_
  unfold World.cell?
  rw [show (w.alloc (.cells (L.map Value.string).toArray 9)).heap[w.heap.size]? = _ from hb]
  show (L.map Value.string).toArray[0 + i * 1]? = _
  rw [List.getElem?_toArray, List.getElem?_map, Nat.zero_add, Nat.mul_one, hx]; rfl
set_option maxHeartbeats 4000000 in
set_option maxRecDepth 100000 in
theorem parse_3 (s : ByteArray) (b o a : List UInt8) (ho : o ≠ [42]) (ha : a ≠ [42]) (w : World) (hF : Lib.fields s.data.toList = [b, o, a]) (hs : s.size ≤ 1000) (hasc : ∀ b ∈ s.data.toList, b.toNat < 128) (hal : a.length ≤ 1000) (hsl : (Lib.split a [44]).length ≤ 1000) (hT : Spc w) :
    Calls Tryz.prog 88 #[.string s] w fun e w' => ∃ v LS, e = .returned (.agg #[.string ⟨b.toArray⟩, .string ⟨o.toArray⟩, v, .bool false]) ∧ SlR strR w' (fun k => w.heap.size ≤ k) v LS ∧ LS.map (·.data.toList) = Lib.split a [44] ∧ Below w.heap.size w w' := by
  have hal0 := (Below.refl w.heap.size w).alloc (Nat.le_refl _) (.cells #[.string ⟨#[]⟩, .string ⟨#[]⟩, .slice none 0 0, .bool false] 127)
  have HFW := Lib.hid (Fields_words s _ (w.alloc (.cells #[.string ⟨#[]⟩, .string ⟨#[]⟩, .slice none 0 0, .bool false] 127)) hF hs hasc (hT.below hal0))
  have HFX : Hid (Calls Tryz.prog 135 #[.string s] (w.alloc (.cells #[.string ⟨#[]⟩, .string ⟨#[]⟩, .slice none 0 0, .bool false] 127)) fun e w' => ∃ g : Nat, e = .returned (.slice (some ⟨g, 0, none⟩) 3 3) ∧ g < w'.heap.size ∧ w'.cell? ⟨g, 0, none⟩ = some (.string ⟨b.toArray⟩) ∧ w'.cell? ⟨g, 1, none⟩ = some (.string ⟨o.toArray⟩) ∧ w'.cell? ⟨g, 2, none⟩ = some (.string ⟨a.toArray⟩) ∧ Below (w.alloc (.cells #[.string ⟨#[]⟩, .string ⟨#[]⟩, .slice none 0 0, .bool false] 127)).heap.size (w.alloc (.cells #[.string ⟨#[]⟩, .string ⟨#[]⟩, .slice none 0 0, .bool false] 127)) w') := HFW.out.mono fun e w' ⟨g, h1, h2, h3⟩ => ⟨g, h1, h2.lt, h2.cell 0, h2.cell 1, h2.cell 2, h3⟩
  clear HFW
  have HF0 := Lib.hid (Blk.new w 127 #[.string ⟨#[]⟩, .string ⟨#[]⟩, .slice none 0 0, .bool false])
  have HB0 := Lib.hid hal0
  have eo : (⟨o.toArray⟩ : ByteArray).toList = o := toList_mk o
  have no : ((⟨o.toArray⟩ : ByteArray).toList == [42]) = false := by rw [eo, beq_eq_false_iff_ne]; exact ho
  have ea : (⟨a.toArray⟩ : ByteArray).toList = a := toList_mk a
  have na : ((⟨a.toArray⟩ : ByteArray).toList == [42]) = false := by rw [ea, beq_eq_false_iff_ne]; exact ha
  have HSP := Lib.hid (fun W => Split44 ⟨a.toArray⟩ W (by show a.toArray.size < _; rw [List.size_toArray]; omega))
  rw [show (⟨a.toArray⟩ : ByteArray).data.toList = a by simp] at HSP
  have HLSZ : Hid (∀ LS : List ByteArray, LS.map (·.data.toList) = Lib.split a [44] → LS.length ≤ 1000000) := fun LS h => by have h2 := congrArg List.length h; rw [List.length_map] at h2; omega
  clear hF hs hasc hT hal0 ho eo ha ea hal hsl
  generalize (⟨b.toArray⟩ : ByteArray) = B at *
  generalize (⟨o.toArray⟩ : ByteArray) = O at *
  generalize (⟨a.toArray⟩ : ByteArray) = A at *
  have hwr : IntKind.i64.wrap ((3 : Int) - 1) = 2 := by decide
  have hwr2 : IntKind.i64.wrap (2 : Int) = 2 := by decide
  go_enter Tryz.func88, Tryz.ntmps88
  go_upto_region 2 with (go_at_call 135; refine HFX.out.mono ?_; rintro e w1 ⟨g, rfl, hgl, d0, d1, d2, hb⟩; have HF1 := Lib.hid (HF0.out.below hb HF0.out.lt); have HB1 := Lib.hid (HB0.out.trans (hb.mono HB0.out.size)); have HBK := Lib.hid hgl; clear hgl hb)
  go_region_held3 (fun w' => w'.cell? ⟨g, 0, none⟩ = some (.string B) ∧ w'.cell? ⟨g, 1, none⟩ = some (.string O) ∧ w'.cell? ⟨g, 2, none⟩ = some (.string A)) (go_keep) (fail)
  all_goals
    have hR := Blk.new w1 127 #[.string B, .string O, .slice none 0 0, .bool false]
    have hal2 := (Below.refl w1.heap.size w1).alloc (Nat.le_refl _) (.cells #[.string B, .string O, .slice none 0 0, .bool false] 127)
    have HF2 := Lib.hid (HF1.out.below hal2 HF1.out.lt).drew'
    have HB2 := Lib.hid (HB1.out.trans (hal2.mono HB1.out.size)).drew
    have HR := Lib.hid hR.drew'
    have hfl : ¬ w.heap.size = w1.heap.size := Nat.ne_of_lt HF1.out.lt
    have hgd : ∀ j, (w1.alloc (.cells #[.string B, .string O, .slice none 0 0, .bool false] 127)).drew.cell? ⟨g, j, none⟩ = w1.cell? ⟨g, j, none⟩ := fun j => World.cell?_alloc_old _ _ _ (Nat.ne_of_lt HBK.out)
    have k2 := (hgd 2).trans d2
    clear hR hal2
    generalize (w1.alloc (.cells #[.string B, .string O, .slice none 0 0, .bool false] 127)).drew = wR at *
    have HRB : Hid (w.heap.size ≤ w1.heap.size) := HB1.out.size
    generalize w1.heap.size = rb at *
    obtain ⟨r0, r1, r2, r3⟩ := four_cells HR.out
    obtain ⟨s0, s1, s2, s3⟩ := four_free HR.out
    clear hgd
    go_wp2_with (go_at_call 136; refine (HSP.out _).mono ?_; rintro e w3 ⟨LS, hLS, rfl, hw3⟩; have hal3 := (Below.refl wR.heap.size wR).alloc (Nat.le_refl _) (.cells (LS.map Value.string).toArray 9); rw [← hw3] at hal3; have HR3 := Lib.hid (HR.out.below hal3 HR.out.lt); have HF3 := Lib.hid (HF2.out.below hal3 HF2.out.lt); have HB3 := Lib.hid (HB2.out.trans (hal3.mono HB2.out.size)); have HL3 : Hid (SlR strR w3 (fun k => k = wR.heap.size) (.slice (some ⟨wR.heap.size, 0, none⟩) LS.length LS.length) LS) := (by show SlR _ _ _ _ _; rw [hw3]; exact slR_strs' wR LS (HLSZ.out LS hLS)); have HLS := Lib.hid hLS; obtain ⟨t0, t1, t2, t3⟩ := four_cells HR3.out; obtain ⟨u0, u1, u2, u3⟩ := four_free HR3.out; obtain ⟨v0, v1, v2, v3⟩ := four_cells HF3.out; obtain ⟨y0, y1, y2, y3⟩ := four_free HF3.out; have HSZ := Lib.hid HB2.out.size; clear hal3 hw3 hLS)
    have hlg : ∀ k, k = wR.heap.size → k ≠ w.heap.size := fun k hk e => by have := HF2.out.lt; omega
    have hlr : ∀ k, k = wR.heap.size → k ≠ rb := fun k hk e => by have := HR.out.lt; omega
    refine bodyPost_ret (results_row1 rfl _ _ w.heap.size 127 #[.string B, .string O, .slice (some ⟨wR.heap.size, 0, none⟩) LS.length LS.length, .bool false] (0, 0) _ rfl (show Blk _ w.heap.size 127 #[.string B, .string O, .slice (some ⟨wR.heap.size, 0, none⟩) LS.length LS.length, .bool false] from ((((HF3.out.far (p := ⟨rb, 2, none⟩) hfl (.slice (some ⟨wR.heap.size, 0, none⟩) LS.length LS.length)).set 0 _).set 1 _).set 2 _).set 3 _) Tryz.underlying127 rfl (by kernel_rfl)) rfl ⟨_, LS, rfl, ?_, HLS.out, ?_⟩
    · refine (HL3.out.keep ?_).mono (fun k hk => by rw [hk]; exact HSZ.out)
      exact ((((Keep.setCell hlr _).trans (Keep.setCell hlg _)).trans (Keep.setCell hlg _)).trans (Keep.setCell hlg _)).trans (Keep.setCell hlg _)
    · exact ((((HB3.out.setCell HRB.out _).setCell (Nat.le_refl _) _).setCell (Nat.le_refl _) _).setCell (Nat.le_refl _) _).setCell (Nat.le_refl _) _
set_option maxHeartbeats 4000000 in
set_option maxRecDepth 100000 in
theorem parse_2 (s : ByteArray) (b o : List UInt8) (ho : o ≠ [42]) (w : World) (hF : Lib.fields s.data.toList = [b, o]) (hs : s.size ≤ 1000) (hasc : ∀ b ∈ s.data.toList, b.toNat < 128) (hT : Spc w) :
    Calls Tryz.prog 88 #[.string s] w fun e w' => ∃ v LS, e = .returned (.agg #[.string ⟨b.toArray⟩, .string ⟨o.toArray⟩, v, .bool false]) ∧ SlR strR w' (fun k => w.heap.size ≤ k) v LS ∧ LS.map (·.data.toList) = [] ∧ Below w.heap.size w w' := by
  have hal0 := (Below.refl w.heap.size w).alloc (Nat.le_refl _) (.cells #[.string ⟨#[]⟩, .string ⟨#[]⟩, .slice none 0 0, .bool false] 127)
  have HFW := Lib.hid (Fields_words s _ (w.alloc (.cells #[.string ⟨#[]⟩, .string ⟨#[]⟩, .slice none 0 0, .bool false] 127)) hF hs hasc (hT.below hal0))
  have HFX : Hid (Calls Tryz.prog 135 #[.string s] (w.alloc (.cells #[.string ⟨#[]⟩, .string ⟨#[]⟩, .slice none 0 0, .bool false] 127)) fun e w' => ∃ g : Nat, e = .returned (.slice (some ⟨g, 0, none⟩) 2 2) ∧ g < w'.heap.size ∧ w'.cell? ⟨g, 0, none⟩ = some (.string ⟨b.toArray⟩) ∧ w'.cell? ⟨g, 1, none⟩ = some (.string ⟨o.toArray⟩) ∧ Below (w.alloc (.cells #[.string ⟨#[]⟩, .string ⟨#[]⟩, .slice none 0 0, .bool false] 127)).heap.size (w.alloc (.cells #[.string ⟨#[]⟩, .string ⟨#[]⟩, .slice none 0 0, .bool false] 127)) w') := HFW.out.mono fun e w' ⟨g, h1, h2, h3⟩ => ⟨g, h1, h2.lt, h2.cell 0, h2.cell 1, h3⟩
  clear HFW
  have HF0 := Lib.hid (Blk.new w 127 #[.string ⟨#[]⟩, .string ⟨#[]⟩, .slice none 0 0, .bool false])
  have HB0 := Lib.hid hal0
  have eo : (⟨o.toArray⟩ : ByteArray).toList = o := toList_mk o
  have no : ((⟨o.toArray⟩ : ByteArray).toList == [42]) = false := by rw [eo, beq_eq_false_iff_ne]; exact ho
  clear hF hs hasc hT hal0 ho eo
  generalize (⟨b.toArray⟩ : ByteArray) = B at *
  generalize (⟨o.toArray⟩ : ByteArray) = O at *
  have hwr : IntKind.i64.wrap ((2 : Int) - 1) = 1 := by decide
  have hwr2 : IntKind.i64.wrap (1 : Int) = 1 := by decide
  go_enter Tryz.func88, Tryz.ntmps88
  go_upto_region 2 with (go_at_call 135; refine HFX.out.mono ?_; rintro e w1 ⟨g, rfl, hgl, d0, d1, hb⟩; have HF1 := Lib.hid (HF0.out.below hb HF0.out.lt); have HB1 := Lib.hid (HB0.out.trans (hb.mono HB0.out.size)); have HBK := Lib.hid hgl; clear hgl hb)
  go_region_held3 (fun w' => w'.cell? ⟨g, 0, none⟩ = some (.string B) ∧ w'.cell? ⟨g, 1, none⟩ = some (.string O)) (go_keep) (fail)
  all_goals
    have hal2 := (Below.refl w1.heap.size w1).alloc (Nat.le_refl _) (.cells #[.string B, .string O, .slice none 0 0, .bool false] 127)
    have hR := Blk.new w1 127 #[.string B, .string O, .slice none 0 0, .bool false]
    have HR := Lib.hid hR.drew'
    have HF2 := Lib.hid (HF1.out.below hal2 HF1.out.lt).drew'
    have HB2 := Lib.hid (HB1.out.trans (hal2.mono HB1.out.size)).drew
    have hfl : ¬ w.heap.size = w1.heap.size := Nat.ne_of_lt HF1.out.lt
    have hgd : ∀ j, (w1.alloc (.cells #[.string B, .string O, .slice none 0 0, .bool false] 127)).drew.cell? ⟨g, j, none⟩ = w1.cell? ⟨g, j, none⟩ := fun j => World.cell?_alloc_old _ _ _ (Nat.ne_of_lt HBK.out)
    have _ := hgd
    clear hR hal2
    generalize (w1.alloc (.cells #[.string B, .string O, .slice none 0 0, .bool false] 127)).drew = wR at *
    generalize w1.heap.size = rb at *
    obtain ⟨r0, r1, r2, r3⟩ := four_cells HR.out
    obtain ⟨v0, v1, v2, v3⟩ := four_cells HF2.out
    obtain ⟨y0, y1, y2, y3⟩ := four_free HF2.out
    clear hgd
    go_wp2
    refine bodyPost_ret (results_row1 rfl _ _ w.heap.size 127 #[.string B, .string O, .slice none 0 0, .bool false] (0, 0) _ rfl (show Blk _ w.heap.size 127 #[.string B, .string O, .slice none 0 0, .bool false] from (((HF2.out.set 0 _).set 1 _).set 2 _).set 3 _) Tryz.underlying127 rfl (by kernel_rfl)) rfl ⟨_, [], rfl, SlR.nil _ _ _, rfl, ?_⟩
    exact (((HB2.out.setCell (Nat.le_refl _) _).setCell (Nat.le_refl _) _).setCell (Nat.le_refl _) _).setCell (Nat.le_refl _) _
set_option maxHeartbeats 4000000 in
set_option maxRecDepth 100000 in
theorem parse_3s (s : ByteArray) (b o : List UInt8) (ho : o ≠ [42]) (w : World) (hF : Lib.fields s.data.toList = [b, o, [42]]) (hs : s.size ≤ 1000) (hasc : ∀ b ∈ s.data.toList, b.toNat < 128) (hT : Spc w) :
    Calls Tryz.prog 88 #[.string s] w fun e w' => ∃ v LS, e = .returned (.agg #[.string ⟨b.toArray⟩, .string ⟨o.toArray⟩, v, .bool true]) ∧ SlR strR w' (fun k => w.heap.size ≤ k) v LS ∧ LS.map (·.data.toList) = [] ∧ Below w.heap.size w w' := by
  have hal0 := (Below.refl w.heap.size w).alloc (Nat.le_refl _) (.cells #[.string ⟨#[]⟩, .string ⟨#[]⟩, .slice none 0 0, .bool false] 127)
  have HFW := Lib.hid (Fields_words s _ (w.alloc (.cells #[.string ⟨#[]⟩, .string ⟨#[]⟩, .slice none 0 0, .bool false] 127)) hF hs hasc (hT.below hal0))
  have HFX : Hid (Calls Tryz.prog 135 #[.string s] (w.alloc (.cells #[.string ⟨#[]⟩, .string ⟨#[]⟩, .slice none 0 0, .bool false] 127)) fun e w' => ∃ g : Nat, e = .returned (.slice (some ⟨g, 0, none⟩) 3 3) ∧ g < w'.heap.size ∧ w'.cell? ⟨g, 0, none⟩ = some (.string ⟨b.toArray⟩) ∧ w'.cell? ⟨g, 1, none⟩ = some (.string ⟨o.toArray⟩) ∧ w'.cell? ⟨g, 2, none⟩ = some (.string ⟨#[42]⟩) ∧ Below (w.alloc (.cells #[.string ⟨#[]⟩, .string ⟨#[]⟩, .slice none 0 0, .bool false] 127)).heap.size (w.alloc (.cells #[.string ⟨#[]⟩, .string ⟨#[]⟩, .slice none 0 0, .bool false] 127)) w') := HFW.out.mono fun e w' ⟨g, h1, h2, h3⟩ => ⟨g, h1, h2.lt, h2.cell 0, h2.cell 1, h2.cell 2, h3⟩
  clear HFW
  have HF0 := Lib.hid (Blk.new w 127 #[.string ⟨#[]⟩, .string ⟨#[]⟩, .slice none 0 0, .bool false])
  have HB0 := Lib.hid hal0
  have eo : (⟨o.toArray⟩ : ByteArray).toList = o := toList_mk o
  have no : ((⟨o.toArray⟩ : ByteArray).toList == [42]) = false := by rw [eo, beq_eq_false_iff_ne]; exact ho
  clear hF hs hasc hT hal0 ho eo
  generalize (⟨b.toArray⟩ : ByteArray) = B at *
  generalize (⟨o.toArray⟩ : ByteArray) = O at *
  have hwr : IntKind.i64.wrap ((3 : Int) - 1) = 2 := by decide
  have hwr2 : IntKind.i64.wrap (2 : Int) = 2 := by decide
  go_enter Tryz.func88, Tryz.ntmps88
  go_upto_region 2 with (go_at_call 135; refine HFX.out.mono ?_; rintro e w1 ⟨g, rfl, hgl, d0, d1, d2, hb⟩; have HF1 := Lib.hid (HF0.out.below hb HF0.out.lt); have HB1 := Lib.hid (HB0.out.trans (hb.mono HB0.out.size)); have HBK := Lib.hid hgl; clear hgl hb)
  go_region_held3 (fun w' => w'.cell? ⟨g, 0, none⟩ = some (.string B) ∧ w'.cell? ⟨g, 1, none⟩ = some (.string O) ∧ w'.cell? ⟨g, 2, none⟩ = some (.string ⟨#[42]⟩)) (go_keep) (fail)
  all_goals
    have hal2 := (Below.refl w1.heap.size w1).alloc (Nat.le_refl _) (.cells #[.string B, .string O, .slice none 0 0, .bool true] 127)
    have hR := Blk.new w1 127 #[.string B, .string O, .slice none 0 0, .bool true]
    have HR := Lib.hid hR.drew'
    have HF2 := Lib.hid (HF1.out.below hal2 HF1.out.lt).drew'
    have HB2 := Lib.hid (HB1.out.trans (hal2.mono HB1.out.size)).drew
    have hfl : ¬ w.heap.size = w1.heap.size := Nat.ne_of_lt HF1.out.lt
    have hgd : ∀ j, (w1.alloc (.cells #[.string B, .string O, .slice none 0 0, .bool true] 127)).drew.cell? ⟨g, j, none⟩ = w1.cell? ⟨g, j, none⟩ := fun j => World.cell?_alloc_old _ _ _ (Nat.ne_of_lt HBK.out)
    have k2 := (hgd 2).trans d2
    clear hR hal2
    generalize (w1.alloc (.cells #[.string B, .string O, .slice none 0 0, .bool true] 127)).drew = wR at *
    generalize w1.heap.size = rb at *
    obtain ⟨r0, r1, r2, r3⟩ := four_cells HR.out
    obtain ⟨v0, v1, v2, v3⟩ := four_cells HF2.out
    obtain ⟨y0, y1, y2, y3⟩ := four_free HF2.out
    clear hgd
    go_wp2
    refine bodyPost_ret (results_row1 rfl _ _ w.heap.size 127 #[.string B, .string O, .slice none 0 0, .bool true] (0, 0) _ rfl (show Blk _ w.heap.size 127 #[.string B, .string O, .slice none 0 0, .bool true] from (((HF2.out.set 0 _).set 1 _).set 2 _).set 3 _) Tryz.underlying127 rfl (by kernel_rfl)) rfl ⟨_, [], rfl, SlR.nil _ _ _, rfl, ?_⟩
    exact (((HB2.out.setCell (Nat.le_refl _) _).setCell (Nat.le_refl _) _).setCell (Nat.le_refl _) _).setCell (Nat.le_refl _) _
set_option maxHeartbeats 4000000 in
set_option maxRecDepth 100000 in
theorem parse_4 (s : ByteArray) (b o a : List UInt8) (ho : o ≠ [42]) (ha : a ≠ [42]) (w : World) (hF : Lib.fields s.data.toList = [b, o, a, [42]]) (hs : s.size ≤ 1000) (hasc : ∀ b ∈ s.data.toList, b.toNat < 128) (hal : a.length ≤ 1000) (hsl : (Lib.split a [44]).length ≤ 1000) (hT : Spc w) :
    Calls Tryz.prog 88 #[.string s] w fun e w' => ∃ v LS, e = .returned (.agg #[.string ⟨b.toArray⟩, .string ⟨o.toArray⟩, v, .bool true]) ∧ SlR strR w' (fun k => w.heap.size ≤ k) v LS ∧ LS.map (·.data.toList) = Lib.split a [44] ∧ Below w.heap.size w w' := by
  have hal0 := (Below.refl w.heap.size w).alloc (Nat.le_refl _) (.cells #[.string ⟨#[]⟩, .string ⟨#[]⟩, .slice none 0 0, .bool false] 127)
  have HFW := Lib.hid (Fields_words s _ (w.alloc (.cells #[.string ⟨#[]⟩, .string ⟨#[]⟩, .slice none 0 0, .bool false] 127)) hF hs hasc (hT.below hal0))
  have HFX : Hid (Calls Tryz.prog 135 #[.string s] (w.alloc (.cells #[.string ⟨#[]⟩, .string ⟨#[]⟩, .slice none 0 0, .bool false] 127)) fun e w' => ∃ g : Nat, e = .returned (.slice (some ⟨g, 0, none⟩) 4 4) ∧ g < w'.heap.size ∧ w'.cell? ⟨g, 0, none⟩ = some (.string ⟨b.toArray⟩) ∧ w'.cell? ⟨g, 1, none⟩ = some (.string ⟨o.toArray⟩) ∧ w'.cell? ⟨g, 2, none⟩ = some (.string ⟨a.toArray⟩) ∧ w'.cell? ⟨g, 3, none⟩ = some (.string ⟨#[42]⟩) ∧ Below (w.alloc (.cells #[.string ⟨#[]⟩, .string ⟨#[]⟩, .slice none 0 0, .bool false] 127)).heap.size (w.alloc (.cells #[.string ⟨#[]⟩, .string ⟨#[]⟩, .slice none 0 0, .bool false] 127)) w') := HFW.out.mono fun e w' ⟨g, h1, h2, h3⟩ => ⟨g, h1, h2.lt, h2.cell 0, h2.cell 1, h2.cell 2, h2.cell 3, h3⟩
  clear HFW
  have HF0 := Lib.hid (Blk.new w 127 #[.string ⟨#[]⟩, .string ⟨#[]⟩, .slice none 0 0, .bool false])
  have HB0 := Lib.hid hal0
  have eo : (⟨o.toArray⟩ : ByteArray).toList = o := toList_mk o
  have no : ((⟨o.toArray⟩ : ByteArray).toList == [42]) = false := by rw [eo, beq_eq_false_iff_ne]; exact ho
  have ea : (⟨a.toArray⟩ : ByteArray).toList = a := toList_mk a
  have na : ((⟨a.toArray⟩ : ByteArray).toList == [42]) = false := by rw [ea, beq_eq_false_iff_ne]; exact ha
  have HSP := Lib.hid (fun W => Split44 ⟨a.toArray⟩ W (by show a.toArray.size < _; rw [List.size_toArray]; omega))
  rw [show (⟨a.toArray⟩ : ByteArray).data.toList = a by simp] at HSP
  have HLSZ : Hid (∀ LS : List ByteArray, LS.map (·.data.toList) = Lib.split a [44] → LS.length ≤ 1000000) := fun LS h => by have h2 := congrArg List.length h; rw [List.length_map] at h2; omega
  clear hF hs hasc hT hal0 ho eo ha ea hal hsl
  generalize (⟨b.toArray⟩ : ByteArray) = B at *
  generalize (⟨o.toArray⟩ : ByteArray) = O at *
  generalize (⟨a.toArray⟩ : ByteArray) = A at *
  have hwr : IntKind.i64.wrap ((4 : Int) - 1) = 3 := by decide
  have hwr2 : IntKind.i64.wrap (3 : Int) = 3 := by decide
  go_enter Tryz.func88, Tryz.ntmps88
  go_upto_region 2 with (go_at_call 135; refine HFX.out.mono ?_; rintro e w1 ⟨g, rfl, hgl, d0, d1, d2, d3, hb⟩; have HF1 := Lib.hid (HF0.out.below hb HF0.out.lt); have HB1 := Lib.hid (HB0.out.trans (hb.mono HB0.out.size)); have HBK := Lib.hid hgl; clear hgl hb)
  go_region_held3 (fun w' => w'.cell? ⟨g, 0, none⟩ = some (.string B) ∧ w'.cell? ⟨g, 1, none⟩ = some (.string O) ∧ w'.cell? ⟨g, 2, none⟩ = some (.string A) ∧ w'.cell? ⟨g, 3, none⟩ = some (.string ⟨#[42]⟩)) (go_keep) (fail)
  all_goals
    have hR := Blk.new w1 127 #[.string B, .string O, .slice none 0 0, .bool true]
    have hal2 := (Below.refl w1.heap.size w1).alloc (Nat.le_refl _) (.cells #[.string B, .string O, .slice none 0 0, .bool true] 127)
    have HF2 := Lib.hid (HF1.out.below hal2 HF1.out.lt).drew'
    have HB2 := Lib.hid (HB1.out.trans (hal2.mono HB1.out.size)).drew
    have HR := Lib.hid hR.drew'
    have hfl : ¬ w.heap.size = w1.heap.size := Nat.ne_of_lt HF1.out.lt
    have hgd : ∀ j, (w1.alloc (.cells #[.string B, .string O, .slice none 0 0, .bool true] 127)).drew.cell? ⟨g, j, none⟩ = w1.cell? ⟨g, j, none⟩ := fun j => World.cell?_alloc_old _ _ _ (Nat.ne_of_lt HBK.out)
    have k2 := (hgd 2).trans d2
    clear hR hal2
    generalize (w1.alloc (.cells #[.string B, .string O, .slice none 0 0, .bool true] 127)).drew = wR at *
    have HRB : Hid (w.heap.size ≤ w1.heap.size) := HB1.out.size
    generalize w1.heap.size = rb at *
    obtain ⟨r0, r1, r2, r3⟩ := four_cells HR.out
    obtain ⟨s0, s1, s2, s3⟩ := four_free HR.out
    clear hgd
    go_wp2_with (go_at_call 136; refine (HSP.out _).mono ?_; rintro e w3 ⟨LS, hLS, rfl, hw3⟩; have hal3 := (Below.refl wR.heap.size wR).alloc (Nat.le_refl _) (.cells (LS.map Value.string).toArray 9); rw [← hw3] at hal3; have HR3 := Lib.hid (HR.out.below hal3 HR.out.lt); have HF3 := Lib.hid (HF2.out.below hal3 HF2.out.lt); have HB3 := Lib.hid (HB2.out.trans (hal3.mono HB2.out.size)); have HL3 : Hid (SlR strR w3 (fun k => k = wR.heap.size) (.slice (some ⟨wR.heap.size, 0, none⟩) LS.length LS.length) LS) := (by show SlR _ _ _ _ _; rw [hw3]; exact slR_strs' wR LS (HLSZ.out LS hLS)); have HLS := Lib.hid hLS; obtain ⟨t0, t1, t2, t3⟩ := four_cells HR3.out; obtain ⟨u0, u1, u2, u3⟩ := four_free HR3.out; obtain ⟨v0, v1, v2, v3⟩ := four_cells HF3.out; obtain ⟨y0, y1, y2, y3⟩ := four_free HF3.out; have HSZ := Lib.hid HB2.out.size; clear hal3 hw3 hLS)
    have hlg : ∀ k, k = wR.heap.size → k ≠ w.heap.size := fun k hk e => by have := HF2.out.lt; omega
    have hlr : ∀ k, k = wR.heap.size → k ≠ rb := fun k hk e => by have := HR.out.lt; omega
    refine bodyPost_ret (results_row1 rfl _ _ w.heap.size 127 #[.string B, .string O, .slice (some ⟨wR.heap.size, 0, none⟩) LS.length LS.length, .bool true] (0, 0) _ rfl (show Blk _ w.heap.size 127 #[.string B, .string O, .slice (some ⟨wR.heap.size, 0, none⟩) LS.length LS.length, .bool true] from ((((HF3.out.far (p := ⟨rb, 2, none⟩) hfl (.slice (some ⟨wR.heap.size, 0, none⟩) LS.length LS.length)).set 0 _).set 1 _).set 2 _).set 3 _) Tryz.underlying127 rfl (by kernel_rfl)) rfl ⟨_, LS, rfl, ?_, HLS.out, ?_⟩
    · refine (HL3.out.keep ?_).mono (fun k hk => by rw [hk]; exact HSZ.out)
      exact ((((Keep.setCell hlr _).trans (Keep.setCell hlg _)).trans (Keep.setCell hlg _)).trans (Keep.setCell hlg _)).trans (Keep.setCell hlg _)
    · exact ((((HB3.out.setCell HRB.out _).setCell (Nat.le_refl _) _).setCell (Nat.le_refl _) _).setCell (Nat.le_refl _) _).setCell (Nat.le_refl _) _
end Go.Proofs.YtlepicdjnbbndaaGreatDoor
