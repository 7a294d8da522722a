/-
  breadboardlaw05.HexreadEnds. Conditions: the addresses fit their type; the library's table as its initialiser lays it.
-/
import Derived.Test.YtcfjcoockklkeaaDoorV23
namespace Go.Proofs.YtcfjcoockklkeaaDoor
open Go.RowKit

/-- the first line of a text -/
theorem SplitFirst (s : ByteArray) (w : World) (hs : s.size ≤ 1000000000) : Calls Tryd.prog 25 #[.string s, .string ⟨#[10]⟩] w fun e w' => ∃ (f0 : ByteArray) (n g : Nat), [f0.data.toList] = (splitNL s.data.toList).take 1 ∧ 0 < n ∧ n ≤ 1000000001 ∧ e = .returned (.slice (some ⟨g, 0, none⟩) n n) ∧ w'.cell? ⟨g, 0, none⟩ = some (.string f0) ∧ Below w.heap.size w w' :=
  (Split10 s w (by omega)).mono fun e w' ⟨L, h1, h2, h3⟩ => by
    cases L with
    | nil => exact absurd h1.symm (splitNL_ne _)
    | cons f0 L =>
      have hn : (f0 :: L).length ≤ 1000000001 := by
        have h5 := splitNL_cnt s.data.toList
        rw [← h1, List.length_map] at h5
        have h6 : s.data.toList.length = s.size := by simp
        omega
      refine ⟨f0, (f0 :: L).length, w.heap.size, by rw [← h1]; rfl, by simp, hn, h2, ?_, by rw [h3]; exact (Below.refl _ _).alloc (Nat.le_refl _) _⟩
      rw [h3]
      exact (Blk.new w _ _).cell 0
theorem head_mem {s f : List UInt8} (h : [f] = (splitNL s).take 1) : ∃ r, splitNL s = f :: r := by
  cases hs : splitNL s with
  | nil => exact absurd hs (splitNL_ne _)
  | cons y L =>
    rw [hs] at h
    injection h with h
    exact ⟨L, by rw [h]⟩
set_option maxHeartbeats 4000000 in
set_option maxRecDepth 100000 in
theorem Ends_blank (p : Blocks) (v : Value) (R : List (Int × List UInt8)) (more : ByteArray) (hm : more.size ≤ 200) (w : World) (h : SlR runIR w p v R) (hT : Deb w) (hA : ∀ r ∈ R, -9223372036854775808 ≤ r.1 ∧ r.1 ≤ 9223372036854775807) (hf : fewB R = true)
    (hall : more.data.toList.all is3 = true) :
    Calls Tryd.prog 9 #[v, .string more] w fun e w' => e = .returned (.bool true) ∧ Below w.heap.size w w' := by
  have HT := Lib.hid hT
  have HBU := Lib.hid (Build_yes p v R w h hT hA hf)
  clear h hT hA hf
  generalize putF R = S at *
  have HW4 := Lib.hid (fun (b n : Nat) (cv : Value) (W : World) (h : Both w W b cv S n) => h.write04)
  have HCT := Lib.hid (fun W => count_lines (runsOf S.1 S.2) W)
  have HTE := Lib.hid (fun W => TrimEnd (runsOf S.1 S.2) (runs_sep _ _) W)
  have htx8 := textOf_len8 (runsOf S.1 S.2) (runs_sep S.1 S.2)
  have htd : (⟨(textOf 16 (runsOf S.1 S.2)).toArray⟩ : ByteArray).data.toList = textOf 16 (runsOf S.1 S.2) := by simp
  have htx : (⟨(textOf 16 (runsOf S.1 S.2)).toArray⟩ : ByteArray).size ≤ 900000000 := by show (textOf 16 (runsOf S.1 S.2)).toArray.size ≤ _; rw [List.size_toArray]; exact htx8
  have hbd : (⟨(txtP (recs 16 (runsOf S.1 S.2))).toArray⟩ : ByteArray).data.toList = txtP (recs 16 (runsOf S.1 S.2)) := by simp
  have hbl : (⟨(txtP (recs 16 (runsOf S.1 S.2))).toArray⟩ : ByteArray).size ≤ 1000000000 := by
    show (txtP (recs 16 (runsOf S.1 S.2))).toArray.size ≤ _
    rw [List.size_toArray]
    have h1 := htx8
    rw [textOf_is, List.length_append] at h1
    omega
  have hop := read_open S.1 S.2 (n := 16) (by omega) (by omega)
  have HRA := Lib.hid (fun (W : World) (hD : Deb W) => Read_bad ⟨(txtP (recs 16 (runsOf S.1 S.2))).toArray⟩ W hbl hD (by rw [hbd]; show (readH (joinL _)).1.2 ≠ 0; rw [hop]; exact Nat.succ_ne_zero 7))
  rw [hbd, show readH (txtP (recs 16 (runsOf S.1 S.2))) = _ from hop] at HRA
  have HRA2 : Hid (∀ W, Deb W → Calls Tryd.prog 36 #[.string ⟨(txtP (recs 16 (runsOf S.1 S.2))).toArray⟩] W fun e w' => e = .returned (.tuple #[.pointer none, .agg #[.int .i64 0, .int .i64 8]]) ∧ Below W.heap.size W w') := HRA.out
  have hcat : ((⟨(textOf 16 (runsOf S.1 S.2)).toArray⟩ : ByteArray) ++ more).data.toList = textOf 16 (runsOf S.1 S.2) ++ more.data.toList := by rw [ba_app, htd]
  have hcs : ((⟨(textOf 16 (runsOf S.1 S.2)).toArray⟩ : ByteArray) ++ more).size ≤ 1000000000 := by
    have : ((⟨(textOf 16 (runsOf S.1 S.2)).toArray⟩ : ByteArray) ++ more).size = (⟨(textOf 16 (runsOf S.1 S.2)).toArray⟩ : ByteArray).size + more.size := ByteArray.size_append
    omega
  have HSF := Lib.hid (fun W => SplitFirst more W (by omega))
  have hr := read_text S.1 S.2 (n := 16) (by omega) (by omega) more.data.toList (blank_of3 hall)
  have HRB : Hid (∀ W, Deb W → Calls Tryd.prog 36 #[.string ((⟨(textOf 16 (runsOf S.1 S.2)).toArray⟩ : ByteArray) ++ more)] W fun e w' => ∃ (ib : Nat) (T : ImgS), e = .returned (.tuple #[.pointer (some ⟨ib, 0, none⟩), .agg #[.int .i64 0, .int .i64 0]]) ∧ ImgC w' ib T.1 T.2 (cellsOf T.1 T.2).length ∧ cellsOf T.1 T.2 = cellsOf S.1 S.2 ∧ Below W.heap.size W w') := fun W hD => by
    have h := Read_good _ W hcs hD
    rw [hcat, hr] at h
    exact (h rfl).mono fun e w' ⟨ib, h1, _, h3, h4⟩ => ⟨ib, _, h1, h3, (putAll_recs S.1 S.2 (show 0 < 16 by omega)).1, h4⟩
  have HT3 := Lib.hid (fun W => Trim3_yes more W (by omega) hall)
  clear hr hall
  have HFS : Hid (∀ f0 : ByteArray, [f0.data.toList] = (splitNL more.data.toList).take 1 → f0.size ≤ 1000000000) := fun f0 hf => by
    obtain ⟨r, hr⟩ := head_mem hf
    have h1 := splitNL_len more.data.toList f0.data.toList (by rw [hr]; simp)
    have h2 : f0.data.toList.length = f0.size := by simp
    have h3 : more.data.toList.length = more.size := by simp
    omega

  clear HRA hop hbd hbl htd htx8 hcat hcs
  generalize (linesOf 16 (runsOf S.1 S.2)).length = nl at *
  generalize (⟨(txtP (recs 16 (runsOf S.1 S.2))).toArray⟩ : ByteArray) = body at *
  generalize (⟨(textOf 16 (runsOf S.1 S.2)).toArray⟩ : ByteArray) = tx at *
  have hopE := run_eqFlt
  have hopN := run_neqFlt
  have heq8 : fltEq 0 8 0 8 = true := rfl
  have heq0 : fltEq 0 0 0 0 = true := rfl
  have hm1 : (more.size : Int) ≤ 200 := by omega
  have tok1 : True := trivial
  go_enter Tryd.func9, Tryd.ntmps9
  go_wp2_with (first
    | (go_at_call 12; with_reducible refine HBU.out.mono ?_; rintro e w1 ⟨b, n, cv, rfl, hbo⟩; have HB1 := Lib.hid hbo; clear hbo)
    | (go_at_call 23; with_reducible refine (HW4.out b n cv _ HB1.out).mono ?_; rintro e w2 ⟨rfl, hb⟩; have HB2 := Lib.hid (HB1.out.later hb); clear hb)
    | (go_at_call 24; with_reducible refine (HCT.out _).mono ?_; rintro e w2' ⟨rfl, rfl⟩)
    | (go_at_call 37; with_reducible refine (HTE.out _).mono ?_; rintro e w2'' ⟨rfl, rfl⟩)
    | (go_at_call 36; have _t := tok1; with_reducible refine (HRA2.out _ (HT.out.below HB2.out.below)).mono ?_; rintro e w3 ⟨rfl, hb⟩; have hal := (Below.refl w3.heap.size w3).alloc (Nat.le_refl _) (.cells #[.int .i64 0, .int .i64 8] 54); have HB3 := Lib.hid ((HB2.out.later hb).later hal); have HK3 := Lib.hid (Blk.new w3 54 #[.int .i64 0, .int .i64 8]); clear tok1 _t hb hal)
    | (go_at_call 36; with_reducible refine (HRB.out _ (HT.out.below HB3.out.below)).mono ?_; rintro e w4 ⟨ib, T, rfl, hi, hc, hb⟩; have hal := (Below.refl w4.heap.size w4).alloc (Nat.le_refl _) (.cells #[.int .i64 0, .int .i64 0] 54); have HB4 := Lib.hid ((HB3.out.later hb).later hal); have HI4 := Lib.hid (hi.below hal hi.lt); have HC4 := Lib.hid hc; have HK4 := Lib.hid ((HK3.out.below hb HK3.out.lt).alloc (.cells #[.int .i64 0, .int .i64 0] 54)); have HL4 := Lib.hid (Blk.new w4 54 #[.int .i64 0, .int .i64 0]); clear hi hc hb hal)
    | (go_at_call 25; with_reducible refine (HSF.out _).mono ?_; rintro e w5 ⟨f0, nn, gg, hf0, hn0, hn1, rfl, e0, hb⟩; have HF0 := Lib.hid hf0; have hnn : (0 : Int) < (nn : Int) := by omega
       have HB5 := Lib.hid (HB4.out.later hb); have HI5 := Lib.hid (HI4.out.below hb HI4.out.lt); obtain ⟨k0, k1, _, _⟩ := (HK4.out.below hb HK4.out.lt).two; have HL5 := Lib.hid (HL4.out.below hb HL4.out.lt); clear hb hf0)
    | (go_at_call 38; refine (TrimR13 f0 _ (HFS.out f0 HF0.out)).mono ?_; rintro e w5' ⟨rfl, rfl⟩)
    | (go_at_call 39; refine (HT3.out _).mono ?_; rintro e w6 ⟨rfl, hb⟩; have HB6 := Lib.hid (HB5.out.later hb); have HI6 := Lib.hid (HI5.out.below hb HI5.out.lt); have HL6 := Lib.hid (HL5.out.below hb HL5.out.lt); clear hb)
    | (go_at_call 31; refine (alive5_any _ (HT.out.below HB6.out.below)).mono ?_; rintro e w7 ⟨rfl, hb⟩; have HB7 := Lib.hid (HB6.out.later hb); have HI7 := Lib.hid (HI6.out.below hb HI6.out.lt); obtain ⟨l0, l1, _, _⟩ := (HL6.out.below hb HL6.out.lt).two; clear hb)
    | (go_at_call 29; refine (ImgSame_any _ _ _ _ _ (imgV_of HI7.out HC4.out) HB7.out.imgV (HT.out.below HB7.out.below)).mono ?_; rw [decide_eq_true rfl]; rintro e w8 ⟨rfl, hb⟩; have HB8 := Lib.hid (HB7.out.later hb); clear hb))
  go_ret
  exact ⟨rfl, HB8.out.below⟩
set_option maxHeartbeats 4000000 in
set_option maxRecDepth 100000 in
theorem Ends_after (p : Blocks) (v : Value) (R : List (Int × List UInt8)) (more : ByteArray) (hm : more.size ≤ 200) (w : World) (h : SlR runIR w p v R) (hT : Deb w) (hA : ∀ r ∈ R, -9223372036854775808 ≤ r.1 ∧ r.1 ≤ 9223372036854775807) (hf : fewB R = true)
    (hall : more.data.toList.all is3 = false) (hfr : ∀ f0 : ByteArray, [f0.data.toList] = (splitNL more.data.toList).take 1 → blankL (Lib.trimRightB f0.data.toList 13) = false) (h13 : (13 : UInt8) ∉ more.data.toList) :
    Calls Tryd.prog 9 #[v, .string more] w fun e w' => e = .returned (.bool true) ∧ Below w.heap.size w w' := by
  have HT := Lib.hid hT
  have HBU := Lib.hid (Build_yes p v R w h hT hA hf)
  clear h hT hA hf
  generalize putF R = S at *
  have HW4 := Lib.hid (fun (b n : Nat) (cv : Value) (W : World) (h : Both w W b cv S n) => h.write04)
  have HCT := Lib.hid (fun W => count_lines (runsOf S.1 S.2) W)
  have HTE := Lib.hid (fun W => TrimEnd (runsOf S.1 S.2) (runs_sep _ _) W)
  have htx8 := textOf_len8 (runsOf S.1 S.2) (runs_sep S.1 S.2)
  have htd : (⟨(textOf 16 (runsOf S.1 S.2)).toArray⟩ : ByteArray).data.toList = textOf 16 (runsOf S.1 S.2) := by simp
  have htx : (⟨(textOf 16 (runsOf S.1 S.2)).toArray⟩ : ByteArray).size ≤ 900000000 := by show (textOf 16 (runsOf S.1 S.2)).toArray.size ≤ _; rw [List.size_toArray]; exact htx8
  have hbd : (⟨(txtP (recs 16 (runsOf S.1 S.2))).toArray⟩ : ByteArray).data.toList = txtP (recs 16 (runsOf S.1 S.2)) := by simp
  have hbl : (⟨(txtP (recs 16 (runsOf S.1 S.2))).toArray⟩ : ByteArray).size ≤ 1000000000 := by
    show (txtP (recs 16 (runsOf S.1 S.2))).toArray.size ≤ _
    rw [List.size_toArray]
    have h1 := htx8
    rw [textOf_is, List.length_append] at h1
    omega
  have hop := read_open S.1 S.2 (n := 16) (by omega) (by omega)
  have HRA := Lib.hid (fun (W : World) (hD : Deb W) => Read_bad ⟨(txtP (recs 16 (runsOf S.1 S.2))).toArray⟩ W hbl hD (by rw [hbd]; show (readH (joinL _)).1.2 ≠ 0; rw [hop]; exact Nat.succ_ne_zero 7))
  rw [hbd, show readH (txtP (recs 16 (runsOf S.1 S.2))) = _ from hop] at HRA
  have HRA2 : Hid (∀ W, Deb W → Calls Tryd.prog 36 #[.string ⟨(txtP (recs 16 (runsOf S.1 S.2))).toArray⟩] W fun e w' => e = .returned (.tuple #[.pointer none, .agg #[.int .i64 0, .int .i64 8]]) ∧ Below W.heap.size W w') := HRA.out
  have hcat : ((⟨(textOf 16 (runsOf S.1 S.2)).toArray⟩ : ByteArray) ++ more).data.toList = textOf 16 (runsOf S.1 S.2) ++ more.data.toList := by rw [ba_app, htd]
  have hcs : ((⟨(textOf 16 (runsOf S.1 S.2)).toArray⟩ : ByteArray) ++ more).size ≤ 1000000000 := by
    have : ((⟨(textOf 16 (runsOf S.1 S.2)).toArray⟩ : ByteArray) ++ more).size = (⟨(textOf 16 (runsOf S.1 S.2)).toArray⟩ : ByteArray).size + more.size := ByteArray.size_append
    omega
  have HSF := Lib.hid (fun W => SplitFirst more W (by omega))
  have HTN := Lib.hid (fun W => Trim3_no more W (by omega) hall)
  have HCN := Lib.hid (fun W => Cont13 more false W (decide_eq_false h13).symm)
  have HTR2 : Hid (∀ (f0 : ByteArray) (W : World), [f0.data.toList] = (splitNL more.data.toList).take 1 → Calls Tryd.prog 39 #[.string ⟨(Lib.trimRightB f0.data.toList 13).toArray⟩, .string ⟨#[32, 9]⟩] W fun e w' => ∃ t : ByteArray, t.toList.isEmpty = false ∧ e = .returned (.string t) ∧ Below W.heap.size W w') := fun f0 W hf => by
    obtain ⟨r, hr⟩ := head_mem hf
    have hno : (13 : UInt8) ∉ f0.data.toList := fun h => h13 ((mem_splitNL _ f0.data.toList (by rw [hr]; simp) 13 h).1)
    have h1 := splitNL_len more.data.toList f0.data.toList (by rw [hr]; simp)
    have h3 : more.data.toList.length = more.size := by simp
    refine Trim_no _ W (by show (Lib.trimRightB f0.data.toList 13).toArray.size ≤ _; rw [List.size_toArray, trimRight_same hno]; omega) ?_
    show blankL (Lib.trimRightB f0.data.toList 13) = false
    exact hfr f0 hf
  have HRB : Hid (∀ W, Deb W → Calls Tryd.prog 36 #[.string ((⟨(textOf 16 (runsOf S.1 S.2)).toArray⟩ : ByteArray) ++ more)] W fun e w' => e = .returned (.tuple #[.pointer none, .agg #[.int .i64 ((linesOf 16 (runsOf S.1 S.2)).length + 1 : Nat), .int .i64 9]]) ∧ Below W.heap.size W w') := fun W hD => by
    obtain ⟨y, r, hr⟩ : ∃ y r, splitNL more.data.toList = y :: r := by
      cases hs : splitNL more.data.toList with
      | nil => exact absurd hs (splitNL_ne _)
      | cons y L => exact ⟨y, L, rfl⟩
    have hno : (13 : UInt8) ∉ y := fun h => h13 ((mem_splitNL _ y (by rw [hr]; simp) 13 h).1)
    have hbf : blankL (trimCR y) = false := by
      have := hfr ⟨y.toArray⟩ (by rw [hr]; simp)
      rw [show (⟨y.toArray⟩ : ByteArray).data.toList = y by simp, trimRight_same hno] at this
      rw [trimCR_same hno]
      exact this
    have ha := read_after S.1 S.2 (n := 16) (by omega) (by omega) more.data.toList y r hr hbf
    have h := Read_bad _ W hcs hD
    rw [hcat, ha] at h
    exact h (Nat.succ_ne_zero 8)
  clear hall h13 hfr
  have HFS : Hid (∀ f0 : ByteArray, [f0.data.toList] = (splitNL more.data.toList).take 1 → f0.size ≤ 1000000000) := fun f0 hf => by
    obtain ⟨r, hr⟩ := head_mem hf
    have h1 := splitNL_len more.data.toList f0.data.toList (by rw [hr]; simp)
    have h2 : f0.data.toList.length = f0.size := by simp
    have h3 : more.data.toList.length = more.size := by simp
    omega
  have hnl : (linesOf 16 (runsOf S.1 S.2)).length ≤ 65537 := by
    have h1 : (recs 16 (runsOf S.1 S.2)).length ≤ 65536 := by
      rcases recs_count (n := 16) (by omega) (runs_sep S.1 S.2) with h | h
      · rw [h]; simp [recs]
      · omega
    simp only [linesOf, List.length_append, List.length_map, List.length_singleton]
    omega
  have hnl1 : ((linesOf 16 (runsOf S.1 S.2)).length : Int) ≤ 65537 := by omega
  have HFQ : Hid (fltEq ((linesOf 16 (runsOf S.1 S.2)).length + 1 : Int) 9 ((linesOf 16 (runsOf S.1 S.2)).length + 1 : Int) 9 = true) := by show _ = _; simp [fltEq]
  clear hnl

  clear HRA hop hbd hbl htd htx8 hcat hcs
  generalize (linesOf 16 (runsOf S.1 S.2)).length = nl at *
  generalize (⟨(txtP (recs 16 (runsOf S.1 S.2))).toArray⟩ : ByteArray) = body at *
  generalize (⟨(textOf 16 (runsOf S.1 S.2)).toArray⟩ : ByteArray) = tx at *
  have hopE := run_eqFlt
  have hopN := run_neqFlt
  have heq8 : fltEq 0 8 0 8 = true := rfl
  have heq0 : fltEq 0 0 0 0 = true := rfl
  have hm1 : (more.size : Int) ≤ 200 := by omega
  have tok1 : True := trivial
  go_enter Tryd.func9, Tryd.ntmps9
  go_wp2_with (first
    | (go_at_call 12; with_reducible refine HBU.out.mono ?_; rintro e w1 ⟨b, n, cv, rfl, hbo⟩; have HB1 := Lib.hid hbo; clear hbo)
    | (go_at_call 23; with_reducible refine (HW4.out b n cv _ HB1.out).mono ?_; rintro e w2 ⟨rfl, hb⟩; have HB2 := Lib.hid (HB1.out.later hb); clear hb)
    | (go_at_call 24; with_reducible refine (HCT.out _).mono ?_; rintro e w2' ⟨rfl, rfl⟩)
    | (go_at_call 37; with_reducible refine (HTE.out _).mono ?_; rintro e w2'' ⟨rfl, rfl⟩)
    | (go_at_call 36; have _t := tok1; with_reducible refine (HRA2.out _ (HT.out.below HB2.out.below)).mono ?_; rintro e w3 ⟨rfl, hb⟩; have hal := (Below.refl w3.heap.size w3).alloc (Nat.le_refl _) (.cells #[.int .i64 0, .int .i64 8] 54); have HB3 := Lib.hid ((HB2.out.later hb).later hal); have HK3 := Lib.hid (Blk.new w3 54 #[.int .i64 0, .int .i64 8]); clear tok1 _t hb hal)
    | (go_at_call 36; with_reducible refine (HRB.out _ (HT.out.below HB3.out.below)).mono ?_; rintro e w4 ⟨rfl, hb⟩; have hal := (Below.refl w4.heap.size w4).alloc (Nat.le_refl _) (.cells #[.int .i64 ((nl : Int) + 1), .int .i64 9] 54); have HB4 := Lib.hid ((HB3.out.later hb).later hal); have HK4 := Lib.hid ((HK3.out.below hb HK3.out.lt).alloc (.cells #[.int .i64 ((nl : Int) + 1), .int .i64 9] 54)); have HL4 := Lib.hid (Blk.new w4 54 #[.int .i64 ((nl : Int) + 1), .int .i64 9]); clear hb hal)
    | (go_at_call 25; with_reducible refine (HSF.out _).mono ?_; rintro e w5 ⟨f0, nn, gg, hf0, hn0, hn1, rfl, e0, hb⟩; have HF0 := Lib.hid hf0; have hnn : (0 : Int) < (nn : Int) := by omega
       have HB5 := Lib.hid (HB4.out.later hb); obtain ⟨k0, k1, _, _⟩ := (HK4.out.below hb HK4.out.lt).two; have HL5 := Lib.hid (HL4.out.below hb HL4.out.lt); clear hb hf0)
    | (go_at_call 38; refine (TrimR13 f0 _ (HFS.out f0 HF0.out)).mono ?_; rintro e w5' ⟨rfl, rfl⟩)
    | (go_at_call 39; with_reducible refine (HTN.out _).mono ?_; rintro e w6 ⟨t3, ht3, rfl, hb⟩; have HB6 := Lib.hid (HB5.out.later hb); have HL6 := Lib.hid (HL5.out.below hb HL5.out.lt); clear hb)
    | (go_at_call 39; with_reducible refine (HTR2.out f0 _ HF0.out).mono ?_; rintro e w7 ⟨t2, ht2, rfl, hb⟩; have HB7 := Lib.hid (HB6.out.later hb); have HL7 := Lib.hid (HL6.out.below hb HL6.out.lt); clear hb)
    | (go_at_call 40; refine (HCN.out _).mono ?_; rintro e w7' ⟨rfl, rfl⟩)
    | (go_at_call 31; refine (alive5_any _ (HT.out.below HB7.out.below)).mono ?_; rintro e w8 ⟨rfl, hb⟩; have HB8 := Lib.hid (HB7.out.later hb); obtain ⟨l0, l1, _, _⟩ := (HL7.out.below hb HL7.out.lt).two; have hfq := HFQ.out; clear hb))
  go_ret
  exact ⟨rfl, HB8.out.below⟩
set_option maxHeartbeats 4000000 in
set_option maxRecDepth 100000 in
theorem Ends_bg (p : Blocks) (v : Value) (R : List (Int × List UInt8)) (more : ByteArray) (hm : more.size ≤ 200) (w : World) (h : SlR runIR w p v R) (hT : Deb w) (hA : ∀ r ∈ R, -9223372036854775808 ≤ r.1 ∧ r.1 ≤ 9223372036854775807) (hf : fewB R = true)
    (hall : more.data.toList.all is3 = false) (hfr : ∀ f0 : ByteArray, [f0.data.toList] = (splitNL more.data.toList).take 1 → blankL (Lib.trimRightB f0.data.toList 13) = true) (hg : (readH (textOf 16 (runsOf (putF R).1 (putF R).2) ++ more.data.toList)).1.2 = 0) :
    Calls Tryd.prog 9 #[v, .string more] w fun e w' => e = .returned (.bool true) ∧ Below w.heap.size w w' := by
  have HT := Lib.hid hT
  have HBU := Lib.hid (Build_yes p v R w h hT hA hf)
  clear h hT hA hf
  generalize putF R = S at *
  have HW4 := Lib.hid (fun (b n : Nat) (cv : Value) (W : World) (h : Both w W b cv S n) => h.write04)
  have HCT := Lib.hid (fun W => count_lines (runsOf S.1 S.2) W)
  have HTE := Lib.hid (fun W => TrimEnd (runsOf S.1 S.2) (runs_sep _ _) W)
  have htx8 := textOf_len8 (runsOf S.1 S.2) (runs_sep S.1 S.2)
  have htd : (⟨(textOf 16 (runsOf S.1 S.2)).toArray⟩ : ByteArray).data.toList = textOf 16 (runsOf S.1 S.2) := by simp
  have htx : (⟨(textOf 16 (runsOf S.1 S.2)).toArray⟩ : ByteArray).size ≤ 900000000 := by show (textOf 16 (runsOf S.1 S.2)).toArray.size ≤ _; rw [List.size_toArray]; exact htx8
  have hbd : (⟨(txtP (recs 16 (runsOf S.1 S.2))).toArray⟩ : ByteArray).data.toList = txtP (recs 16 (runsOf S.1 S.2)) := by simp
  have hbl : (⟨(txtP (recs 16 (runsOf S.1 S.2))).toArray⟩ : ByteArray).size ≤ 1000000000 := by
    show (txtP (recs 16 (runsOf S.1 S.2))).toArray.size ≤ _
    rw [List.size_toArray]
    have h1 := htx8
    rw [textOf_is, List.length_append] at h1
    omega
  have hop := read_open S.1 S.2 (n := 16) (by omega) (by omega)
  have HRA := Lib.hid (fun (W : World) (hD : Deb W) => Read_bad ⟨(txtP (recs 16 (runsOf S.1 S.2))).toArray⟩ W hbl hD (by rw [hbd]; show (readH (joinL _)).1.2 ≠ 0; rw [hop]; exact Nat.succ_ne_zero 7))
  rw [hbd, show readH (txtP (recs 16 (runsOf S.1 S.2))) = _ from hop] at HRA
  have HRA2 : Hid (∀ W, Deb W → Calls Tryd.prog 36 #[.string ⟨(txtP (recs 16 (runsOf S.1 S.2))).toArray⟩] W fun e w' => e = .returned (.tuple #[.pointer none, .agg #[.int .i64 0, .int .i64 8]]) ∧ Below W.heap.size W w') := HRA.out
  have hcat : ((⟨(textOf 16 (runsOf S.1 S.2)).toArray⟩ : ByteArray) ++ more).data.toList = textOf 16 (runsOf S.1 S.2) ++ more.data.toList := by rw [ba_app, htd]
  have hcs : ((⟨(textOf 16 (runsOf S.1 S.2)).toArray⟩ : ByteArray) ++ more).size ≤ 1000000000 := by
    have : ((⟨(textOf 16 (runsOf S.1 S.2)).toArray⟩ : ByteArray) ++ more).size = (⟨(textOf 16 (runsOf S.1 S.2)).toArray⟩ : ByteArray).size + more.size := ByteArray.size_append
    omega
  have HSF := Lib.hid (fun W => SplitFirst more W (by omega))
  have HTN := Lib.hid (fun W => Trim3_no more W (by omega) hall)
  have HTR2 : Hid (∀ (f0 : ByteArray) (W : World), [f0.data.toList] = (splitNL more.data.toList).take 1 → Calls Tryd.prog 39 #[.string ⟨(Lib.trimRightB f0.data.toList 13).toArray⟩, .string ⟨#[32, 9]⟩] W fun e w' => e = .returned (.string ⟨#[]⟩) ∧ Below W.heap.size W w') := fun f0 W hf => by
    obtain ⟨r, hr⟩ := head_mem hf
    have h1 := splitNL_len more.data.toList f0.data.toList (by rw [hr]; simp)
    have h3 : more.data.toList.length = more.size := by simp
    have h4 : (Lib.trimRightB f0.data.toList 13).length ≤ f0.data.toList.length := by
      unfold Lib.trimRightB
      rw [List.length_reverse]
      exact Nat.le_trans (List.dropWhile_suffix _).length_le (by simp)
    refine Trim_yes _ W (by show (Lib.trimRightB f0.data.toList 13).toArray.size ≤ _; rw [List.size_toArray]; omega) ?_
    show blankL (Lib.trimRightB f0.data.toList 13) = true
    exact hfr f0 hf
  have HRB : Hid (∀ W, Deb W → Calls Tryd.prog 36 #[.string ((⟨(textOf 16 (runsOf S.1 S.2)).toArray⟩ : ByteArray) ++ more)] W fun e w' => ∃ (ib : Nat) (T : ImgS), e = .returned (.tuple #[.pointer (some ⟨ib, 0, none⟩), .agg #[.int .i64 0, .int .i64 0]]) ∧ ImgC w' ib T.1 T.2 (cellsOf T.1 T.2).length ∧ Below W.heap.size W w') := fun W hD => by
    have h := Read_good _ W hcs hD
    rw [hcat] at h
    exact (h hg).mono fun e w' ⟨ib, h1, _, h3, h4⟩ => ⟨ib, _, h1, h3, h4⟩
  clear hall hfr hg
  have HFS : Hid (∀ f0 : ByteArray, [f0.data.toList] = (splitNL more.data.toList).take 1 → f0.size ≤ 1000000000) := fun f0 hf => by
    obtain ⟨r, hr⟩ := head_mem hf
    have h1 := splitNL_len more.data.toList f0.data.toList (by rw [hr]; simp)
    have h2 : f0.data.toList.length = f0.size := by simp
    have h3 : more.data.toList.length = more.size := by simp
    omega

  clear HRA hop hbd hbl htd htx8 hcat hcs
  generalize (linesOf 16 (runsOf S.1 S.2)).length = nl at *
  generalize (⟨(txtP (recs 16 (runsOf S.1 S.2))).toArray⟩ : ByteArray) = body at *
  generalize (⟨(textOf 16 (runsOf S.1 S.2)).toArray⟩ : ByteArray) = tx at *
  have hopE := run_eqFlt
  have hopN := run_neqFlt
  have heq8 : fltEq 0 8 0 8 = true := rfl
  have heq0 : fltEq 0 0 0 0 = true := rfl
  have hm1 : (more.size : Int) ≤ 200 := by omega
  have tok1 : True := trivial
  go_enter Tryd.func9, Tryd.ntmps9
  go_wp2_with (first
    | (go_at_call 12; with_reducible refine HBU.out.mono ?_; rintro e w1 ⟨b, n, cv, rfl, hbo⟩; have HB1 := Lib.hid hbo; clear hbo)
    | (go_at_call 23; with_reducible refine (HW4.out b n cv _ HB1.out).mono ?_; rintro e w2 ⟨rfl, hb⟩; have HB2 := Lib.hid (HB1.out.later hb); clear hb)
    | (go_at_call 24; with_reducible refine (HCT.out _).mono ?_; rintro e w2' ⟨rfl, rfl⟩)
    | (go_at_call 37; with_reducible refine (HTE.out _).mono ?_; rintro e w2'' ⟨rfl, rfl⟩)
    | (go_at_call 36; have _t := tok1; with_reducible refine (HRA2.out _ (HT.out.below HB2.out.below)).mono ?_; rintro e w3 ⟨rfl, hb⟩; have hal := (Below.refl w3.heap.size w3).alloc (Nat.le_refl _) (.cells #[.int .i64 0, .int .i64 8] 54); have HB3 := Lib.hid ((HB2.out.later hb).later hal); have HK3 := Lib.hid (Blk.new w3 54 #[.int .i64 0, .int .i64 8]); clear tok1 _t hb hal)
    | (go_at_call 36; with_reducible refine (HRB.out _ (HT.out.below HB3.out.below)).mono ?_; rintro e w4 ⟨ib, T, rfl, hi, hb⟩; have hal := (Below.refl w4.heap.size w4).alloc (Nat.le_refl _) (.cells #[.int .i64 0, .int .i64 0] 54); have HB4 := Lib.hid ((HB3.out.later hb).later hal); have HI4 := Lib.hid (hi.below hal hi.lt); have HK4 := Lib.hid ((HK3.out.below hb HK3.out.lt).alloc (.cells #[.int .i64 0, .int .i64 0] 54)); have HL4 := Lib.hid (Blk.new w4 54 #[.int .i64 0, .int .i64 0]); clear hi hb hal)
    | (go_at_call 25; with_reducible refine (HSF.out _).mono ?_; rintro e w5 ⟨f0, nn, gg, hf0, hn0, hn1, rfl, e0, hb⟩; have HF0 := Lib.hid hf0; have hnn : (0 : Int) < (nn : Int) := by omega
       have HB5 := Lib.hid (HB4.out.later hb); have HI5 := Lib.hid (HI4.out.below hb HI4.out.lt); obtain ⟨k0, k1, _, _⟩ := (HK4.out.below hb HK4.out.lt).two; have HL5 := Lib.hid (HL4.out.below hb HL4.out.lt); clear hb hf0)
    | (go_at_call 38; refine (TrimR13 f0 _ (HFS.out f0 HF0.out)).mono ?_; rintro e w5' ⟨rfl, rfl⟩)
    | (go_at_call 39; with_reducible refine (HTN.out _).mono ?_; rintro e w6 ⟨t3, ht3, rfl, hb⟩; have HB6 := Lib.hid (HB5.out.later hb); have HL6 := Lib.hid (HL5.out.below hb HL5.out.lt); clear hb)
    | (go_at_call 39; with_reducible refine (HTR2.out f0 _ HF0.out).mono ?_; rintro e w7 ⟨rfl, hb⟩; have HB7 := Lib.hid (HB6.out.later hb); have HL7 := Lib.hid (HL6.out.below hb HL6.out.lt); clear hb)
    | (go_at_call 31; refine (alive5_any _ (HT.out.below HB7.out.below)).mono ?_; rintro e w8 ⟨rfl, hb⟩; have HB8 := Lib.hid (HB7.out.later hb); obtain ⟨l0, l1, _, _⟩ := (HL7.out.below hb HL7.out.lt).two; clear hb))
  go_ret
  exact ⟨rfl, HB8.out.below⟩
set_option maxHeartbeats 4000000 in
set_option maxRecDepth 100000 in
theorem Ends_bb (p : Blocks) (v : Value) (R : List (Int × List UInt8)) (more : ByteArray) (hm : more.size ≤ 200) (w : World) (h : SlR runIR w p v R) (hT : Deb w) (hA : ∀ r ∈ R, -9223372036854775808 ≤ r.1 ∧ r.1 ≤ 9223372036854775807) (hf : fewB R = true)
    (hall : more.data.toList.all is3 = false) (hfr : ∀ f0 : ByteArray, [f0.data.toList] = (splitNL more.data.toList).take 1 → blankL (Lib.trimRightB f0.data.toList 13) = true) (hg : (readH (textOf 16 (runsOf (putF R).1 (putF R).2) ++ more.data.toList)).1.2 ≠ 0) :
    Calls Tryd.prog 9 #[v, .string more] w fun e w' => e = .returned (.bool true) ∧ Below w.heap.size w w' := by
  have HT := Lib.hid hT
  have HBU := Lib.hid (Build_yes p v R w h hT hA hf)
  clear h hT hA hf
  generalize putF R = S at *
  have HW4 := Lib.hid (fun (b n : Nat) (cv : Value) (W : World) (h : Both w W b cv S n) => h.write04)
  have HCT := Lib.hid (fun W => count_lines (runsOf S.1 S.2) W)
  have HTE := Lib.hid (fun W => TrimEnd (runsOf S.1 S.2) (runs_sep _ _) W)
  have htx8 := textOf_len8 (runsOf S.1 S.2) (runs_sep S.1 S.2)
  have htd : (⟨(textOf 16 (runsOf S.1 S.2)).toArray⟩ : ByteArray).data.toList = textOf 16 (runsOf S.1 S.2) := by simp
  have htx : (⟨(textOf 16 (runsOf S.1 S.2)).toArray⟩ : ByteArray).size ≤ 900000000 := by show (textOf 16 (runsOf S.1 S.2)).toArray.size ≤ _; rw [List.size_toArray]; exact htx8
  have hbd : (⟨(txtP (recs 16 (runsOf S.1 S.2))).toArray⟩ : ByteArray).data.toList = txtP (recs 16 (runsOf S.1 S.2)) := by simp
  have hbl : (⟨(txtP (recs 16 (runsOf S.1 S.2))).toArray⟩ : ByteArray).size ≤ 1000000000 := by
    show (txtP (recs 16 (runsOf S.1 S.2))).toArray.size ≤ _
    rw [List.size_toArray]
    have h1 := htx8
    rw [textOf_is, List.length_append] at h1
    omega
  have hop := read_open S.1 S.2 (n := 16) (by omega) (by omega)
  have HRA := Lib.hid (fun (W : World) (hD : Deb W) => Read_bad ⟨(txtP (recs 16 (runsOf S.1 S.2))).toArray⟩ W hbl hD (by rw [hbd]; show (readH (joinL _)).1.2 ≠ 0; rw [hop]; exact Nat.succ_ne_zero 7))
  rw [hbd, show readH (txtP (recs 16 (runsOf S.1 S.2))) = _ from hop] at HRA
  have HRA2 : Hid (∀ W, Deb W → Calls Tryd.prog 36 #[.string ⟨(txtP (recs 16 (runsOf S.1 S.2))).toArray⟩] W fun e w' => e = .returned (.tuple #[.pointer none, .agg #[.int .i64 0, .int .i64 8]]) ∧ Below W.heap.size W w') := HRA.out
  have hcat : ((⟨(textOf 16 (runsOf S.1 S.2)).toArray⟩ : ByteArray) ++ more).data.toList = textOf 16 (runsOf S.1 S.2) ++ more.data.toList := by rw [ba_app, htd]
  have hcs : ((⟨(textOf 16 (runsOf S.1 S.2)).toArray⟩ : ByteArray) ++ more).size ≤ 1000000000 := by
    have : ((⟨(textOf 16 (runsOf S.1 S.2)).toArray⟩ : ByteArray) ++ more).size = (⟨(textOf 16 (runsOf S.1 S.2)).toArray⟩ : ByteArray).size + more.size := ByteArray.size_append
    omega
  have HSF := Lib.hid (fun W => SplitFirst more W (by omega))
  have HTN := Lib.hid (fun W => Trim3_no more W (by omega) hall)
  have HTR2 : Hid (∀ (f0 : ByteArray) (W : World), [f0.data.toList] = (splitNL more.data.toList).take 1 → Calls Tryd.prog 39 #[.string ⟨(Lib.trimRightB f0.data.toList 13).toArray⟩, .string ⟨#[32, 9]⟩] W fun e w' => e = .returned (.string ⟨#[]⟩) ∧ Below W.heap.size W w') := fun f0 W hf => by
    obtain ⟨r, hr⟩ := head_mem hf
    have h1 := splitNL_len more.data.toList f0.data.toList (by rw [hr]; simp)
    have h3 : more.data.toList.length = more.size := by simp
    have h4 : (Lib.trimRightB f0.data.toList 13).length ≤ f0.data.toList.length := by
      unfold Lib.trimRightB
      rw [List.length_reverse]
      exact Nat.le_trans (List.dropWhile_suffix _).length_le (by simp)
    refine Trim_yes _ W (by show (Lib.trimRightB f0.data.toList 13).toArray.size ≤ _; rw [List.size_toArray]; omega) ?_
    show blankL (Lib.trimRightB f0.data.toList 13) = true
    exact hfr f0 hf
  obtain ⟨LN, hLN⟩ : ∃ LN, LN = (readH (textOf 16 (runsOf S.1 S.2) ++ more.data.toList)).1.1 := ⟨_, rfl⟩
  obtain ⟨CD, hCD⟩ : ∃ CD, CD = (readH (textOf 16 (runsOf S.1 S.2) ++ more.data.toList)).1.2 := ⟨_, rfl⟩
  have HRB : Hid (∀ W, Deb W → Calls Tryd.prog 36 #[.string ((⟨(textOf 16 (runsOf S.1 S.2)).toArray⟩ : ByteArray) ++ more)] W fun e w' => e = .returned (.tuple #[.pointer none, .agg #[.int .i64 (LN : Nat), .int .i64 (CD : Nat)]]) ∧ Below W.heap.size W w') := fun W hD => by
    have h := Read_bad _ W hcs hD
    rw [hcat, ← hLN, ← hCD] at h
    exact h (by rw [hCD]; exact hg)
  have HFQ : Hid (fltEq (LN : Int) (CD : Int) 0 0 = false) := by
    show _ = _
    have : ¬ CD = 0 := by rw [hCD]; exact hg
    simp [fltEq, this]
  clear hLN hCD
  clear hall hfr hg
  have HFS : Hid (∀ f0 : ByteArray, [f0.data.toList] = (splitNL more.data.toList).take 1 → f0.size ≤ 1000000000) := fun f0 hf => by
    obtain ⟨r, hr⟩ := head_mem hf
    have h1 := splitNL_len more.data.toList f0.data.toList (by rw [hr]; simp)
    have h2 : f0.data.toList.length = f0.size := by simp
    have h3 : more.data.toList.length = more.size := by simp
    omega

  clear HRA hop hbd hbl htd htx8 hcat hcs
  generalize (linesOf 16 (runsOf S.1 S.2)).length = nl at *
  generalize (⟨(txtP (recs 16 (runsOf S.1 S.2))).toArray⟩ : ByteArray) = body at *
  generalize (⟨(textOf 16 (runsOf S.1 S.2)).toArray⟩ : ByteArray) = tx at *
  have hopE := run_eqFlt
  have hopN := run_neqFlt
  have heq8 : fltEq 0 8 0 8 = true := rfl
  have heq0 : fltEq 0 0 0 0 = true := rfl
  have hm1 : (more.size : Int) ≤ 200 := by omega
  have tok1 : True := trivial
  go_enter Tryd.func9, Tryd.ntmps9
  go_wp2_with (first
    | (go_at_call 12; with_reducible refine HBU.out.mono ?_; rintro e w1 ⟨b, n, cv, rfl, hbo⟩; have HB1 := Lib.hid hbo; clear hbo)
    | (go_at_call 23; with_reducible refine (HW4.out b n cv _ HB1.out).mono ?_; rintro e w2 ⟨rfl, hb⟩; have HB2 := Lib.hid (HB1.out.later hb); clear hb)
    | (go_at_call 24; with_reducible refine (HCT.out _).mono ?_; rintro e w2' ⟨rfl, rfl⟩)
    | (go_at_call 37; with_reducible refine (HTE.out _).mono ?_; rintro e w2'' ⟨rfl, rfl⟩)
    | (go_at_call 36; have _t := tok1; with_reducible refine (HRA2.out _ (HT.out.below HB2.out.below)).mono ?_; rintro e w3 ⟨rfl, hb⟩; have hal := (Below.refl w3.heap.size w3).alloc (Nat.le_refl _) (.cells #[.int .i64 0, .int .i64 8] 54); have HB3 := Lib.hid ((HB2.out.later hb).later hal); have HK3 := Lib.hid (Blk.new w3 54 #[.int .i64 0, .int .i64 8]); clear tok1 _t hb hal)
    | (go_at_call 36; with_reducible refine (HRB.out _ (HT.out.below HB3.out.below)).mono ?_; rintro e w4 ⟨rfl, hb⟩; have hal := (Below.refl w4.heap.size w4).alloc (Nat.le_refl _) (.cells #[.int .i64 (LN : Int), .int .i64 (CD : Int)] 54); have HB4 := Lib.hid ((HB3.out.later hb).later hal); have HK4 := Lib.hid ((HK3.out.below hb HK3.out.lt).alloc (.cells #[.int .i64 (LN : Int), .int .i64 (CD : Int)] 54)); have HL4 := Lib.hid (Blk.new w4 54 #[.int .i64 (LN : Int), .int .i64 (CD : Int)]); clear hb hal)
    | (go_at_call 25; with_reducible refine (HSF.out _).mono ?_; rintro e w5 ⟨f0, nn, gg, hf0, hn0, hn1, rfl, e0, hb⟩; have HF0 := Lib.hid hf0; have hnn : (0 : Int) < (nn : Int) := by omega
       have HB5 := Lib.hid (HB4.out.later hb); obtain ⟨k0, k1, _, _⟩ := (HK4.out.below hb HK4.out.lt).two; have HL5 := Lib.hid (HL4.out.below hb HL4.out.lt); clear hb hf0)
    | (go_at_call 38; refine (TrimR13 f0 _ (HFS.out f0 HF0.out)).mono ?_; rintro e w5' ⟨rfl, rfl⟩)
    | (go_at_call 39; with_reducible refine (HTN.out _).mono ?_; rintro e w6 ⟨t3, ht3, rfl, hb⟩; have HB6 := Lib.hid (HB5.out.later hb); have HL6 := Lib.hid (HL5.out.below hb HL5.out.lt); clear hb)
    | (go_at_call 39; with_reducible refine (HTR2.out f0 _ HF0.out).mono ?_; rintro e w7 ⟨rfl, hb⟩; have HB7 := Lib.hid (HB6.out.later hb); have HL7 := Lib.hid (HL6.out.below hb HL6.out.lt); clear hb)
    | (go_at_call 31; refine (alive5_any _ (HT.out.below HB7.out.below)).mono ?_; rintro e w8 ⟨rfl, hb⟩; have HB8 := Lib.hid (HB7.out.later hb); obtain ⟨l0, l1, _, _⟩ := (HL7.out.below hb HL7.out.lt).two; have hfq := HFQ.out; clear hb))
  go_ret
  exact ⟨rfl, HB8.out.below⟩
set_option maxHeartbeats 4000000 in
set_option maxRecDepth 100000 in
theorem Ends_cg (p : Blocks) (v : Value) (R : List (Int × List UInt8)) (more : ByteArray) (hm : more.size ≤ 200) (w : World) (h : SlR runIR w p v R) (hT : Deb w) (hA : ∀ r ∈ R, -9223372036854775808 ≤ r.1 ∧ r.1 ≤ 9223372036854775807) (hf : fewB R = true)
    (hall : more.data.toList.all is3 = false) (hfr : ∀ f0 : ByteArray, [f0.data.toList] = (splitNL more.data.toList).take 1 → blankL (Lib.trimRightB f0.data.toList 13) = false) (h13 : (13 : UInt8) ∈ more.data.toList) (hg : (readH (textOf 16 (runsOf (putF R).1 (putF R).2) ++ more.data.toList)).1.2 = 0) :
    Calls Tryd.prog 9 #[v, .string more] w fun e w' => e = .returned (.bool true) ∧ Below w.heap.size w w' := by
  have HT := Lib.hid hT
  have HBU := Lib.hid (Build_yes p v R w h hT hA hf)
  clear h hT hA hf
  generalize putF R = S at *
  have HW4 := Lib.hid (fun (b n : Nat) (cv : Value) (W : World) (h : Both w W b cv S n) => h.write04)
  have HCT := Lib.hid (fun W => count_lines (runsOf S.1 S.2) W)
  have HTE := Lib.hid (fun W => TrimEnd (runsOf S.1 S.2) (runs_sep _ _) W)
  have htx8 := textOf_len8 (runsOf S.1 S.2) (runs_sep S.1 S.2)
  have htd : (⟨(textOf 16 (runsOf S.1 S.2)).toArray⟩ : ByteArray).data.toList = textOf 16 (runsOf S.1 S.2) := by simp
  have htx : (⟨(textOf 16 (runsOf S.1 S.2)).toArray⟩ : ByteArray).size ≤ 900000000 := by show (textOf 16 (runsOf S.1 S.2)).toArray.size ≤ _; rw [List.size_toArray]; exact htx8
  have hbd : (⟨(txtP (recs 16 (runsOf S.1 S.2))).toArray⟩ : ByteArray).data.toList = txtP (recs 16 (runsOf S.1 S.2)) := by simp
  have hbl : (⟨(txtP (recs 16 (runsOf S.1 S.2))).toArray⟩ : ByteArray).size ≤ 1000000000 := by
    show (txtP (recs 16 (runsOf S.1 S.2))).toArray.size ≤ _
    rw [List.size_toArray]
    have h1 := htx8
    rw [textOf_is, List.length_append] at h1
    omega
  have hop := read_open S.1 S.2 (n := 16) (by omega) (by omega)
  have HRA := Lib.hid (fun (W : World) (hD : Deb W) => Read_bad ⟨(txtP (recs 16 (runsOf S.1 S.2))).toArray⟩ W hbl hD (by rw [hbd]; show (readH (joinL _)).1.2 ≠ 0; rw [hop]; exact Nat.succ_ne_zero 7))
  rw [hbd, show readH (txtP (recs 16 (runsOf S.1 S.2))) = _ from hop] at HRA
  have HRA2 : Hid (∀ W, Deb W → Calls Tryd.prog 36 #[.string ⟨(txtP (recs 16 (runsOf S.1 S.2))).toArray⟩] W fun e w' => e = .returned (.tuple #[.pointer none, .agg #[.int .i64 0, .int .i64 8]]) ∧ Below W.heap.size W w') := HRA.out
  have hcat : ((⟨(textOf 16 (runsOf S.1 S.2)).toArray⟩ : ByteArray) ++ more).data.toList = textOf 16 (runsOf S.1 S.2) ++ more.data.toList := by rw [ba_app, htd]
  have hcs : ((⟨(textOf 16 (runsOf S.1 S.2)).toArray⟩ : ByteArray) ++ more).size ≤ 1000000000 := by
    have : ((⟨(textOf 16 (runsOf S.1 S.2)).toArray⟩ : ByteArray) ++ more).size = (⟨(textOf 16 (runsOf S.1 S.2)).toArray⟩ : ByteArray).size + more.size := ByteArray.size_append
    omega
  have HSF := Lib.hid (fun W => SplitFirst more W (by omega))
  have HTN := Lib.hid (fun W => Trim3_no more W (by omega) hall)
  have HCN := Lib.hid (fun W => Cont13 more true W (decide_eq_true h13).symm)
  have HTR2 : Hid (∀ (f0 : ByteArray) (W : World), [f0.data.toList] = (splitNL more.data.toList).take 1 → Calls Tryd.prog 39 #[.string ⟨(Lib.trimRightB f0.data.toList 13).toArray⟩, .string ⟨#[32, 9]⟩] W fun e w' => ∃ t : ByteArray, t.toList.isEmpty = false ∧ e = .returned (.string t) ∧ Below W.heap.size W w') := fun f0 W hf => by
    obtain ⟨r, hr⟩ := head_mem hf
    have h1 := splitNL_len more.data.toList f0.data.toList (by rw [hr]; simp)
    have h3 : more.data.toList.length = more.size := by simp
    have h4 : (Lib.trimRightB f0.data.toList 13).length ≤ f0.data.toList.length := by
      unfold Lib.trimRightB
      rw [List.length_reverse]
      exact Nat.le_trans (List.dropWhile_suffix _).length_le (by simp)
    refine Trim_no _ W (by show (Lib.trimRightB f0.data.toList 13).toArray.size ≤ _; rw [List.size_toArray]; omega) ?_
    show blankL (Lib.trimRightB f0.data.toList 13) = false
    exact hfr f0 hf
  have HRB : Hid (∀ W, Deb W → Calls Tryd.prog 36 #[.string ((⟨(textOf 16 (runsOf S.1 S.2)).toArray⟩ : ByteArray) ++ more)] W fun e w' => ∃ (ib : Nat) (T : ImgS), e = .returned (.tuple #[.pointer (some ⟨ib, 0, none⟩), .agg #[.int .i64 0, .int .i64 0]]) ∧ ImgC w' ib T.1 T.2 (cellsOf T.1 T.2).length ∧ Below W.heap.size W w') := fun W hD => by
    have h := Read_good _ W hcs hD
    rw [hcat] at h
    exact (h hg).mono fun e w' ⟨ib, h1, _, h3, h4⟩ => ⟨ib, _, h1, h3, h4⟩
  clear hall hfr h13 hg
  have HFS : Hid (∀ f0 : ByteArray, [f0.data.toList] = (splitNL more.data.toList).take 1 → f0.size ≤ 1000000000) := fun f0 hf => by
    obtain ⟨r, hr⟩ := head_mem hf
    have h1 := splitNL_len more.data.toList f0.data.toList (by rw [hr]; simp)
    have h2 : f0.data.toList.length = f0.size := by simp
    have h3 : more.data.toList.length = more.size := by simp
    omega

  clear HRA hop hbd hbl htd htx8 hcat hcs
  generalize (linesOf 16 (runsOf S.1 S.2)).length = nl at *
  generalize (⟨(txtP (recs 16 (runsOf S.1 S.2))).toArray⟩ : ByteArray) = body at *
  generalize (⟨(textOf 16 (runsOf S.1 S.2)).toArray⟩ : ByteArray) = tx at *
  have hopE := run_eqFlt
  have hopN := run_neqFlt
  have heq8 : fltEq 0 8 0 8 = true := rfl
  have heq0 : fltEq 0 0 0 0 = true := rfl
  have hm1 : (more.size : Int) ≤ 200 := by omega
  have tok1 : True := trivial
  go_enter Tryd.func9, Tryd.ntmps9
  go_wp2_with (first
    | (go_at_call 12; with_reducible refine HBU.out.mono ?_; rintro e w1 ⟨b, n, cv, rfl, hbo⟩; have HB1 := Lib.hid hbo; clear hbo)
    | (go_at_call 23; with_reducible refine (HW4.out b n cv _ HB1.out).mono ?_; rintro e w2 ⟨rfl, hb⟩; have HB2 := Lib.hid (HB1.out.later hb); clear hb)
    | (go_at_call 24; with_reducible refine (HCT.out _).mono ?_; rintro e w2' ⟨rfl, rfl⟩)
    | (go_at_call 37; with_reducible refine (HTE.out _).mono ?_; rintro e w2'' ⟨rfl, rfl⟩)
    | (go_at_call 36; have _t := tok1; with_reducible refine (HRA2.out _ (HT.out.below HB2.out.below)).mono ?_; rintro e w3 ⟨rfl, hb⟩; have hal := (Below.refl w3.heap.size w3).alloc (Nat.le_refl _) (.cells #[.int .i64 0, .int .i64 8] 54); have HB3 := Lib.hid ((HB2.out.later hb).later hal); have HK3 := Lib.hid (Blk.new w3 54 #[.int .i64 0, .int .i64 8]); clear tok1 _t hb hal)
    | (go_at_call 36; with_reducible refine (HRB.out _ (HT.out.below HB3.out.below)).mono ?_; rintro e w4 ⟨ib, T, rfl, hi, hb⟩; have hal := (Below.refl w4.heap.size w4).alloc (Nat.le_refl _) (.cells #[.int .i64 0, .int .i64 0] 54); have HB4 := Lib.hid ((HB3.out.later hb).later hal); have HI4 := Lib.hid (hi.below hal hi.lt); have HK4 := Lib.hid ((HK3.out.below hb HK3.out.lt).alloc (.cells #[.int .i64 0, .int .i64 0] 54)); have HL4 := Lib.hid (Blk.new w4 54 #[.int .i64 0, .int .i64 0]); clear hi hb hal)
    | (go_at_call 25; with_reducible refine (HSF.out _).mono ?_; rintro e w5 ⟨f0, nn, gg, hf0, hn0, hn1, rfl, e0, hb⟩; have HF0 := Lib.hid hf0; have hnn : (0 : Int) < (nn : Int) := by omega
       have HB5 := Lib.hid (HB4.out.later hb); have HI5 := Lib.hid (HI4.out.below hb HI4.out.lt); obtain ⟨k0, k1, _, _⟩ := (HK4.out.below hb HK4.out.lt).two; have HL5 := Lib.hid (HL4.out.below hb HL4.out.lt); clear hb hf0)
    | (go_at_call 38; refine (TrimR13 f0 _ (HFS.out f0 HF0.out)).mono ?_; rintro e w5' ⟨rfl, rfl⟩)
    | (go_at_call 39; with_reducible refine (HTN.out _).mono ?_; rintro e w6 ⟨t3, ht3, rfl, hb⟩; have HB6 := Lib.hid (HB5.out.later hb); have HL6 := Lib.hid (HL5.out.below hb HL5.out.lt); clear hb)
    | (go_at_call 39; with_reducible refine (HTR2.out f0 _ HF0.out).mono ?_; rintro e w7 ⟨t2, ht2, rfl, hb⟩; have HB7 := Lib.hid (HB6.out.later hb); have HL7 := Lib.hid (HL6.out.below hb HL6.out.lt); clear hb)
    | (go_at_call 40; refine (HCN.out _).mono ?_; rintro e w7' ⟨rfl, rfl⟩)
    | (go_at_call 31; refine (alive5_any _ (HT.out.below HB7.out.below)).mono ?_; rintro e w8 ⟨rfl, hb⟩; have HB8 := Lib.hid (HB7.out.later hb); obtain ⟨l0, l1, _, _⟩ := (HL7.out.below hb HL7.out.lt).two; clear hb))
  go_ret
  exact ⟨rfl, HB8.out.below⟩
set_option maxHeartbeats 4000000 in
set_option maxRecDepth 100000 in
theorem Ends_cb (p : Blocks) (v : Value) (R : List (Int × List UInt8)) (more : ByteArray) (hm : more.size ≤ 200) (w : World) (h : SlR runIR w p v R) (hT : Deb w) (hA : ∀ r ∈ R, -9223372036854775808 ≤ r.1 ∧ r.1 ≤ 9223372036854775807) (hf : fewB R = true)
    (hall : more.data.toList.all is3 = false) (hfr : ∀ f0 : ByteArray, [f0.data.toList] = (splitNL more.data.toList).take 1 → blankL (Lib.trimRightB f0.data.toList 13) = false) (h13 : (13 : UInt8) ∈ more.data.toList) (hg : (readH (textOf 16 (runsOf (putF R).1 (putF R).2) ++ more.data.toList)).1.2 ≠ 0) :
    Calls Tryd.prog 9 #[v, .string more] w fun e w' => e = .returned (.bool true) ∧ Below w.heap.size w w' := by
  have HT := Lib.hid hT
  have HBU := Lib.hid (Build_yes p v R w h hT hA hf)
  clear h hT hA hf
  generalize putF R = S at *
  have HW4 := Lib.hid (fun (b n : Nat) (cv : Value) (W : World) (h : Both w W b cv S n) => h.write04)
  have HCT := Lib.hid (fun W => count_lines (runsOf S.1 S.2) W)
  have HTE := Lib.hid (fun W => TrimEnd (runsOf S.1 S.2) (runs_sep _ _) W)
  have htx8 := textOf_len8 (runsOf S.1 S.2) (runs_sep S.1 S.2)
  have htd : (⟨(textOf 16 (runsOf S.1 S.2)).toArray⟩ : ByteArray).data.toList = textOf 16 (runsOf S.1 S.2) := by simp
  have htx : (⟨(textOf 16 (runsOf S.1 S.2)).toArray⟩ : ByteArray).size ≤ 900000000 := by show (textOf 16 (runsOf S.1 S.2)).toArray.size ≤ _; rw [List.size_toArray]; exact htx8
  have hbd : (⟨(txtP (recs 16 (runsOf S.1 S.2))).toArray⟩ : ByteArray).data.toList = txtP (recs 16 (runsOf S.1 S.2)) := by simp
  have hbl : (⟨(txtP (recs 16 (runsOf S.1 S.2))).toArray⟩ : ByteArray).size ≤ 1000000000 := by
    show (txtP (recs 16 (runsOf S.1 S.2))).toArray.size ≤ _
    rw [List.size_toArray]
    have h1 := htx8
    rw [textOf_is, List.length_append] at h1
    omega
  have hop := read_open S.1 S.2 (n := 16) (by omega) (by omega)
  have HRA := Lib.hid (fun (W : World) (hD : Deb W) => Read_bad ⟨(txtP (recs 16 (runsOf S.1 S.2))).toArray⟩ W hbl hD (by rw [hbd]; show (readH (joinL _)).1.2 ≠ 0; rw [hop]; exact Nat.succ_ne_zero 7))
  rw [hbd, show readH (txtP (recs 16 (runsOf S.1 S.2))) = _ from hop] at HRA
  have HRA2 : Hid (∀ W, Deb W → Calls Tryd.prog 36 #[.string ⟨(txtP (recs 16 (runsOf S.1 S.2))).toArray⟩] W fun e w' => e = .returned (.tuple #[.pointer none, .agg #[.int .i64 0, .int .i64 8]]) ∧ Below W.heap.size W w') := HRA.out
  have hcat : ((⟨(textOf 16 (runsOf S.1 S.2)).toArray⟩ : ByteArray) ++ more).data.toList = textOf 16 (runsOf S.1 S.2) ++ more.data.toList := by rw [ba_app, htd]
  have hcs : ((⟨(textOf 16 (runsOf S.1 S.2)).toArray⟩ : ByteArray) ++ more).size ≤ 1000000000 := by
    have : ((⟨(textOf 16 (runsOf S.1 S.2)).toArray⟩ : ByteArray) ++ more).size = (⟨(textOf 16 (runsOf S.1 S.2)).toArray⟩ : ByteArray).size + more.size := ByteArray.size_append
    omega
  have HSF := Lib.hid (fun W => SplitFirst more W (by omega))
  have HTN := Lib.hid (fun W => Trim3_no more W (by omega) hall)
  have HCN := Lib.hid (fun W => Cont13 more true W (decide_eq_true h13).symm)
  have HTR2 : Hid (∀ (f0 : ByteArray) (W : World), [f0.data.toList] = (splitNL more.data.toList).take 1 → Calls Tryd.prog 39 #[.string ⟨(Lib.trimRightB f0.data.toList 13).toArray⟩, .string ⟨#[32, 9]⟩] W fun e w' => ∃ t : ByteArray, t.toList.isEmpty = false ∧ e = .returned (.string t) ∧ Below W.heap.size W w') := fun f0 W hf => by
    obtain ⟨r, hr⟩ := head_mem hf
    have h1 := splitNL_len more.data.toList f0.data.toList (by rw [hr]; simp)
    have h3 : more.data.toList.length = more.size := by simp
    have h4 : (Lib.trimRightB f0.data.toList 13).length ≤ f0.data.toList.length := by
      unfold Lib.trimRightB
      rw [List.length_reverse]
      exact Nat.le_trans (List.dropWhile_suffix _).length_le (by simp)
    refine Trim_no _ W (by show (Lib.trimRightB f0.data.toList 13).toArray.size ≤ _; rw [List.size_toArray]; omega) ?_
    show blankL (Lib.trimRightB f0.data.toList 13) = false
    exact hfr f0 hf
  obtain ⟨LN, hLN⟩ : ∃ LN, LN = (readH (textOf 16 (runsOf S.1 S.2) ++ more.data.toList)).1.1 := ⟨_, rfl⟩
  obtain ⟨CD, hCD⟩ : ∃ CD, CD = (readH (textOf 16 (runsOf S.1 S.2) ++ more.data.toList)).1.2 := ⟨_, rfl⟩
  have HRB : Hid (∀ W, Deb W → Calls Tryd.prog 36 #[.string ((⟨(textOf 16 (runsOf S.1 S.2)).toArray⟩ : ByteArray) ++ more)] W fun e w' => e = .returned (.tuple #[.pointer none, .agg #[.int .i64 (LN : Nat), .int .i64 (CD : Nat)]]) ∧ Below W.heap.size W w') := fun W hD => by
    have h := Read_bad _ W hcs hD
    rw [hcat, ← hLN, ← hCD] at h
    exact h (by rw [hCD]; exact hg)
  have HFQ : Hid (fltEq (LN : Int) (CD : Int) 0 0 = false) := by
    show _ = _
    have : ¬ CD = 0 := by rw [hCD]; exact hg
    simp [fltEq, this]
  clear hLN hCD
  clear hall hfr h13 hg
  have HFS : Hid (∀ f0 : ByteArray, [f0.data.toList] = (splitNL more.data.toList).take 1 → f0.size ≤ 1000000000) := fun f0 hf => by
    obtain ⟨r, hr⟩ := head_mem hf
    have h1 := splitNL_len more.data.toList f0.data.toList (by rw [hr]; simp)
    have h2 : f0.data.toList.length = f0.size := by simp
    have h3 : more.data.toList.length = more.size := by simp
    omega

  clear HRA hop hbd hbl htd htx8 hcat hcs
  generalize (linesOf 16 (runsOf S.1 S.2)).length = nl at *
  generalize (⟨(txtP (recs 16 (runsOf S.1 S.2))).toArray⟩ : ByteArray) = body at *
  generalize (⟨(textOf 16 (runsOf S.1 S.2)).toArray⟩ : ByteArray) = tx at *
  have hopE := run_eqFlt
  have hopN := run_neqFlt
  have heq8 : fltEq 0 8 0 8 = true := rfl
  have heq0 : fltEq 0 0 0 0 = true := rfl
  have hm1 : (more.size : Int) ≤ 200 := by omega
  have tok1 : True := trivial
  go_enter Tryd.func9, Tryd.ntmps9
  go_wp2_with (first
    | (go_at_call 12; with_reducible refine HBU.out.mono ?_; rintro e w1 ⟨b, n, cv, rfl, hbo⟩; have HB1 := Lib.hid hbo; clear hbo)
    | (go_at_call 23; with_reducible refine (HW4.out b n cv _ HB1.out).mono ?_; rintro e w2 ⟨rfl, hb⟩; have HB2 := Lib.hid (HB1.out.later hb); clear hb)
    | (go_at_call 24; with_reducible refine (HCT.out _).mono ?_; rintro e w2' ⟨rfl, rfl⟩)
    | (go_at_call 37; with_reducible refine (HTE.out _).mono ?_; rintro e w2'' ⟨rfl, rfl⟩)
    | (go_at_call 36; have _t := tok1; with_reducible refine (HRA2.out _ (HT.out.below HB2.out.below)).mono ?_; rintro e w3 ⟨rfl, hb⟩; have hal := (Below.refl w3.heap.size w3).alloc (Nat.le_refl _) (.cells #[.int .i64 0, .int .i64 8] 54); have HB3 := Lib.hid ((HB2.out.later hb).later hal); have HK3 := Lib.hid (Blk.new w3 54 #[.int .i64 0, .int .i64 8]); clear tok1 _t hb hal)
    | (go_at_call 36; with_reducible refine (HRB.out _ (HT.out.below HB3.out.below)).mono ?_; rintro e w4 ⟨rfl, hb⟩; have hal := (Below.refl w4.heap.size w4).alloc (Nat.le_refl _) (.cells #[.int .i64 (LN : Int), .int .i64 (CD : Int)] 54); have HB4 := Lib.hid ((HB3.out.later hb).later hal); have HK4 := Lib.hid ((HK3.out.below hb HK3.out.lt).alloc (.cells #[.int .i64 (LN : Int), .int .i64 (CD : Int)] 54)); have HL4 := Lib.hid (Blk.new w4 54 #[.int .i64 (LN : Int), .int .i64 (CD : Int)]); clear hb hal)
    | (go_at_call 25; with_reducible refine (HSF.out _).mono ?_; rintro e w5 ⟨f0, nn, gg, hf0, hn0, hn1, rfl, e0, hb⟩; have HF0 := Lib.hid hf0; have hnn : (0 : Int) < (nn : Int) := by omega
       have HB5 := Lib.hid (HB4.out.later hb); obtain ⟨k0, k1, _, _⟩ := (HK4.out.below hb HK4.out.lt).two; have HL5 := Lib.hid (HL4.out.below hb HL4.out.lt); clear hb hf0)
    | (go_at_call 38; refine (TrimR13 f0 _ (HFS.out f0 HF0.out)).mono ?_; rintro e w5' ⟨rfl, rfl⟩)
    | (go_at_call 39; with_reducible refine (HTN.out _).mono ?_; rintro e w6 ⟨t3, ht3, rfl, hb⟩; have HB6 := Lib.hid (HB5.out.later hb); have HL6 := Lib.hid (HL5.out.below hb HL5.out.lt); clear hb)
    | (go_at_call 39; with_reducible refine (HTR2.out f0 _ HF0.out).mono ?_; rintro e w7 ⟨t2, ht2, rfl, hb⟩; have HB7 := Lib.hid (HB6.out.later hb); have HL7 := Lib.hid (HL6.out.below hb HL6.out.lt); clear hb)
    | (go_at_call 40; refine (HCN.out _).mono ?_; rintro e w7' ⟨rfl, rfl⟩)
    | (go_at_call 31; refine (alive5_any _ (HT.out.below HB7.out.below)).mono ?_; rintro e w8 ⟨rfl, hb⟩; have HB8 := Lib.hid (HB7.out.later hb); obtain ⟨l0, l1, _, _⟩ := (HL7.out.below hb HL7.out.lt).two; have hfq := HFQ.out; clear hb))
  go_ret
  exact ⟨rfl, HB8.out.below⟩
end Go.Proofs.YtcfjcoockklkeaaDoor
