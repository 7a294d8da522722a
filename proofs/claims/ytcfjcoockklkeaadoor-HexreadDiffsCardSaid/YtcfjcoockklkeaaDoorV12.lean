/-
  breadboardlaw04.HexwriteRecords. Conditions: the addresses fit their type; the library's table as its initialiser lays it.
-/
import Derived.Test.YtcfjcoockklkeaaDoorV11
namespace Go.Proofs.YtcfjcoockklkeaaDoor
open Go.RowKit

def nsum (D : List (Nat × List UInt8)) : Nat := (cellsR D).length
theorem nsum_snoc (D : List (Nat × List UInt8)) (r : Nat × List UInt8) : nsum (D ++ [r]) = nsum D + r.2.length := by
  unfold nsum cellsR
  rw [List.flatMap_append, List.length_append]
  simp [cellsF_len]
theorem nsum_pre (D E : List (Nat × List UInt8)) : nsum D ≤ nsum (D ++ E) := by
  unfold nsum cellsR
  rw [List.flatMap_append, List.length_append]
  omega
/-- the image, the one that is built again, and the lines -/
structure RecI (w0 w : World) (b b2 : Nat) (S : ImgS) (D : List (Nat × List UInt8)) (lv : Value) (LS : List ByteArray) (k : Nat) : Prop where
  img : ∃ n, ImgC w b S.1 S.2 n
  again : ImgC w b2 (putAll (D.take k)).1 (putAll (D.take k)).2 (nsum (D.take k))
  lines : SlR strR w (fun g => g < b2) lv LS
  ne : b < b2
  at_ : w0.heap.size ≤ b
  below : Below w0.heap.size w0 w
theorem RecI.later {w0 w w' : World} {b b2 k : Nat} {S : ImgS} {D : List (Nat × List UInt8)} {lv : Value} {LS : List ByteArray} (h : RecI w0 w b b2 S D lv LS k) (hb : Below w.heap.size w w') : RecI w0 w' b b2 S D lv LS k := by
  obtain ⟨n, hi⟩ := h.img
  exact ⟨⟨n, hi.below hb hi.lt⟩, h.again.below hb h.again.lt, h.lines.below hb, h.ne, h.at_, h.below.trans (hb.mono h.below.size)⟩
theorem RecI.put {w0 w w' : World} {b b2 k : Nat} {S : ImgS} {D : List (Nat × List UInt8)} {lv : Value} {LS : List ByteArray} (h : RecI w0 w b b2 S D lv LS k) {r : Nat × List UInt8} (hr : D[k]? = some r) (hc : putCode (putAll (D.take k)).1 r.1 r.2.length = 0)
    (hp : Put w' b2 (nsum (D.take k)) (putAll (D.take k)).1 (putAll (D.take k)).2 r.1 r.2) (hg : w.grownBy w' (some b2)) : RecI w0 w' b b2 S D lv LS (k + 1) := by
  obtain ⟨n, hi⟩ := h.img
  have hk := (List.getElem?_eq_some_iff.1 hr).1
  have e : D[k] = r := by rw [List.getElem?_eq_getElem hk] at hr; injection hr
  refine ⟨⟨n, ?_⟩, ?_, h.lines.old.keep (Keep.grown hg fun g hq => ⟨hq.2, fun e => by injection e with e; have := hq.1; omega⟩) |>.mono fun _ hq => hq.1, h.ne, h.at_, h.below.grown hg h.below.size (fun g e => by injection e with e; have := h.at_; have := h.ne; omega)⟩
  · have hb := hg.block b hi.lt (fun e => by injection e with e; have := h.ne; omega)
    refine ⟨fun i hx => ?_, ?_, fun a ha => ?_, fun o => ?_⟩
    · have := hi.words i hx; unfold World.cell? at this ⊢; rw [hb]; exact this
    · have := hi.count; unfold World.cell? at this ⊢; rw [hb]; exact this
    · have := hi.bytes a ha; unfold World.cell? at this ⊢; rw [hb]; exact this
    · have := hi.free o; unfold World.frozen? at this ⊢; rw [hb]; exact this
  · rw [List.take_succ_eq_append_getElem hk, e, putAll_snoc, nsum_snoc]
    unfold Put at hp
    unfold imgPut
    rw [if_pos hc] at hp ⊢
    exact hp
theorem lines_at {R : List (Nat × List UInt8)} {LS : List ByteArray} (h : LS.map (·.data.toList) = linesOf 16 R ++ [[]]) : LS.length = (recs 16 R).length + 2 ∧ LS[(recs 16 R).length]? = some ⟨#[58, 48, 48, 48, 48, 48, 48, 48, 49, 70, 70]⟩ ∧ LS[(recs 16 R).length + 1]? = some ⟨#[]⟩ ∧
    ∀ (k : Nat) (r : Nat × List UInt8), (recs 16 R)[k]? = some r → LS[k]? = some ⟨(recLine 0 r.1 r.2).toArray⟩ := by
  have hl := congrArg List.length h
  have hat : ∀ (k : Nat) (x : List UInt8), (linesOf 16 R ++ [[]])[k]? = some x → LS[k]? = some ⟨x.toArray⟩ := fun k x hx => by
    rw [← h, List.getElem?_map] at hx
    cases hs : LS[k]? with
    | none => rw [hs] at hx; cases hx
    | some s =>
      rw [hs] at hx
      injection hx with hx
      rw [ba_of hx]
  have h0 : (linesOf 16 R).length = (recs 16 R).length + 1 := by simp [linesOf]
  refine ⟨by rw [List.length_map, List.length_append, h0] at hl; simpa using hl, ?_, ?_, fun k r hk => hat k _ ?_⟩
  · have := hat (recs 16 R).length endLine (by
      rw [List.getElem?_append_left (by omega)]
      unfold linesOf
      rw [List.getElem?_append_right (by simp)]
      simp)
    exact this
  · exact hat _ [] (by rw [List.getElem?_append_right (by omega), h0]; simp)
  · have hkl := (List.getElem?_eq_some_iff.1 hk).1
    rw [List.getElem?_append_left (by omega)]
    unfold linesOf
    rw [List.getElem?_append_left (by simpa using hkl), List.getElem?_map, hk]; rfl
theorem cut_strs (b o len cap h : Nat) (h2 : h ≤ cap) (W : World) : (Instr.sliceAt 33 (.slice (some ⟨b, o, none⟩) len cap) none (some (.int .i64 (h : Int))) none).run Tryd.prog W = .ok (.slice (some ⟨b, o, none⟩) h cap) W := by
  rw [run_sliceAt_slice _ _ _ _ _ _ (by kernel_rfl), run_slice_h W _ (some ⟨b, o, none⟩) len cap (by kernel_rfl) .i64 (h : Int) (by omega) (by omega)]
  go_simp
theorem splitNL_text (n : Nat) (R : List (Nat × List UInt8)) : splitNL (textOf n R) = linesOf n R ++ [[]] := by
  have := splitNL_join (linesOf n R) [] (linesOf_no10 n R)
  rw [List.append_nil] at this
  exact this
theorem str_cell {w : World} {p : Blocks} {b o n c : Nat} {LS : List ByteArray} (h : SlR strR w p (.slice (some ⟨b, o, none⟩) n c) LS) {i : Nat} {x : ByteArray} (hx : LS[i]? = some x) : w.cell? ⟨b, o + i, none⟩ = some (.string x) ∧ p b := by
  obtain ⟨a, c', hv, _, _, g⟩ := h.str
  obtain ⟨b1, o1, ha, hp, hc⟩ := g i x hx
  injection hv with hv _ _
  rw [ha] at hv
  injection hv with hv
  injection hv with h1 h2
  subst h1 h2
  exact ⟨hc, hp⟩
theorem SplitText (R : List (Nat × List UInt8)) (hS : Sep 0 R) (w : World) : Calls Tryd.prog 25 #[.string ⟨(textOf 16 R).toArray⟩, .string ⟨#[10]⟩] w fun e w' => ∃ (LS : List ByteArray) (g : Nat), e = .returned (.slice (some ⟨g, 0, none⟩) ((recs 16 R).length + 2) ((recs 16 R).length + 2)) ∧
    SlR strR w' (fun k => k < w'.heap.size) (.slice (some ⟨g, 0, none⟩) ((recs 16 R).length + 2) ((recs 16 R).length + 2)) LS ∧ Below w.heap.size w w' ∧ LS[(recs 16 R).length]? = some ⟨#[58, 48, 48, 48, 48, 48, 48, 48, 49, 70, 70]⟩ ∧ LS[(recs 16 R).length + 1]? = some ⟨#[]⟩ ∧
    ∀ (k : Nat) (r : Nat × List UInt8), (recs 16 R)[k]? = some r → LS[k]? = some ⟨(recLine 0 r.1 r.2).toArray⟩ := by
  have hlt := textOf_len 16 R (by omega) (by omega) hS
  have hrl : (recs 16 R).length ≤ 65536 := by
    rcases recs_count (n := 16) (by omega) hS with h | h
    · rw [h]; simp [recs]
    · omega
  refine (Split10 ⟨(textOf 16 R).toArray⟩ w (by show (textOf 16 R).toArray.size < _; rw [List.size_toArray]; omega)).mono fun e w' ⟨LS, h1, h2, h3⟩ => ?_
  have h1 : LS.map (·.data.toList) = splitNL (textOf 16 R) := h1
  obtain ⟨hl1, hl2, hl3, hl4⟩ := lines_at (h1.trans (splitNL_text 16 R))
  rw [hl1] at h2
  have hs : SlR strR w' (fun k => k < w'.heap.size) (.slice (some ⟨w.heap.size, 0, none⟩) LS.length LS.length) LS := by
    rw [h3]
    exact slR_strs w _ _ LS _ rfl (by show _ < (World.alloc _ _).heap.size; rw [World.size_alloc]; exact Nat.lt_succ_self _) (by unfold maxLen; omega)
  rw [hl1] at hs
  exact ⟨LS, _, h2, hs, by rw [h3]; exact (Below.refl _ _).alloc (Nat.le_refl _) _, hl2, hl3, hl4⟩
set_option maxHeartbeats 4000000 in
set_option maxRecDepth 100000 in
theorem Records_yes (p : Blocks) (v : Value) (R : List (Int × List UInt8)) (w : World) (h : SlR runIR w p v R) (hT : Deb w) (hA : ∀ r ∈ R, -9223372036854775808 ≤ r.1 ∧ r.1 ≤ 9223372036854775807) (hf : fewB R = true) :
    Calls Tryd.prog 7 #[v] w fun e w' => e = .returned (.bool true) ∧ Below w.heap.size w w' := by
  have HT := Lib.hid hT
  have HBU := Lib.hid (Build_yes p v R w h hT hA hf)
  clear h hT hA hf
  generalize putF R = S at *
  have HWS := Lib.hid (fun (b n : Nat) (cv : Value) (W : World) (h : Both w W b cv S n) (hT : Deb W) => h.writes hT)
  obtain ⟨hp1, hp2⟩ := putAll_recs S.1 S.2 (n := 16) (by omega)
  have HP1 := Lib.hid hp1
  have HP2 := Lib.hid hp2
  have HMEM := Lib.hid (recs_mem (n := 16) (by omega) (runs_sep S.1 S.2))
  have HASC := Lib.hid (asc_pairs (recs_asc (n := 16) (by omega) (runs_sep S.1 S.2)))
  have hcnt : (recs 16 (runsOf S.1 S.2)).length ≤ 65536 := by
    rcases recs_count (n := 16) (by omega) (runs_sep S.1 S.2) with h | h
    · rw [h]; simp [recs]
    · omega
  have HNS : Hid (nsum (recs 16 (runsOf S.1 S.2)) = (cellsOf S.1 S.2).length) := by
    show _ = _
    unfold nsum
    rw [recs_cells (by omega), runs_cells]
  have HNL : Hid (nsum (recs 16 (runsOf S.1 S.2)) ≤ 65536) := by show _ ≤ _; rw [HNS.out]; exact cellsOf_len _ _
  have HSPL := Lib.hid (fun W => SplitText (runsOf S.1 S.2) (runs_sep _ _) W)
  have HSAME : Hid (runsOf (putAll (recs 16 (runsOf S.1 S.2))).1 (putAll (recs 16 (runsOf S.1 S.2))).2 = runsOf S.1 S.2) := by
    show _ = _
    rw [same_runs]
    exact HP1.out
  clear hp1 hp2
  generalize hD : recs 16 (runsOf S.1 S.2) = D at *
  clear hD
  generalize (⟨(textOf 16 (runsOf S.1 S.2)).toArray⟩ : ByteArray) = txt at *
  have HDL := Lib.hid hcnt
  have hdl : (D.length : Int) ≤ 65536 := by omega
  clear hcnt
  go_enter Tryd.func7, Tryd.ntmps7
  go_upto_region 10 with (first
    | (go_at_call 12; with_reducible refine HBU.out.mono ?_; rintro e w1 ⟨b, n, cv, rfl, hbo⟩; have HB1 := Lib.hid hbo; obtain ⟨ca, cc, rfl, _⟩ := hbo.cells.sl.cel; clear hbo)
    | (go_at_call 18; with_reducible refine (HWS.out b n _ _ HB1.out (HT.out.below HB1.out.below)).mono ?_; rintro e w2 ⟨rfl, hb⟩; have HB2 := Lib.hid (HB1.out.later hb); clear hb)
    | (go_at_call 25; with_reducible refine (HSPL.out _).mono ?_; rintro e w3 ⟨LS, g, rfl, hsl, hb, hl2, hl3, hl4⟩; have HSL := Lib.hid hsl; have HB3 := Lib.hid (HB2.out.later hb); have HL4 := Lib.hid hl4; have e0 := (str_cell hsl hl2).1; have e1 := (str_cell hsl hl3).1; rw [Nat.zero_add] at e0 e1; clear hsl hb hl2 hl3 hl4)
    | (go_at_call 26; refine (New_any _).mono ?_; rintro e w4 ⟨rfl, hi, hb⟩; have HI4 := Lib.hid hi; have HB4 := Lib.hid (HB3.out.later hb); have HS4 : Hid (SlR strR w4 (fun k => k < w3.heap.size) (.slice (some ⟨g, 0, none⟩) (D.length + 2) (D.length + 2)) LS) := (HSL.out.old.below hb).mono fun _ h => h.2; clear hi hb))
  have HREC : Hid (RecI w w4 b w3.heap.size S D (.slice (some ⟨g, 0, none⟩) (D.length + 2) (D.length + 2)) LS 0) := ⟨⟨n, HB4.out.img⟩, HI4.out, HS4.out, HB3.out.img.lt, HB4.out.at_, HB4.out.below⟩
  have hcutS := cut_strs g 0 (D.length + 2) (D.length + 2) D.length (by omega)
  clear e0 e1 HI4 HS4 HB1 HB2 HB3 HB4 HSL
  generalize w3.heap.size = b2 at *
  go_wp2
  go_loopw [8, 54] (fun la i wr => ∃ (k : Nat) (lz : Int), k ≤ D.length ∧ i = .int .i64 k ∧ la = .int .i64 lz ∧ -1 ≤ lz ∧ lz ≤ 65535 ∧ (∀ r, D[k]? = some r → lz < (r.1 : Int)) ∧ RecI w wr b b2 S D (.slice (some ⟨g, 0, none⟩) (D.length + 2) (D.length + 2)) LS k) (fun _ i _ => D.length - (intOf i).toNat)
  case atStart => exact ⟨0, -1, Nat.zero_le _, rfl, rfl, by omega, by omega, fun r _ => by omega, HREC.out⟩
  case round =>
    obtain ⟨k, lz, hk, rfl, rfl, hlz1, hlz2, hlz, hr⟩ := hrel
    have HR := Lib.hid hr
    have HLZ := Lib.hid hlz
    clear hr hlz
    by_cases hlt : k < D.length
    · have HRK : Hid (D[k]? = some D[k]) := List.getElem?_eq_getElem hlt
      have hme := HMEM.out D[k] (List.getElem_mem hlt)
      have hl := HLZ.out D[k] HRK.out
      have e0 := (str_cell HR.out.lines (HL4.out k D[k] HRK.out)).1
      have HASK := Lib.hid (HASC.out (k + 1))
      generalize D[k] = r at *
      obtain ⟨ra, rl⟩ := r
      rw [Nat.zero_add] at e0
      have hm1 : 0 < rl.length := List.length_pos_iff.2 hme.1
      have hm2 : rl.length ≤ 16 := hme.2.1
      have hm3 : ra + rl.length ≤ 65536 := hme.2.2
      have HPL := Lib.hid (fun W => Parse_line ra rl W (by omega) (by omega))
      have HPC := Lib.hid (HP2.out k (ra, rl) HRK.out)
      have hsz : (⟨(recLine 0 ra rl).toArray⟩ : ByteArray).size ≤ 43 := by
        show (recLine 0 ra rl).toArray.size ≤ 43
        rw [List.size_toArray, recLine_len]
        omega
      have e0' : wr.cell? ⟨g, k, none⟩ = some (.string ⟨(recLine 0 ra rl).toArray⟩) := e0
      clear e0
      generalize (⟨(recLine 0 ra rl).toArray⟩ : ByteArray) = ln at *
      have hla : lz < (ra : Int) := hl
      have hz0 : ((rl.length : Int) == 0) = false := by rw [beq_eq_false_iff_ne]; omega
      have hz1 : (rl.length : Int) ≤ 16 := by omega
      have hz2 : ((ra : Int) ≤ 65535) := by omega
      have hns : nsum (D.take k) ≤ 900000000 := by
        have h1 := nsum_pre (D.take k) (D.drop k)
        rw [List.take_append_drop] at h1
        have := HNL.out
        omega
      have HM3 := Lib.hid hm3
      have HM1 := Lib.hid hm1
      clear hme hl hm1 hm3
      go_wp2_with (first
        | (go_at_call 27; refine (HPL.out _).mono ?_; rintro e w5 ⟨v5, rfl, hsl, hb⟩; have HR5 := Lib.hid (HR.out.later hb); have HSL5 := Lib.hid hsl; obtain ⟨sa, sc, rfl, _⟩ := hsl.byte; clear hsl hb)
        | (go_at_call 28
           have hal := (Below.refl w5.heap.size w5).alloc (Nat.le_refl _) (.cells #[.int .i64 0, .int .i64 (ra : Int), .slice sa rl.length sc] 46)
           have hr5 := HR5.out.later hal
           refine (Put_any b2 _ _ _ _ _ _ rl _ hr5.again hns (HSL5.out.alloc _) (HT.out.below hr5.below) (by omega) (by omega) (by omega)).mono ?_
           rintro e w6 ⟨rfl, hp, hg⟩
           rw [HPC.out]
           have HR6 := Lib.hid (hr5.put HRK.out HPC.out hp hg)
           have hbl := hg.block w5.heap.size (by simp) (fun e => by injection e with e; have := HR5.out.again.lt; omega)
           have d2 : w6.cell? ⟨w5.heap.size, 1, none⟩ = some (.int .i64 (ra : Int)) := (World.cell?_of_block (w := w5.alloc (.cells #[.int .i64 0, .int .i64 (ra : Int), .slice sa rl.length sc] 46)) hbl).trans (by go_simp)
           clear hal hr5 hp hg hbl))
      go_roundw
      case rel => exact ⟨k + 1, ra, by omega, by go_num, rfl, by omega, by omega, fun r hr => by have := (HASK.out r hr).2 k (ra, rl) (by omega) HRK.out; omega, HR6.out⟩
      case measure => simp [intOf]; omega
    · obtain rfl : k = D.length := by omega
      obtain ⟨n9, hi⟩ := HR.out.img
      have HI := Lib.hid hi
      have HAG := Lib.hid HR.out.again
      rw [List.take_length] at HAG
      rw [HNS.out] at HAG
      have HV1 : Hid (ImgV wr (.pointer (some ⟨b, 0, none⟩)) (runsOf S.1 S.2)) := .inr ⟨b, n9, _, _, rfl, HI.out, rfl⟩
      have HV2 : Hid (ImgV wr (.pointer (some ⟨b2, 0, none⟩)) (runsOf S.1 S.2)) := .inr ⟨b2, _, _, _, rfl, HAG.out, HSAME.out.symm⟩
      have HBW := Lib.hid HR.out.below
      clear hi
      go_wp2_with (first
        | (go_at_call 13; with_reducible refine (alive4_any _ (HT.out.below HBW.out)).mono ?_; rintro e w7 ⟨rfl, hb⟩; have HB7 := Lib.hid (HBW.out.trans (hb.mono HBW.out.size)); have HV3 := Lib.hid (HV1.out.below hb); have HV4 := Lib.hid (HV2.out.below hb); have HAG7 := Lib.hid (HAG.out.below hb HAG.out.lt); clear hb)
        | (go_at_call 29; refine (ImgSame_any _ _ _ _ _ HV4.out HV3.out (HT.out.below HB7.out)).mono ?_; rw [decide_eq_true rfl]; rintro e w8 ⟨rfl, hb⟩; have HB8 := Lib.hid (HB7.out.trans (hb.mono HB7.out.size)); have HAG8 := Lib.hid (HAG7.out.below hb HAG7.out.lt); clear hb)
        | (go_at_call 30; refine (Len_any _ _ _ _ _ HAG8.out).mono ?_; rintro e w9 ⟨rfl, rfl⟩))
      go_ret
      exact ⟨rfl, HB8.out⟩
set_option maxHeartbeats 1000000 in
theorem Records_any (p : Blocks) (v : Value) (R : List (Int × List UInt8)) (w : World) (h : SlR runIR w p v R) (hT : Deb w) (hA : ∀ r ∈ R, -9223372036854775808 ≤ r.1 ∧ r.1 ≤ 9223372036854775807) :
    Calls Tryd.prog 7 #[v] w fun e w' => e = .returned (.bool true) ∧ Below w.heap.size w w' := by
  by_cases hf : fewB R = true
  · exact Records_yes p v R w h hT hA hf
  · have HT := Lib.hid hT
    have hf : fewB R = false := by simpa using hf
    have HBU := Lib.hid (Build_no p v R w h hf)
    have HF := Lib.hid (fun (W : World) (hb : Below w.heap.size w W) => Few_any _ v R W (h.old.below hb))
    rw [hf] at HF
    clear h hT hA hf
    go_enter Tryd.func7, Tryd.ntmps7
    go_wp2_with (first
      | (go_at_call 12; refine HBU.out.mono ?_; rintro e w1 ⟨rfl, rfl⟩)
      | (go_at_call 13; refine (alive4_any _ HT.out).mono ?_; rintro e w2 ⟨rfl, hb⟩; have HB2 := Lib.hid hb; clear hb)
      | (go_at_call 14; refine (HF.out _ HB2.out).mono ?_; rintro e w3 ⟨rfl, rfl⟩))
    go_ret
    exact ⟨rfl, HB2.out⟩
end Go.Proofs.YtcfjcoockklkeaaDoor
