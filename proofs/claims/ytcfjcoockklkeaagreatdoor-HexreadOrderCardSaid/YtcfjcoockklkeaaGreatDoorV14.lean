/-
  breadboardref05.add, Read. Conditions: the text's size.
-/
import Derived.Test.YtcfjcoockklkeaaGreatDoorV13
namespace Go.Proofs.YtcfjcoockklkeaaGreatDoor
open Go.RowKit

theorem parse_bd {l : List UInt8} : (parseH l).2.t ≤ 255 ∧ (parseH l).2.a ≤ 65535 ∧ (parseH l).2.l.length ≤ 255 := by
  have hz : recZ.t ≤ 255 ∧ recZ.a ≤ 65535 ∧ recZ.l.length ≤ 255 := ⟨Nat.zero_le _, Nat.zero_le _, Nat.zero_le _⟩
  cases l with
  | nil => exact hz
  | cons c r =>
    by_cases hc : c = 58
    · subst hc
      rw [parseH_colon]
      cases bytesH r with
      | none => exact hz
      | some b =>
        show (parseB b).2.t ≤ 255 ∧ (parseB b).2.a ≤ 65535 ∧ (parseB b).2.l.length ≤ 255
        unfold parseB
        split
        · exact hz
        · split
          · exact hz
          · split
            · exact hz
            · have h0 := byteN_lt b 0
              have h1 := byteN_lt b 1
              have h2 := byteN_lt b 2
              have h3 := byteN_lt b 3
              refine ⟨?_, ?_, ?_⟩
              · show byteN b 3 ≤ 255; omega
              · show byteN b 1 * 256 + byteN b 2 ≤ 65535; omega
              · show ((b.drop 4).take (b.length - 5)).length ≤ 255
                rw [List.length_take]
                omega
    · rw [parseH_nocol hc]
      exact hz
def AddP (w : World) (p : Blocks) (st : ImgS × Bool) (r : RecV) (e : Ending) (w' : World) : Prop :=
  ∃ v', e = .returned (.tuple #[v', .int .i64 ((recH st r).1 : Nat)]) ∧ CelV w' (fun k => p k ∨ w.heap.size ≤ k) v' (cellsOf (recH st r).2.1.1 (recH st r).2.1.2) ∧ Below w.heap.size w w'
set_option maxHeartbeats 2000000 in
set_option maxRecDepth 100000 in
theorem add_any (st : ImgS × Bool) (r : RecV) (p q : Blocks) (v vb : Value) (w : World) (h : CelV w p v (cellsOf st.1.1 st.1.2)) (hs : SlR byteR w q vb r.l) (hl : r.l.length ≤ 255) (ht : r.t ≤ 255) (ha : r.a ≤ 65535) :
    Calls Tryz.prog 26 #[v, .agg #[.int .i64 r.t, .int .i64 r.a, vb]] w (AddP w p st r) := by
  obtain ⟨t, a, l⟩ := r
  obtain ⟨sa, c, rfl, _⟩ := hs.byte
  have hal := (Below.refl w.heap.size w).alloc (Nat.le_refl _) (.cells #[.int .i64 (t : Int), .int .i64 (a : Int), .slice sa l.length c] 57)
  have HA := Lib.hid hal
  have ht1 : (t : Int) ≤ 255 := by show ((t : Nat) : Int) ≤ 255; exact_mod_cast ht
  have hl1 : (l.length : Int) ≤ 255 := by show ((l.length : Nat) : Int) ≤ 255; exact_mod_cast hl
  by_cases h0 : t = 0
  · subst h0
    have hp := Put02_any p _ v _ (cellsOf st.1.1 st.1.2) (a : Int) l _ (h.below hal (fun _ h => h)) (hs.below hal) (by have : l.length ≤ 255 := hl; omega) (Nat.le_trans (cellsOf_len _ _) (by omega)) (by omega) (by have : a ≤ 65535 := ha; omega)
    have HP := Lib.hid (hp.mono fun e w' ⟨v', h1, h2, h3⟩ => (⟨v', by rw [h1, put_match]; rfl, by
      rw [put_match] at h2
      rcases h2 with h2 | ⟨h2, h4⟩
      · exact .inl h2
      · exact .inr ⟨h2, h4.mono fun k hk => hk.imp id (fun h => Nat.le_of_succ_le (by rw [World.size_alloc] at h; exact h))⟩, hal.trans (h3.mono hal.size)⟩ : AddP w p st ⟨0, a, l⟩ e w'))
    clear h hs hl ht ha hal hp
    go_enter Tryz.func26, Tryz.ntmps26
    go_wp2_with (go_at_call 34; refine HP.out.mono ?_; rintro e w1 ⟨v', rfl, hc, hb⟩; have HC := Lib.hid hc; have HB := Lib.hid hb; clear hc hb)
    go_ret2
    exact ⟨_, rfl, HC.out, HB.out⟩
  · have HC := Lib.hid (h.below (q := fun k => p k ∨ w.heap.size ≤ k) hal (fun _ h => .inl h))
    by_cases h1 : t = 1
    · subst h1
      by_cases hn : l = []
      · subst hn
        have HR : Hid (recH st ⟨1, a, []⟩ = (0, (st.1, true))) := Lib.hid rfl
        clear h hs hl ht ha hal
        go_enter Tryz.func26, Tryz.ntmps26
        go_wp2
        go_ret2
        exact ⟨v, by rw [HR.out]; rfl, by rw [HR.out]; exact HC.out, HA.out⟩
      · have HR : Hid (recH st ⟨1, a, l⟩ = (6, st)) := by show _ = _; unfold recH; rw [if_neg (by simp), if_pos rfl, if_neg hn]
        have hpos : (0 : Int) < (l.length : Int) := by have := List.length_pos_iff.2 hn; omega
        clear h hs hl ht ha hal hn
        go_enter Tryz.func26, Tryz.ntmps26
        go_wp2
        go_ret2
        exact ⟨v, by rw [HR.out]; rfl, by rw [HR.out]; exact HC.out, HA.out⟩
    · have HR : Hid (recH st ⟨t, a, l⟩ = (7, st)) := by show _ = _; unfold recH; rw [if_neg h0, if_neg h1]
      have hb0 : ((t : Int) == 0) = false := by rw [beq_eq_false_iff_ne]; omega
      have hb1 : ((t : Int) == 1) = false := by rw [beq_eq_false_iff_ne]; omega
      have hd0 : ¬ t = 0 := h0
      have hd1 : ¬ (t : Int) = 1 := by omega
      clear h hs hl ht ha hal h0 h1
      go_enter Tryz.func26, Tryz.ntmps26
      go_wp2
      go_ret2
      exact ⟨v, by rw [HR.out]; rfl, by rw [HR.out]; exact HC.out, HA.out⟩
theorem splitNL_len : ∀ (s x : List UInt8), x ∈ splitNL s → x.length ≤ s.length
  | [], x, h => by
    rw [splitNL] at h
    simp at h
    subst h
    exact Nat.le_refl _
  | c :: r, x, h => by
    rw [splitNL] at h
    split at h
    · rcases List.mem_cons.1 h with rfl | h
      · exact Nat.zero_le _
      · have := splitNL_len r x h
        simp only [List.length_cons]; omega
    · cases hs : splitNL r with
      | nil => exact absurd hs (splitNL_ne r)
      | cons y L =>
        rw [hs] at h
        rcases List.mem_cons.1 h with rfl | h
        · have := splitNL_len r y (by rw [hs]; simp)
          simp only [List.length_cons]; omega
        · have := splitNL_len r x (by rw [hs]; simp [h])
          simp only [List.length_cons]; omega
theorem splitNL_cnt : ∀ s : List UInt8, (splitNL s).length ≤ s.length + 1
  | [] => Nat.le_refl _
  | c :: r => by
    have ih := splitNL_cnt r
    rw [splitNL]
    split
    · simp only [List.length_cons]; omega
    · cases hs : splitNL r with
      | nil => simp
      | cons y L =>
        rw [hs] at ih
        simp only [List.length_cons] at ih ⊢
        omega
theorem recH_end {S : ImgS} {r : RecV} (h : (recH (S, false) r).1 = 0) : (recH (S, false) r).2.2 = ((r.t : Int) == 1) := by
  unfold recH at h ⊢
  by_cases h0 : r.t = 0
  · rw [if_pos h0, h0]; rfl
  · by_cases h1 : r.t = 1
    · rw [if_neg h0, if_pos h1] at h ⊢
      by_cases hl : r.l = []
      · rw [if_pos hl, h1]; rfl
      · rw [if_neg hl] at h; cases h
    · rw [if_neg h0, if_neg h1] at h; cases h
theorem trimCR_len (s : List UInt8) : (trimCR s).length ≤ s.length := by
  unfold trimCR
  split
  · rw [List.length_dropLast]; omega
  · exact Nat.le_refl _
theorem Parse3_at (s : ByteArray) (l : List UInt8) (w : World) (hl : s.data.toList = l) (hs : s.size ≤ 1000000) :
    Calls Tryz.prog 25 #[.string s] w fun e w' => ∃ sa sc, e = .returned (.tuple #[.agg #[.int .i64 (parseH l).2.t, .int .i64 (parseH l).2.a, .slice sa (parseH l).2.l.length sc], .int .i64 (parseH l).1]) ∧ SlR byteR w' (fun k => w.heap.size ≤ k) (.slice sa (parseH l).2.l.length sc) (parseH l).2.l ∧ Below w.heap.size w w' := by
  subst hl
  refine (Parse3_any s w hs).mono fun e w' ⟨r, c, v, h1, h2, h3, h4⟩ => ?_
  rw [h1]
  obtain ⟨sa, sc, rfl, _⟩ := h3.byte
  exact ⟨sa, sc, h2, h3, h4⟩
/-- the reader's answer: cells or none, the line, the code -/
def ReadP (w : World) (l : List UInt8) (e : Ending) (w' : World) : Prop :=
  ∃ v', e = .returned (.tuple #[v', .int .i64 (readH l).1.1, .int .i64 (readH l).1.2]) ∧ ((readH l).1.2 = 0 → CelV w' (fun k => w.heap.size ≤ k) v' (cellsOf (readH l).2.1.1 (readH l).2.1.2)) ∧ ((readH l).1.2 ≠ 0 → v' = .slice none 0 0) ∧ Below w.heap.size w w'
theorem ReadP.bad {w w' : World} {l : List UInt8} {i c : Nat} {st : ImgS × Bool} (h : readH l = ((i, c), st)) (hc : c ≠ 0) (hb : Below w.heap.size w w') : ReadP w l (.returned (.tuple #[.slice none 0 0, .int .i64 i, .int .i64 c])) w' :=
  ⟨_, by rw [h], fun e => absurd (by rw [h] at e; exact e) hc, fun _ => rfl, hb⟩
theorem runH_bad {i : Nat} {st : ImgS × Bool} {s : List UInt8} {r : List (List UInt8)} {c : Nat} (h : (stepH st s).1 = c) (hc : c ≠ 0) : runH i st (s :: r) = ((i + 1, c), st) := by
  rw [runH, h, if_neg hc]
set_option maxHeartbeats 4000000 in
set_option maxRecDepth 100000 in
theorem Read05_any (s : ByteArray) (w : World) (hs : s.size ≤ 1000000) :
    Calls Tryz.prog 7 #[.string s] w (ReadP w s.data.toList) := by
  have HSP := Lib.hid (Split05_any s w hs)
  have hsz : s.data.toList.length ≤ 1000000 := by simpa using hs
  have HLN := Lib.hid (fun x hx => Nat.le_trans (splitNL_len s.data.toList x hx) hsz)
  have hcnt : (splitNL s.data.toList).length ≤ 1000001 := Nat.le_trans (splitNL_cnt _) (by omega)
  have HCN := Lib.hid hcnt
  have HRD : Hid (readH s.data.toList = runH 0 emptyS (splitNL s.data.toList)) := Lib.hid rfl
  clear hs hsz hcnt
  generalize s.data.toList = txt at *
  generalize splitNL txt = L at *
  go_enter Tryz.func7, Tryz.ntmps7
  go_wp2_with (go_at_call 22; refine HSP.out.mono ?_; rintro e w1 ⟨v1, ys, rfl, ho, hm, hb⟩; have HO := Lib.hid ho; have HM := Lib.hid hm; have HB1 := Lib.hid hb; obtain ⟨ya, yc, rfl⟩ := ho.form; clear ho hm hb)
  have HYL : Hid (ys.length = L.length) := by show _ = _; rw [← HM.out, List.length_map]
  have hyl : (ys.length : Int) ≤ 1000001 := by have := HYL.out; have := HCN.out; omega
  have HYC := Lib.hid (HO.out.slR (q := fun _ => True) (fun _ h => h.elim) (fun _ _ => trivial))
  go_loopw [5, 6, 8] (fun cv en i wr => ∃ (k : Nat) (st : ImgS × Bool), k ≤ ys.length ∧ i = .int .i64 k ∧ en = .bool st.2 ∧ CelV wr (fun g => w.heap.size ≤ g) cv (cellsOf st.1.1 st.1.2) ∧ readH txt = runH k st (L.drop k) ∧ Below w1.heap.size w1 wr) (fun _ _ i _ => ys.length - (intOf i).toNat)
  case atStart => exact ⟨0, emptyS, Nat.zero_le _, rfl, rfl, .inl ⟨cellsOf_none _, rfl⟩, HRD.out, Below.refl _ _⟩
  case round =>
    obtain ⟨k, st, hk, rfl, rfl, hcv, hrun, hb⟩ := hrel
    have HCV := Lib.hid hcv
    have HRN := Lib.hid hrun
    have HB := Lib.hid hb
    have HBW := Lib.hid (HB1.out.trans (hb.mono HB1.out.size))
    obtain ⟨ca, cc, rfl, _⟩ := hcv.sl.cel
    clear hcv hrun hb
    by_cases hlt : k < ys.length
    · have hkl : k < L.length := by have := HYL.out; omega
      have hx : ys[k].data.toList = L[k] := by
        have h1 : (ys.map (·.data.toList))[k]? = L[k]? := by rw [HM.out]
        rw [List.getElem?_map, List.getElem?_eq_getElem hlt, List.getElem?_eq_getElem hkl] at h1
        injection h1
      have hxl := HLN.out L[k] (List.getElem_mem hkl)
      have hdr : L.drop k = L[k] :: L.drop (k + 1) := List.drop_eq_getElem_cons hkl
      rw [hdr] at HRN
      obtain ⟨aa, ac, ev, _, _, g⟩ := HYC.out.str
      obtain ⟨b1, o1, ea, _, d0⟩ := g k ys[k] (List.getElem?_eq_getElem hlt)
      obtain rfl : ya = aa := by injection ev
      subst ea
      have e0 := (HB.out.cell (World.block_lt_of_cell? _ _ d0)).trans d0
      have hysz : ys[k].size ≤ 1000000 := by
        have : ys[k].data.toList.length = ys[k].size := by simp
        rw [hx] at this
        omega
      have HTR := Lib.hid (fun W => trim05_any ys[k] W hysz)
      rw [hx] at HTR
      have htl := trimCR_len L[k]
      clear ev g d0 hdr hx hysz
      generalize ys[k] = yk at *
      generalize L[k] = x at *
      obtain ⟨ln, hln⟩ : ∃ ln : ByteArray, ln = ⟨(trimCR x).toArray⟩ := ⟨_, rfl⟩
      rw [← hln] at HTR
      have hld : ln.data.toList = trimCR x := by rw [hln]
      have hlsz : ln.size ≤ 1000000 := by
        have : ln.data.toList.length = ln.size := by simp
        rw [hld] at this
        omega
      have HBL := Lib.hid (fun W => blank05_any ln W hlsz)
      rw [hld] at HBL
      have HPA := Lib.hid (fun W => Parse3_at ln (trimCR x) W hld hlsz)
      have hbd := parse_bd (l := trimCR x)
      have HSTP : Hid (stepH st x = if blankL (trimCR x) then (0, st) else if st.2 then (9, st) else if (parseH (trimCR x)).1 ≠ 0 then ((parseH (trimCR x)).1, st) else recH st (parseH (trimCR x)).2) := Lib.hid rfl
      clear hln hld hlsz htl hxl hkl
      have hk9 : (k : Int) ≤ 1000001 := by omega
      generalize blankL (trimCR x) = bl at *
      generalize parseH (trimCR x) = pr at *
      obtain ⟨pc, r⟩ := pr
      cases bl with
      | true =>
        have HN : Hid (readH txt = runH (k + 1) st (L.drop (k + 1))) := by show _ = _; rw [HRN.out, runH_good k st st x _ (by rw [HSTP.out]; rfl)]
        go_wp2_with (first
          | (go_at_call 23; refine (HTR.out _).mono ?_; rintro e w2 ⟨rfl, rfl⟩)
          | (go_at_call 24; refine (HBL.out _).mono ?_; rintro e w3 ⟨rfl, rfl⟩))
        go_roundw
        case rel => exact ⟨k + 1, st, by omega, by go_num, rfl, HCV.out, HN.out, HB.out⟩
        case measure => simp [intOf]; omega
      | false =>
        obtain ⟨S, en⟩ := st
        cases en with
        | true =>
          have HN : Hid (readH txt = ((k + 1, 9), (S, true))) := by show _ = _; rw [HRN.out]; exact runH_bad (by rw [HSTP.out]; rfl) (by omega)
          go_wp2_with (first
            | (go_at_call 23; refine (HTR.out _).mono ?_; rintro e w2 ⟨rfl, rfl⟩)
            | (go_at_call 24; refine (HBL.out _).mono ?_; rintro e w3 ⟨rfl, rfl⟩))
          go_ret3
          exact ReadP.bad HN.out (Nat.succ_ne_zero _) HBW.out
        | false =>
          by_cases hpc : pc = 0
          · subst hpc
            have HADD : Hid (∀ (q : Blocks) (v vb : Value) (W : World), CelV W (fun g => w.heap.size ≤ g) v (cellsOf S.1 S.2) → SlR byteR W q vb r.l → Calls Tryz.prog 26 #[v, .agg #[.int .i64 r.t, .int .i64 r.a, vb]] W fun e w' => ∃ v', e = .returned (.tuple #[v', .int .i64 ((recH (S, false) r).1 : Nat)]) ∧ CelV w' (fun k => w.heap.size ≤ k ∨ W.heap.size ≤ k) v' (cellsOf (recH (S, false) r).2.1.1 (recH (S, false) r).2.1.2) ∧ Below W.heap.size W w') :=
              fun q v vb W h1 h2 => add_any (S, false) r _ q v vb W h1 h2 hbd.2.2 hbd.1 hbd.2.1
            have HEND := Lib.hid (fun h => recH_end (S := S) (r := r) h)
            have HST : Hid (stepH (S, false) x = recH (S, false) r) := by show _ = _; rw [HSTP.out]; rfl
            generalize recH (S, false) r = res at *
            obtain ⟨f, st'⟩ := res
            by_cases hf : f = 0
            · subst hf
              have HN : Hid (readH txt = runH (k + 1) st' (L.drop (k + 1))) := by show _ = _; rw [HRN.out, runH_good k _ st' x _ HST.out]
              have HE := Lib.hid (HEND.out rfl)
              clear hbd
              go_wp2_with (first
                | (go_at_call 23; refine (HTR.out _).mono ?_; rintro e w2 ⟨rfl, rfl⟩)
                | (go_at_call 24; refine (HBL.out _).mono ?_; rintro e w3 ⟨rfl, rfl⟩)
                | (go_at_call 25; refine (HPA.out _).mono ?_; rintro e w4 ⟨sa, sc, rfl, hsl, hb⟩; have HB4 := Lib.hid (HBW.out.trans (hb.mono HBW.out.size)); have HB4b := Lib.hid (HB.out.trans (hb.mono HB.out.size)); have HSL4 := Lib.hid hsl; have HCV4 := Lib.hid (HCV.out.below hb (fun _ h => h)); clear hb hsl)
                | (go_at_call 26
                   have hal := (Below.refl w4.heap.size w4).alloc (Nat.le_refl _) (.cells #[.int .i64 (r.t : Int), .int .i64 (r.a : Int), .slice sa r.l.length sc] 57)
                   refine (HADD.out _ _ _ _ (HCV4.out.below hal (fun _ h => h)) (HSL4.out.alloc _)).mono ?_
                   rintro e w6 ⟨v6, rfl, hcv6, hb6⟩
                   have d2 : w6.cell? ⟨w4.heap.size, 0, none⟩ = some (.int .i64 (r.t : Int)) := (hb6.cell (p := ⟨w4.heap.size, 0, none⟩) (by show _ < (World.alloc _ _).heap.size; rw [World.size_alloc]; exact Nat.lt_succ_self _)).trans (by go_simp)
                   have hle := Nat.le_trans HB4.out.size hal.size
                   have HCV6 := Lib.hid (show CelV w6 (fun g => w.heap.size ≤ g) v6 (cellsOf st'.1.1 st'.1.2) from hcv6.imp id (fun h => ⟨h.1, h.2.mono fun j hj => hj.elim id (fun hj => Nat.le_trans hle hj)⟩))
                   have HB6 := Lib.hid (HB4b.out.trans ((hal.trans (hb6.mono hal.size)).mono HB4b.out.size))
                   clear hal hcv6 hb6 hle))
              go_roundw
              case rel => exact ⟨k + 1, st', by omega, by go_num, by rw [HE.out], HCV6.out, HN.out, HB6.out⟩
              case measure => simp [intOf]; omega
            · have HN : Hid (readH txt = ((k + 1, f), (S, false))) := by show _ = _; rw [HRN.out]; exact runH_bad (by rw [HST.out]) hf
              have hne : ((f : Int) != 0) = true := by rw [bne_iff_ne]; omega
              have HF := Lib.hid hf
              clear hf hbd HEND
              go_wp2_with (first
                | (go_at_call 23; refine (HTR.out _).mono ?_; rintro e w2 ⟨rfl, rfl⟩)
                | (go_at_call 24; refine (HBL.out _).mono ?_; rintro e w3 ⟨rfl, rfl⟩)
                | (go_at_call 25; refine (HPA.out _).mono ?_; rintro e w4 ⟨sa, sc, rfl, hsl, hb⟩; have HB4 := Lib.hid (HBW.out.trans (hb.mono HBW.out.size)); have HSL4 := Lib.hid hsl; have HCV4 := Lib.hid (HCV.out.below hb (fun _ h => h)); clear hb hsl)
                | (go_at_call 26
                   have hal := (Below.refl w4.heap.size w4).alloc (Nat.le_refl _) (.cells #[.int .i64 (r.t : Int), .int .i64 (r.a : Int), .slice sa r.l.length sc] 57)
                   refine (HADD.out _ _ _ _ (HCV4.out.below hal (fun _ h => h)) (HSL4.out.alloc _)).mono ?_
                   rintro e w6 ⟨v6, rfl, _, hb6⟩
                   have HB6 := Lib.hid (HB4.out.trans ((hal.trans (hb6.mono hal.size)).mono HB4.out.size))
                   clear hal hb6))
              go_ret3
              exact ReadP.bad HN.out HF.out HB6.out
          · have HN : Hid (readH txt = ((k + 1, pc), (S, false))) := by show _ = _; rw [HRN.out]; exact runH_bad (by rw [HSTP.out]; simp [hpc]) hpc
            have hne : ((pc : Int) != 0) = true := by rw [bne_iff_ne]; omega
            have HPC := Lib.hid hpc
            clear hpc
            go_wp2_with (first
              | (go_at_call 23; refine (HTR.out _).mono ?_; rintro e w2 ⟨rfl, rfl⟩)
              | (go_at_call 24; refine (HBL.out _).mono ?_; rintro e w3 ⟨rfl, rfl⟩)
              | (go_at_call 25; refine (HPA.out _).mono ?_; rintro e w4 ⟨sa, sc, rfl, _, hb⟩; have HB4 := Lib.hid (HBW.out.trans (hb.mono HBW.out.size)); clear hb))
            go_ret3
            exact ReadP.bad HN.out HPC.out (HB4.out.alloc HB4.out.size _)
    · obtain rfl : k = ys.length := by omega
      have hend : L.drop ys.length = [] := List.drop_eq_nil_of_le (by rw [HYL.out]; exact Nat.le_refl _)
      rw [hend] at HRN
      obtain ⟨S, en⟩ := st
      cases en with
      | true =>
        have HN : Hid (readH txt = ((0, 0), (S, true))) := HRN.out
        clear hend
        go_wp2
        go_ret3
        exact ⟨_, by rw [HN.out]; rfl, fun _ => by rw [HN.out]; exact HCV.out, fun e => absurd (by rw [HN.out]) e, HBW.out⟩
      | false =>
        have HN : Hid (readH txt = ((0, 8), (S, false))) := HRN.out
        clear hend
        go_wp2
        go_ret3
        exact ReadP.bad HN.out (Nat.succ_ne_zero _) HBW.out
end Go.Proofs.YtcfjcoockklkeaaGreatDoor
