/-
  breadboardref05.Merge. Conditions: the texts' sizes.
-/
import Derived.Test.YtcfjcoockklkeaaDoorV26
namespace Go.Proofs.YtcfjcoockklkeaaDoor
open Go.RowKit

/-- the answer -/
def RMergeP (w : World) (L : List (List UInt8)) (e : Ending) (w' : World) : Prop :=
  ∃ v', e = .returned (.tuple #[v', .int .i64 (mergeF 0 emptyI L).1.1, .int .i64 (mergeF 0 emptyI L).1.2.1, .int .i64 (mergeF 0 emptyI L).1.2.2]) ∧ ((mergeF 0 emptyI L).1.2.2 = 0 → CelV w' (fun g => w.heap.size ≤ g) v' (cellsOf (mergeF 0 emptyI L).2.1 (mergeF 0 emptyI L).2.2)) ∧ Below w.heap.size w w'
theorem RMergeP.bad {w w' : World} {L : List (List UInt8)} {i ln c : Nat} {S : ImgS} (h : mergeF 0 emptyI L = ((i, ln, c), S)) (hc : c ≠ 0) (hb : Below w.heap.size w w') : RMergeP w L (.returned (.tuple #[.slice none 0 0, .int .i64 i, .int .i64 ln, .int .i64 c])) w' :=
  ⟨_, by rw [h], fun e => absurd (by rw [h] at e; exact e) hc, hb⟩
set_option maxHeartbeats 8000000 in
set_option maxRecDepth 100000 in
theorem Merge05_any (p : Blocks) (v : Value) (l : List ByteArray) (w : World) (h : SlR strR w p v l) (hl : l.length ≤ 1000) (hs : ∀ s ∈ l, s.size ≤ 1000000) :
    Calls Tryd.prog 33 #[v] w (RMergeP w (l.map (·.data.toList))) := by
  obtain ⟨va, vc, rfl, _⟩ := h.str
  have HV := Lib.hid h
  have HSZ := Lib.hid hs
  have hl1 : (l.length : Int) ≤ 1000 := by omega
  clear h hl hs
  go_enter Tryd.func33, Tryd.ntmps33
  go_wp2
  go_loopw [6, 7] (fun cv i wr => ∃ (k : Nat) (S : ImgS), k ≤ l.length ∧ i = .int .i64 k ∧ CelV wr (fun g => w.heap.size ≤ g) cv (cellsOf S.1 S.2) ∧ Below w.heap.size w wr ∧ mergeF 0 emptyI (l.map (·.data.toList)) = mergeF k S ((l.map (·.data.toList)).drop k)) (fun _ i _ => l.length - (intOf i).toNat)
  case atStart => exact ⟨0, emptyI, Nat.zero_le _, rfl, .inl ⟨cellsOf_none _, rfl⟩, Below.refl _ _, rfl⟩
  case round =>
    obtain ⟨k, S, hk, rfl, hcv, hb, hrun⟩ := hrel
    obtain ⟨wo, rfl⟩ : ∃ wo : World, wo = wr := ⟨_, rfl⟩
    have HCV := Lib.hid hcv
    have HB := Lib.hid hb
    have HRN := Lib.hid hrun
    obtain ⟨ca, cc, rfl, _⟩ := hcv.sl.cel
    clear hcv hb hrun
    by_cases hlt : k < l.length
    · have hdr : (l.map (·.data.toList)).drop k = l[k].data.toList :: (l.map (·.data.toList)).drop (k + 1) := by
        rw [List.drop_eq_getElem_cons (by simpa using hlt)]
        simp
      rw [hdr] at HRN
      have hsz := HSZ.out l[k] (List.getElem_mem hlt)
      obtain ⟨aa, ac, ev, _, _, g⟩ := (HV.out.old.below HB.out).str
      obtain ⟨b1, o1, ea, _, d0⟩ := g k l[k] (List.getElem?_eq_getElem hlt)
      obtain rfl : va = aa := by injection ev
      subst ea
      clear ev g hdr
      generalize l[k] = s at *
      by_cases hr : (readH s.data.toList).1.2 = 0
      · have HRD : Hid (∀ W, Calls Tryd.prog 70 #[.string s] W fun e w' => ∃ xa xc, e = .returned (.tuple #[.slice xa (cellsOf (readH s.data.toList).2.1.1 (readH s.data.toList).2.1.2).length xc, .int .i64 (readH s.data.toList).1.1, .int .i64 0]) ∧ CelV w' (fun k => W.heap.size ≤ k) (.slice xa (cellsOf (readH s.data.toList).2.1.1 (readH s.data.toList).2.1.2).length xc) (cellsOf (readH s.data.toList).2.1.1 (readH s.data.toList).2.1.2) ∧ Below W.heap.size W w') := fun W =>
          (Read05_any s W hsz).mono fun e w' ⟨v', h1, h2, _, h4⟩ => by
            have hc := h2 hr
            obtain ⟨xa, xc, rfl, _⟩ := hc.sl.cel
            rw [hr] at h1
            exact ⟨xa, xc, h1, hc, h4⟩
        have HRN2 : Hid (mergeF 0 emptyI (l.map (·.data.toList)) = if (putsF S (runsOf (readH s.data.toList).2.1.1 (readH s.data.toList).2.1.2)).1 ≠ 0 then ((k, 0, 4), S) else mergeF (k + 1) (putsF S (runsOf (readH s.data.toList).2.1.1 (readH s.data.toList).2.1.2)).2 ((l.map (·.data.toList)).drop (k + 1))) := by
          show _ = _
          rw [HRN.out, mergeF, if_neg (by rw [hr]; exact fun h => h rfl)]
        clear hr hsz HRN
        generalize (readH s.data.toList).2.1 = T at *
        generalize (readH s.data.toList).1.1 = lnx at *
        have hRl := runs_len T.1 T.2
        have HSEP := Lib.hid (sep_le (runs_sep T.1 T.2))
        have HRV := Lib.hid (fun (q : Blocks) (v : Value) (W : World) (hc : SlR cellR W q v (cellsOf T.1 T.2)) => Runs02_any q v (cellsOf T.1 T.2) W hc (Nat.le_trans (cellsOf_len _ _) (by omega)) cells_low)
        rw [runs02_of] at HRV
        generalize runsOf T.1 T.2 = R at *
        have hRl1 : (R.length : Int) ≤ 65536 := by omega
        go_wp2_with (first
          | (go_at_call 70; refine (HRD.out _).mono ?_; rintro e w2 ⟨xa, xc, rfl, hc2, hb⟩; have HB2 := Lib.hid (HB.out.trans (hb.mono HB.out.size)); have HX2 := Lib.hid hc2; have HCV2 := Lib.hid (HCV.out.below hb (fun _ h => h)); clear hc2 hb)
          | (go_at_call 52; refine (HRV.out _ _ _ HX2.out.sl).mono ?_; rintro e w3 ⟨v3, raws, rfl, hrn, hb⟩; have HB3 := Lib.hid (HB2.out.trans (hb.mono HB2.out.size)); have HCV3 := Lib.hid (HCV2.out.below hb (fun _ h => h)); obtain ⟨ra, rc, rfl, g⟩ := hrn.at; have G := Lib.hid g; clear hrn hb g))
        go_loopw [6, 12] (fun cv i wr => ∃ (j : Nat) (S' : ImgS), j ≤ R.length ∧ i = .int .i64 j ∧ CelV wr (fun g => w.heap.size ≤ g) cv (cellsOf S'.1 S'.2) ∧ Below w3.heap.size w3 wr ∧ putsF S R = putsF S' (R.drop j)) (fun _ i _ => R.length - (intOf i).toNat)
        case atStart => exact ⟨0, S, Nat.zero_le _, rfl, HCV3.out, Below.refl _ _, rfl⟩
        case round =>
          clear HCV2 HCV3
          obtain ⟨j, S', hj, rfl, hcv, hb, hput⟩ := hrel
          have HCV4 := Lib.hid hcv
          have HB4 := Lib.hid hb
          have HBW := Lib.hid (HB3.out.trans (hb.mono HB3.out.size))
          have HPF := Lib.hid hput
          obtain ⟨ya, yc, rfl, _⟩ := hcv.sl.cel
          clear hcv hb hput
          by_cases hjl : j < R.length
          · have hdr : R.drop j = R[j] :: R.drop (j + 1) := List.drop_eq_getElem_cons hjl
            rw [hdr] at HPF
            obtain ⟨g, o, sa, sc, rfl, hg, t0, t1, hsl⟩ := G.out j R[j] (List.getElem?_eq_getElem hjl)
            have f0 := (HB4.out.cell (p := ⟨g, o + j * 2, none⟩) hg).trans t0
            have f1 := (HB4.out.cell (p := ⟨g, o + j * 2 + 1, none⟩) hg).trans t1
            have hse := HSEP.out R[j] (List.getElem_mem hjl)
            have HSL := Lib.hid ((hsl.old.below HB4.out).drew)
            clear hdr t0 t1 hsl
            generalize R[j] = r at *
            obtain ⟨qa, ql⟩ := r
            have hq1 : 0 < ql.length := List.length_pos_iff.2 hse.2
            have hq2 : qa + ql.length ≤ 65536 := hse.1
            have hwr : CelV wr.drew (fun g => w.heap.size ≤ g) (.slice ya (cellsOf S'.1 S'.2).length yc) (cellsOf S'.1 S'.2) := HCV4.out.imp id (fun h => ⟨h.1, h.2.drew⟩)
            have HPU := Lib.hid (Put02_any (fun g => w.heap.size ≤ g) _ _ _ (cellsOf S'.1 S'.2) (qa : Int) ql wr.drew hwr HSL.out (by omega) (Nat.le_trans (cellsOf_len _ _) (by omega)) (by omega) (by omega))
            have HBD : Hid (Below w3.heap.size w3 wr.drew) := HB4.out.drew
            have HGL := Lib.hid (Nat.lt_of_lt_of_le hg HB4.out.size)
            have hqa : (qa : Int) ≤ 65535 := by omega
            have hj0 : (0 : Int) ≤ (j : Int) := by omega
            have hj1 : (j : Int) < (R.length : Int) := by omega
            have f0' : wr.cell? ⟨g, o + j * 2, none⟩ = some (.int .i64 (qa : Int)) := f0
            have f1' : wr.cell? ⟨g, o + j * 2 + 1, none⟩ = some (.slice sa ql.length sc) := f1
            clear hse f0 f1 hwr hg
            by_cases hc : putCode S'.1 qa ql.length = 0
            · have HPG : Hid (putsF S R = putsF (imgPut S'.1 S'.2 qa ql) (R.drop (j + 1))) := by show _ = _; rw [HPF.out]; exact putsF_good hc
              have HPU2 : Hid (Calls Tryd.prog 44 #[.slice ya (cellsOf S'.1 S'.2).length yc, .int .i64 (qa : Int), .slice sa ql.length sc] wr.drew fun e w' => ∃ v', e = .returned (.tuple #[v', .int .i64 0]) ∧ CelV w' (fun k => w.heap.size ≤ k) v' (cellsOf (imgPut S'.1 S'.2 qa ql).1 (imgPut S'.1 S'.2 qa ql).2) ∧ Below wr.drew.heap.size wr.drew w') :=
                HPU.out.mono fun e w' ⟨v', h1, h2, h3⟩ => by
                  rw [put_match, hc] at h1
                  rw [put_match] at h2
                  exact ⟨v', h1, h2.imp id (fun h => ⟨h.1, h.2.mono fun k hk => hk.elim id (fun hk => Nat.le_trans HBW.out.size hk)⟩), h3⟩
              clear hc hq1 hq2 HPU
              go_upto_region 12 with fail
              go_region_held3 (fun w' => w'.cell? ⟨g, o + j * 2, none⟩ = some (.int .i64 (qa : Int)) ∧ w'.cell? ⟨g, o + j * 2 + 1, none⟩ = some (.slice sa ql.length sc)) (go_keep)
                (first
                  | (go_at_call 44; refine HPU2.out.mono ?_; rintro e w5 ⟨v5, rfl, hcv, hb⟩; have HCV5 := Lib.hid hcv; have HB5 := Lib.hid (HBD.out.trans (hb.mono HBD.out.size)); have q0 := (hb.cell (p := ⟨g, o + j * 2, none⟩) HGL.out).trans f0'; have q1 := (hb.cell (p := ⟨g, o + j * 2 + 1, none⟩) HGL.out).trans f1'; clear hcv hb))
              go_wp2
              go_roundw
              case rel => exact ⟨j + 1, _, by omega, by go_num, HCV5.out, HB5.out, HPG.out⟩
              case measure => simp [intOf]; omega
            · have h4 := putCode_04 hq1 hq2 hc
              have HN : Hid (mergeF 0 emptyI (l.map (·.data.toList)) = ((k, 0, 4), S)) := by
                show _ = _
                rw [HRN2.out, HPF.out, putsF_bad hc, if_pos (show (4 : Nat) ≠ 0 from Nat.succ_ne_zero 3)]
              have HPU2 : Hid (Calls Tryd.prog 44 #[.slice ya (cellsOf S'.1 S'.2).length yc, .int .i64 (qa : Int), .slice sa ql.length sc] wr.drew fun e w' => ∃ v', e = .returned (.tuple #[v', .int .i64 4]) ∧ Below wr.drew.heap.size wr.drew w') :=
                HPU.out.mono fun e w' ⟨v', h1, _, h3⟩ => by
                  rw [put_match, h4] at h1
                  exact ⟨v', h1, h3⟩
              clear hc hq1 hq2 h4 HPU
              go_upto_region 12 with fail
              go_region_held3 (fun w' => w'.cell? ⟨g, o + j * 2, none⟩ = some (.int .i64 (qa : Int)) ∧ w'.cell? ⟨g, o + j * 2 + 1, none⟩ = some (.slice sa ql.length sc)) (go_keep)
                (first
                  | (go_at_call 44; refine HPU2.out.mono ?_; rintro e w5 ⟨v5, rfl, hb⟩; have HB5 := Lib.hid (HBD.out.trans (hb.mono HBD.out.size)); have q0 := (hb.cell (p := ⟨g, o + j * 2, none⟩) HGL.out).trans f0'; have q1 := (hb.cell (p := ⟨g, o + j * 2 + 1, none⟩) HGL.out).trans f1'; clear hb))
              go_wp2
              exact bodyPost_ret (v := .tuple #[.slice none 0 0, .int .i64 (k : Nat), .int .i64 (0 : Nat), .int .i64 (4 : Nat)]) (by simp [results, Tryd.results33, go_sem]) rfl (RMergeP.bad HN.out (Nat.succ_ne_zero 3) (HB3.out.trans (HB5.out.mono HB3.out.size)))
          · have hend : R.drop j = [] := List.drop_eq_nil_of_le (by omega)
            rw [hend] at HPF
            have HN : Hid (mergeF 0 emptyI (l.map (·.data.toList)) = mergeF (k + 1) S' ((l.map (·.data.toList)).drop (k + 1))) := by
              show _ = _
              rw [HRN2.out, HPF.out]
              show (if (0 : Nat) ≠ 0 then _ else _) = _
              rw [if_neg (by decide)]; rfl
            clear hend
            go_wp2
            go_roundw
            case rel => exact ⟨k + 1, S', by omega, by go_num, HCV4.out, HBW.out, HN.out⟩
            case measure => simp [intOf]; omega
      · have HRD : Hid (∀ W, Calls Tryd.prog 70 #[.string s] W fun e w' => ∃ v', e = .returned (.tuple #[v', .int .i64 (readH s.data.toList).1.1, .int .i64 (readH s.data.toList).1.2]) ∧ Below W.heap.size W w') := fun W =>
          (Read05_any s W hsz).mono fun e w' ⟨v', h1, _, _, h4⟩ => ⟨v', h1, h4⟩
        have HN : Hid (mergeF 0 emptyI (l.map (·.data.toList)) = ((k, (readH s.data.toList).1.1, (readH s.data.toList).1.2), S)) := by
          show _ = _
          rw [HRN.out, mergeF, if_pos hr]
        have HR := Lib.hid hr
        have hne : (((readH s.data.toList).1.2 : Int) != 0) = true := by rw [bne_iff_ne]; omega
        clear hr hsz HRN
        generalize (readH s.data.toList).1.1 = ln at *
        generalize (readH s.data.toList).1.2 = cd at *
        go_wp2_with (go_at_call 70; refine (HRD.out _).mono ?_; rintro e w2 ⟨v2, rfl, hb⟩; have HB2 := Lib.hid (HB.out.trans (hb.mono HB.out.size)); clear hb)
        exact bodyPost_ret (v := .tuple #[.slice none 0 0, .int .i64 (k : Nat), .int .i64 (ln : Nat), .int .i64 (cd : Nat)]) (by simp [results, Tryd.results33, go_sem]) rfl (RMergeP.bad HN.out HR.out HB2.out)
    · obtain rfl : k = l.length := by omega
      have hend : (l.map (·.data.toList)).drop l.length = [] := List.drop_eq_nil_of_le (by simp)
      rw [hend] at HRN
      have HN : Hid (mergeF 0 emptyI (l.map (·.data.toList)) = ((0, 0, 0), S)) := HRN.out
      clear hend
      go_wp2
      exact bodyPost_ret (v := .tuple #[.slice ca (cellsOf S.1 S.2).length cc, .int .i64 0, .int .i64 0, .int .i64 0]) (by simp [results, Tryd.results33, go_sem]) rfl ⟨_, by rw [HN.out]; rfl, fun _ => by rw [HN.out]; exact HCV.out, HB.out⟩
end Go.Proofs.YtcfjcoockklkeaaDoor
