/-
  hexread.Merge. Conditions: the texts' sizes; the library's table as its initialiser lays it.
-/
import Derived.Test.YtcfjcoockklkeaaDoorV21
namespace Go.Proofs.YtcfjcoockklkeaaDoor
open Go.RowKit

/-- runs put one after the other, as far as they can be -/
def putsF : ImgS → List (Nat × List UInt8) → Nat × ImgS
  | S, [] => (0, S)
  | S, r :: R => if putCode S.1 r.1 r.2.length = 0 then putsF (imgPut S.1 S.2 r.1 r.2) R else (4, S)
theorem putsF_good {S : ImgS} {r : Nat × List UInt8} {R : List (Nat × List UInt8)} (h : putCode S.1 r.1 r.2.length = 0) : putsF S (r :: R) = putsF (imgPut S.1 S.2 r.1 r.2) R := by rw [putsF, if_pos h]
theorem putsF_bad {S : ImgS} {r : Nat × List UInt8} {R : List (Nat × List UInt8)} (h : putCode S.1 r.1 r.2.length ≠ 0) : putsF S (r :: R) = (4, S) := by rw [putsF, if_neg h]
theorem putCode_04 {d : Nat → Bool} {a n : Nat} (hn : 0 < n) (h : a + n ≤ 65536) (hc : putCode d a n ≠ 0) : putCode d a n = 4 := by
  unfold putCode at hc ⊢
  rw [if_neg (by omega), if_neg (by omega)] at hc ⊢
  split at hc
  · rename_i h2
    rw [if_pos h2]
  · exact absurd rfl hc
/-- the texts' images together: the index, the line and the code of the fault -/
def mergeF : Nat → ImgS → List (List UInt8) → (Nat × Nat × Nat) × ImgS
  | _, S, [] => ((0, 0, 0), S)
  | i, S, t :: r => if (readH t).1.2 ≠ 0 then ((i, (readH t).1.1, (readH t).1.2), S) else if (putsF S (runsOf (readH t).2.1.1 (readH t).2.1.2)).1 ≠ 0 then ((i, 0, 4), S) else mergeF (i + 1) (putsF S (runsOf (readH t).2.1.1 (readH t).2.1.2)).2 r
def emptyI : ImgS := (fun _ => false, fun _ => 0)
/-- the image that is put together -/
structure MrI (w0 w : World) (ab fb : Nat) (S : ImgS) : Prop where
  img : ImgC w ab S.1 S.2 (cellsOf S.1 S.2).length
  flt : Blk w fb 54 #[.int .i64 0, .int .i64 0]
  ne : fb < ab
  at_ : w0.heap.size ≤ fb
  below : Below w0.heap.size w0 w
theorem MrI.later {w0 w w' : World} {ab fb : Nat} {S : ImgS} (h : MrI w0 w ab fb S) (hb : Below w.heap.size w w') : MrI w0 w' ab fb S :=
  ⟨h.img.below hb h.img.lt, h.flt.below hb h.flt.lt, h.ne, h.at_, h.below.trans (hb.mono h.below.size)⟩
theorem MrI.put {w0 w w' : World} {ab fb : Nat} {S : ImgS} {a : Int} {l : List UInt8} (h : MrI w0 w ab fb S) (hc : putCode S.1 a l.length = 0) (hp : Put w' ab (cellsOf S.1 S.2).length S.1 S.2 a l) (hg : w.grownBy w' (some ab)) : MrI w0 w' ab fb (imgPut S.1 S.2 a l) := by
  refine ⟨?_, h.flt.grown hg (fun e => by injection e with e; have := h.ne; omega), h.ne, h.at_, h.below.grown hg h.below.size (fun g e => by injection e with e; have := h.at_; have := h.ne; omega)⟩
  rw [put_len hc]
  unfold Put at hp
  unfold imgPut
  rw [if_pos hc] at hp ⊢
  exact hp
theorem MrI.stay {w0 w w' : World} {ab fb : Nat} {S : ImgS} {a : Int} {l : List UInt8} (h : MrI w0 w ab fb S) (hc : putCode S.1 a l.length ≠ 0) (hp : Put w' ab (cellsOf S.1 S.2).length S.1 S.2 a l) (hg : w.grownBy w' (some ab)) : MrI w0 w' ab fb S := by
  refine ⟨?_, h.flt.grown hg (fun e => by injection e with e; have := h.ne; omega), h.ne, h.at_, h.below.grown hg h.below.size (fun g e => by injection e with e; have := h.at_; have := h.ne; omega)⟩
  unfold Put at hp
  rw [if_neg hc] at hp
  exact hp
/-- the answer -/
def MergeP (w : World) (L : List (List UInt8)) (e : Ending) (w' : World) : Prop :=
  (((mergeF 0 emptyI L).1.2.2 = 0 ∧ ∃ ab, e = .returned (.tuple #[.pointer (some ⟨ab, 0, none⟩), .int .i64 0, .agg #[.int .i64 0, .int .i64 0]]) ∧ ImgC w' ab (mergeF 0 emptyI L).2.1 (mergeF 0 emptyI L).2.2 (cellsOf (mergeF 0 emptyI L).2.1 (mergeF 0 emptyI L).2.2).length) ∨
    ((mergeF 0 emptyI L).1.2.2 ≠ 0 ∧ e = .returned (.tuple #[.pointer none, .int .i64 (mergeF 0 emptyI L).1.1, .agg #[.int .i64 (mergeF 0 emptyI L).1.2.1, .int .i64 (mergeF 0 emptyI L).1.2.2]]))) ∧ Below w.heap.size w w'
theorem MergeP.bad {w w' : World} {L : List (List UInt8)} {i ln c : Nat} {S : ImgS} (h : mergeF 0 emptyI L = ((i, ln, c), S)) (hc : c ≠ 0) (hb : Below w.heap.size w w') : MergeP w L (.returned (.tuple #[.pointer none, .int .i64 i, .agg #[.int .i64 ln, .int .i64 c]])) w' :=
  ⟨.inr ⟨by rw [h]; exact hc, by rw [h]⟩, hb⟩
set_option maxHeartbeats 8000000 in
set_option maxRecDepth 100000 in
theorem Merge_any (p : Blocks) (v : Value) (l : List ByteArray) (w : World) (h : SlR strR w p v l) (hl : l.length ≤ 1000) (hs : ∀ s ∈ l, s.size ≤ 1000000000) (hT : Deb w) :
    Calls Tryd.prog 32 #[v] w (MergeP w (l.map (·.data.toList))) := by
  have hb0 : Below w.heap.size w (w.alloc (.cells #[.int .i64 0, .int .i64 0] 54)) := (Below.refl _ w).alloc (Nat.le_refl _) _
  have HB0 := Lib.hid hb0
  have HK0 := Lib.hid (Blk.new w 54 #[.int .i64 0, .int .i64 0])
  obtain ⟨va, vc, rfl, _⟩ := h.str
  have HV := Lib.hid h
  have HSZ := Lib.hid hs
  have HT := Lib.hid hT
  have hl1 : (l.length : Int) ≤ 1000 := by omega
  clear h hl hs hT hb0
  go_enter Tryd.func32, Tryd.ntmps32
  go_wp2_with (go_at_call 26; refine (New_any _).mono ?_; rintro e w1 ⟨rfl, hi, hb⟩; have HM1 : Hid (MrI w w1 (w.heap.size + 1) w.heap.size emptyI) := ⟨by rw [World.size_alloc] at hi; show ImgC _ _ _ _ (cellsOf (fun _ => false) (fun _ => 0)).length; rw [cellsOf_none]; exact hi, HK0.out.below hb HK0.out.lt, Nat.lt_succ_self _, Nat.le_refl _, HB0.out.trans (hb.mono HB0.out.size)⟩; clear hi hb)
  clear HB0 HK0
  go_loopw [16] (fun i wr => ∃ (k : Nat) (S : ImgS), k ≤ l.length ∧ i = .int .i64 k ∧ MrI w wr (w.heap.size + 1) w.heap.size S ∧ mergeF 0 emptyI (l.map (·.data.toList)) = mergeF k S ((l.map (·.data.toList)).drop k)) (fun i _ => l.length - (intOf i).toNat)
  case atStart => exact ⟨0, emptyI, Nat.zero_le _, rfl, HM1.out, rfl⟩
  case round =>
    clear HM1
    obtain ⟨k, S, hk, rfl, hm, hrun⟩ := hrel
    obtain ⟨wo, rfl⟩ : ∃ wo : World, wo = wr := ⟨_, rfl⟩
    have HM := Lib.hid hm
    have HRN := Lib.hid hrun
    clear hm hrun
    by_cases hlt : k < l.length
    · have hdr : (l.map (·.data.toList)).drop k = l[k].data.toList :: (l.map (·.data.toList)).drop (k + 1) := by
        rw [List.drop_eq_getElem_cons (by simpa using hlt)]
        simp
      rw [hdr] at HRN
      have hsz := HSZ.out l[k] (List.getElem_mem hlt)
      obtain ⟨aa, ac, ev, _, _, g⟩ := (HV.out.old.below HM.out.below).str
      obtain ⟨b1, o1, ea, _, d0⟩ := g k l[k] (List.getElem?_eq_getElem hlt)
      obtain rfl : va = aa := by injection ev
      subst ea
      clear ev g hdr
      generalize l[k] = s at *
      by_cases hr : (readH s.data.toList).1.2 = 0
      · have HRD := Lib.hid (fun W hD => Read_good s W hsz hD hr)
        have HRN2 : Hid (mergeF 0 emptyI (l.map (·.data.toList)) = if (putsF S (runsOf (readH s.data.toList).2.1.1 (readH s.data.toList).2.1.2)).1 ≠ 0 then ((k, 0, 4), S) else mergeF (k + 1) (putsF S (runsOf (readH s.data.toList).2.1.1 (readH s.data.toList).2.1.2)).2 ((l.map (·.data.toList)).drop (k + 1))) := by
          show _ = _
          rw [HRN.out, mergeF, if_neg (by rw [hr]; exact fun h => h rfl)]
        clear hr hsz HRN
        generalize (readH s.data.toList).2.1 = T at *
        have hRl := runs_len T.1 T.2
        have HSEP := Lib.hid (sep_le (runs_sep T.1 T.2))
        have HRV := Lib.hid (fun (ib : Nat) (W : World) (hi : ImgC W ib T.1 T.2 (cellsOf T.1 T.2).length) (hD : Deb W) => Runs_any ib _ _ _ W hi hD)
        generalize runsOf T.1 T.2 = R at *
        have hRl1 : (R.length : Int) ≤ 65536 := by omega
        go_wp2_with (first
          | (go_at_call 36; refine (HRD.out _ (HT.out.below HM.out.below)).mono ?_; rintro e w2 ⟨ib, rfl, _, hi, hb⟩; have hal := (Below.refl w2.heap.size w2).alloc (Nat.le_refl _) (.cells #[.int .i64 0, .int .i64 0] 54); have HM2 := Lib.hid ((HM.out.later hb).later hal); have HI2 := Lib.hid (hi.below hal hi.lt); clear hi hb hal)
          | (go_at_call 47; refine (HRV.out _ _ HI2.out (HT.out.below HM2.out.below)).mono ?_; rintro e w3 ⟨v3, rfl, ho, hb⟩; have HM3 := Lib.hid (HM2.out.later hb); have hab := HM2.out.img.lt; have HO3 : Hid (SlR runR w3 (fun g => w.heap.size + 1 < g) v3 R) := ho.slR.mono fun g hg => Nat.lt_of_lt_of_le hab hg.1; obtain ⟨ra, rc, rfl⟩ := ho.form; clear ho hb hab))
        go_loopw [33] (fun i wr => ∃ (j : Nat) (S' : ImgS), j ≤ R.length ∧ i = .int .i64 j ∧ MrI w wr (w.heap.size + 1) w.heap.size S' ∧ SlR runR wr (fun g => w.heap.size + 1 < g) (.slice ra R.length rc) R ∧ putsF S R = putsF S' (R.drop j)) (fun i _ => R.length - (intOf i).toNat)
        case atStart => exact ⟨0, S, Nat.zero_le _, rfl, HM3.out, HO3.out, rfl⟩
        case round =>
          clear HM3 HO3
          obtain ⟨j, S', hj, rfl, hm, hsl, hput⟩ := hrel
          have HM4 := Lib.hid hm
          have HS4 := Lib.hid hsl
          have HPF := Lib.hid hput
          clear hm hsl hput
          by_cases hjl : j < R.length
          · have hdr : R.drop j = R[j] :: R.drop (j + 1) := List.drop_eq_getElem_cons hjl
            rw [hdr] at HPF
            obtain ⟨b2, o2, sa, sc, rfl, t0, t1, s1⟩ := ref_at HS4.out (List.getElem?_eq_getElem hjl)
            have hse := HSEP.out R[j] (List.getElem_mem hjl)
            clear hdr
            generalize R[j] = r at *
            obtain ⟨qa, ql⟩ := r
            have hq1 : 0 < ql.length := List.length_pos_iff.2 hse.2
            have hq2 : qa + ql.length ≤ 65536 := hse.1
            have hal := (Below.refl wr.heap.size wr).alloc (Nat.le_refl _) (.cells #[.int .i64 (qa : Int), .slice sa ql.length sc] 79)
            have HMA := Lib.hid (HM4.out.later hal)
            have HPU := Lib.hid (Put_any (w.heap.size + 1) _ (qa : Int) _ _ _ _ ql _ HMA.out.img (by have := cellsOf_len S'.1 S'.2; omega) (s1.alloc (.cells #[.int .i64 (qa : Int), .slice sa ql.length sc] 79)) (HT.out.below HMA.out.below) (by omega) (by omega) (by omega))
            have HSA := Lib.hid (HS4.out.alloc (.cells #[.int .i64 (qa : Int), .slice sa ql.length sc] 79))
            have hqa : (qa : Int) ≤ 65535 := by omega
            clear s1 hal hse
            by_cases hc : putCode S'.1 qa ql.length = 0
            · rw [hc] at HPU
              have HPG : Hid (putsF S R = putsF (imgPut S'.1 S'.2 qa ql) (R.drop (j + 1))) := by show _ = _; rw [HPF.out]; exact putsF_good hc
              have HC := Lib.hid hc
              clear hc hq1 hq2
              go_wp2_with (go_at_call 28; refine HPU.out.mono ?_; rintro e w5 ⟨rfl, hp, hg⟩; have HM5 := Lib.hid (HMA.out.put HC.out hp hg); have HS5 : Hid (SlR runR w5 (fun g => w.heap.size + 1 < g) (.slice (some ⟨b2, o2, none⟩) R.length rc) R) := (HSA.out.old.keep (Keep.grown hg fun g hq => ⟨hq.2, fun e => by injection e with e; have := hq.1; omega⟩)).mono fun _ hq => hq.1; clear hp hg)
              go_roundw
              case rel => exact ⟨j + 1, _, by omega, by go_num, HM5.out, HS5.out, HPG.out⟩
              case measure => simp [intOf]; omega
            · have h4 := putCode_04 hq1 hq2 hc
              have HN : Hid (mergeF 0 emptyI (l.map (·.data.toList)) = ((k, 0, 4), S)) := by
                show _ = _
                rw [HRN2.out, HPF.out, putsF_bad hc, if_pos (show (4 : Nat) ≠ 0 from Nat.succ_ne_zero 3)]
              have HC := Lib.hid hc
              rw [h4] at HPU
              clear hc hq1 hq2 h4
              go_wp2_with (go_at_call 28; refine HPU.out.mono ?_; rintro e w5 ⟨rfl, hp, hg⟩; have HM5 := Lib.hid (HMA.out.stay HC.out hp hg); obtain ⟨z0, z1, y0, y1⟩ := HM5.out.flt.two; clear hp hg)
              exact bodyPost_ret (v := .tuple #[.pointer none, .int .i64 (k : Nat), .agg #[.int .i64 0, .int .i64 4]]) (by simp [results, Tryd.results32, go_sem, z0, z1]) rfl (MergeP.bad (i := k) (ln := 0) (c := 4) HN.out (Nat.succ_ne_zero 3) ((HM5.out.below.setCell (Nat.le_refl _) _).setCell (Nat.le_refl _) _))
          · have hend : R.drop j = [] := List.drop_eq_nil_of_le (by omega)
            rw [hend] at HPF
            have HN : Hid (mergeF 0 emptyI (l.map (·.data.toList)) = mergeF (k + 1) S' ((l.map (·.data.toList)).drop (k + 1))) := by
              show _ = _
              rw [HRN2.out, HPF.out]
              show (if (0 : Nat) ≠ 0 then _ else _) = _
              rw [if_neg (by decide)]; rfl
            clear hend
            go_wp2
            go_roundw
            case rel => exact ⟨k + 1, S', by omega, by go_num, HM4.out, HN.out⟩
            case measure => simp [intOf]; omega
      · have HRD := Lib.hid (fun W hD => Read_bad s W hsz hD hr)
        have HN : Hid (mergeF 0 emptyI (l.map (·.data.toList)) = ((k, (readH s.data.toList).1.1, (readH s.data.toList).1.2), S)) := by
          show _ = _
          rw [HRN.out, mergeF, if_pos hr]
        have HR := Lib.hid hr
        clear hr hsz HRN
        generalize (readH s.data.toList).1.1 = ln at *
        generalize (readH s.data.toList).1.2 = cd at *
        go_upto_region 7 with (go_at_call 36; refine (HRD.out _ (HT.out.below HM.out.below)).mono ?_; rintro e w2 ⟨rfl, hb⟩; have hal := (Below.refl w2.heap.size w2).alloc (Nat.le_refl _) (.cells #[.int .i64 (ln : Int), .int .i64 (cd : Int)] 54); have HM2 := Lib.hid ((HM.out.later hb).later hal); have hfl : w.heap.size < w2.heap.size := Nat.lt_of_lt_of_le HM.out.flt.lt hb.size; clear hb hal)
        obtain ⟨z0, z1, y0, y1⟩ := HM2.out.flt.two
        have hne1 : ¬ w.heap.size = w2.heap.size := Nat.ne_of_lt hfl
        have hne2 : ¬ w2.heap.size = w.heap.size := fun e => hne1 e.symm
        obtain ⟨t0, t1, _, _⟩ := (Blk.new w2 54 #[.int .i64 (ln : Int), .int .i64 (cd : Int)]).two
        generalize w2.alloc (.cells #[.int .i64 (ln : Int), .int .i64 (cd : Int)] 54) = wA at *
        generalize w2.heap.size = tb at *
        go_region_held3 (fun w' => w'.cell? ⟨tb, 0, none⟩ = some (.int .i64 (ln : Int)) ∧ w'.cell? ⟨tb, 1, none⟩ = some (.int .i64 (cd : Int))) (go_keep) (fail)
        go_wp2
        exact bodyPost_ret (v := .tuple #[.pointer none, .int .i64 (k : Nat), .agg #[.int .i64 (ln : Nat), .int .i64 (cd : Nat)]]) (by simp [results, Tryd.results32, go_sem, z0, z1]) rfl (MergeP.bad HN.out HR.out (((HM2.out.below.setCell (Nat.le_refl _) _).setCell (Nat.le_refl _) _).drew))
    · obtain rfl : k = l.length := by omega
      have hend : (l.map (·.data.toList)).drop l.length = [] := List.drop_eq_nil_of_le (by simp)
      rw [hend] at HRN
      have HN : Hid (mergeF 0 emptyI (l.map (·.data.toList)) = ((0, 0, 0), S)) := HRN.out
      obtain ⟨z0, z1, y0, y1⟩ := HM.out.flt.two
      clear hend
      go_wp2
      refine bodyPost_ret (v := .tuple #[.pointer (some ⟨w.heap.size + 1, 0, none⟩), .int .i64 0, .agg #[.int .i64 0, .int .i64 0]]) (by simp [results, Tryd.results32, go_sem, z0, z1]) rfl ⟨.inl ⟨by rw [HN.out], w.heap.size + 1, rfl, ?_⟩, (HM.out.below.setCell (Nat.le_refl _) _).setCell (Nat.le_refl _) _⟩
      rw [HN.out]
      exact (HM.out.img.far (p := ⟨w.heap.size, 0, none⟩) (Nat.succ_ne_self _) _).far (p := ⟨w.heap.size, 1, none⟩) (Nat.succ_ne_self _) _
end Go.Proofs.YtcfjcoockklkeaaDoor
