/-
  hexread.Read. Conditions: the text's size; the library's table as its initialiser lays it.
-/
import Derived.Test.YtcfjcoockklkeaaGreatDoorV18
import Derived.Test.YtcfjcoockklkeaaGreatDoorV12
namespace Go.Proofs.YtcfjcoockklkeaaGreatDoor
open Go.RowKit

/-- the reader's answer: an image, or the fault -/
def ReadG (w : World) (l : List UInt8) (e : Ending) (w' : World) : Prop :=
  (((readH l).1.2 = 0 ∧ ∃ ib, e = .returned (.tuple #[.pointer (some ⟨ib, 0, none⟩), .agg #[.int .i64 0, .int .i64 0]]) ∧ w.heap.size ≤ ib ∧ ImgC w' ib (readH l).2.1.1 (readH l).2.1.2 (cellsOf (readH l).2.1.1 (readH l).2.1.2).length) ∨
    ((readH l).1.2 ≠ 0 ∧ e = .returned (.tuple #[.pointer none, .agg #[.int .i64 (readH l).1.1, .int .i64 (readH l).1.2]]))) ∧ Below w.heap.size w w'
theorem ReadG.bad {w w' : World} {l : List UInt8} {i c : Nat} {st : ImgS × Bool} (h : readH l = ((i, c), st)) (hc : c ≠ 0) (hb : Below w.heap.size w w') : ReadG w l (.returned (.tuple #[.pointer none, .agg #[.int .i64 i, .int .i64 c]])) w' :=
  ⟨.inr ⟨by rw [h]; exact hc, by rw [h]⟩, hb⟩
theorem runH_code {i : Nat} {st : ImgS × Bool} {s : List UInt8} {r : List (List UInt8)} (hc : (stepH st s).1 ≠ 0) : runH i st (s :: r) = ((i + 1, (stepH st s).1), st) := runH_bad rfl hc
theorem runH_next {i : Nat} {st : ImgS × Bool} {s : List UInt8} {r : List (List UInt8)} (hc : (stepH st s).1 = 0) : runH i st (s :: r) = runH (i + 1) (stepH st s).2 r := by rw [runH, if_pos hc]
theorem ImgC.far {w : World} {b n : Nat} {d : Nat → Bool} {v : Nat → UInt8} (h : ImgC w b d v n) {p : Addr} (hp : b ≠ p.block) (u : Value) : ImgC (w.setCell p u) b d v n := by
  have hb := Below.heap_setCell w p u b hp
  refine ⟨fun i hx => ?_, ?_, fun a ha => ?_, fun o => ?_⟩
  · have := h.words i hx; unfold World.cell? at this ⊢; rw [hb]; exact this
  · have := h.count; unfold World.cell? at this ⊢; rw [hb]; exact this
  · have := h.bytes a ha; unfold World.cell? at this ⊢; rw [hb]; exact this
  · have := h.free o; unfold World.frozen? at this ⊢; rw [hb]; exact this
set_option maxHeartbeats 4000000 in
set_option maxRecDepth 100000 in
theorem Read_any (s : ByteArray) (w : World) (hs : s.size ≤ 1000000000) (hT : Deb w) :
    Calls Tryz.prog 6 #[.string s] w (ReadG w s.data.toList) := by
  have hb0 : Below w.heap.size w (w.alloc (.cells #[.int .i64 0, .int .i64 0] 26)) := (Below.refl _ w).alloc (Nat.le_refl _) _
  have HB0 := Lib.hid hb0
  have HK0 := Lib.hid (Blk.new w 26 #[.int .i64 0, .int .i64 0])
  have HSP := Lib.hid (fun W => Split10 s W (by omega))
  have hsz : s.data.toList.length ≤ 1000000000 := by simpa using hs
  have HLN := Lib.hid (fun x hx => Nat.le_trans (splitNL_len s.data.toList x hx) hsz)
  have HCN : Hid ((splitNL s.data.toList).length ≤ 1000000001) := Nat.le_trans (splitNL_cnt _) (by omega)
  have HRD : Hid (readH s.data.toList = runH 0 emptyS (splitNL s.data.toList)) := Lib.hid rfl
  have HT := Lib.hid hT
  clear hs hsz hT hb0
  generalize s.data.toList = txt at *
  generalize splitNL txt = L at *
  go_enter Tryz.func6, Tryz.ntmps6
  go_wp2_with (first
    | (go_at_call 20; refine (New_any _).mono ?_; rintro e w1 ⟨rfl, hi, hb⟩; have HI1 := Lib.hid hi; have HB1 := Lib.hid hb; have HK1 := Lib.hid (HK0.out.below hb HK0.out.lt); clear hi hb)
    | (go_at_call 15; refine (HSP.out _).mono ?_; rintro e w2 ⟨ys, hm, rfl, hw2⟩; have HM := Lib.hid hm; have HW2 := Lib.hid hw2; clear hm hw2))
  have hib : w.heap.size + 1 < w1.heap.size := by have := HI1.out.lt; rw [World.size_alloc] at this; exact this
  have hi1 : ImgC w1 (w.heap.size + 1) (fun _ => false) (fun _ => 0) 0 := by have := HI1.out; rw [World.size_alloc] at this; exact this
  have hbw1 : Below w.heap.size w w1 := HB0.out.trans (HB1.out.mono HB0.out.size)
  have hbw2 : Below w1.heap.size w1 w2 := by rw [HW2.out]; exact ((Below.refl _ w1).alloc (Nat.le_refl _) _).alloc (by rw [World.size_alloc]; exact Nat.le_succ _) _
  have HST0 : Hid (RdS w w2 w1.heap.size (w.heap.size + 1) emptyS.1 emptyS.2 0) := by
    refine ⟨?_, hi1.below hbw2 (by omega), Nat.le_succ _, hib, hbw1.trans (hbw2.mono hbw1.size), ?_⟩
    · rw [HW2.out]
      exact (Blk.new w1 _ _).alloc _
    · show 0 = (cellsOf (fun _ => false) (fun _ => 0)).length
      rw [cellsOf_none]; rfl
  have HK2 : Hid (Blk w2 w.heap.size 26 #[.int .i64 0, .int .i64 0]) := HK1.out.below hbw2 (by omega)
  have HYL : Hid (ys.length = L.length) := by show _ = _; rw [← HM.out, List.length_map]
  have HSL : Hid (SlR strR w2 (fun k => k = w1.heap.size + 1) (.slice (some ⟨w1.heap.size + 1, 0, none⟩) ys.length ys.length) ys) := by
    show SlR _ _ _ _ _
    rw [HW2.out]
    exact slR_strs _ _ _ ys _ (by rw [World.size_alloc]) rfl (by unfold maxLen; have := HYL.out; have := HCN.out; omega)
  have HIB := Lib.hid hib
  have hyl : (ys.length : Int) ≤ 1000000001 := by have := HYL.out; have := HCN.out; omega
  clear hib hi1 hbw1 hbw2 HB0 HK0 HI1 HB1 HK1 HW2 HSP
  generalize w1.heap.size = rb at *
  go_loopw [14] (fun i wr => ∃ (k n : Nat) (st : ImgS × Bool), k ≤ ys.length ∧ i = .int .i64 k ∧ RdS w wr rb (w.heap.size + 1) st.1 st.2 n ∧ Blk wr w.heap.size 26 #[.int .i64 0, .int .i64 0] ∧ SlR strR wr (fun k => k = rb + 1) (.slice (some ⟨rb + 1, 0, none⟩) ys.length ys.length) ys ∧ readH txt = runH k st (L.drop k)) (fun i _ => ys.length - (intOf i).toNat)
  case atStart => exact ⟨0, 0, emptyS, Nat.zero_le _, rfl, HST0.out, HK2.out, HSL.out, HRD.out⟩
  case round =>
    clear HST0 HK2 HSL
    obtain ⟨k, n, st, hk, rfl, hst, hkf, hsl, hrun⟩ := hrel
    have HST := Lib.hid hst
    have HKF := Lib.hid hkf
    have HSL := Lib.hid hsl
    have HRN := Lib.hid hrun
    have hk9 : (k : Int) ≤ 1000000001 := by omega
    clear hst hkf hsl hrun
    by_cases hlt : k < ys.length
    · have hkl : k < L.length := by have := HYL.out; omega
      have hx : ys[k].data.toList = L[k] := by
        have h1 : (ys.map (·.data.toList))[k]? = L[k]? := by rw [HM.out]
        rw [List.getElem?_map, List.getElem?_eq_getElem hlt, List.getElem?_eq_getElem hkl] at h1
        injection h1
      have hxl := HLN.out L[k] (List.getElem_mem hkl)
      have hdr : L.drop k = L[k] :: L.drop (k + 1) := List.drop_eq_getElem_cons hkl
      rw [hdr] at HRN
      have e0 := (str_cell HSL.out (List.getElem?_eq_getElem hlt)).1
      rw [Nat.zero_add] at e0
      have hysz : ys[k].size ≤ 1000000000 := by
        have : ys[k].data.toList.length = ys[k].size := by simp
        rw [hx] at this
        omega
      have HLI := Lib.hid (line_any w rb (w.heap.size + 1) n st ys[k] wr HST.out hysz (HT.out.below HST.out.below) (by rw [HST.out.cnt]; have := cellsOf_len st.1.1 st.1.2; omega))
      rw [hx] at HLI
      have HNX := Lib.hid (runH_next (i := k) (st := st) (s := L[k]) (r := L.drop (k + 1)))
      have HBD := Lib.hid (runH_code (i := k) (st := st) (s := L[k]) (r := L.drop (k + 1)))
      clear hdr hx hysz hxl
      generalize L[k] = x at *
      generalize ys[k] = yk at *
      have HLI2 : Hid (Calls Tryz.prog 21 #[.pointer (some ⟨rb, 0, none⟩), .string yk] wr fun e w' => e = .returned (.int .i64 ((stepH st x).1 : Nat)) ∧ (∃ n', n' ≤ n + 255 ∧ RdS w w' rb (w.heap.size + 1) (stepH st x).2.1 (stepH st x).2.2 n') ∧ KeptRd wr w' (w.heap.size + 1) rb) := HLI.out
      clear HLI
      generalize stepH st x = res at *
      obtain ⟨c, st'⟩ := res
      by_cases hc : c = 0
      · subst hc
        have HN : Hid (readH txt = runH (k + 1) st' (L.drop (k + 1))) := by show _ = _; rw [HRN.out]; exact HNX.out rfl
        go_wp2_with (go_at_call 21; refine HLI2.out.mono ?_; rintro e w7 ⟨rfl, ⟨n', _, hr⟩, hkp⟩; have HR7 := Lib.hid hr; have HKP := Lib.hid hkp; clear hr hkp)
        go_roundw
        case rel =>
          refine ⟨k + 1, n', st', by omega, by go_num, HR7.out, ?_, ?_, HN.out⟩
          · exact (HKP.out.2 w.heap.size HKF.out.lt (by omega) (by have := HIB.out; omega)).trans HKF.out
          · exact (HSL.out.old.keep (fun j hj => HKP.out.2 j hj.2 (by have := HIB.out; omega) (by omega))).mono fun _ hj => hj.1
        case measure => simp [intOf]; omega
      · have HN : Hid (readH txt = ((k + 1, c), st)) := by show _ = _; rw [HRN.out]; exact HBD.out hc
        have hne : ((c : Int) != 0) = true := by rw [bne_iff_ne]; omega
        have HC := Lib.hid hc
        clear hc
        go_wp2_with (go_at_call 21; refine HLI2.out.mono ?_; rintro e w7 ⟨rfl, ⟨n', _, hr⟩, hkp⟩; have HR7 := Lib.hid hr; have hkf7 : Blk w7 w.heap.size 26 #[.int .i64 0, .int .i64 0] := (hkp.2 w.heap.size HKF.out.lt (by omega) (by have := HIB.out; omega)).trans HKF.out; obtain ⟨z0, z1, y0, y1⟩ := hkf7.two; clear hr hkp hkf7)
        exact bodyPost_ret (v := .tuple #[.pointer none, .agg #[.int .i64 (k + 1 : Nat), .int .i64 (c : Nat)]]) (by simp [results, Tryz.results6, go_sem, z0, z1]) rfl (ReadG.bad HN.out HC.out ((HR7.out.below.setCell (Nat.le_refl _) _).setCell (Nat.le_refl _) _))
    · obtain rfl : k = ys.length := by omega
      have hend : L.drop ys.length = [] := List.drop_eq_nil_of_le (by rw [HYL.out]; exact Nat.le_refl _)
      rw [hend] at HRN
      obtain ⟨S, en⟩ := st
      obtain ⟨d0, d1, _, _⟩ := HST.out.blk.two
      obtain ⟨z0, z1, y0, y1⟩ := HKF.out.two
      have hbw := HST.out.below
      have HBW := Lib.hid hbw
      clear hend hbw
      cases en with
      | true =>
        have HN : Hid (readH txt = ((0, 0), (S, true))) := HRN.out
        have HIM : Hid (ImgC wr (w.heap.size + 1) S.1 S.2 (cellsOf S.1 S.2).length) := by have := HST.out.img; rw [HST.out.cnt] at this; exact this
        go_wp2
        refine bodyPost_ret (v := .tuple #[.pointer (some ⟨w.heap.size + 1, 0, none⟩), .agg #[.int .i64 0, .int .i64 0]]) (by simp [results, Tryz.results6, go_sem, z0, z1]) rfl ⟨.inl ⟨by rw [HN.out], w.heap.size + 1, rfl, Nat.le_succ _, ?_⟩, (HBW.out.setCell (Nat.le_refl _) _).setCell (Nat.le_refl _) _⟩
        rw [HN.out]
        exact (HIM.out.far (p := ⟨w.heap.size, 0, none⟩) (Nat.succ_ne_self _) _).far (p := ⟨w.heap.size, 1, none⟩) (Nat.succ_ne_self _) _
      | false =>
        have HN : Hid (readH txt = ((0, 8), (S, false))) := HRN.out
        go_wp2
        exact bodyPost_ret (v := .tuple #[.pointer none, .agg #[.int .i64 0, .int .i64 8]]) (by simp [results, Tryz.results6, go_sem, z0, z1]) rfl (ReadG.bad (i := 0) (c := 8) HN.out (by omega) ((HBW.out.setCell (Nat.le_refl _) _).setCell (Nat.le_refl _) _))
end Go.Proofs.YtcfjcoockklkeaaGreatDoor
