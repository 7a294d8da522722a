/-
  breadboardlaw05.HexreadOrder, walked. Conditions: the addresses fit their type; the library's table as its initialiser lays it.
-/
import Derived.Test.YtcfjcoockklkeaaGreatDoorV44
namespace Go.Proofs.YtcfjcoockklkeaaGreatDoor
open Go.RowKit Go.Sort

theorem RevO {w : World} {lb : Nat} {S : ImgS} {LS : List ByteArray} (h : Blk w lb 9 (LS.map Value.string).toArray) (he : LS.map (·.data.toList) = linesOf 16 (runsOf S.1 S.2) ++ [[]]) (hl : LS.length = (turned S).length) (m : Nat) (hm : (turned S).length = m + 2) (hl2 : (turned S).length ≤ 1000000) (k c : Nat) (w2 : World) (hb : Below lb w2 w) :
    Calls Tryz.prog 16 #[.slice (some ⟨lb, 0, none⟩) m c] w fun e w' => e = .returned (.tuple #[]) ∧ ∃ cur, OrdI w2 lb (turned S) k 0 cur w' ∧ w'.heap.size = w.heap.size :=
  (Rev_any lb m c LS w h (by omega) (by omega)).mono fun e w' ⟨h1, h2, h3, h4⟩ => by
    refine ⟨h1, _, ⟨h2, ?_, hb.trans h3⟩, h4⟩
    rw [List.take_zero, List.drop_zero]
    show _ = messF k 0 [] ++ _
    rw [messF, List.nil_append, List.map_append, List.map_reverse, List.map_take, List.map_drop, he]
    have hr : (recs 16 (runsOf S.1 S.2)).length = m := by have := turned_len S; omega
    rw [← hr]
    exact turned_of rfl
set_option maxHeartbeats 8000000 in
set_option maxRecDepth 100000 in
theorem Order_yes (p : Blocks) (v : Value) (R : List (Int × List UInt8)) (z : Nat) (hz : z ≤ 255) (w : World) (h : SlR runIR w p v R) (hT : Deb w) (hA : ∀ r ∈ R, -9223372036854775808 ≤ r.1 ∧ r.1 ≤ 9223372036854775807) (hf : fewB R = true) :
    Calls Tryz.prog 4 #[v, .int .u8 z] w fun e w' => e = .returned (.bool true) ∧ Below w.heap.size w w' := by
  have HT := Lib.hid hT
  have HBU := Lib.hid (Build_yes p v R w h hT hA hf)
  clear h hT hA hf
  generalize putF R = S at *
  have HW4 := Lib.hid (fun (b n : Nat) (cv : Value) (W : World) (h : Both w W b cv S n) => h.write04)
  have HSP := Lib.hid (fun W => SplitO S W)
  obtain ⟨m, hm⟩ : ∃ m, (turned S).length = m + 2 := ⟨_, turned_len S⟩
  have hl2 : (turned S).length ≤ 1000000 := by
    have h1 := turned_len S
    have h2 : (recs 16 (runsOf S.1 S.2)).length ≤ 65536 := by
      rcases recs_count (n := 16) (by omega) (runs_sep S.1 S.2) with h | h
      · rw [h]; simp [recs]
      · omega
    omega
  have HRV := Lib.hid (fun (W : World) (lb : Nat) (LS : List ByteArray) (w2 : World) (h : Blk W lb 9 (LS.map Value.string).toArray) (he : LS.map (·.data.toList) = linesOf 16 (runsOf S.1 S.2) ++ [[]]) (hl : LS.length = (turned S).length) (c : Nat) (hb : Below lb w2 W) => RevO h he hl m hm hl2 z c w2 hb)
  have HJN := Lib.hid (fun (W w2 : World) (lb : Nat) (cur : List ByteArray) (h : OrdI w2 lb (turned S) z (turned S).length cur W) => JoinO h hl2)
  have HRD := Lib.hid (fun (W : World) (hT : Deb W) => ReadO S z W hT)
  have HAS := Lib.hid (turned_asc S)
  have HSH := Lib.hid (turned_short S)
  generalize (⟨(textOf 16 (runsOf S.1 S.2)).toArray⟩ : ByteArray) = t16 at *
  generalize (⟨(Lib.join (messF z 0 (turned S)) [10]).toArray⟩ : ByteArray) = tz at *
  generalize linesOf 16 (runsOf S.1 S.2) ++ [[]] = Lz at *
  generalize turned S = L at *
  have hm1 : (m : Int) ≤ 1000000 := by omega
  have hm0 : (0 : Int) ≤ (m : Int) := by omega
  have hz1 : (z : Int) ≤ 255 := by omega
  have HML := Lib.hid hm
  rw [hm] at HSP HJN
  have hd1 : ((m : Int) + 2 - 2) = (m : Int) := by omega
  have hd2 : decide ((m : Int) < 0) = false := by rw [decide_eq_false_iff_not]; omega
  clear hz hl2
  go_enter Tryz.func4, Tryz.ntmps4
  go_wp2_with (first
    | (go_at_call 13; refine HBU.out.mono ?_; rintro e w1 ⟨b, n, cv, rfl, hbo⟩; have HB1 := Lib.hid hbo; clear hbo)
    | (go_at_call 12; refine (HW4.out _ _ _ _ HB1.out).mono ?_; rintro e w2 ⟨rfl, hb⟩; have HB2 := Lib.hid (HB1.out.later hb); clear hb)
    | (go_at_call 15; refine (HSP.out _).mono ?_; rintro e w3 ⟨LS, he, hl, rfl, rfl⟩; have HLE := Lib.hid he; have HLL := Lib.hid hl; have HBL := Lib.hid (Blk.new w2 9 (LS.map Value.string).toArray); have HBW := Lib.hid (((Below.refl _ w2).alloc (Nat.le_refl _) (.cells (LS.map Value.string).toArray 9))); clear he hl)
    | (go_at_call 16; go_loud (refine (HRV.out _ _ _ _ HBL.out HLE.out (HLL.out.trans HML.out.symm) _ HBW.out).mono ?_; rintro e w4 ⟨rfl, cur, ho, hsz⟩; have HO := Lib.hid ho; have HSZ : Hid (w2.heap.size ≤ w4.heap.size) := by { show _ ≤ _; rw [hsz, World.size_alloc]; omega }; clear ho hsz)))
  clear HBL HLE HLL HRV HSP HBW HBU HW4
  go_loopw [39] (fun i wr => ∃ (j : Nat) (cur : List ByteArray), j ≤ m + 2 ∧ i = .int .i64 j ∧ OrdI w2 w2.heap.size L z j cur wr ∧ w2.heap.size ≤ wr.heap.size) (fun i _ => m + 2 - (intOf i).toNat)
  case atStart => exact ⟨0, cur, Nat.zero_le _, rfl, HO.out, HSZ.out⟩
  case round =>
    clear HO HSZ
    obtain ⟨j, cur2, hj, rfl, ho, hsz⟩ := hrel
    have HO := Lib.hid ho
    have HSZ := Lib.hid hsz
    clear hsz
    by_cases hlt : j < m + 2
    · have hjl : j < L.length := by have := HML.out; omega
      have hcl : cur2.length = m + 2 := ho.len.trans HML.out
      have hx := ho.at_ hjl (by omega)
      have hxs := HSH.out L[j] (List.getElem_mem hjl)
      have hxa := HAS.out L[j] (List.getElem_mem hjl)
      have d0 : wr.cell? ⟨w2.heap.size, j, none⟩ = some (.string (cur2[j]'(by omega))) := by
        have hb : wr.heap[w2.heap.size]? = some (.cells (cur2.map Value.string).toArray 9 (0, 0)) := ho.blk
        unfold World.cell?
        rw [hb]
        show (cur2.map Value.string).toArray[j]? = _
        rw [List.getElem?_toArray, List.getElem?_map, List.getElem?_eq_getElem (by omega)]; rfl
      have hkb := ho.blk
      have hsize : (cur2[j]'(by omega)).size ≤ 300000000 := by rw [← hx] at hxs; simpa using hxs
      have HLW := Lib.hid (Lower_any (cur2[j]'(by omega)) wr (Nat.le_trans hsize (by omega)) (by rw [hx]; exact hxa))
      rw [hx] at HLW
      by_cases hfl : flagF z j = true
      · have hq : ((j : Int) + (z : Int)) % 3 = 0 := by
          unfold flagF at hfl
          have := beq_iff_eq.1 hfl
          omega
        have hq2 : (((j : Int) + (z : Int)) % 3 == 0) = true := by rw [beq_iff_eq]; exact hq
        have HPT := Lib.hid (fun (y : ByteArray) (w' : World) (hb : Below wr.heap.size wr w') (hy : y.data.toList = L[j].map lowU ++ tailL) => HO.out.put hb HSZ.out hjl hfl hy)
        have HBF := Lib.hid (fun (w' : World) (hb : Below wr.heap.size wr w') => hkb.below hb hkb.lt)
        have hcat : (⟨(L[j].map lowU).toArray⟩ ++ ⟨#[13, 10, 32, 9]⟩ : ByteArray).data.toList = L[j].map lowU ++ tailL := by simp [tailL]
        obtain ⟨lx, hlx⟩ : ∃ lx : ByteArray, lx = ⟨(L[j].map lowU).toArray⟩ := ⟨_, rfl⟩
        have hlz : lx.size ≤ 300000000 := by rw [hlx]; show (L[j].map lowU).toArray.size ≤ _; rw [List.size_toArray, List.length_map]; exact hxs
        rw [← hlx] at HLW hcat
        clear ho hkb hx hxs hxa hfl hlx
        have HD0 : Hid (∀ w' : World, Blk w' w2.heap.size 9 (cur2.map Value.string).toArray → w'.cell? ⟨w2.heap.size, j, none⟩ = some (.string (cur2[j]'(by omega)))) := fun w' hb => by
          unfold World.cell?
          rw [show w'.heap[w2.heap.size]? = some (.cells (cur2.map Value.string).toArray 9 (0, 0)) from hb]
          show (cur2.map Value.string).toArray[j]? = _
          rw [List.getElem?_toArray, List.getElem?_map, List.getElem?_eq_getElem (by omega)]; rfl
        go_wp2_with (go_at_call 17; refine HLW.out.mono ?_; rintro e w5 ⟨rfl, hb⟩; have HB5 := Lib.hid hb; have q0 := HD0.out _ (HBF.out _ hb); have q1 := (HBF.out _ hb).free j; clear hb)
        go_roundw
        case rel => exact ⟨j + 1, _, by omega, by go_num, HPT.out _ _ HB5.out hcat, by rw [World.size_setCell]; exact Nat.le_trans HSZ.out HB5.out.size⟩
        case measure => simp [intOf]; omega
      · have hfl : flagF z j = false := by simpa using hfl
        have hq : ((j : Int) + (z : Int)) % 3 ≠ 0 := by
          unfold flagF at hfl
          have := beq_eq_false_iff_ne.1 hfl
          omega
        have hq2 : (((j : Int) + (z : Int)) % 3 == 0) = false := by rw [beq_eq_false_iff_ne]; exact hq
        have HO2 := Lib.hid (HO.out.skip hjl hfl)
        clear ho hkb hx hxs hxa HLW d0 hfl
        go_wp2
        go_roundw
        case rel => exact ⟨j + 1, cur2, by omega, by go_num, HO2.out, HSZ.out⟩
        case measure => simp [intOf]; omega
    · obtain rfl : j = m + 2 := by omega
      have hcl : cur2.length = m + 2 := ho.len.trans HML.out
      have hbo : Below w2.heap.size w2 wr := ho.below
      have HB4 := Lib.hid (HB2.out.later hbo)
      have HJ := Lib.hid (HJN.out wr w2 w2.heap.size cur2 ho)
      rw [hcl] at HJ
      clear ho hcl hbo HJN HAS HSH hd1 hd2
      go_wp2_with (first
        | (go_at_call 18; refine HJ.out.mono ?_; rintro e w6 ⟨rfl, hb⟩; have HB6 := Lib.hid (HB4.out.later hb); clear hb)
        | (go_at_call 6; refine (HRD.out _ (HT.out.below HB6.out.below)).mono ?_; rintro e w7 ⟨ib, T, rfl, hi, hc, hb⟩; have hal := (Below.refl w7.heap.size w7).alloc (Nat.le_refl _) (.cells #[.int .i64 0, .int .i64 0] 26); have HB7 := Lib.hid ((HB6.out.later hb).later hal); have HI7 := Lib.hid (hi.below hal hi.lt); have HC7 := Lib.hid hc; have HK7 := Lib.hid (Blk.new w7 26 #[.int .i64 0, .int .i64 0]); clear hal hi hc hb)
        | (go_at_call 5; refine (alive5_any _ (HT.out.below HB7.out.below)).mono ?_; rintro e w8 ⟨rfl, hb⟩; have HB8 := Lib.hid (HB7.out.later hb); have HI8 := Lib.hid (HI7.out.below hb HI7.out.lt); obtain ⟨l0, l1, _, _⟩ := (HK7.out.below hb HK7.out.lt).two; clear hb)
        | (go_at_call 19; refine (ImgSame_any _ _ _ _ _ (imgV_of HI8.out HC7.out) HB8.out.imgV (HT.out.below HB8.out.below)).mono ?_; rw [decide_eq_true rfl]; rintro e w9 ⟨rfl, hb⟩; have HB9 := Lib.hid (HB8.out.later hb); clear hb))
      go_ret
      exact ⟨rfl, HB9.out.below⟩
set_option maxHeartbeats 1000000 in
theorem Order_any (p : Blocks) (v : Value) (R : List (Int × List UInt8)) (z : Int) (hz : (Lit.int .u8 z).wf = true) (w : World) (h : SlR runIR w p v R) (hT : Deb w) (hA : ∀ r ∈ R, -9223372036854775808 ≤ r.1 ∧ r.1 ≤ 9223372036854775807) :
    Calls Tryz.prog 4 #[v, .int .u8 z] w fun e w' => e = .returned (.bool true) ∧ Below w.heap.size w w' := by
  by_cases hf : fewB R = true
  · have hzz : 0 ≤ z ∧ z ≤ 255 := by
      unfold Lit.wf at hz
      simp only [Bool.and_eq_true, decide_eq_true_eq] at hz
      exact hz
    obtain ⟨zn, rfl⟩ : ∃ zn : Nat, z = zn := ⟨z.toNat, by omega⟩
    exact Order_yes p v R zn (by omega) w h hT hA hf
  · have HT := Lib.hid hT
    have hf : fewB R = false := by simpa using hf
    have HBU := Lib.hid (Build_no p v R w h hf)
    have HF := Lib.hid (fun (W : World) (hb : Below w.heap.size w W) => Few_any _ v R W (h.old.below hb))
    rw [hf] at HF
    clear h hT hA hf hz
    go_enter Tryz.func4, Tryz.ntmps4
    go_wp2_with (first
      | (go_at_call 13; refine HBU.out.mono ?_; rintro e w1 ⟨rfl, rfl⟩)
      | (go_at_call 5; refine (alive5_any _ HT.out).mono ?_; rintro e w2 ⟨rfl, hb⟩; have HB2 := Lib.hid hb; clear hb)
      | (go_at_call 14; refine (HF.out _ HB2.out).mono ?_; rintro e w3 ⟨rfl, rfl⟩))
    go_ret
    exact ⟨rfl, HB2.out⟩
end Go.Proofs.YtcfjcoockklkeaaGreatDoor
