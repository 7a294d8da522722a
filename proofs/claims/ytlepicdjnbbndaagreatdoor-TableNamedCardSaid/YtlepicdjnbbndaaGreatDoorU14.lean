/-
  table.Named. Conditions: the library's table as its initialiser lays it; the number of pages.
-/
import Derived.Test.YtlepicdjnbbndaaGreatDoorU13
namespace Go.Proofs.YtlepicdjnbbndaaGreatDoor
open Go.RowKit Go.Shelf Go.Sort

theorem patL_short (p : Int) : ∀ t ∈ patL p, t.length ≤ 1000 := by
  have h0 : (splitC mainB.data.toList).all (fun t => decide (t.length ≤ 1000)) = true := by decide +kernel
  have h1 : (splitC cbB.data.toList).all (fun t => decide (t.length ≤ 1000)) = true := by decide +kernel
  have h2 : (splitC edB.data.toList).all (fun t => decide (t.length ≤ 1000)) = true := by decide +kernel
  have h3 : (splitC (⟨#[]⟩ : ByteArray).data.toList).all (fun t => decide (t.length ≤ 1000)) = true := by decide +kernel
  have key : (patL p).all (fun t => decide (t.length ≤ 1000)) = true := by
    unfold patL patB
    split
    · exact h0
    split
    · exact h1
    split
    · exact h2
    · exact h3
  intro t ht
  exact of_decide_eq_true (List.all_eq_true.1 key t ht)
theorem patB_size (p : Int) : (patB p).size ≤ 1000000 := by
  unfold patB
  split
  · decide +kernel
  split
  · decide +kernel
  split
  · decide +kernel
  · decide +kernel
theorem patL_len (p : Int) : (splitC (patB p).data.toList).length ≤ 100000 := by
  unfold patB
  split
  · decide +kernel
  split
  · decide +kernel
  split
  · decide +kernel
  · decide +kernel
theorem nam1_any (t : ByteArray) (x b : Nat) (hx : x < 256) (w : World) (hb : Blk w b 3 #[.int .i64 x]) (ht : t.size ≤ 1000000) :
    Calls Tryz.prog 66 #[.string t, .pointer (some ⟨b, 0, none⟩)] w fun e w' => e = .returned (.bool (fitsF t.data.toList x)) ∧ w' = w := by
  have HF := Lib.hid (tfits_any t x hx w ht)
  have d0 := hb.cell 0
  have hwr := wrap_u8 hx
  clear hb
  go_enter Tryz.func66, Tryz.ntmps66
  go_wp2_with (go_at_call 67; refine HF.out.mono ?_; rintro e w' ⟨rfl, rfl⟩)
  go_ret
  exact ⟨rfl, rfl⟩
set_option maxHeartbeats 2000000 in
set_option maxRecDepth 100000 in
theorem idxN_any (x b : Nat) (hx : x < 256) (p : Blocks) (v : Value) (l : List ByteArray) (w : World) (h : SlR strR w p v l) (hs : ∀ t ∈ l, t.size ≤ 1000000) (hb : Blk w b 3 #[.int .i64 x]) :
    Calls Tryz.prog 116 #[v, .func (.func 66) #[] #[.pointer (some ⟨b, 0, none⟩)]] w fun e w' => (∃ r : Int, e = .returned (.int .i64 r) ∧ decide (0 ≤ r) = l.any fun t => fitsF t.data.toList x) ∧ w' = w := by
  obtain ⟨a, c, rfl, _, _, g1⟩ := h.str
  have hl := h.len_le
  have HN := Lib.hid (fun t ht => nam1_any t x b hx w hb ht)
  have HS := Lib.hid hs
  have HG := Lib.hid g1
  clear h hs g1 hb
  go_enter Tryz.func116, Tryz.ntmps116
  go_wp2
  go_loop [8] (fun i => ∃ k : Nat, k ≤ l.length ∧ i = .int .i64 k ∧ (l.any fun t => fitsF t.data.toList x) = ((l.drop k).any fun t => fitsF t.data.toList x)) (fun i => l.length - (intOf i).toNat)
  case atStart => exact ⟨0, Nat.zero_le _, rfl, rfl⟩
  case round =>
    obtain ⟨k, hk, rfl, ht⟩ := hrel
    have HT := Lib.hid ht
    clear ht
    by_cases hlt : k < l.length
    · have hg := HG.out k l[k] (List.getElem?_eq_getElem hlt)
      obtain ⟨b1, o1, rfl, d1⟩ : ∃ b o, a = some ⟨b, o, none⟩ ∧ w.cell? ⟨b, o + k, none⟩ = some (.string l[k]) := by
        obtain ⟨b, o, e1, _, e2⟩ := hg
        exact ⟨b, o, e1, by simpa using e2⟩
      have HD := Lib.hid (List.drop_eq_getElem_cons hlt)
      have HVA := Lib.hid (HN.out l[k] (HS.out _ (List.getElem_mem hlt)))
      clear hg
      generalize l[k] = t at *
      cases hvx : fitsF t.data.toList x
      all_goals
        rw [hvx] at HVA
        have HVX := Lib.hid hvx
        clear hvx
      · go_wp2_with (go_at_call 66; refine HVA.out.mono ?_; rintro e w2 ⟨rfl, rfl⟩)
        go_round
        case rel => exact ⟨k + 1, by omega, by go_num, by rw [HT.out, HD.out, List.any_cons, HVX.out, Bool.false_or]⟩
        case measure => simp [intOf]; omega
      · go_wp2_with (go_at_call 66; refine HVA.out.mono ?_; rintro e w2 ⟨rfl, rfl⟩)
        go_ret
        exact ⟨⟨k, rfl, by rw [HT.out, HD.out, List.any_cons, HVX.out]; simp⟩, rfl⟩
    · go_wp2
      go_ret
      exact ⟨⟨-1, rfl, by rw [HT.out, List.drop_of_length_le (by omega)]; simp⟩, rfl⟩
theorem cntN_any (x b : Nat) (hx : x < 256) (p : Blocks) (v : Value) (l : List ByteArray) (w : World) (h : SlR strR w p v l) (hs : ∀ t ∈ l, t.size ≤ 1000000) (hb : Blk w b 3 #[.int .i64 x]) :
    Calls Tryz.prog 65 #[v, .func (.func 66) #[] #[.pointer (some ⟨b, 0, none⟩)]] w fun e w' => e = .returned (.bool (l.any fun t => fitsF t.data.toList x)) ∧ w' = w := by
  have HI := Lib.hid (idxN_any x b hx p v l w h hs hb)
  obtain ⟨a, c, rfl, _⟩ := h.str
  clear h hb
  go_enter Tryz.func65, Tryz.ntmps65
  go_wp2_with (go_at_call 116; refine HI.out.mono ?_; rintro e w1 ⟨⟨r, rfl, hr⟩, rfl⟩; have HR := Lib.hid hr; clear hr)
  go_ret
  exact ⟨ret_bool HR.out, rfl⟩
/-- is a string in a list of strings in memory -/
theorem cntS_any (p : Blocks) (v : Value) (l : List (List UInt8)) (t : List UInt8) (w : World) (h : SlR strR w p v (l.map bs)) :
    Calls Tryz.prog 69 #[v, .string ⟨t.toArray⟩] w fun e w' => e = .returned (.bool (l.contains t)) ∧ w' = w := by
  have hl := h.len_le
  obtain ⟨a, c, rfl, _, _, g1⟩ := h.str
  cases l with
  | nil => exact (Tryz.slices_Contains_string_empty a c ⟨t.toArray⟩ w).mono (fun e w' h => h)
  | cons y l =>
    obtain ⟨b, o, rfl, _⟩ := g1 0 (bs y) rfl
    have hcs : ∀ j, j < ((y :: l).map bs).length → w.cell? ⟨b, o + j, none⟩ = some (.string (((y :: l).map bs).getD j ByteArray.empty)) := fun j hj => by
      obtain ⟨b2, o2, e2, _, hc⟩ := g1 j _ (List.getElem?_eq_getElem hj)
      injection e2 with e2
      injection e2 with e2 e3
      subst e2 e3
      rw [List.getD_eq_getElem?_getD, List.getElem?_eq_getElem hj]
      exact hc
    refine (Tryz.slices_Contains_string b o _ c ((y :: l).map bs) ⟨t.toArray⟩ w (Nat.le_refl _) hl hcs).mono ?_
    rintro e w' ⟨rfl, rfl⟩
    refine ⟨ret_bool ?_, rfl⟩
    rw [List.take_length, Bool.eq_iff_iff, Lib.containsS_iff, List.contains_iff_mem, List.mem_map]
    constructor
    · rintro ⟨z, hz, e⟩
      have : z = t := by
        have := congrArg (fun s : ByteArray => s.data.toList) e
        simpa [bs] using this
      rwa [this] at hz
    · intro hz
      exact ⟨t, hz, rfl⟩
theorem Own.apart {α β : Type} {R : Rep α} {S : Rep β} {w : World} {B C : Nat} {e t : TypeId} {p q : Blocks} {v u : Value} {xs : List α} {ys : List β} (h1 : Own R w B e p v xs) (h2 : Own S w C t q u ys) (hte : e ≠ t) : ∀ k, v.ownBlock = some k → u.ownBlock ≠ some k := by
  obtain ⟨c1, r1, _⟩ := h1
  obtain ⟨c2, r2, _⟩ := h2
  intro k hk hk2
  rcases r1.2 with ⟨rfl, _⟩ | ⟨g, cap, cur, rfl, _, hg, _⟩
  · cases hk
  rcases r2.2 with ⟨rfl, _⟩ | ⟨g2, cap2, cur2, rfl, _, hg2, _⟩
  · cases hk2
  obtain rfl : g = k := Option.some.inj hk
  obtain rfl : g2 = g := Option.some.inj hk2
  rw [hg] at hg2
  injection hg2 with hg2
  injection hg2 with _ h
  exact hte h
theorem withB_ok (op : List UInt8) (p : Int) : ∀ t ∈ (withF op (patL p)).map bs, t.size ≤ 1000000 := by
  intro t ht
  obtain ⟨y, hy, rfl⟩ := List.mem_map.1 ht
  have := patL_short p y (List.mem_filter.1 hy).1
  show y.toArray.size ≤ _
  rw [List.size_toArray]; omega
theorem any_bs (f : List UInt8 → Bool) (l : List (List UInt8)) : ((l.map bs).any fun t => f t.data.toList) = l.any f := by
  rw [List.any_map]
  congr 1
theorem flat_namF_len (op : List UInt8) (L : List Int) : (L.flatMap (namF op)).length ≤ L.length * 256 := by
  induction L with
  | nil => simp
  | cons a L ih =>
    have := namK_len op a 256
    rw [List.flatMap_cons, List.length_append, List.length_cons]
    unfold namF at *
    omega
theorem lookP_at {w : World} {o : Option (List UInt8)} {e : Ending} {w' : World} (h : lookP w o e w') : e = .returned (.tuple #[.string ⟨(o.getD []).toArray⟩, .bool o.isSome]) ∧ Below w.heap.size w w' := by
  obtain ⟨h1, h2⟩ := h
  refine ⟨?_, h2⟩
  rw [h1]
  cases o <;> rfl
set_option maxHeartbeats 8000000 in
set_option maxRecDepth 100000 in
theorem Named_tab_any (op : ByteArray) (p : Blocks) (v : Value) (l : List Int) (w : World) (h : SlR intR w p v l) (hn : (pagesF l).length ≤ 1000) (hT : Spc w) :
    Calls Tryz.prog 31 #[.string op, v] w (EntsP 27 w ((pagesF l).flatMap (namF op.data.toList))) := by
  have HEP : Hid (EntsP 27 w ((pagesF l).flatMap (namF op.data.toList)) = fun e w' => ∃ v, e = .returned v ∧ Acc entR w' w.heap.size 27 v ((pagesF l).flatMap (namF op.data.toList)) ∧ Below w.heap.size w w') := rfl
  rw [HEP.out]
  have HEV := Lib.hid (every_any p v l w h)
  generalize pagesF l = L at *
  have HT := Lib.hid hT
  clear HEP h hT
  go_enter Tryz.func31, Tryz.ntmps31
  go_wp2_with fail
  refine HEV.out.mono ?_
  rintro e w1 ⟨v1, q, rfl, hs, hb⟩
  have HS := Lib.hid hs
  have HB1 := Lib.hid hb
  obtain ⟨a1, c1, rfl, _, _, _⟩ := hs.int
  clear hs hb HEV
  go_wp2
  go_loopw [5, 17] (fun s5 s17 wx => ∃ k : Nat, k ≤ L.length ∧ s17 = .int .i64 k ∧ Acc entR wx w1.heap.size 27 s5 ((L.take k).flatMap (namF op.data.toList)) ∧ Below w1.heap.size w1 wx) (fun _ s17 _ => L.length - (intOf s17).toNat)
  case atStart => exact ⟨0, by omega, rfl, Acc.nil _ _ _, Below.refl _ _⟩
  case round =>
    obtain ⟨k, hk, rfl, hacc, hb⟩ := hrel
    have HC := Lib.hid hacc
    have HB := Lib.hid hb
    clear hacc hb
    by_cases hlt : k < L.length
    · obtain ⟨a9, c9, e9, _, _, g9⟩ := (HS.out.below HB.out).int
      injection e9 with e9 e10 e11
      clear e10
      subst e9 e11
      obtain ⟨b, o, rfl, d1⟩ : ∃ b o, a1 = some ⟨b, o, none⟩ ∧ wr.cell? ⟨b, o + k, none⟩ = some (.int .i64 L[k]) := by
        obtain ⟨b, o, e1, _, e2⟩ := g9 k L[k] (List.getElem?_eq_getElem hlt)
        exact ⟨b, o, e1, by simpa using e2⟩
      have hft : (L.take (k + 1)).flatMap (namF op.data.toList) = (L.take k).flatMap (namF op.data.toList) ++ namF op.data.toList L[k] := by
        rw [List.take_succ_eq_append_getElem hlt, List.flatMap_append]; simp
      have HFT := Lib.hid hft
      have hfl := flat_namF_len op.data.toList (L.take k)
      have htl : (L.take k).length ≤ k := List.length_take_le _ _
      have HPL : Hid (((L.take k).flatMap (namF op.data.toList)).length ≤ 256000) := (by show _ ≤ _; omega)
      clear g9 hfl htl hft
      generalize L[k] = page at *
      generalize (L.take k).flatMap (namF op.data.toList) = pre at *
      obtain ⟨a3, c3, rfl⟩ := HC.out.form
      have HPA := Lib.hid (fun W => patterns_any page W)
      have HWI := Lib.hid (with_any (patB page) op wr (patB_size page) (patL_len page))
      have HWO := Lib.hid (withB_ok op.data.toList page)
      go_wp2_with (first
        | (go_at_call 64; refine (HPA.out _).mono ?_; rintro e w2 ⟨rfl, rfl⟩)
        | (go_at_call 63; refine HWI.out.mono ?_; rintro e w2 ⟨v2, rfl, ho2, hb2⟩; obtain ⟨a2, c2, rfl⟩ := ho2.form; have HO2 := Lib.hid (ho2.base (B' := w1.heap.size) HB.out.size); have HC2 := Lib.hid (HC.out.stay hb2); have HB2 := Lib.hid (HB.out.trans (hb2.mono HB.out.size)); clear ho2 hb2))
      have HASK : Hid (∀ j, askB op.data.toList page j = ((withF op.data.toList (splitC (patB page).data.toList)).any (fun t => fitsF t j) && (withF op.data.toList (splitC (patB page).data.toList)).contains ((lookF j (splitC (patB page).data.toList)).getD []))) := fun _ => rfl
      have HWP : Hid (∀ t ∈ (withF op.data.toList (splitC (patB page).data.toList)).map bs, t.size ≤ 1000000) := HWO.out
      have HLK := Lib.hid (fun j hj W => lookup_any (patB page) j hj W (patB_size page))
      rw [List.length_map] at HO2
      clear HWI HWO
      generalize withF op.data.toList (splitC (patB page).data.toList) = M at *
      generalize splitC (patB page).data.toList = PL at *
      have HK := Lib.hid hk
      go_loopw [5, 25] (fun s5 s25 wx => ∃ j : Nat, j ≤ 256 ∧ s25 = .int .i64 j ∧ Acc entR wx w1.heap.size 27 s5 (pre ++ namK op.data.toList page j) ∧ Own strR wx w1.heap.size 9 NoB (.slice a2 M.length c2) (M.map bs) ∧ Below w1.heap.size w1 wx) (fun _ s25 _ => 256 - (intOf s25).toNat)
      case atStart => exact ⟨0, by omega, rfl, by simpa [namK, entsK] using HC2.out, HO2.out, HB2.out⟩
      case round =>
        clear HC2 HO2 HB2 HC HB d1
        obtain ⟨j, hj, rfl, hacc, hown, hb⟩ := hrel
        have HC := Lib.hid hacc
        have HO := Lib.hid hown
        have HB := Lib.hid hb
        clear hacc hown hb
        by_cases hlt2 : j < 256
        · have hwr := wrap_u8 hlt2
          have HBa := Lib.hid ((Below.refl wr.heap.size wr).alloc (Nat.le_refl _) (.cells #[.int .i64 (j : Int)] 3))
          have HJ := Lib.hid (Blk.new wr 3 #[.int .i64 (j : Int)])
          have HSL := Lib.hid ((HO.out.slR (q := fun k => w1.heap.size ≤ k) (fun _ h => h.elim) (fun _ h => h)).alloc (.cells #[.int .i64 (j : Int)] 3))
          have HCF := Lib.hid (cntN_any j wr.heap.size hlt2 _ _ _ _ HSL.out HWP.out HJ.out)
          rw [any_bs (fun t => fitsF t j)] at HCF
          have HAJ := Lib.hid (HASK.out j)
          have HNO := Lib.hid (fun h => namK_out (op := op.data.toList) (p := page) hlt2 h)
          have hml := namK_len op.data.toList page j
          have HML : Hid ((pre ++ namK op.data.toList page j).length + 1 ≤ 1000000) := (by have := HPL.out; show _ ≤ _; rw [List.length_append]; omega)
          clear hml
          generalize hpm : pre ++ namK op.data.toList page j = PM at *
          have HPM := Lib.hid hpm
          clear hpm
          obtain ⟨a4, c4, rfl⟩ := HC.out.form
          cases hc1 : M.any (fun t => fitsF t j)
          · rw [hc1, Bool.false_and] at HAJ
            rw [hc1] at HCF
            have HN := Lib.hid (HNO.out HAJ.out)
            clear HNO hc1
            go_wp2_with (go_at_call 65; refine HCF.out.mono ?_; rintro e w2 ⟨rfl, rfl⟩)
            go_round
            case rel => exact ⟨j + 1, by omega, by go_num, by rw [HN.out, HPM.out]; exact HC.out.stay HBa.out, HO.out.keep (Keep.of_below HBa.out (fun k hk => by rcases hk with hk | hk; exact hk.elim; exact (HO.out.lt k hk).2)), HB.out.trans (HBa.out.mono HB.out.size)⟩
            case measure => simp [intOf]; omega
          rw [hc1, Bool.true_and] at HAJ
          rw [hc1] at HCF
          clear hc1
          go_upto_region 10 with (go_at_call 65; refine HCF.out.mono ?_; rintro e w2 ⟨rfl, rfl⟩)
          have HJB : Hid (∀ (w' : World), Below wr.heap.size (wr.alloc (.cells #[.int .i64 (j : Int)] 3)) w' → True) := fun _ _ => trivial
          have hj0 := HJ.out.cell 0
          have hjl := HJ.out.lt
          go_region_held3 (fun w' => w'.cell? ⟨wr.heap.size, 0, none⟩ = some (.int .i64 (j : Int))) (go_keep)
            (first
              | (go_at_call 64; refine (HPA.out _).mono ?_; rintro e w2 ⟨rfl, rfl⟩)
              | (go_at_call 68; refine (HLK.out j hlt2 _).mono ?_; rintro e w2 hlk; obtain ⟨rfl, hb⟩ := lookP_at hlk; have hjc := hb.cell (p := ⟨wr.heap.size, 0, none⟩) hjl; have HBL := Lib.hid hb; clear hlk hb))
          have HBW : Hid (Below (wr.alloc (.cells #[.int .i64 (j : Int)] 3)).heap.size (wr.alloc (.cells #[.int .i64 (j : Int)] 3)) w2) := (Below.refl _ _).drew.trans HBL.out
          have HB2 : Hid (Below wr.heap.size wr w2) := HBa.out.trans (HBW.out.mono HBa.out.size)
          have HS2 := Lib.hid (HSL.out.below HBW.out)
          have HCO := Lib.hid (cntS_any _ _ M ((lookF j PL).getD []) w2 HS2.out)
          have HO2 := Lib.hid (HO.out.keep (Keep.of_below HB2.out (fun k hk => by rcases hk with hk | hk; exact hk.elim; exact (HO.out.lt k hk).2)))
          have HC2 := Lib.hid (HC.out.stay HB2.out)
          have HB3 := Lib.hid (HB.out.trans (HB2.out.mono HB.out.size))
          have HYE := Lib.hid (fun h x => namK_in (op := op.data.toList) (p := page) hlt2 h (e := x))
          clear HBL HBW HCF HSL HS2 hj0 hjl HJB HBa HJ
          generalize (lookF j PL).getD [] = lk at *
          cases hc2 : M.contains lk
          · rw [hc2] at HAJ HCO
            have HN := Lib.hid (HNO.out HAJ.out)
            clear HNO hc2 HYE
            go_wp2_with (go_at_call 69; refine HCO.out.mono ?_; rintro e w3 ⟨rfl, rfl⟩)
            go_round
            case rel => exact ⟨j + 1, by omega, by go_num, by rw [HN.out, HPM.out]; exact HC2.out, HO2.out, HB3.out⟩
            case measure => simp [intOf]; omega
          rw [hc2] at HAJ HCO
          have HA1 := Lib.hid (At_any page j hlt2 w2 (HT.out.below (HB1.out.trans (HB3.out.mono HB1.out.size))))
          have HK1 := Lib.hid (atF_kind page j)
          have HY := Lib.hid (fun x => HYE.out HAJ.out x)
          have HN := Lib.hid (namK_no (op := op.data.toList) (p := page) (k := j))
          clear HNO HYE hc2
          generalize atF page j = xk at *
          obtain ⟨x, kd⟩ := xk
          dsimp only at *
          go_upto_region 12 with (go_at_call 69; refine HCO.out.mono ?_; rintro e w3 ⟨rfl, hw3⟩; subst w3)
          go_wp2_with fail
          refine HA1.out.mono ?_
          rintro e w4 ⟨he, hb4⟩
          have HB4 := Lib.hid hb4
          have HS4 := Lib.hid hb4.size
          have HO4 := Lib.hid (HO2.out.keep (Keep.of_below hb4 (fun k hk => by rcases hk with hk | hk; exact hk.elim; exact (HO2.out.lt k hk).2)))
          clear hb4
          rcases x with _ | x
          · have hk1 : ¬ kd = 1 := by rcases HK1.out.2 rfl with h | h | h <;> omega
            subst he
            have HN1 := Lib.hid (HN.out rfl)
            clear HN HY
            have HB5 := Lib.hid (HB4.out.alloc HS4.out (.cells #[.int .i64 0, .int .u8 0, .string ⟨#[]⟩, .slice none 0 0, .string ⟨#[]⟩, .bool false] 27))
            unfold ent0
            go_wp2
            go_round
            case rel => exact ⟨j + 1, by omega, by go_num, by rw [HN1.out, HPM.out]; exact HC2.out.stay HB5.out, HO2.out.keep (Keep.of_below HB5.out (fun k hk => by rcases hk with hk | hk; exact hk.elim; exact (HO2.out.lt k hk).2)), HB3.out.trans (HB5.out.mono HB3.out.size)⟩
            case measure => simp [intOf]; omega
          · obtain rfl : kd = 1 := HK1.out.1 _ rfl
            obtain ⟨v, rfl, ho⟩ := he
            obtain ⟨va, vc, rfl⟩ := ho.form
            have HX := Lib.hid (HY.out x rfl)
            obtain ⟨p1, o1, i1, l1, s1, f1⟩ := x
            dsimp only at *
            have HB5 := Lib.hid (HB4.out.alloc HS4.out (.cells #[.int .i64 p1, .int .u8 o1, .string ⟨i1.toArray⟩, .slice va l1.length vc, .string ⟨s1.toArray⟩, .bool f1] 27))
            have HR := Lib.hid (entR_rel (x := ⟨p1, o1, i1, l1, s1, f1⟩) (ho.below ((Below.refl w4.heap.size w4).alloc (Nat.le_refl _) (.cells #[.int .i64 p1, .int .u8 o1, .string ⟨i1.toArray⟩, .slice va l1.length vc, .string ⟨s1.toArray⟩, .bool f1] 27))))
            have HCC := Lib.hid (HC2.out.stay HB5.out)
            have HO5 := Lib.hid (HO2.out.keep (Keep.of_below HB5.out (fun k hk => by rcases hk with hk | hk; exact hk.elim; exact (HO2.out.lt k hk).2)))
            have HQ : Hid (∀ k, w2.heap.size ≤ k → w1.heap.size ≤ k ∧ Value.ownBlock (.slice a4 PM.length c4) ≠ some k) := fun k hk => ⟨Nat.le_trans HB3.out.size hk, fun e => absurd (HC2.out.lt k e).2 (Nat.not_lt.2 hk)⟩
            have HLB : Hid ((PM.length + 1) * 80 ≤ 140737488355328) := (by have := HML.out; show _ ≤ _; omega)
            have HLL : Hid (PM.length + 1 ≤ 9223372036854775807) := (by have := HML.out; show _ ≤ _; omega)
            have HSZ : Hid (w1.heap.size ≤ (w4.alloc (.cells #[.int .i64 p1, .int .u8 o1, .string ⟨i1.toArray⟩, .slice va l1.length vc, .string ⟨s1.toArray⟩, .bool f1] 27)).heap.size) := Nat.le_trans HB3.out.size HB5.out.size
            have HAP : Hid (∀ k, Value.ownBlock (.slice a2 M.length c2) = some k → Value.ownBlock (.slice a4 PM.length c4) ≠ some k) := by
              obtain ⟨pp, h1, _⟩ := HCC.out
              exact Own.apart HO5.out h1 (by decide)
            clear ho HN HY
            unfold entVal
            dsimp only
            go_wp2_with (at_builtin; refine wpList_push_A rfl (.tmp 53) (.tmp 55) 56 rfl w1.heap.size 27 80 elET _ PM ⟨p1, o1, i1, l1, s1, f1⟩ _ (fun b => w2.heap.size ≤ b) rfl (by rw [World.size_alloc]; rfl) HCC.out HR.out HQ.out HLB.out HLL.out HSZ.out ?_; intro a' c' w' hp; have HP := Lib.hid hp; clear hp)
            go_round
            case rel => exact ⟨j + 1, by omega, by go_num, by rw [HX.out, ← List.append_assoc, HPM.out]; have := HP.out.1; simpa using this, HO5.out.keep (Keep.grown HP.out.2.1 (fun k hk => by rcases hk with hk | hk; exact hk.elim; exact ⟨(HO5.out.lt k hk).2, fun e => HAP.out k hk e.symm⟩)), HB3.out.trans ((HB5.out.mono HB3.out.size).trans (AccP.below HP.out HCC.out HSZ.out))⟩
            case measure => simp [intOf]; omega
        · obtain rfl : j = 256 := by omega
          obtain ⟨a4, c4, rfl⟩ := HC.out.form
          go_wp2
          go_round
          case rel => exact ⟨k + 1, by omega, by go_num, by rw [HFT.out]; exact HC.out, HB.out⟩
          case measure => simp [intOf]; omega
    · obtain rfl : k = L.length := by omega
      rw [List.take_length] at HC
      go_wp2
      go_ret
      exact ⟨_, rfl, HC.out.base HB1.out.size, HB1.out.trans (HB.out.mono HB1.out.size)⟩
end Go.Proofs.YtlepicdjnbbndaaGreatDoor
