/-
  breadboardlaw05.HexreadMerges, at most twenty texts. Conditions: the library's table as its initialiser lays it.
-/
import Derived.Test.YtcfjcoockklkeaaDoorV28
namespace Go.Proofs.YtcfjcoockklkeaaDoor
open Go.RowKit Go.Sort

theorem mergeF_good : ∀ (L : List (List UInt8)) (k : Nat) (S : ImgS), (mergeF k S L).1.2.2 = 0 → (mergeF k S L).1 = (0, 0, 0)
  | [], _, _, _ => rfl
  | t :: r, k, S, h => by
    rw [mergeF] at h ⊢
    split at h
    · rename_i h1
      exact absurd h h1
    · split at h
      · cases h
      · rename_i h1 h2
        rw [if_neg h1, if_neg h2]
        exact mergeF_good r _ _ h
theorem fltEq_self (a b : Int) : fltEq a b a b = true := by simp [fltEq]

set_option maxHeartbeats 8000000 in
set_option maxRecDepth 100000 in
theorem Merges_few (p : Blocks) (v : Value) (l : List ByteArray) (w : World) (h : SlR strR w p v l) (hl : l.length ≤ 20) (hT : Deb w) :
    Calls Tryd.prog 8 #[v] w fun e w' => e = .returned (.bool true) ∧ Below w.heap.size w w' := by
  obtain ⟨va, vc, rfl, _⟩ := h.str
  have HV := Lib.hid h
  have HT := Lib.hid hT
  have hl1 : (l.length : Int) ≤ 20 := by omega
  have HN := Lib.hid (msum_len l)
  clear h hl hT
  go_enter Tryd.func8, Tryd.ntmps8
  go_wp2
  go_loopw [3, 15] (fun v i wr => ∃ (k : Nat) (m : Nat), k ≤ l.length ∧ i = .int .i64 k ∧ v = .int .i64 m ∧ m + msum (l.drop k) = msum l ∧ Below w.heap.size w wr) (fun _ i _ => l.length - (intOf i).toNat)
  case atStart => exact ⟨0, 0, Nat.zero_le _, rfl, rfl, Nat.zero_add _, Below.refl _ _⟩
  case round =>
    obtain ⟨k, m, hk, rfl, rfl, hm, hb⟩ := hrel
    obtain ⟨wo, rfl⟩ : ∃ wo : World, wo = wr := ⟨_, rfl⟩
    have HB := Lib.hid hb
    clear hb
    by_cases hlt : k < l.length
    · rw [List.drop_eq_getElem_cons hlt, msum] at hm
      have hmb : m + min l[k].size 5000 ≤ 100000 := by have := HN.out; omega
      have HM : Hid ((m + min l[k].size 5000) + msum (l.drop (k + 1)) = msum l) := by show _ = _; omega
      obtain ⟨aa, ac, ev, _, _, g⟩ := (HV.out.below HB.out).str
      obtain ⟨b1, o1, ea, _, d0⟩ := g k l[k] (List.getElem?_eq_getElem hlt)
      obtain rfl : va = aa := by injection ev
      subst ea
      clear ev g hm
      generalize l[k] = s at *
      by_cases h5 : s.size ≤ 5000
      · have e5 : min s.size 5000 = s.size := Nat.min_eq_left h5
        have e6 : (min (s.size : Int) 5000) = (s.size : Int) := Int.min_eq_left (by omega)
        rw [e5] at hmb HM
        clear e5
        go_wp2
        go_roundw
        case rel => exact ⟨k + 1, m + s.size, by omega, by go_num, by go_num, HM.out, HB.out⟩
        case measure => simp [intOf]; omega
      · have e5 : min s.size 5000 = 5000 := Nat.min_eq_right (by omega)
        have e6 : (min (s.size : Int) 5000) = 5000 := Int.min_eq_right (by omega)
        rw [e5] at hmb HM
        clear e5
        go_wp2
        go_roundw
        case rel => exact ⟨k + 1, m + 5000, by omega, by go_num, by go_num, HM.out, HB.out⟩
        case measure => simp [intOf]; omega
    · obtain rfl : k = l.length := by omega
      rw [List.drop_length, msum, Nat.add_zero] at hm
      by_cases hm4 : (4000 : Int) < m
      · have HAL := Lib.hid (alive5_any _ (HT.out.below HB.out))
        clear hm
        go_wp2_with (go_at_call 31; refine HAL.out.mono ?_; rintro e w2 ⟨rfl, hb⟩; have HB2 := Lib.hid (HB.out.trans (hb.mono HB.out.size)); clear hb)
        go_ret
        exact ⟨rfl, HB2.out⟩
      · have hsz : ∀ s ∈ l, s.size ≤ 4000 := fun s hs => msum_mem hs (by omega)
        have HM1 := Lib.hid (Merge_any p _ l wo (HV.out.below HB.out) (by omega) (fun s hs => Nat.le_trans (hsz s hs) (by decide)) (HT.out.below HB.out))
        have HM2 := Lib.hid (fun (W : World) (hb : Below w.heap.size w W) => Merge05_any p _ l W (HV.out.below hb) (by omega) (fun s hs => Nat.le_trans (hsz s hs) (by decide)))
        have hgd := mergeF_good (l.map (·.data.toList)) 0 emptyI
        have hop := run_eqFlt
        generalize l.map (·.data.toList) = L at *
        unfold MergeP at HM1
        unfold RMergeP at HM2
        generalize mergeF 0 emptyI L = X at *
        obtain ⟨⟨i, ln, c⟩, S⟩ := X
        have he := fltEq_self ln c
        clear hm hsz
        by_cases hc : c = 0
        · subst hc
          have hz := hgd rfl
          simp only [Prod.mk.injEq] at hz
          obtain ⟨rfl, rfl, _⟩ := hz
          clear hgd
          have HMG : Hid (Calls Tryd.prog 32 #[.slice va l.length vc] wo fun e w' => (∃ ab, e = .returned (.tuple #[.pointer (some ⟨ab, 0, none⟩), .int .i64 0, .agg #[.int .i64 0, .int .i64 0]]) ∧ ImgC w' ab S.1 S.2 (cellsOf S.1 S.2).length) ∧ Below wo.heap.size wo w') :=
            HM1.out.mono fun e w' ⟨h, hb⟩ => ⟨h.elim (fun h => h.2) (fun h => absurd rfl h.1), hb⟩
          have HM5 : Hid (∀ W, Below w.heap.size w W → Calls Tryd.prog 33 #[.slice va l.length vc] W fun e w' => ∃ v', e = .returned (.tuple #[v', .int .i64 0, .int .i64 0, .int .i64 0]) ∧ CelV w' (fun g => W.heap.size ≤ g) v' (cellsOf S.1 S.2) ∧ Below W.heap.size W w') := fun W hb =>
            (HM2.out W hb).mono fun e w' ⟨v', h1, h2, h3⟩ => ⟨v', h1, h2 rfl, h3⟩
          clear HM1 HM2
          go_wp2_with (first
            | (go_at_call 32; refine HMG.out.mono ?_; rintro e w1 ⟨⟨ab, rfl, hi⟩, hb⟩; have hal := (Below.refl w1.heap.size w1).alloc (Nat.le_refl _) (.cells #[.int .i64 0, .int .i64 0] 54); have HK := Lib.hid (Blk.new w1 54 #[.int .i64 0, .int .i64 0]); have HI := Lib.hid (hi.below hal hi.lt); have HB1 := Lib.hid ((HB.out.trans (hb.mono HB.out.size)).trans (hal.mono (HB.out.trans (hb.mono HB.out.size)).size)); clear hal hi hb)
            | (go_at_call 33; refine (HM5.out _ HB1.out).mono ?_; rintro e w3 ⟨v', rfl, hcv, hb⟩; have HK3 := Lib.hid (HK.out.below hb HK.out.lt); have HI3 := Lib.hid (HI.out.below hb HI.out.lt); have HC3 := Lib.hid hcv.sl; have HB3 := Lib.hid (HB1.out.trans (hb.mono HB1.out.size)); clear hb hcv))
          have HKr : ∀ d os, (grow (redrawn w3 d) os).cell? ⟨w1.heap.size, 0, none⟩ = some (.int .i64 0) := fun d os => cell_regrown HK3.out.two.1 d os
          have HKr1 : ∀ d os, (grow (redrawn w3 d) os).cell? ⟨w1.heap.size, 1, none⟩ = some (.int .i64 0) := fun d os => cell_regrown HK3.out.two.2.1 d os
          have HAL : Hid (∀ d os, Calls Tryd.prog 31 #[] (grow (redrawn w3 d) os) fun e w' => e = .returned (.bool true) ∧ Below (grow (redrawn w3 d) os).heap.size (grow (redrawn w3 d) os) w') := fun d os => alive5_any _ ((HT.out.below HB3.out).below (below_regrown w3 d os))
          have HFL : Hid (∀ d os, Calls Tryd.prog 34 #[.int .i64 0, .int .i64 0] (grow (redrawn w3 d) os) fun e w' => e = .returned (.agg #[.int .i64 0, .int .i64 0]) ∧ Below (grow (redrawn w3 d) os).heap.size (grow (redrawn w3 d) os) w') := fun d os => flt5_any _ _ _
          have HSM : Hid (∀ d os, Calls Tryd.prog 35 #[.pointer (some ⟨ab, 0, none⟩), v'] (grow (redrawn w3 d) os) fun e w' => e = .returned (.int .i64 1) ∧ Below (grow (redrawn w3 d) os).heap.size (grow (redrawn w3 d) os) w') := fun d os => Same2_any _ _ _ _ _ (HI3.out.below (below_regrown w3 d os) HI3.out.lt) (HC3.out.below (below_regrown w3 d os)) ((HT.out.below HB3.out).below (below_regrown w3 d os))
          have hop2 : ∀ W : World, (binOp .eql 54 (.agg #[.int .i64 0, .int .i64 0]) (.agg #[.int .i64 0, .int .i64 0])).run Tryd.prog W = .ok (.bool true) W := fun W => by rw [run_eqFlt]; rfl
          clear hop
          refine wp_region_quiet_below (by kernel_rfl) (by kernel_rfl) ?_
          repeat (go_big_quiet_step (first | exact Calls.regrown_of (HAL.out _ _) | exact Calls.regrown_of (HFL.out _ _) | exact Calls.regrown_of (HSM.out _ _)))
          refine wpQuiet_nil ?_
          intro _ hw'
          obtain ⟨⟨dq, osq⟩, hw''⟩ := hw'
          subst hw''
          have HFB := Lib.hid (HB3.out.trans ((below_regrown w3 dq osq).mono HB3.out.size))
          clear HKr HKr1
          show Exit.then _ _ Exit.normal _ (grow (redrawn w3 dq) osq)
          generalize grow (redrawn w3 dq) osq = W13 at *
          go_wp2
          go_ret
          exact ⟨rfl, HFB.out⟩
        · have hne : ((c : Int) != 0) = true := by rw [bne_iff_ne]; omega
          have hne2 : ¬ ((c : Int) = 0) := by omega
          have HMG : Hid (Calls Tryd.prog 32 #[.slice va l.length vc] wo fun e w' => e = .returned (.tuple #[.pointer none, .int .i64 (i : Int), .agg #[.int .i64 (ln : Int), .int .i64 (c : Int)]]) ∧ Below wo.heap.size wo w') :=
            HM1.out.mono fun e w' ⟨h, hb⟩ => ⟨h.elim (fun h => absurd h.1 hc) (fun h => h.2), hb⟩
          have HM5 : Hid (∀ W, Below w.heap.size w W → Calls Tryd.prog 33 #[.slice va l.length vc] W fun e w' => ∃ v', e = .returned (.tuple #[v', .int .i64 (i : Int), .int .i64 (ln : Int), .int .i64 (c : Int)]) ∧ Below W.heap.size W w') := fun W hb =>
            (HM2.out W hb).mono fun e w' ⟨v', h1, _, h3⟩ => ⟨v', h1, h3⟩
          clear HM1 HM2 hgd hc he
          generalize (c : Int) = C at *
          generalize (ln : Int) = LN at *
          generalize (i : Int) = I at *
          go_wp2_with (first
            | (go_at_call 32; refine HMG.out.mono ?_; rintro e w1 ⟨rfl, hb⟩; have hal := (Below.refl w1.heap.size w1).alloc (Nat.le_refl _) (.cells #[.int .i64 LN, .int .i64 C] 54); have HK := Lib.hid (Blk.new w1 54 #[.int .i64 LN, .int .i64 C]); have HB1 := Lib.hid ((HB.out.trans (hb.mono HB.out.size)).trans (hal.mono (HB.out.trans (hb.mono HB.out.size)).size)); clear hal hb)
            | (go_at_call 33; refine (HM5.out _ HB1.out).mono ?_; rintro e w3 ⟨v', rfl, hb⟩; have HK3 := Lib.hid (HK.out.below hb HK.out.lt); have HB3 := Lib.hid (HB1.out.trans (hb.mono HB1.out.size)); clear hb))
          have HKr : ∀ d os, (grow (redrawn w3 d) os).cell? ⟨w1.heap.size, 0, none⟩ = some (.int .i64 LN) := fun d os => cell_regrown HK3.out.two.1 d os
          have HKr1 : ∀ d os, (grow (redrawn w3 d) os).cell? ⟨w1.heap.size, 1, none⟩ = some (.int .i64 C) := fun d os => cell_regrown HK3.out.two.2.1 d os
          have HAL : Hid (∀ d os, Calls Tryd.prog 31 #[] (grow (redrawn w3 d) os) fun e w' => e = .returned (.bool true) ∧ Below (grow (redrawn w3 d) os).heap.size (grow (redrawn w3 d) os) w') := fun d os => alive5_any _ ((HT.out.below HB3.out).below (below_regrown w3 d os))
          have HFL : Hid (∀ d os, Calls Tryd.prog 34 #[.int .i64 LN, .int .i64 C] (grow (redrawn w3 d) os) fun e w' => e = .returned (.agg #[.int .i64 LN, .int .i64 C]) ∧ Below (grow (redrawn w3 d) os).heap.size (grow (redrawn w3 d) os) w') := fun d os => flt5_any _ _ _
          have hop2 : ∀ W : World, (binOp .eql 54 (.agg #[.int .i64 LN, .int .i64 C]) (.agg #[.int .i64 LN, .int .i64 C])).run Tryd.prog W = .ok (.bool true) W := fun W => by rw [run_eqFlt, fltEq_self]
          clear hop
          refine wp_region_quiet_below (by kernel_rfl) (by kernel_rfl) ?_
          repeat (go_big_quiet_step (first | exact Calls.regrown_of (HAL.out _ _) | exact Calls.regrown_of (HFL.out _ _)))
          refine wpQuiet_nil ?_
          intro _ hw'
          obtain ⟨⟨dq, osq⟩, hw''⟩ := hw'
          subst hw''
          have HFB := Lib.hid (HB3.out.trans ((below_regrown w3 dq osq).mono HB3.out.size))
          clear HKr HKr1
          show Exit.then _ _ Exit.normal _ (grow (redrawn w3 dq) osq)
          generalize grow (redrawn w3 dq) osq = W13 at *
          go_wp2
          go_ret
          exact ⟨rfl, HFB.out⟩
theorem Merges_any (p : Blocks) (v : Value) (l : List ByteArray) (w : World) (h : SlR strR w p v l) (hT : Deb w) :
    Calls Tryd.prog 8 #[v] w fun e w' => e = .returned (.bool true) ∧ Below w.heap.size w w' := by
  by_cases hl : l.length ≤ 20
  · exact Merges_few p v l w h hl hT
  · exact Merges_many p v l w h (by omega) hT
end Go.Proofs.YtcfjcoockklkeaaDoor
