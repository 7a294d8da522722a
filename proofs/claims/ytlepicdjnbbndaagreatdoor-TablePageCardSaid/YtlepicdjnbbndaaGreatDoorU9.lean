/-
  The law TablePage, walked. Conditions: the library's table as its initialiser lays it.
-/
import Derived.Test.YtlepicdjnbbndaaGreatDoorU8
import Derived.Test.YtlepicdjnbbndaaGreatDoorTF
namespace Go.Proofs.YtlepicdjnbbndaaGreatDoor
open Go.RowKit Go.Shelf Go.Sort

/-- Two accumulators side by side: numbers, and entries whose operands lie in blocks of their own. -/
structure TwoA (w : World) (B : Nat) (p : Blocks) (s3 s4 : Value) (l3 : List Int) (l4 : List EntV) : Prop where
  o3 : Own intR w B 3 NoB s3 l3
  o4 : Own entR w B 36 p s4 l4
  far : ∀ j, p j → B ≤ j ∧ j < w.heap.size ∧ s4.ownBlock ≠ some j ∧ s3.ownBlock ≠ some j
  ne : ∀ j, s3.ownBlock = some j → s4.ownBlock ≠ some j
theorem TwoA.nil (w : World) (B : Nat) : TwoA w B NoB (.slice none 0 0) (.slice none 0 0) [] [] := ⟨Own.nil _ _ _ _ _, Own.nil _ _ _ _ _, fun _ h => h.elim, fun _ h => by cases h⟩
theorem TwoA.stay {w w' : World} {B : Nat} {p : Blocks} {s3 s4 : Value} {l3 : List Int} {l4 : List EntV} (h : TwoA w B p s3 s4 l3 l4) (hb : Below w.heap.size w w') : TwoA w' B p s3 s4 l3 l4 :=
  ⟨h.o3.keep (Keep.of_below hb fun k hk => by rcases hk with hk | hk; exact hk.elim; exact (h.o3.lt k hk).2), h.o4.keep (Keep.of_below hb fun k hk => by rcases hk with hk | hk; exact (h.far k hk).2.1; exact (h.o4.lt k hk).2),
    fun j hj => ⟨(h.far j hj).1, Nat.lt_of_lt_of_le (h.far j hj).2.1 hb.size, (h.far j hj).2.2⟩, h.ne⟩
theorem TwoA.push3 {w w' : World} {B : Nat} {p q : Blocks} {s3 s4 v : Value} {l3 zs : List Int} {l4 : List EntV} (h : TwoA w B p s3 s4 l3 l4) (ha : Appended intR w B 3 q s3 zs v w') : TwoA w' B p v s4 zs l4 := by
  obtain ⟨ho, hg, hv⟩ := ha
  have hs := hg.size
  refine ⟨Own.flat NoB ho, h.o4.keep (Keep.grown hg fun k hk => ?_), fun j hj => ⟨(h.far j hj).1, Nat.lt_of_lt_of_le (h.far j hj).2.1 hs, (h.far j hj).2.2.1, ?_⟩, fun j hj e => ?_⟩
  · rcases hk with hk | hk
    · exact ⟨(h.far k hk).2.1, fun e => (h.far k hk).2.2.2 e.symm⟩
    · exact ⟨(h.o4.lt k hk).2, fun e => h.ne k e.symm hk⟩
  · rcases hv with e | e
    · rw [e]; exact (h.far j hj).2.2.2
    · rw [e]; intro e2; injection e2 with e2; have := (h.far j hj).2.1; omega
  · rcases hv with e2 | e2
    · rw [e2] at hj; exact h.ne j hj e
    · rw [e2] at hj; injection hj with hj; have := (h.o4.lt j e).2; omega
theorem TwoA.app4 {w w' : World} {B : Nat} {p q : Blocks} {s3 s4 v : Value} {l3 : List Int} {l4 zs : List EntV} (h : TwoA w B p s3 s4 l3 l4) (hq : ∀ k, q k → B ≤ k ∧ k < w.heap.size ∧ s4.ownBlock ≠ some k ∧ s3.ownBlock ≠ some k)
    (ha : Appended entR w B 36 (fun k => p k ∨ q k) s4 zs v w') : TwoA w' B (fun k => p k ∨ q k) s3 v l3 zs := by
  obtain ⟨ho, hg, hv⟩ := ha
  have hs := hg.size
  have hpq : ∀ k, (p k ∨ q k) → B ≤ k ∧ k < w.heap.size ∧ s4.ownBlock ≠ some k ∧ s3.ownBlock ≠ some k := fun k hk => hk.elim (h.far k) (hq k)
  refine ⟨h.o3.keep (Keep.grown hg fun k hk => ?_), ho, fun j hj => ⟨(hpq j hj).1, Nat.lt_of_lt_of_le (hpq j hj).2.1 hs, ?_, (hpq j hj).2.2.2⟩, fun j hj e => ?_⟩
  · rcases hk with hk | hk
    · exact hk.elim
    · exact ⟨(h.o3.lt k hk).2, fun e => h.ne k hk e.symm⟩
  · rcases hv with e | e
    · rw [e]; exact (hpq j hj).2.2.1
    · rw [e]; intro e2; injection e2 with e2; have := (hpq j hj).2.1; omega
  · rcases hv with e2 | e2
    · rw [e2] at e; exact h.ne j hj e
    · rw [e2] at e; injection e with e; have := (h.o3.lt j hj).2; omega
theorem TwoA.below {w w' : World} {B : Nat} {p : Blocks} {s3 s4 : Value} {l3 : List Int} {l4 : List EntV} (h : TwoA w B p s3 s4 l3 l4) (hB : B ≤ w.heap.size) {row : Option Nat} (hr : row = s3.ownBlock ∨ row = s4.ownBlock) (hg : w.grownBy w' row) : Below B w w' :=
  (Below.refl _ _).grown hg hB (fun k hk => by rcases hr with rfl | rfl; exact (h.o3.lt k hk).1; exact (h.o4.lt k hk).1)
/-- a page's number -/
def pg8 (b : UInt8) : Int := (b.toNat : Int) % 8
theorem rem8 (u : Nat) : (u : Int).tmod 8 = (u : Int) % 8 := Int.tmod_eq_emod_of_nonneg (by omega)
set_option maxHeartbeats 8000000 in
set_option maxRecDepth 100000 in
theorem TablePage_law (p0 : Blocks) (v : Value) (l : List UInt8) (w : World) (h : SlR byteR w p0 v l) (hT : Spc w) :
    Calls Tryz.prog 7 #[v] w fun e w' => e = .returned (.bool true) ∧ Below w.heap.size w w' := by
  have HAL := Lib.hid (fun W hT => alive9_any W hT)
  have HE9 := Lib.hid (fun p W => Entries9_any p W)
  have HT := Lib.hid hT
  have HS := Lib.hid h
  obtain ⟨va, vc, rfl, _, _, _⟩ := h.byte
  clear h hT
  by_cases hl : l.length > 8
  · have hl2 : (8 : Int) < (l.length : Int) := by omega
    go_enter Tryz.func7, Tryz.ntmps7
    go_wp2_with (go_at_call 14; refine (HAL.out _ HT.out).mono ?_; rintro e w2 ⟨rfl, hb⟩; have HB := Lib.hid hb; clear hb)
    go_ret
    exact ⟨rfl, HB.out⟩
  · have hl2 : ¬ (8 : Int) < (l.length : Int) := by omega
    have hl8 : l.length ≤ 8 := by omega
    clear hl
    go_enter Tryz.func7, Tryz.ntmps7
    go_wp2
    go_loopw [3, 4, 14] (fun s3 s4 s14 wx => ∃ (k : Nat) (p : Blocks), k ≤ l.length ∧ s14 = .int .i64 k ∧ TwoA wx w.heap.size p s3 s4 ((l.take k).map pg8) (((l.take k).map pg8).flatMap entsF) ∧ Below w.heap.size w wx) (fun _ _ s14 _ => l.length - (intOf s14).toNat)
    case atStart => exact ⟨0, NoB, by omega, rfl, TwoA.nil _ _, Below.refl _ _⟩
    case round =>
      obtain ⟨k, p, hk, rfl, htwo, hb⟩ := hrel
      have HW := Lib.hid htwo
      have HB := Lib.hid hb
      clear hb
      obtain ⟨a3, c3, rfl⟩ := htwo.o3.form
      obtain ⟨a4, c4, rfl⟩ := htwo.o4.form
      clear htwo
      by_cases hlt : k < l.length
      · obtain ⟨a9, c9, e9, _, _, g9⟩ := (HS.out.below HB.out).byte
        injection e9 with e9 e10 e11
        clear e10
        subst e9 e11
        obtain ⟨b, o, rfl, d1⟩ : ∃ b o, va = some ⟨b, o, none⟩ ∧ wr.cell? ⟨b, o + k, none⟩ = some (.int .u8 l[k].toNat) := by
          obtain ⟨b, o, e1, _, e2⟩ := g9 k l[k] (List.getElem?_eq_getElem hlt)
          exact ⟨b, o, e1, by simpa using e2⟩
        have hm : (l.take (k + 1)).map pg8 = (l.take k).map pg8 ++ [pg8 l[k]] := by rw [List.take_succ_eq_append_getElem hlt, List.map_append]; rfl
        have hf : ((l.take (k + 1)).map pg8).flatMap entsF = ((l.take k).map pg8).flatMap entsF ++ entsF (pg8 l[k]) := by rw [hm, List.flatMap_append]; simp
        have HM := Lib.hid hm
        have HF := Lib.hid hf
        have hfl := flat_len ((l.take k).map pg8)
        have htl : ((l.take k).map pg8).length ≤ 8 := by simp; omega
        have HML := Lib.hid htl
        have HPL : Hid ((((l.take k).map pg8).flatMap entsF).length ≤ 256000) := (by show _ ≤ _; omega)
        have hr8 : ((l[k].toNat : Int)).tmod 8 = pg8 l[k] := rem8 _
        have HEL := Lib.hid (entsK_len (pg8 l[k]) 256)
        clear g9 hfl htl hm hf
        generalize (l.take k).map pg8 = L3 at *
        generalize L3.flatMap entsF = L4 at *
        have hu : l[k].toNat < 256 := UInt8.toNat_lt l[k]
        generalize pg8 l[k] = page at *
        generalize l[k].toNat = u at *
        have hr9 : IntKind.i64.wrap (u : Int) = u := IntWalk.i64_in _ (by omega)
        have HLB : Hid ((L3.length + [page].length) * 8 ≤ 140737488355328) := (by have := HML.out; show _ ≤ _; rw [List.length_singleton]; omega)
        have HLL : Hid (L3.length + [page].length ≤ 9223372036854775807) := (by have := HML.out; show _ ≤ _; rw [List.length_singleton]; omega)
        have HWA := Lib.hid (HW.out.stay ((Below.refl _ _).alloc (Nat.le_refl _) (.cells #[.int .i64 page] 3)))
        have HX := Lib.hid (slR_one (w := wr) (R := intR) (p := NoB) (cs := [.int .i64 page]) (x := page) rfl 3)
        have HNE : Hid (∀ j, (NoB j ∨ j = wr.heap.size) → some j ≠ Value.ownBlock (.slice a3 L3.length c3)) := fun j hj e => by
          rcases hj with hj | rfl
          · exact hj.elim
          · exact absurd (HW.out.o3.lt _ e.symm).2 (Nat.lt_irrefl _)
        have HSA : Hid (w.heap.size ≤ (wr.alloc (.cells #[.int .i64 page] 3)).heap.size) := (by show _ ≤ _; rw [World.size_alloc]; have := HB.out.size; omega)
        go_upto_region 9 with (at_builtin; refine wpList_append_R _ rfl (.tmp 18) (.tmp 22) 33 rfl w.heap.size 3 8 elInt NoB _ _ _ L3 [page] rfl rfl HWA.out.o3 HX.out (fun _ h => False.elim h) HNE.out HLB.out HLL.out HSA.out ?_; intro v3 w1 hap; obtain ⟨a5, c5, rfl⟩ := hap.1.form; have HAP := Lib.hid hap; clear hap)
        have HW1 := Lib.hid (HWA.out.push3 HAP.out)
        have HB1 := Lib.hid (HB.out.trans (((Below.refl wr.heap.size wr).alloc (Nat.le_refl _) (.cells #[.int .i64 page] 3)).mono HB.out.size |>.trans (HWA.out.below HSA.out (.inl rfl) HAP.out.2.1)))
        clear HW HB HAP HX HNE HWA HSA d1
        rw [List.length_append, List.length_singleton] at HW1
        have HE1 := Lib.hid (HE9.out page w1)
        have HEN : Hid (EntsP 36 w1 (entsF page) = fun e w' => ∃ v, e = .returned v ∧ Acc entR w' w1.heap.size 36 v (entsF page) ∧ Below w1.heap.size w1 w') := rfl
        rw [HEN.out] at HE1
        have HE5 : Hid ((entsF page).length ≤ 256) := HEL.out
        clear HEN HEL
        generalize entsF page = L5 at *
        go_wp2_with fail
        refine HE1.out.mono ?_
        rintro e w2 ⟨v2, rfl, hacc, hb⟩
        obtain ⟨a6, c6, rfl⟩ := hacc.form
        have HW2 := Lib.hid (HW1.out.stay hb)
        have HB2 := Lib.hid (HB1.out.trans (hb.mono HB1.out.size))
        have HX4 := Lib.hid hacc.slR
        have HQ : Hid (∀ k, (w1.heap.size ≤ k ∧ k < w2.heap.size) → w.heap.size ≤ k ∧ k < w2.heap.size ∧ Value.ownBlock (.slice a4 L4.length c4) ≠ some k ∧ Value.ownBlock (.slice a5 (L3.length + 1) c5) ≠ some k) := fun k hk => ⟨Nat.le_trans HB1.out.size hk.1, hk.2, fun e => absurd (HW1.out.o4.lt k e).2 (Nat.not_lt.2 hk.1), fun e => absurd (HW1.out.o3.lt k e).2 (Nat.not_lt.2 hk.1)⟩
        have HLB4 : Hid ((L4.length + L5.length) * 80 ≤ 140737488355328) := (by have := HPL.out; have := HE5.out; show _ ≤ _; omega)
        have HLL4 : Hid (L4.length + L5.length ≤ 9223372036854775807) := (by have := HPL.out; have := HE5.out; show _ ≤ _; omega)
        clear hacc hb HE1 HB1
        go_wp2_with (at_builtin; refine wpList_append_R _ rfl (.tmp 24) (.tmp 28) 34 rfl w.heap.size 36 80 elE9 p _ _ _ L4 L5 rfl rfl HW2.out.o4 HX4.out (fun k hk e => (HW2.out.far k hk).2.2.1 e.symm) (fun k hk e => (HQ.out k hk).2.2.1 e.symm) HLB4.out HLL4.out HB2.out.size ?_; intro v4 w3 hap; obtain ⟨a7, c7, rfl⟩ := hap.1.form; have HAP4 := Lib.hid hap; clear hap)
        have HW3 := Lib.hid (HW2.out.app4 HQ.out HAP4.out)
        rw [List.length_append] at HW3
        go_round
        case rel => exact ⟨k + 1, _, by omega, by go_num, by rw [HF.out, HM.out]; exact HW3.out, HB2.out.trans (HW2.out.below HB2.out.size (.inr rfl) HAP4.out.2.1)⟩
        case measure => simp [intOf]; omega
      · obtain rfl : k = l.length := by omega
        rw [List.take_length] at HW
        rw [List.take_length]
        have hpl : (pagesF (l.map pg8)).length ≤ 1000 := by
          unfold pagesF
          split
          · simp
          · simp; omega
        have HPL := Lib.hid hpl
        clear hpl hk
        generalize l.map pg8 = L3 at *
        go_upto_if 33 with fail
        go_cut [4] (fun s4 wx => ∃ p, TwoA wx w.heap.size p (.slice a3 L3.length c3) s4 L3 ((pagesF L3).flatMap entsF) ∧ Below w.heap.size w wx)
        case first =>
          by_cases h0 : L3 = []
          · subst h0
            have HPE : Hid (pagesF [] = upI 7) := rfl
            have HW0 : Hid (TwoA wr w.heap.size p (.slice a3 0 c3) (.slice a4 0 c4) [] []) := HW.out
            clear HW
            have e1 : ((0 : Nat) : Int) = 0 := rfl
            have e2 : ((0 : Int) == 0) = true := rfl
            simp only [List.length_nil, List.flatMap_nil, e1, e2]
            clear e1 e2
            go_wp2
            go_loopw [4, 34] (fun s4 s34 wx => ∃ (k : Nat) (p' : Blocks), k ≤ 7 ∧ s34 = .int .i64 k ∧ TwoA wx w.heap.size p' (.slice a3 0 c3) s4 [] ((upI k).flatMap entsF) ∧ Below w.heap.size w wx) (fun _ s34 _ => 7 - (intOf s34).toNat)
            case atStart => exact ⟨0, p, by omega, rfl, HW0.out, HB.out⟩
            case round =>
              clear HW0 HB
              obtain ⟨k, p1, hk, rfl, htwo, hb⟩ := hrel
              have HW := Lib.hid htwo
              have HB := Lib.hid hb
              clear hb
              obtain ⟨a5, c5, rfl⟩ := htwo.o4.form
              clear htwo
              by_cases hlt : k < 7
              · have hm : (upI (k + 1)).flatMap entsF = (upI k).flatMap entsF ++ entsF (k : Int) := by rw [upI_succ, List.flatMap_append]; simp
                have hfl := flat_len (upI k)
                rw [upI_len] at hfl
                have HM := Lib.hid hm
                have HPL4 : Hid (((upI k).flatMap entsF).length ≤ 256000) := (by show _ ≤ _; omega)
                have HEL := Lib.hid (entsK_len (k : Int) 256)
                have HE1 := Lib.hid (HE9.out (k : Int) wr)
                have HEN : Hid (EntsP 36 wr (entsF (k : Int)) = fun e w' => ∃ v, e = .returned v ∧ Acc entR w' wr.heap.size 36 v (entsF (k : Int)) ∧ Below wr.heap.size wr w') := rfl
                rw [HEN.out] at HE1
                have HE5 : Hid ((entsF (k : Int)).length ≤ 256) := HEL.out
                clear HEN HEL hm hfl
                generalize entsF (k : Int) = L5 at *
                generalize (upI k).flatMap entsF = L4 at *
                go_wp2_with fail
                refine HE1.out.mono ?_
                rintro e w2 ⟨v2, rfl, hacc, hb⟩
                obtain ⟨a6, c6, rfl⟩ := hacc.form
                have HW2 := Lib.hid (HW.out.stay hb)
                have HB2 := Lib.hid (HB.out.trans (hb.mono HB.out.size))
                have HX4 := Lib.hid hacc.slR
                have HQ : Hid (∀ k, (wr.heap.size ≤ k ∧ k < w2.heap.size) → w.heap.size ≤ k ∧ k < w2.heap.size ∧ Value.ownBlock (.slice a5 L4.length c5) ≠ some k ∧ Value.ownBlock (.slice a3 0 c3) ≠ some k) := fun k hk => ⟨Nat.le_trans HB.out.size hk.1, hk.2, fun e => absurd (HW.out.o4.lt k e).2 (Nat.not_lt.2 hk.1), fun e => absurd (HW.out.o3.lt k e).2 (Nat.not_lt.2 hk.1)⟩
                have HLB4 : Hid ((L4.length + L5.length) * 80 ≤ 140737488355328) := (by have := HPL4.out; have := HE5.out; show _ ≤ _; omega)
                have HLL4 : Hid (L4.length + L5.length ≤ 9223372036854775807) := (by have := HPL4.out; have := HE5.out; show _ ≤ _; omega)
                clear hacc hb HE1
                go_wp2_with (at_builtin; refine wpList_append_R _ rfl (.tmp 37) (.tmp 39) 34 rfl w.heap.size 36 80 elE9 p1 _ _ _ L4 L5 rfl rfl HW2.out.o4 HX4.out (fun k hk e => (HW2.out.far k hk).2.2.1 e.symm) (fun k hk e => (HQ.out k hk).2.2.1 e.symm) HLB4.out HLL4.out HB2.out.size ?_; intro v4 w3 hap; obtain ⟨a7, c7, rfl⟩ := hap.1.form; have HAP4 := Lib.hid hap; clear hap)
                have HW3 := Lib.hid (HW2.out.app4 HQ.out HAP4.out)
                rw [List.length_append] at HW3
                go_round
                case rel => exact ⟨k + 1, _, by omega, by go_num, by rw [HM.out]; exact HW3.out, HB2.out.trans (HW2.out.below HB2.out.size (.inr rfl) HAP4.out.2.1)⟩
                case measure => simp [intOf]; omega
              · obtain rfl : k = 7 := by omega
                go_wp2
                go_meet
                case rel => exact ⟨p1, by rw [HPE.out]; exact HW.out, HB.out⟩
          · have HPE : Hid (pagesF L3 = L3) := if_neg h0
            have h1 : ¬ L3.length = 0 := fun e => h0 (List.eq_nil_of_length_eq_zero e)
            clear h0
            go_wp2
            go_meet
            case rel => exact ⟨p, by rw [HPE.out]; exact HW.out, HB.out⟩
        case rest =>
          obtain ⟨p2, hw2, hb2⟩ := hcut
          have HW2 := Lib.hid hw2
          have HB2 := Lib.hid hb2
          obtain ⟨a5, c5, rfl⟩ := hw2.o4.form
          clear hw2 hb2 HW HB
          generalize hL4 : (pagesF L3).flatMap entsF = L4 at *
          have HL4 := Lib.hid hL4
          clear hL4
          go_wp2_with (first
            | (go_at_call 14; refine (HAL.out _ (HT.out.below HB2.out)).mono ?_; rintro e w5 ⟨rfl, hb⟩; have HW5 := Lib.hid (HW2.out.stay hb); have HB5 := Lib.hid (HB2.out.trans (hb.mono HB2.out.size)); clear hb)
            | (go_at_call 29; refine (EntriesT_any (fun k => w.heap.size ≤ k) _ L3 _ (HW5.out.o3.slR (fun _ h => h.elim) (fun _ h => h)) HPL.out (HT.out.below HB5.out)).mono ?_; rw [HL4.out]; rintro e w6 ⟨v6, rfl, hacc, hb⟩; obtain ⟨a6, c6, rfl⟩ := hacc.form; have HX6 := Lib.hid hacc.slR; have HW6 := Lib.hid (HW5.out.stay hb); have HB6 := Lib.hid (HB5.out.trans (hb.mono HB5.out.size)); clear hb hacc)
            | (go_at_call 28; refine (EqEnt_any _ (fun k => w.heap.size ≤ k) _ _ L4 _ HX6.out (HW6.out.o4.slR (fun k hk => (HW6.out.far k hk).1) (fun _ h => h))).mono ?_; rintro e w7 ⟨rfl, hb⟩; have HB7 := Lib.hid (HB6.out.trans (hb.mono HB6.out.size)); clear hb))
          go_ret
          exact ⟨rfl, HB7.out⟩
end Go.Proofs.YtlepicdjnbbndaaGreatDoor
