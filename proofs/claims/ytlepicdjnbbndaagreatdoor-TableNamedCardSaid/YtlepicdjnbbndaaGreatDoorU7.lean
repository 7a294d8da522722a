/-
  The entries of pages, the program's list. Conditions: the library's table as its initialiser lays it; the number of pages.
-/
import Derived.Test.YtlepicdjnbbndaaGreatDoorU3
namespace Go.Proofs.YtlepicdjnbbndaaGreatDoor
open Go.RowKit Go.Shelf Go.Sort

/-- the given pages, or all -/
def pagesF (l : List Int) : List Int := if l = [] then [0, 1, 2, 3, 4, 5, 6] else l
def upI (k : Nat) : List Int := (List.range k).map fun (j : Nat) => (j : Int)
theorem upI_succ (k : Nat) : upI (k + 1) = upI k ++ [(k : Int)] := by unfold upI; rw [List.range_succ, List.map_append]; rfl
theorem upI_len (k : Nat) : (upI k).length = k := by unfold upI; simp
set_option maxHeartbeats 4000000 in
set_option maxRecDepth 100000 in
theorem every_any (p : Blocks) (v : Value) (l : List Int) (w : World) (h : SlR intR w p v l) :
    Calls Tryz.prog 62 #[v] w fun e w' => ∃ v' q, e = .returned v' ∧ SlR intR w' q v' (pagesF l) ∧ Below w.heap.size w w' := by
  by_cases hl : l = []
  · subst hl
    obtain ⟨a, c, rfl, _, _, _⟩ := h
    have HP : Hid (pagesF [] = upI 7) := rfl
    rw [HP.out]
    go_enter Tryz.func62, Tryz.ntmps62
    go_wp2
    go_loopw [3, 9] (fun s3 s9 wx => ∃ k : Nat, k ≤ 7 ∧ s9 = .int .i64 k ∧ Own intR wx w.heap.size 3 NoB s3 (upI k) ∧ Below w.heap.size w wx) (fun _ s9 _ => 7 - (intOf s9).toNat)
    case atStart => exact ⟨0, by omega, rfl, Own.nil _ _ _ _ _, Below.refl _ _⟩
    case round =>
      obtain ⟨k, hk, rfl, ho, hb⟩ := hrel
      have HO := Lib.hid ho
      have HB := Lib.hid hb
      obtain ⟨a3, c3, rfl⟩ := ho.form
      clear ho hb
      by_cases hlt : k < 7
      · have HLB : Hid (((upI k).length + 1) * 8 ≤ 140737488355328) := (by show _ ≤ _; rw [upI_len]; omega)
        have HLL : Hid ((upI k).length + 1 ≤ 9223372036854775807) := (by show _ ≤ _; rw [upI_len]; omega)
        have HUS := Lib.hid (upI_succ k)
        generalize upI k = L at *
        go_wp2_with (at_builtin; refine wpList_push rfl (.tmp 12) (.tmp 14) 33 rfl w.heap.size 3 8 elInt _ L (k : Int) _ rfl rfl HO.out rfl HLB.out HLL.out HB.out.size ?_; intro a' c' w' hp; have HP := Lib.hid hp; clear hp)
        go_round
        case rel => exact ⟨k + 1, by omega, by go_num, by rw [HUS.out]; exact HP.out.1, HB.out.grown HP.out.2 HB.out.size (fun j hj => (HO.out.lt j hj).1)⟩
        case measure => simp [intOf]; omega
      · obtain rfl : k = 7 := by omega
        go_wp2
        go_ret
        exact ⟨_, fun k => w.heap.size ≤ k, rfl, HO.out.slR (fun _ h => h.elim) (fun _ h => h), HB.out⟩
  · have HP : Hid (pagesF l = l) := if_neg hl
    rw [HP.out]
    have HS := Lib.hid h
    obtain ⟨a, c, rfl, _, _, _⟩ := h
    have hl0 : (0 : Int) < l.length := by have := List.length_pos_iff.2 hl; omega
    clear hl
    go_enter Tryz.func62, Tryz.ntmps62
    go_wp2
    go_ret
    exact ⟨_, p, rfl, HS.out, Below.refl _ _⟩
theorem flat_len (L : List Int) : (L.flatMap entsF).length ≤ L.length * 256 := by
  induction L with
  | nil => simp
  | cons a L ih =>
    have := entsK_len a 256
    rw [List.flatMap_cons, List.length_append, List.length_cons]
    unfold entsF at *
    omega
theorem flat_take (L : List Int) (k : Nat) (h : k < L.length) : (L.take (k + 1)).flatMap entsF = (L.take k).flatMap entsF ++ entsF L[k] := by
  rw [List.take_succ_eq_append_getElem h, List.flatMap_append]; simp
set_option maxHeartbeats 4000000 in
set_option maxRecDepth 100000 in
theorem EntriesT_any (p : Blocks) (v : Value) (l : List Int) (w : World) (h : SlR intR w p v l) (hn : (pagesF l).length ≤ 1000) (hT : Spc w) :
    Calls Tryz.prog 29 #[v] w (EntsP 27 w ((pagesF l).flatMap entsF)) := by
  have HEP : Hid (EntsP 27 w ((pagesF l).flatMap entsF) = fun e w' => ∃ v, e = .returned v ∧ Acc entR w' w.heap.size 27 v ((pagesF l).flatMap entsF) ∧ Below w.heap.size w w') := rfl
  rw [HEP.out]
  have HEV := Lib.hid (every_any p v l w h)
  generalize pagesF l = L at *
  have HT := Lib.hid hT
  clear HEP h hT
  go_enter Tryz.func29, Tryz.ntmps29
  go_wp2_with fail
  refine HEV.out.mono ?_
  rintro e w1 ⟨v1, q, rfl, hs, hb⟩
  have HS := Lib.hid hs
  have HB1 := Lib.hid hb
  obtain ⟨a1, c1, rfl, _, _, _⟩ := hs.int
  clear hs hb HEV
  go_wp2
  go_loopw [3, 12] (fun s3 s12 wx => ∃ k : Nat, k ≤ L.length ∧ s12 = .int .i64 k ∧ Acc entR wx w1.heap.size 27 s3 ((L.take k).flatMap entsF) ∧ Below w1.heap.size w1 wx) (fun _ s12 _ => L.length - (intOf s12).toNat)
  case atStart => exact ⟨0, by omega, rfl, Acc.nil _ _ _, Below.refl _ _⟩
  case round =>
    obtain ⟨k, hk, rfl, hacc, hb⟩ := hrel
    have HC := Lib.hid hacc
    have HB := Lib.hid hb
    clear hacc hb
    by_cases hlt : k < L.length
    · obtain ⟨a9, c9, e9, _, _, g9⟩ := (HS.out.below HB.out).int
      injection e9 with e9 e10 e11
      clear e10
      subst e9 e11
      obtain ⟨b, o, rfl, d1⟩ : ∃ b o, a1 = some ⟨b, o, none⟩ ∧ wr.cell? ⟨b, o + k, none⟩ = some (.int .i64 L[k]) := by
        obtain ⟨b, o, e1, _, e2⟩ := g9 k L[k] (List.getElem?_eq_getElem hlt)
        exact ⟨b, o, e1, by simpa using e2⟩
      have HFT := Lib.hid (flat_take L k hlt)
      have hfl := flat_len (L.take k)
      have htl : (L.take k).length ≤ k := List.length_take_le _ _
      have HPL : Hid (((L.take k).flatMap entsF).length ≤ 256000) := (by show _ ≤ _; omega)
      clear g9 hfl htl
      generalize L[k] = page at *
      generalize (L.take k).flatMap entsF = pre at *
      obtain ⟨a3, c3, rfl⟩ := HC.out.form
      have HK := Lib.hid hk
      go_wp2
      go_loopw [3, 16] (fun s3 s16 wx => ∃ j : Nat, j ≤ 256 ∧ s16 = .int .i64 j ∧ Acc entR wx w1.heap.size 27 s3 (pre ++ entsK page j) ∧ Below w1.heap.size w1 wx) (fun _ s16 _ => 256 - (intOf s16).toNat)
      case atStart => exact ⟨0, by omega, rfl, by simpa [entsK] using HC.out, HB.out⟩
      case round =>
        clear HC HB d1
        obtain ⟨j, hj, rfl, hacc, hb⟩ := hrel
        have HC := Lib.hid hacc
        have HB := Lib.hid hb
        clear hacc hb
        by_cases hlt2 : j < 256
        · have hwr := wrap_u8 hlt2
          have HA1 := Lib.hid (At_any page j hlt2 wr (HT.out.below (HB1.out.trans (HB.out.mono HB1.out.size))))
          have HK1 := Lib.hid (atF_kind page j)
          have HN := Lib.hid (entsK_no (p := page) (k := j))
          have HY := Lib.hid (fun x => entsK_yes (p := page) (k := j) (x := x))
          have HL := Lib.hid (entsK_len page j)
          generalize atF page j = xk at *
          obtain ⟨x, kd⟩ := xk
          dsimp only at *
          generalize entsK page j = M at *
          have HML : Hid ((pre ++ M).length + 1 ≤ 1000000) := (by have := HL.out; have := HPL.out; show _ ≤ _; rw [List.length_append]; omega)
          generalize hpm : pre ++ M = PM at *
          have HPM := Lib.hid hpm
          clear hpm
          obtain ⟨a4, c4, rfl⟩ := HC.out.form
          go_wp2_with fail
          refine HA1.out.mono ?_
          rintro e w2 ⟨he, hb1⟩
          have HB2 := Lib.hid hb1
          have HS2 := Lib.hid hb1.size
          clear hb1
          rcases x with _ | x
          · have hk1 : ¬ kd = 1 := by rcases HK1.out.2 rfl with h | h | h <;> omega
            subst he
            have HN1 := Lib.hid (HN.out rfl)
            clear HN HY
            have HB3 := Lib.hid (HB2.out.alloc HS2.out (.cells #[.int .i64 0, .int .u8 0, .string ⟨#[]⟩, .slice none 0 0, .string ⟨#[]⟩, .bool false] 27))
            unfold ent0
            go_wp2
            go_round
            case rel => exact ⟨j + 1, by omega, by go_num, by rw [HN1.out, HPM.out]; exact HC.out.stay HB3.out, HB.out.trans (HB3.out.mono HB.out.size)⟩
            case measure => simp [intOf]; omega
          · obtain rfl : kd = 1 := HK1.out.1 _ rfl
            obtain ⟨v, rfl, ho⟩ := he
            obtain ⟨va, vc, rfl⟩ := ho.form
            have HX := Lib.hid (HY.out x rfl)
            obtain ⟨p1, o1, i1, l1, s1, f1⟩ := x
            dsimp only at *
            have HB3 := Lib.hid (HB2.out.alloc HS2.out (.cells #[.int .i64 p1, .int .u8 o1, .string ⟨i1.toArray⟩, .slice va l1.length vc, .string ⟨s1.toArray⟩, .bool f1] 27))
            have HR := Lib.hid (entR_rel (x := ⟨p1, o1, i1, l1, s1, f1⟩) (ho.below ((Below.refl w2.heap.size w2).alloc (Nat.le_refl _) (.cells #[.int .i64 p1, .int .u8 o1, .string ⟨i1.toArray⟩, .slice va l1.length vc, .string ⟨s1.toArray⟩, .bool f1] 27))))
            have HCC := Lib.hid (HC.out.stay HB3.out)
            have HQ : Hid (∀ k, wr.heap.size ≤ k → w1.heap.size ≤ k ∧ Value.ownBlock (.slice a4 PM.length c4) ≠ some k) := fun k hk => ⟨Nat.le_trans HB.out.size hk, fun e => absurd (HC.out.lt k e).2 (Nat.not_lt.2 hk)⟩
            have HLB : Hid ((PM.length + 1) * 80 ≤ 140737488355328) := (by have := HML.out; show _ ≤ _; omega)
            have HLL : Hid (PM.length + 1 ≤ 9223372036854775807) := (by have := HML.out; show _ ≤ _; omega)
            have HSZ : Hid (w1.heap.size ≤ (w2.alloc (.cells #[.int .i64 p1, .int .u8 o1, .string ⟨i1.toArray⟩, .slice va l1.length vc, .string ⟨s1.toArray⟩, .bool f1] 27)).heap.size) := Nat.le_trans HB.out.size HB3.out.size
            clear ho HN HY HL
            unfold entVal
            dsimp only
            go_wp2_with (at_builtin; refine wpList_push_A rfl (.tmp 28) (.tmp 30) 56 rfl w1.heap.size 27 80 elET _ PM ⟨p1, o1, i1, l1, s1, f1⟩ _ (fun b => wr.heap.size ≤ b) rfl (by rw [World.size_alloc]; rfl) HCC.out HR.out HQ.out HLB.out HLL.out HSZ.out ?_; intro a' c' w' hp; have HP := Lib.hid hp; clear hp)
            go_round
            case rel => exact ⟨j + 1, by omega, by go_num, by rw [HX.out, ← List.append_assoc, HPM.out]; have := HP.out.1; simpa using this, HB.out.trans ((HB3.out.mono HB.out.size).trans (AccP.below HP.out HCC.out HSZ.out))⟩
            case measure => simp [intOf]; omega
        · obtain rfl : j = 256 := by omega
          obtain ⟨a4, c4, rfl⟩ := HC.out.form
          go_wp2
          go_round
          case rel => exact ⟨k + 1, by omega, by go_num, by rw [HFT.out]; exact HC.out, HB.out⟩
          case measure => simp [intOf]; omega
    · obtain rfl : k = L.length := by omega
      rw [List.take_length] at HC
      go_wp2
      go_ret
      exact ⟨_, rfl, HC.out.base HB1.out.size, HB1.out.trans (HB.out.mono HB1.out.size)⟩
end Go.Proofs.YtlepicdjnbbndaaGreatDoor
