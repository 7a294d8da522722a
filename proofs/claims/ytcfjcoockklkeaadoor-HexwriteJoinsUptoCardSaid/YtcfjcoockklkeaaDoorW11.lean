/-
  hexwrite.Join, Write, Lines, Sized. Conditions: none.
-/
import Derived.Test.YtcfjcoockklkeaaDoorW10
namespace Go.Proofs.YtcfjcoockklkeaaDoor
open Go.RowKit

theorem ba_of {s : ByteArray} {l : List UInt8} (h : s.data.toList = l) : s = ⟨l.toArray⟩ := by
  subst h
  rfl
theorem ba_app (s t : ByteArray) : (s ++ t).data.toList = s.data.toList ++ t.data.toList := by
  rw [ByteArray.data_append, Array.toList_append]
theorem join_is : ∀ (L : List (List UInt8)), L ≠ [] → Lib.join L [10] ++ [10] = joinL L
  | [], h => absurd rfl h
  | [x], _ => by simp [Lib.join, joinL]
  | x :: y :: L, _ => by
    have := join_is (y :: L) (by simp)
    rw [joinL_cons, ← this]
    simp [Lib.join]
def joinS (L : List ByteArray) : List UInt8 := joinL (L.map fun s => s.data.toList)
set_option maxHeartbeats 1000000 in
theorem Join_any (p : Blocks) (v : Value) (L : List ByteArray) (w : World) (h : SlR strR w p v L) (hn : L.length ≤ 1000000) (hl : (joinS L).length ≤ 1000000000) :
    Calls Tryd.prog 19 #[v] w fun e w' => e = .returned (.string ⟨(joinS L).toArray⟩) ∧ Below w.heap.size w w' := by
  obtain ⟨a, c, rfl, hc1, hc2, g⟩ := h.str
  cases L with
  | nil =>
    go_enter Tryd.func19, Tryd.ntmps19
    go_wp2
    go_ret
    exact ⟨rfl, Below.refl _ _⟩
  | cons s0 L =>
    obtain ⟨b, o, rfl, _, hc0⟩ := g 0 s0 rfl
    have hblt : b < w.heap.size := World.block_lt_of_cell? _ _ hc0
    have hjl : (Lib.join ((s0 :: L).map (·.data.toList)) [10]).length + 1 = (joinS (s0 :: L)).length := by
      rw [joinS, ← join_is _ (by simp), List.length_append]; rfl
    have HJ := Lib.hid (Tryd.strings_Join b o c (s0 :: L) ⟨#[10]⟩ w (fun j x hx => by obtain ⟨b', o', e, _, hc⟩ := g j x hx; injection e with e; injection e with e1 e2; subst e1 e2; exact hc) hblt (by omega) hc1 (by show (Lib.join _ [10]).length ≤ _; omega))
    have HE : Hid (⟨(Lib.join ((s0 :: L).map (·.data.toList)) [10]).toArray⟩ ++ ⟨#[10]⟩ = (⟨(joinS (s0 :: L)).toArray⟩ : ByteArray)) := by
      refine ba_of ?_
      rw [ba_app, joinS, ← join_is _ (by simp)]
    have hne : decide (((s0 :: L).length : Int) = 0) = false := by simp; omega
    have hln : ((s0 :: L).length : Int) ≤ 1000000 := by omega
    have hl1 : (1 : Int) ≤ ((s0 :: L).length : Int) := by simp; omega
    have hsz : Hid ((⟨(Lib.join ((s0 :: L).map (·.data.toList)) [10]).toArray⟩ : ByteArray).size ≤ 1000000000) := by show (Lib.join _ [10]).toArray.size ≤ _; simp only [List.size_toArray]; omega
    clear g h hc0 hjl hc1 hc2 hn hl
    generalize s0 :: L = M at *
    generalize hS : (⟨(Lib.join (M.map (·.data.toList)) [10]).toArray⟩ : ByteArray) = S at *
    have HS := Lib.hid hS
    clear hS
    have hs9 := hsz.out
    go_enter Tryd.func19, Tryd.ntmps19
    go_wp2_with (go_at_call 50; refine HJ.out.mono ?_; rintro e w' ⟨rfl, hb⟩; have HB := Lib.hid hb; clear hb)
    go_ret
    exact ⟨ret_str HE.out, HB.out⟩
theorem lines_text (n : Nat) (R : List (Nat × List UInt8)) : joinS ((allRecs n R).map lineB) = textOf n R := by
  unfold joinS textOf linesOf allRecs
  rw [List.map_append, List.map_append, List.map_map, List.map_map, List.map_singleton, List.map_singleton, ← endLine_is]
  rfl
theorem textOf_len (n : Nat) (R : List (Nat × List UInt8)) (hn : 1 ≤ n) (hn2 : n ≤ 255) (hS : Sep 0 R) : (textOf n R).length ≤ 1000000000 ∧ (allRecs n R).length ≤ 65537 := by
  have hcnt : (allRecs n R).length ≤ 65537 := by
    unfold allRecs
    rw [List.length_append, List.length_map]
    rcases recs_count hn hS with rfl | h
    · show (recs n []).length + 1 ≤ _; simp [recs]
    · simp; omega
  refine ⟨?_, hcnt⟩
  rw [← lines_text]
  have hline : ∀ y ∈ allRecs n R, (lineB y).data.toList.length ≤ 1000 := fun y hy => by
    have := (allRecs_mem hn hn2 hS hy).2.2
    show (recLine _ _ _).length ≤ _
    unfold recLine recB
    simp only [List.length_cons, flat_len, List.length_append, List.length_nil]
    omega
  have hsum : ∀ L : List (Nat × Nat × List UInt8), (∀ y ∈ L, (lineB y).data.toList.length ≤ 1000) → (joinS (L.map lineB)).length ≤ 1001 * L.length := by
    intro L
    induction L with
    | nil => intro _; exact Nat.zero_le _
    | cons y L ih =>
      intro h
      have h1 := ih (fun z hz => h z (by simp [hz]))
      have h2 := h y (by simp)
      unfold joinS at *
      rw [List.map_cons, List.map_cons, joinL_cons, List.length_append, List.length_cons, List.length_cons]
      omega
  have := hsum _ hline
  omega
set_option maxHeartbeats 1000000 in
set_option maxRecDepth 100000 in
theorem Write_any (R : List (Nat × List UInt8)) (mo : Option Addr) (w : World) (hI : ImgV w (.pointer mo) R) (hT : Deb w) (hRl : R.length ≤ 65536) :
    Calls Tryd.prog 18 #[.pointer mo] w fun e w' => e = .returned (.string ⟨(textOf 16 R).toArray⟩) ∧ Below w.heap.size w w' := by
  have hl := textOf_len 16 R (by omega) (by omega) hI.sep
  have HLN := Lib.hid (lines_any 16 R mo w hI hT (by omega) (by omega) hRl)
  have HL1 : Hid (((allRecs 16 R).map lineB).length ≤ 1000000) := by show _ ≤ _; rw [List.length_map]; omega
  have HL2 : Hid ((joinS ((allRecs 16 R).map lineB)).length ≤ 1000000000) := by show _ ≤ _; rw [lines_text]; exact hl.1
  have HE := Lib.hid (lines_text 16 R)
  clear hl hI hT hRl
  generalize (allRecs 16 R).map lineB = LS at *
  go_enter Tryd.func18, Tryd.ntmps18
  go_wp2_with (first
    | (go_at_call 49; refine HLN.out.mono ?_; rintro e w1 ⟨v1, rfl, ho, hb⟩; have HO := Lib.hid ho; have HB := Lib.hid hb; obtain ⟨a1, c1, rfl⟩ := ho.form; clear ho hb)
    | (go_at_call 19; refine (Join_any _ _ _ _ (HO.out.slR (q := fun _ => True) (fun _ h => h.elim) (fun _ _ => trivial)) HL1.out HL2.out).mono ?_; rw [HE.out]; rintro e w2 ⟨rfl, hb⟩; have HB2 := Lib.hid (HB.out.trans (hb.mono HB.out.size)); clear hb))
  go_ret
  exact ⟨rfl, HB2.out⟩
set_option maxHeartbeats 1000000 in
theorem Lines_any (R : List (Nat × List UInt8)) (mo : Option Addr) (w : World) (hI : ImgV w (.pointer mo) R) (hT : Deb w) (hRl : R.length ≤ 65536) :
    Calls Tryd.prog 20 #[.pointer mo] w fun e w' => e = .returned (.int .i64 (linesOf 16 R).length) ∧ Below w.heap.size w w' := by
  have HLN := Lib.hid (lines_any 16 R mo w hI hT (by omega) (by omega) hRl)
  have HE : Hid ((((allRecs 16 R).map lineB).length : Int) = (linesOf 16 R).length) := by show _ = _; simp [allRecs, linesOf]
  clear hI hT hRl
  go_enter Tryd.func20, Tryd.ntmps20
  go_wp2_with (go_at_call 49; refine HLN.out.mono ?_; rintro e w1 ⟨v1, rfl, ho, hb⟩; have HB := Lib.hid hb; obtain ⟨a1, c1, rfl⟩ := ho.form; clear ho hb)
  go_ret
  exact ⟨ret_int (by rw [← HE.out]; simp), HB.out⟩
set_option maxHeartbeats 1000000 in
theorem Sized_no (n : Int) (mo : Option Addr) (w : World) (hn : ¬ (1 ≤ n ∧ n ≤ 255)) :
    Calls Tryd.prog 21 #[.int .i64 n, .pointer mo] w fun e w' => e = .returned (.tuple #[.string ⟨#[]⟩, .bool false]) ∧ Below w.heap.size w w' := by
  have h1 : allB 1 255 [n] = false := by simp [allB]; omega
  have H1 := Lib.hid (fun (W : World) (b : Nat) (hb : b = W.heap.size) => fits_one 1 255 n W b hb)
  rw [h1] at H1
  clear h1 hn
  go_enter Tryd.func21, Tryd.ntmps21
  go_wp2_with (go_at_call 51; refine (H1.out _ _ (by simp)).mono ?_; rintro e w' ⟨rfl, rfl⟩)
  go_ret2
  exact ⟨rfl, (Below.refl _ _).alloc (Nat.le_refl _) _⟩
set_option maxHeartbeats 1000000 in
set_option maxRecDepth 100000 in
theorem Sized_yes (n : Nat) (R : List (Nat × List UInt8)) (mo : Option Addr) (w : World) (hI : ImgV w (.pointer mo) R) (hT : Deb w) (hRl : R.length ≤ 65536) (hn : 1 ≤ n) (hn2 : n ≤ 255) :
    Calls Tryd.prog 21 #[.int .i64 n, .pointer mo] w fun e w' => e = .returned (.tuple #[.string ⟨(textOf n R).toArray⟩, .bool true]) ∧ Below w.heap.size w w' := by
  have h1 : allB 1 255 [(n : Int)] = true := by simp [allB]; omega
  have H1 := Lib.hid (fun (W : World) (b : Nat) (hb : b = W.heap.size) => fits_one 1 255 n W b hb)
  rw [h1] at H1
  have hl := textOf_len n R hn hn2 hI.sep
  have hba : Below w.heap.size w (w.alloc (.cells #[.int .i64 n] 3)) := (Below.refl _ _).alloc (Nat.le_refl _) _
  have HLN := Lib.hid (lines_any n R mo _ (hI.below hba) (hT.below hba) hn hn2 hRl)
  have HL1 : Hid (((allRecs n R).map lineB).length ≤ 1000000) := by show _ ≤ _; rw [List.length_map]; omega
  have HL2 : Hid ((joinS ((allRecs n R).map lineB)).length ≤ 1000000000) := by show _ ≤ _; rw [lines_text]; exact hl.1
  have HE := Lib.hid (lines_text n R)
  have HBA := Lib.hid hba
  clear hl hI hT hRl h1 hba
  generalize (allRecs n R).map lineB = LS at *
  go_enter Tryd.func21, Tryd.ntmps21
  go_wp2_with (first
    | (go_at_call 51; refine (H1.out _ _ (by simp)).mono ?_; rintro e w' ⟨rfl, rfl⟩)
    | (go_at_call 49; refine HLN.out.mono ?_; rintro e w1 ⟨v1, rfl, ho, hb⟩; have HO := Lib.hid ho; have HB := Lib.hid (HBA.out.trans (hb.mono HBA.out.size)); obtain ⟨a1, c1, rfl⟩ := ho.form; clear ho hb)
    | (go_at_call 19; refine (Join_any _ _ _ _ (HO.out.slR (q := fun _ => True) (fun _ h => h.elim) (fun _ _ => trivial)) HL1.out HL2.out).mono ?_; rw [HE.out]; rintro e w2 ⟨rfl, hb⟩; have HB2 := Lib.hid (HB.out.trans (hb.mono HB.out.size)); clear hb))
  go_ret2
  exact ⟨rfl, HB2.out⟩
end Go.Proofs.YtcfjcoockklkeaaDoor
