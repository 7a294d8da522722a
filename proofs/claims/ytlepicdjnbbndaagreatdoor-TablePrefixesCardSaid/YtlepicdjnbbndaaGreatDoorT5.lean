/-
  operand.words, Named; table.word, named. Conditions: sizes.
-/
import Derived.Test.YtlepicdjnbbndaaGreatDoorT4
import Derived.Test.YtlepicdjnbbndaaGreatDoorK2
import Derived.Test.YtlepicdjnbbndaaGreatDoorK3
namespace Go.Proofs.YtlepicdjnbbndaaGreatDoor
open Go.RowKit Go.Shelf

/-- the operands of a kind that a name denotes -/
def selN (u : List UInt8) (kd : Int) : Nat → List (List UInt8) → List Opd
  | _, [] => []
  | i, x :: r => (if x ≠ [] ∧ x = u then [⟨kd, i, 0⟩] else []) ++ selN u kd (i + 1) r
theorem selN_app (u : List UInt8) (kd : Int) (y : List UInt8) : ∀ (l : List (List UInt8)) (i : Nat), selN u kd i (l ++ [y]) = selN u kd i l ++ (if y ≠ [] ∧ y = u then [⟨kd, (i + l.length : Nat), 0⟩] else [])
  | [], i => by simp [selN]
  | x :: l, i => by
    rw [List.cons_append, selN, selN_app u kd y l (i + 1), selN, List.append_assoc, List.length_cons, show i + 1 + l.length = i + (l.length + 1) by omega]
def namesT : List (Int × List (List UInt8)) :=
  [(1, [[66], [67], [68], [69], [72], [76], [], [65], []]), (2, [[73, 88, 72], [73, 88, 76], [73, 89, 72], [73, 89, 76], [], [], [], [], []]), (3, [[66, 67], [68, 69], [72, 76], [83, 80], [65, 70], [73, 88], [73, 89], [65, 70, 39], []]),
    (8, [[78, 90], [90], [78, 67], [67], [80, 79], [80, 69], [80], [77], []]), (9, [[73], [82], [], [], [], [], [], [], []])]
def namedF (u : List UInt8) : List Opd := namesT.flatMap fun x => selN u x.1 0 x.2
theorem kind_nm (k : Nat) (hk : k < 5) (j : Nat) (hj : j < 9) : (kindD (namesT.getD k (0, [])).1).nm j = ⟨((namesT.getD k (0, [])).2.getD j []).toArray⟩ := by
  have h : ∀ k : Fin 5, ∀ j : Fin 9, ((kindD (namesT.getD k.val (0, [])).1).nm j.val).data.toList = (namesT.getD k.val (0, [])).2.getD j.val [] := by decide +kernel
  have h2 := h ⟨k, hk⟩ ⟨j, hj⟩
  simp only at h2
  rw [← h2]
theorem kind_ok (k : Nat) (hk : k < 5) : kindOk (namesT.getD k (0, [])).1 = true := by
  have h : ∀ k : Fin 5, kindOk (namesT.getD k.val (0, [])).1 = true := by decide +kernel
  exact h ⟨k, hk⟩
theorem names_len (k : Nat) (hk : k < 5) : (namesT.getD k (0, [])).2.length = 9 := by
  have h : ∀ k : Fin 5, (namesT.getD k.val (0, [])).2.length = 9 := by decide +kernel
  exact h ⟨k, hk⟩
theorem is_any (x u : List UInt8) (bs : Nat) (w : World) (h : Blk w bs 9 #[.string ⟨u.toArray⟩]) :
    Calls Tryz.prog 199 #[.string ⟨x.toArray⟩, .pointer (some ⟨bs, 0, none⟩)] w fun e w' => e = .returned (.bool (decide (x = u))) ∧ w' = w := by
  have d0 := h.cell 0
  clear h
  have hx := toList_mk x
  have hu := toList_mk u
  have HE : Hid ((x == u) = decide (x = u)) := by show _ = _; rw [Bool.eq_iff_iff]; simp
  go_enter Tryz.func199, Tryz.ntmps199
  go_wp2
  go_ret
  exact ⟨ret_bool HE.out, rfl⟩
theorem run_kd : ∀ (k : Nat), k < 5 → ∀ w : World, (Instr.index 236 (.agg #[.int .i64 1, .int .i64 2, .int .i64 3, .int .i64 8, .int .i64 9]) (.int .i64 (k : Int))).run Tryz.prog w = .ok (.int .i64 (namesT.getD k (0, [])).1) w
  | 0, _ => fun _ => by kernel_rfl
  | 1, _ => fun _ => by kernel_rfl
  | 2, _ => fun _ => by kernel_rfl
  | 3, _ => fun _ => by kernel_rfl
  | 4, _ => fun _ => by kernel_rfl
  | k + 5, h => absurd h (by omega)
theorem run_nm (d : KindD) : ∀ (j : Nat), j < 9 → ∀ w : World, (Instr.index 151 (.agg #[.string (d.nm 0), .string (d.nm 1), .string (d.nm 2), .string (d.nm 3), .string (d.nm 4), .string (d.nm 5), .string (d.nm 6), .string (d.nm 7), .string (d.nm 8)]) (.int .i64 (j : Int))).run Tryz.prog w = .ok (.string (d.nm j)) w
  | 0, _ => fun _ => by kernel_rfl
  | 1, _ => fun _ => by kernel_rfl
  | 2, _ => fun _ => by kernel_rfl
  | 3, _ => fun _ => by kernel_rfl
  | 4, _ => fun _ => by kernel_rfl
  | 5, _ => fun _ => by kernel_rfl
  | 6, _ => fun _ => by kernel_rfl
  | 7, _ => fun _ => by kernel_rfl
  | 8, _ => fun _ => by kernel_rfl
  | j + 9, h => absurd h (by omega)
theorem find_agg (k : Int) (hk : kindOk k = true) (w : World) : Calls Tryz.prog 156 #[.int .i64 k] w fun e w' => e = .returned (.tuple #[.agg #[.string ((kindD k).nm 0), .string ((kindD k).nm 1), .string ((kindD k).nm 2), .string ((kindD k).nm 3), .string ((kindD k).nm 4), .string ((kindD k).nm 5), .string ((kindD k).nm 6), .string ((kindD k).nm 7), .string ((kindD k).nm 8), .int .i64 (kindD k).lo, .int .i64 (kindD k).hi, .func (.func (kindD k).form) #[] #[]], .bool true]) ∧ Below w.heap.size w w' := find_ok k hk w
theorem names_take {k : Nat} (hk : k < 5) (u : List UInt8) : ((namesT.take (k + 1)).flatMap fun x => selN u x.1 0 x.2) = ((namesT.take k).flatMap fun x => selN u x.1 0 x.2) ++ selN u (namesT.getD k (0, [])).1 0 (namesT.getD k (0, [])).2 := by
  have hk2 : k < namesT.length := hk
  rw [List.take_succ_eq_append_getElem hk2, List.flatMap_append]
  congr 1
  rw [List.getD_eq_getElem?_getD, List.getElem?_eq_getElem hk2]
  simp
theorem selN_take {u : List UInt8} {kd : Int} {l : List (List UInt8)} {j : Nat} (hj : j < l.length) : selN u kd 0 (l.take (j + 1)) = selN u kd 0 (l.take j) ++ (if l.getD j [] ≠ [] ∧ l.getD j [] = u then [⟨kd, j, 0⟩] else []) := by
  rw [List.take_succ_eq_append_getElem hj, selN_app, List.length_take, Nat.min_eq_left (Nat.le_of_lt hj), Nat.zero_add, List.getD_eq_getElem?_getD, List.getElem?_eq_getElem hj]
  rfl
theorem selN_len (u : List UInt8) (kd : Int) : ∀ (l : List (List UInt8)) (i : Nat), (selN u kd i l).length ≤ l.length
  | [], _ => Nat.zero_le _
  | x :: r, i => by
    have := selN_len u kd r (i + 1)
    rw [selN, List.length_append, List.length_cons]
    split <;> simp <;> omega
theorem words_len (u : List UInt8) (k : Nat) : ((namesT.take k).flatMap fun x => selN u x.1 0 x.2).length ≤ 9 * k := by
  induction k with
  | zero => simp
  | succ k ih =>
    by_cases hk : k < 5
    · rw [names_take hk, List.length_append]
      have := selN_len u (namesT.getD k (0, [])).1 (namesT.getD k (0, [])).2 0
      have h9 := names_len k hk
      omega
    · have hl : namesT.length = 5 := rfl
      rw [List.take_of_length_le (by omega)] at ih ⊢
      omega
set_option maxHeartbeats 4000000 in
set_option maxRecDepth 100000 in
theorem words_any (u : List UInt8) (bs : Nat) (w : World) (h : Blk w bs 9 #[.string ⟨u.toArray⟩]) :
    Calls Tryz.prog 198 #[.func (.func 199) #[] #[.pointer (some ⟨bs, 0, none⟩)]] w fun e w' => ∃ v, e = .returned v ∧ Own opdR w' w.heap.size 87 NoB v (namedF u) ∧ Below w.heap.size w w' := by
  have HB := Lib.hid h
  clear h
  go_enter Tryz.func198, Tryz.ntmps198
  go_wp2
  go_loopw [3, 11] (fun v i wr => ∃ (k : Nat), k ≤ 5 ∧ i = .int .i64 k ∧ Own opdR wr w.heap.size 87 NoB v ((namesT.take k).flatMap fun x => selN u x.1 0 x.2) ∧ Below w.heap.size w wr) (fun _ i _ => 5 - (intOf i).toNat)
  case atStart => exact ⟨0, Nat.zero_le _, rfl, Own.nil _ _ _ _ _, Below.refl _ _⟩
  case round =>
    obtain ⟨k, hk, rfl, ho, hb⟩ := hrel
    have HO := Lib.hid ho
    have HBW := Lib.hid hb
    clear ho hb
    by_cases hlt : k < 5
    · have hkd := run_kd k hlt
      have HFI := Lib.hid (fun W => find_agg _ (kind_ok k hlt) W)
      have HNM := Lib.hid (kind_nm k hlt)
      have HLE := Lib.hid (names_len k hlt)
      have HTK := Lib.hid (names_take hlt u)
      have HWL := Lib.hid (words_len u k)
      generalize namesT.getD k (0, []) = ent at *
      obtain ⟨kd, nl⟩ := ent
      dsimp only at hkd HFI HNM HLE HTK
      have hrn := run_nm (kindD kd)
      have HRN := Lib.hid hrn
      generalize kindD kd = d at *
      generalize ((namesT.take k).flatMap fun x => selN u x.1 0 x.2) = acc at *
      clear hrn
      go_wp2_with (go_at_call 156; refine (HFI.out _).mono ?_; rintro e w1 ⟨rfl, hb⟩; have HB1 := Lib.hid (HBW.out.trans (hb.mono HBW.out.size)); have HO1 := Lib.hid (HO.out.keep (Keep.of_below hb (fun j hj => by rcases hj with hj | hj; exact hj.elim; exact (HO.out.lt j hj).2))); clear hb)
      have hal := (Below.refl w1.heap.size w1).alloc (Nat.le_refl _) (.cells #[.string (d.nm 0), .string (d.nm 1), .string (d.nm 2), .string (d.nm 3), .string (d.nm 4), .string (d.nm 5), .string (d.nm 6), .string (d.nm 7), .string (d.nm 8), .int .i64 d.lo, .int .i64 d.hi, .func (.func d.form) #[] #[]] 154)
      have HB2 := Lib.hid (HB1.out.trans (hal.mono HB1.out.size))
      have HO2 := Lib.hid (HO1.out.keep (Keep.of_below hal (fun j hj => by rcases hj with hj | hj; exact hj.elim; exact (HO1.out.lt j hj).2)))
      clear hal HB1 HO1 HBW HO
      go_loopw [3, 21] (fun v i wr2 => ∃ j : Nat, j ≤ 9 ∧ i = .int .i64 j ∧ Own opdR wr2 w.heap.size 87 NoB v (acc ++ selN u kd 0 (nl.take j)) ∧ Below w.heap.size w wr2) (fun _ i _ => 9 - (intOf i).toNat)
      case atStart => exact ⟨0, Nat.zero_le _, rfl, by rw [List.take_zero, selN, List.append_nil]; exact HO2.out, HB2.out⟩
      case round =>
        clear HO2 HB2
        obtain ⟨j, hj, rfl, ho, hb⟩ := hrel
        have HO := Lib.hid ho
        have HBW := Lib.hid hb
        obtain ⟨oa, oc, rfl⟩ := ho.form
        clear ho hb
        by_cases hjt : j < 9
        · have HSE := Lib.hid (selN_take (u := u) (kd := kd) (show j < nl.length by have := HLE.out; omega))
          have hnm := HNM.out j hjt
          have hix := HRN.out j hjt
          rw [hnm] at hix
          generalize nl.getD j [] = x at *
          have HIS := Lib.hid (is_any x u bs wr (HB.out.below HBW.out HB.out.lt))
          have hemp : (⟨x.toArray⟩ : ByteArray).toList.isEmpty = decide (x = []) := by rw [toList_mk]; cases x <;> rfl
          have HLA : Hid ((acc ++ selN u kd 0 (nl.take j)).length ≤ 1000) := by
            show _ ≤ _
            have h1 := selN_len u kd (nl.take j) 0
            have h2 := HWL.out
            rw [List.length_take] at h1
            rw [List.length_append]
            omega
          generalize (⟨x.toArray⟩ : ByteArray) = bx at *
          generalize hzs : acc ++ selN u kd 0 (nl.take j) = zs at *
          have HZS := Lib.hid hzs
          clear hnm hzs
          by_cases hx : x = []
          · rw [decide_eq_true hx] at hemp
            have HNX : Hid (acc ++ selN u kd 0 (nl.take (j + 1)) = zs) := by show _ = _; rw [HSE.out, if_neg (fun h => h.1 hx), List.append_nil, HZS.out]
            clear hx
            go_wp2
            go_roundw
            case rel => exact ⟨j + 1, by omega, by go_num, by rw [HNX.out]; exact HO.out, HBW.out⟩
            case measure => simp [intOf]; omega
          · rw [decide_eq_false hx] at hemp
            by_cases hu : x = u
            · have HNX : Hid (acc ++ selN u kd 0 (nl.take (j + 1)) = zs ++ [⟨kd, j, 0⟩]) := by show _ = _; rw [HSE.out, if_pos ⟨hx, hu⟩, ← List.append_assoc, HZS.out]
              rw [decide_eq_true hu] at HIS
              have HL1 : Hid ((zs.length + 1) * 24 ≤ 140737488355328) := by show _ ≤ _; have := HLA.out; omega
              have HL2 : Hid (zs.length + 1 ≤ 9223372036854775807) := by show _ ≤ _; have := HLA.out; omega
              clear hx hu
              go_wp2_with (first
                | (go_at_call 199; refine HIS.out.mono ?_; rintro e w3 ⟨rfl, rfl⟩)
                | (at_builtin; refine wpList_push rfl (.tmp 32) (.tmp 36) 23 rfl w.heap.size 87 24 elOpd _ zs ⟨kd, j, 0⟩ _ rfl rfl HO.out rfl HL1.out HL2.out HBW.out.size ?_; intro a' c' w' hp; have HP := Lib.hid hp; clear hp))
              go_roundw
              case rel => exact ⟨j + 1, by omega, by go_num, by rw [HNX.out]; exact HP.out.1, HBW.out.grown HP.out.2 HBW.out.size (fun k hk => (HO.out.lt k hk).1)⟩
              case measure => simp [intOf]; omega
            · have HNX : Hid (acc ++ selN u kd 0 (nl.take (j + 1)) = zs) := by show _ = _; rw [HSE.out, if_neg (fun h => hu h.2), List.append_nil, HZS.out]
              rw [decide_eq_false hu] at HIS
              clear hx hu
              go_wp2_with (go_at_call 199; refine HIS.out.mono ?_; rintro e w3 ⟨rfl, rfl⟩)
              go_roundw
              case rel => exact ⟨j + 1, by omega, by go_num, by rw [HNX.out]; exact HO.out, HBW.out⟩
              case measure => simp [intOf]; omega
        · obtain rfl : j = 9 := by omega
          have HFN : Hid (acc ++ selN u kd 0 (nl.take 9) = acc ++ selN u kd 0 nl) := by show _ = _; rw [List.take_of_length_le (by have := HLE.out; omega)]
          go_wp2
          go_roundw
          case rel => exact ⟨k + 1, by omega, by go_num, by rw [HTK.out, ← HFN.out]; exact HO.out, HBW.out⟩
          case measure => simp [intOf]; omega
    · obtain rfl : k = 5 := by omega
      have HE : Hid (((namesT.take 5).flatMap fun x => selN u x.1 0 x.2) = namedF u) := Lib.hid rfl
      go_wp2
      go_ret
      exact ⟨_, rfl, by rw [← HE.out]; exact HO.out, HBW.out⟩
theorem Named_any (s : ByteArray) (w : World) (hs : s.size ≤ 1000000) :
    Calls Tryz.prog 173 #[.string s] w fun e w' => ∃ v, e = .returned v ∧ Own opdR w' w.heap.size 87 NoB v (namedF (s.data.toList.map up)) ∧ Below w.heap.size w w' := by
  have HU := Lib.hid (Upper_any s w (by omega))
  unfold upper at HU
  generalize s.data.toList.map up = u at *
  have HWD := Lib.hid (fun (bs : Nat) (W : World) (h : Blk W bs 9 #[.string ⟨u.toArray⟩]) => words_any u bs W h)
  have hmf : ∀ (fn : Fn) (first cap : Array Value) (w : World), (Instr.makeFunc fn first cap).run Tryz.prog w = .ok (.func fn first cap) w := fun _ _ _ _ => rfl
  clear hs
  go_enter Tryz.func173, Tryz.ntmps173
  go_wp2_with (first
    | (go_at_call 118; refine HU.out.mono ?_; rintro e w1 ⟨rfl, hb⟩; have HB1 := Lib.hid (hb.alloc hb.size (.cells #[.string ⟨u.toArray⟩] 9)); have HK1 := Lib.hid (Blk.new w1 9 #[.string ⟨u.toArray⟩]); clear hb)
    | (go_at_call 198; refine (HWD.out _ _ HK1.out).mono ?_; rintro e w2 ⟨v, rfl, ho, hb⟩; have HO := Lib.hid (ho.base HB1.out.size); have HB2 := Lib.hid (HB1.out.trans (hb.mono HB1.out.size)); clear ho hb))
  go_ret
  exact ⟨_, rfl, HO.out, HB2.out⟩
end Go.Proofs.YtlepicdjnbbndaaGreatDoor
