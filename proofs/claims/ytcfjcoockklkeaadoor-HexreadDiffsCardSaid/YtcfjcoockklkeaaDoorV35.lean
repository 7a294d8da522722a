/-
  breadboardref05.Diff. Conditions: sizes.
-/
import Derived.Test.YtcfjcoockklkeaaDoorV33
namespace Go.Proofs.YtcfjcoockklkeaaDoor
open Go.RowKit Go.Sort

def dI (A B : List CellV) : List Int := (dif05 A B).map fun n : Nat => (n : Int)
theorem dI_left {A B : List CellV} {i : Nat} (hi : i < A.length) (h : ∀ y, B.head? = some y → A[i].addr < y.addr) : dI (A.drop i) B = (A[i].addr : Int) :: dI (A.drop (i + 1)) B := by
  unfold dI
  rw [List.drop_eq_getElem_cons hi]
  cases B with
  | nil => rw [dif05_nil, dif05_nil]; rfl
  | cons y B => rw [dif05, if_pos (h y rfl)]; rfl
theorem dI_right {A B : List CellV} {k : Nat} (hk : k < B.length) (h : ∀ x, A.head? = some x → B[k].addr < x.addr) : dI A (B.drop k) = (B[k].addr : Int) :: dI A (B.drop (k + 1)) := by
  unfold dI
  rw [List.drop_eq_getElem_cons hk]
  cases A with
  | nil => rw [dif05, dif05]; rfl
  | cons x A =>
    have := h x rfl
    rw [dif05, if_neg (by omega), if_pos this]; rfl
theorem dI_same {A B : List CellV} {i k : Nat} (hi : i < A.length) (hk : k < B.length) (h : A[i].addr = B[k].addr) : dI (A.drop i) (B.drop k) = (if A[i].byte ≠ B[k].byte then [(A[i].addr : Int)] else []) ++ dI (A.drop (i + 1)) (B.drop (k + 1)) := by
  unfold dI
  rw [List.drop_eq_getElem_cons hi, List.drop_eq_getElem_cons hk, dif05_same h, List.map_append]
  congr 1
  split <;> rfl
theorem head_drop {A : List CellV} {i : Nat} {y : CellV} (h : (A.drop i).head? = some y) : ∃ hi : i < A.length, A[i] = y := by
  rw [List.head?_drop] at h
  exact List.getElem?_eq_some_iff.1 h
/-- two lists read side by side -/
structure DfI (w0 : World) (D : List Int) (A B : List CellV) (i k : Nat) (v : Value) (ys : List Int) (w : World) : Prop where
  out : Own intR w w0.heap.size 3 NoB v ys
  below : Below w0.heap.size w0 w
  len : ys.length ≤ i + k
  eq : D = ys ++ dI (A.drop i) (B.drop k)
theorem DfI.quiet {w0 w : World} {D : List Int} {A B : List CellV} {i k : Nat} {v : Value} {ys : List Int} (h : DfI w0 D A B i k v ys w) (n : Nat) : DfI w0 D A B i k v ys (w.drewN n) :=
  ⟨h.out.keep (fun _ _ => rfl), h.below.trans (below_drewN _ _ _), h.len, h.eq⟩
theorem DfI.push {w0 w w' : World} {D : List Int} {A B : List CellV} {i k i' k' : Nat} {v v' : Value} {ys : List Int} {n : Int} (h : DfI w0 D A B i k v ys w) (hp : Pushed intR w w0.heap.size 3 v.ownBlock (ys ++ [n]) v' w') (hl : i + k + 1 ≤ i' + k') (he : dI (A.drop i) (B.drop k) = n :: dI (A.drop i') (B.drop k')) : DfI w0 D A B i' k' v' (ys ++ [n]) w' :=
  ⟨hp.1, h.below.grown hp.2 h.below.size (fun k hk => (h.out.lt k hk).1), by rw [List.length_append]; have := h.len; simp; omega, by rw [h.eq, he, List.append_assoc]; rfl⟩
theorem DfI.skip {w0 w : World} {D : List Int} {A B : List CellV} {i k i' k' : Nat} {v : Value} {ys : List Int} (h : DfI w0 D A B i k v ys w) (hl : i + k ≤ i' + k') (he : dI (A.drop i) (B.drop k) = dI (A.drop i') (B.drop k')) : DfI w0 D A B i' k' v ys w :=
  ⟨h.out, h.below, Nat.le_trans h.len hl, by rw [h.eq, he]⟩
theorem cel_at {w : World} {p : Blocks} {a : Option Addr} {n c : Nat} {l : List CellV} (h : SlR cellR w p (.slice a n c) l) {k : Nat} (hk : k < l.length) : ∃ b o, a = some ⟨b, o, none⟩ ∧ b < w.heap.size ∧ w.cell? ⟨b, o + k * 2, none⟩ = some (.int .i64 l[k].addr) ∧ w.cell? ⟨b, o + k * 2 + 1, none⟩ = some (.int .u8 l[k].byte.toNat) := by
  obtain ⟨a', c', hv, _, _, g⟩ := h.cel
  obtain ⟨b, o, ha, _, h1, h2⟩ := g k l[k] (List.getElem?_eq_getElem hk)
  injection hv with hv _ _
  exact ⟨b, o, hv.trans ha, World.block_lt_of_cell? _ _ h1, h1, h2⟩
set_option maxHeartbeats 8000000 in
set_option maxRecDepth 100000 in
theorem Diff05_any (p q : Blocks) (va vb : Value) (A B : List CellV) (w : World) (ha : SlR cellR w p va A) (hb : SlR cellR w q vb B) (hA : A.length ≤ 65536) (hB : B.length ≤ 65536) :
    Calls Tryd.prog 43 #[va, vb] w fun e w' => ∃ v', e = .returned v' ∧ Own intR w' w.heap.size 3 NoB v' (dI A B) ∧ Below w.heap.size w w' := by
  obtain ⟨aa, ac, rfl, _⟩ := ha.cel
  obtain ⟨ba, bc, rfl, _⟩ := hb.cel
  have HA := Lib.hid ha
  have HB := Lib.hid hb
  have hA1 : (A.length : Int) ≤ 65536 := by omega
  have hB1 : (B.length : Int) ≤ 65536 := by omega
  obtain ⟨D, hD⟩ : ∃ D, D = dI A B := ⟨_, rfl⟩
  rw [← hD]
  have HI0 : Hid (DfI w D A B 0 0 (.slice none 0 0) [] w) := ⟨Own.nil _ _ _ _ _, Below.refl _ _, Nat.le_refl _, by rw [hD]; rfl⟩
  clear ha hb hA hB hD
  go_enter Tryd.func43, Tryd.ntmps43
  go_wp2
  go_loopw [5, 6, 7] (fun v i k wr => ∃ (x y : Nat) (ys : List Int), x ≤ A.length ∧ y ≤ B.length ∧ i = .int .i64 x ∧ k = .int .i64 y ∧ DfI w D A B x y v ys wr) (fun _ i k _ => (A.length - (intOf i).toNat) + (B.length - (intOf k).toNat))
  case atStart => exact ⟨0, 0, [], Nat.zero_le _, Nat.zero_le _, rfl, rfl, HI0.out⟩
  case round =>
    clear HI0
    obtain ⟨x, y, ys, hx, hy, rfl, rfl, hi⟩ := hrel
    have HI := Lib.hid hi
    obtain ⟨oa, oc, rfl⟩ := hi.out.form
    clear hi
    have hx0 : (0 : Int) ≤ (x : Int) := by omega
    have hy0 : (0 : Int) ≤ (y : Int) := by omega
    have HL1 : Hid ((ys.length + 1) * 8 ≤ 140737488355328) := by show _ ≤ _; have := HI.out.len; omega
    have HL2 : Hid (ys.length + 1 ≤ 9223372036854775807) := by show _ ≤ _; have := HI.out.len; omega
    by_cases hxl : x < A.length
    · have hx1 : (x : Int) < (A.length : Int) := by omega
      have hxe : ((x : Int) == (A.length : Int)) = false := by rw [beq_eq_false_iff_ne]; omega
      obtain ⟨b1, o1, rfl, _, d0, d1⟩ := cel_at (HA.out.below HI.out.below) hxl
      by_cases hyl : y < B.length
      · have hy1 : (y : Int) < (B.length : Int) := by omega
        have hye : ((y : Int) == (B.length : Int)) = false := by rw [beq_eq_false_iff_ne]; omega
        obtain ⟨b2, o2, rfl, _, e0, e1⟩ := cel_at (HB.out.below HI.out.below) hyl
        have HLE := Lib.hid (fun h => dI_left (B := B.drop y) hxl h)
        have HRI := Lib.hid (fun h => dI_right (A := A.drop x) hyl h)
        have HSA := Lib.hid (fun h => dI_same hxl hyl h)
        have HHB : Hid (∀ z, (B.drop y).head? = some z → z = B[y]) := fun z hz => (head_drop hz).2.symm
        have HHA : Hid (∀ z, (A.drop x).head? = some z → z = A[x]) := fun z hz => (head_drop hz).2.symm
        generalize A[x] = cx at *
        generalize B[y] = cy at *
        obtain ⟨xa, xb⟩ := cx
        obtain ⟨ya, yb⟩ := cy
        rcases Nat.lt_trichotomy xa ya with hlt | heq | hgt
        · have HE := Lib.hid (HLE.out (fun z hz => by rw [HHB.out z hz]; exact hlt))
          have hl1 : decide ((xa : Int) < (ya : Int)) = true := by rw [decide_eq_true_iff]; omega
          have hl2 : (xa : Int) < (ya : Int) := by omega
          clear hlt HLE HRI HSA HHA HHB
          go_wp2
          go_quiet (fail)
          have HQ := Lib.hid (HI.out.quiet nq)
          replace d0 : (wr.drewN nq).cell? ⟨b1, o1 + x * 2, none⟩ = some (.int .i64 xa) := d0
          go_wp2_with (at_builtin; refine wpList_push rfl (.tmp 65) (.tmp 71) 67 rfl w.heap.size 3 8 elInt _ ys (xa : Int) _ rfl rfl HQ.out.out rfl HL1.out HL2.out HQ.out.below.size ?_; intro a' c' w' hp; have HP := Lib.hid hp; clear hp)
          go_roundw
          case rel => exact ⟨x + 1, y, ys ++ [(xa : Int)], by omega, by omega, by go_num, rfl, HQ.out.push HP.out (by omega) HE.out⟩
          case measure => simp [intOf]; omega
        · subst heq
          have HE := Lib.hid (HSA.out rfl)
          have hl1 : decide ((xa : Int) < (xa : Int)) = false := by rw [decide_eq_false_iff_not]; omega
          clear HLE HRI HSA HHA HHB
          by_cases hbb : xb = yb
          · have hbe : ((xb.toNat : Int) != (yb.toNat : Int)) = false := by rw [hbb]; simp
            have HE2 : Hid (dI (A.drop x) (B.drop y) = dI (A.drop (x + 1)) (B.drop (y + 1))) := by show _ = _; rw [HE.out, if_neg (fun h => h hbb)]; rfl
            clear hbb HE
            go_wp2
            go_quiet (fail)
            have HQ := Lib.hid (HI.out.quiet nq)
            replace d0 : (wr.drewN nq).cell? ⟨b1, o1 + x * 2, none⟩ = some (.int .i64 xa) := d0
            replace d1 : (wr.drewN nq).cell? ⟨b1, o1 + x * 2 + 1, none⟩ = some (.int .u8 xb.toNat) := d1
            replace e0 : (wr.drewN nq).cell? ⟨b2, o2 + y * 2, none⟩ = some (.int .i64 xa) := e0
            replace e1 : (wr.drewN nq).cell? ⟨b2, o2 + y * 2 + 1, none⟩ = some (.int .u8 yb.toNat) := e1
            generalize wr.drewN nq = wr at *
            clear HI
            go_wp2
            go_quiet (fail)
            have HQ2 := Lib.hid (HQ.out.quiet nq)
            replace d0 : (wr.drewN nq).cell? ⟨b1, o1 + x * 2, none⟩ = some (.int .i64 xa) := d0
            replace d1 : (wr.drewN nq).cell? ⟨b1, o1 + x * 2 + 1, none⟩ = some (.int .u8 xb.toNat) := d1
            replace e0 : (wr.drewN nq).cell? ⟨b2, o2 + y * 2, none⟩ = some (.int .i64 xa) := e0
            replace e1 : (wr.drewN nq).cell? ⟨b2, o2 + y * 2 + 1, none⟩ = some (.int .u8 yb.toNat) := e1
            generalize wr.drewN nq = wr at *
            clear HQ
            go_wp2
            go_quiet (fail)
            have HQ3 := Lib.hid (HQ2.out.quiet nq)
            replace d0 : (wr.drewN nq).cell? ⟨b1, o1 + x * 2, none⟩ = some (.int .i64 xa) := d0
            replace d1 : (wr.drewN nq).cell? ⟨b1, o1 + x * 2 + 1, none⟩ = some (.int .u8 xb.toNat) := d1
            replace e0 : (wr.drewN nq).cell? ⟨b2, o2 + y * 2, none⟩ = some (.int .i64 xa) := e0
            replace e1 : (wr.drewN nq).cell? ⟨b2, o2 + y * 2 + 1, none⟩ = some (.int .u8 yb.toNat) := e1
            generalize wr.drewN nq = wr at *
            clear HQ2
            go_wp2
            go_roundw
            case rel => exact ⟨x + 1, y + 1, ys, by omega, by omega, by go_num, by go_num, HQ3.out.skip (by omega) HE2.out⟩
            case measure => simp [intOf]; omega
          · have hbe : ((xb.toNat : Int) != (yb.toNat : Int)) = true := by rw [bne_iff_ne]; intro e; exact hbb (UInt8.toNat_inj.1 (by omega))
            have HE2 : Hid (dI (A.drop x) (B.drop y) = (xa : Int) :: dI (A.drop (x + 1)) (B.drop (y + 1))) := by show _ = _; rw [HE.out, if_pos hbb]; rfl
            clear hbb HE
            go_wp2
            go_quiet (fail)
            have HQ := Lib.hid (HI.out.quiet nq)
            replace d0 : (wr.drewN nq).cell? ⟨b1, o1 + x * 2, none⟩ = some (.int .i64 xa) := d0
            replace d1 : (wr.drewN nq).cell? ⟨b1, o1 + x * 2 + 1, none⟩ = some (.int .u8 xb.toNat) := d1
            replace e0 : (wr.drewN nq).cell? ⟨b2, o2 + y * 2, none⟩ = some (.int .i64 xa) := e0
            replace e1 : (wr.drewN nq).cell? ⟨b2, o2 + y * 2 + 1, none⟩ = some (.int .u8 yb.toNat) := e1
            generalize wr.drewN nq = wr at *
            clear HI
            go_wp2
            go_quiet (fail)
            have HQ2 := Lib.hid (HQ.out.quiet nq)
            replace d0 : (wr.drewN nq).cell? ⟨b1, o1 + x * 2, none⟩ = some (.int .i64 xa) := d0
            replace d1 : (wr.drewN nq).cell? ⟨b1, o1 + x * 2 + 1, none⟩ = some (.int .u8 xb.toNat) := d1
            replace e0 : (wr.drewN nq).cell? ⟨b2, o2 + y * 2, none⟩ = some (.int .i64 xa) := e0
            replace e1 : (wr.drewN nq).cell? ⟨b2, o2 + y * 2 + 1, none⟩ = some (.int .u8 yb.toNat) := e1
            generalize wr.drewN nq = wr at *
            clear HQ
            go_wp2
            go_quiet (fail)
            have HQ3 := Lib.hid (HQ2.out.quiet nq)
            replace d0 : (wr.drewN nq).cell? ⟨b1, o1 + x * 2, none⟩ = some (.int .i64 xa) := d0
            generalize wr.drewN nq = wr at *
            clear HQ2
            go_wp2_with (at_builtin; refine wpList_push rfl (.tmp 29) (.tmp 35) 67 rfl w.heap.size 3 8 elInt _ ys (xa : Int) _ rfl rfl HQ3.out.out rfl HL1.out HL2.out HQ3.out.below.size ?_; intro a' c' w' hp; have HP := Lib.hid hp; clear hp)
            go_roundw
            case rel => exact ⟨x + 1, y + 1, ys ++ [(xa : Int)], by omega, by omega, by go_num, by go_num, HQ3.out.push HP.out (by omega) HE2.out⟩
            case measure => simp [intOf]; omega
        · have HE := Lib.hid (HRI.out (fun z hz => by rw [HHA.out z hz]; exact hgt))
          have hl1 : decide ((xa : Int) < (ya : Int)) = false := by rw [decide_eq_false_iff_not]; omega
          have hl2 : decide ((ya : Int) < (xa : Int)) = true := by rw [decide_eq_true_iff]; omega
          have hl3 : decide (xa < ya) = false := by rw [decide_eq_false_iff_not]; omega
          have hl4 : decide (ya < xa) = true := by rw [decide_eq_true_iff]; omega
          clear hgt HLE HRI HSA HHA HHB
          go_wp2
          go_quiet (fail)
          have HQ := Lib.hid (HI.out.quiet nq)
          replace d0 : (wr.drewN nq).cell? ⟨b1, o1 + x * 2, none⟩ = some (.int .i64 xa) := d0
          replace e0 : (wr.drewN nq).cell? ⟨b2, o2 + y * 2, none⟩ = some (.int .i64 ya) := e0
          generalize wr.drewN nq = wr at *
          clear HI
          go_wp2
          go_quiet (fail)
          have HQ2 := Lib.hid (HQ.out.quiet nq)
          replace d0 : (wr.drewN nq).cell? ⟨b1, o1 + x * 2, none⟩ = some (.int .i64 xa) := d0
          replace e0 : (wr.drewN nq).cell? ⟨b2, o2 + y * 2, none⟩ = some (.int .i64 ya) := e0
          generalize wr.drewN nq = wr at *
          clear HQ
          go_wp2_with (at_builtin; refine wpList_push rfl (.tmp 93) (.tmp 99) 67 rfl w.heap.size 3 8 elInt _ ys (ya : Int) _ rfl rfl HQ2.out.out rfl HL1.out HL2.out HQ2.out.below.size ?_; intro a' c' w' hp; have HP := Lib.hid hp; clear hp)
          go_roundw
          case rel => exact ⟨x, y + 1, ys ++ [(ya : Int)], by omega, by omega, rfl, by go_num, HQ2.out.push HP.out (by omega) HE.out⟩
          case measure => simp [intOf]; omega
      · obtain rfl : y = B.length := by omega
        have HE := Lib.hid (dI_left (B := B.drop B.length) hxl (fun z hz => by rw [List.drop_length] at hz; cases hz))
        have hye : ((B.length : Int) == (B.length : Int)) = true := by simp
        generalize A[x] = cx at *
        obtain ⟨xa, xb⟩ := cx
        go_wp2
        go_quiet (fail)
        have HQ := Lib.hid (HI.out.quiet nq)
        replace d0 : (wr.drewN nq).cell? ⟨b1, o1 + x * 2, none⟩ = some (.int .i64 xa) := d0
        generalize wr.drewN nq = wr at *
        clear HI
        go_wp2_with (at_builtin; refine wpList_push rfl (.tmp 65) (.tmp 71) 67 rfl w.heap.size 3 8 elInt _ ys (xa : Int) _ rfl rfl HQ.out.out rfl HL1.out HL2.out HQ.out.below.size ?_; intro a' c' w' hp; have HP := Lib.hid hp; clear hp)
        go_roundw
        case rel => exact ⟨x + 1, B.length, ys ++ [(xa : Int)], by omega, by omega, by go_num, rfl, HQ.out.push HP.out (by omega) HE.out⟩
        case measure => simp [intOf]; omega
    · obtain rfl : x = A.length := by omega
      have hxe : ((A.length : Int) == (A.length : Int)) = true := by simp
      by_cases hyl : y < B.length
      · have hy1 : (y : Int) < (B.length : Int) := by omega
        have hye : ((y : Int) == (B.length : Int)) = false := by rw [beq_eq_false_iff_ne]; omega
        obtain ⟨b2, o2, rfl, _, e0, e1⟩ := cel_at (HB.out.below HI.out.below) hyl
        have HE := Lib.hid (dI_right (A := A.drop A.length) hyl (fun z hz => by rw [List.drop_length] at hz; cases hz))
        generalize B[y] = cy at *
        obtain ⟨ya, yb⟩ := cy
        go_wp2
        go_quiet (fail)
        have HQ := Lib.hid (HI.out.quiet nq)
        replace e0 : (wr.drewN nq).cell? ⟨b2, o2 + y * 2, none⟩ = some (.int .i64 ya) := e0
        generalize wr.drewN nq = wr at *
        clear HI
        go_wp2
        go_quiet (fail)
        have HQ2 := Lib.hid (HQ.out.quiet nq)
        replace e0 : (wr.drewN nq).cell? ⟨b2, o2 + y * 2, none⟩ = some (.int .i64 ya) := e0
        generalize wr.drewN nq = wr at *
        clear HQ
        go_wp2_with (at_builtin; refine wpList_push rfl (.tmp 93) (.tmp 99) 67 rfl w.heap.size 3 8 elInt _ ys (ya : Int) _ rfl rfl HQ2.out.out rfl HL1.out HL2.out HQ2.out.below.size ?_; intro a' c' w' hp; have HP := Lib.hid hp; clear hp)
        go_roundw
        case rel => exact ⟨A.length, y + 1, ys ++ [(ya : Int)], by omega, by omega, rfl, by go_num, HQ2.out.push HP.out (by omega) HE.out⟩
        case measure => simp [intOf]; omega
      · obtain rfl : y = B.length := by omega
        have HR : Hid (D = ys) := by
          show _ = _
          have h := HI.out.eq
          rw [List.drop_length, List.drop_length] at h
          rw [h]
          unfold dI
          rw [dif05]
          simp
        go_wp2
        go_ret
        exact ⟨_, rfl, by rw [HR.out]; exact HI.out.out, HI.out.below⟩
end Go.Proofs.YtcfjcoockklkeaaDoor
