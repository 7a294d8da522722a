/-
  breadboardref05.Split, trim, blank. Conditions: the string's size.
-/
import Derived.Test.YtcfjcoockklkeaaGreatDoorM2
namespace Go.Proofs.YtcfjcoockklkeaaGreatDoor
open Go.RowKit

theorem ba_ofV {s : ByteArray} {l : List UInt8} (h : s.data.toList = l) : s = ⟨l.toArray⟩ := by
  subst h
  rfl
theorem splitNL_at {s : List UInt8} {f i : Nat} (hf : f ≤ i) (hi : i < s.length) (h10 : s[i] = 10) (hno : ∀ c ∈ (s.drop f).take (i - f), c ≠ 10) : splitNL (s.drop f) = (s.drop f).take (i - f) :: splitNL (s.drop (i + 1)) := by
  rw [← splitNL_line _ _ hno]
  congr 1
  have h1 : s.drop i = 10 :: s.drop (i + 1) := by rw [← h10]; exact List.drop_eq_getElem_cons hi
  rw [← h1]
  have h2 : s.drop i = (s.drop f).drop (i - f) := by rw [List.drop_drop]; congr 1; omega
  rw [h2, List.take_append_drop]
theorem noNL_more {s : List UInt8} {f i : Nat} (hf : f ≤ i) (hi : i < s.length) (h10 : s[i] ≠ 10) (hno : ∀ c ∈ (s.drop f).take (i - f), c ≠ 10) : ∀ c ∈ (s.drop f).take (i + 1 - f), c ≠ 10 := by
  intro c hc
  rw [show i + 1 - f = (i - f) + 1 by omega, List.take_add_one, List.mem_append] at hc
  rcases hc with hc | hc
  · exact hno c hc
  · rw [List.getElem?_drop, show f + (i - f) = i by omega, List.getElem?_eq_getElem hi] at hc
    simp at hc
    rw [hc]; exact h10
/-- the lines so far -/
def SplSt (s : ByteArray) (ys : List ByteArray) (f i : Nat) : Prop :=
  (i ≤ s.size ∧ f ≤ i ∧ splitNL s.data.toList = ys.map (·.data.toList) ++ splitNL (s.data.toList.drop f) ∧ ∀ c ∈ (s.data.toList.drop f).take (i - f), c ≠ 10) ∨ (i = s.size + 1 ∧ f ≤ i ∧ splitNL s.data.toList = ys.map (·.data.toList))
theorem extract_take (s : ByteArray) (f i : Nat) : (s.extract f i).data.toList = (s.data.toList.drop f).take (i - f) := by
  rw [Lib.extract_data]
theorem SplSt.cut {s : ByteArray} {ys : List ByteArray} {f i : Nat} (h : SplSt s ys f i) (hi : i < s.size) (h10 : s[i] = 10) : SplSt s (ys ++ [s.extract f i]) (i + 1) (i + 1) := by
  rcases h with ⟨_, h2, h3, h4⟩ | ⟨h1, _⟩
  · refine .inl ⟨by omega, Nat.le_refl _, ?_, fun c hc => by simp at hc⟩
    rw [h3, splitNL_at h2 (by simpa using hi) h10 h4, List.map_append, List.append_assoc]
    simp
  · omega
theorem SplSt.go {s : ByteArray} {ys : List ByteArray} {f i : Nat} (h : SplSt s ys f i) (hi : i < s.size) (h10 : s[i] ≠ 10) : SplSt s ys f (i + 1) := by
  rcases h with ⟨_, h2, h3, h4⟩ | ⟨h1, _⟩
  · exact .inl ⟨by omega, by omega, h3, noNL_more h2 (by simpa using hi) h10 h4⟩
  · omega
theorem SplSt.last {s : ByteArray} {ys : List ByteArray} {f : Nat} (h : SplSt s ys f s.size) : SplSt s (ys ++ [s.extract f s.size]) (s.size + 1) (s.size + 1) := by
  rcases h with ⟨_, h2, h3, h4⟩ | ⟨h1, _⟩
  · refine .inr ⟨rfl, Nat.le_refl _, ?_⟩
    have e : (s.data.toList.drop f).take (s.size - f) = s.data.toList.drop f := List.take_of_length_le (by simp)
    rw [e] at h4
    rw [h3, splitNL_last _ h4, List.map_append]
    simp [e]
  · omega
theorem SplSt.done {s : ByteArray} {ys : List ByteArray} {f i : Nat} (h : SplSt s ys f i) (hi : s.size < i) : ys.map (·.data.toList) = splitNL s.data.toList := by
  rcases h with ⟨h1, _⟩ | ⟨_, _, h3⟩
  · omega
  · exact h3.symm
theorem SplSt.le {s : ByteArray} {ys : List ByteArray} {f i : Nat} (h : SplSt s ys f i) : f ≤ i ∧ i ≤ s.size + 1 := by
  rcases h with ⟨_, h2, _⟩ | ⟨h1, h2, _⟩
  · omega
  · omega
theorem elStrV : ElT Tryz.prog 42 9 strR.size 16 := ElT.mk' (z := .string ByteArray.empty) Tryz.underlying42 (by kernel_rfl) rfl (by decide)
set_option maxHeartbeats 2000000 in
set_option maxRecDepth 100000 in
theorem Split05_any (s : ByteArray) (w : World) (hs : s.size ≤ 1000000) :
    Calls Tryz.prog 22 #[.string s] w fun e w' => ∃ v ys, e = .returned v ∧ Own strR w' w.heap.size 9 NoB v ys ∧ ys.map (·.data.toList) = splitNL s.data.toList ∧ Below w.heap.size w w' := by
  have hs1 : (s.size : Int) ≤ 1000000 := by omega
  go_enter Tryz.func22, Tryz.ntmps22
  go_wp2
  go_loopw [3, 4, 5] (fun v f i wr => ∃ (kf k : Nat) (ys : List ByteArray), f = .int .i64 kf ∧ i = .int .i64 k ∧ ys.length ≤ k ∧ Own strR wr w.heap.size 9 NoB v ys ∧ SplSt s ys kf k ∧ Below w.heap.size w wr) (fun _ _ i _ => s.size + 1 - (intOf i).toNat)
  case atStart => exact ⟨0, 0, [], rfl, rfl, Nat.le_refl _, Own.nil _ _ _ _ _, .inl ⟨Nat.zero_le _, Nat.le_refl _, rfl, fun c hc => by simp at hc⟩, Below.refl _ _⟩
  case round =>
    obtain ⟨kf, k, ys, rfl, rfl, hyl, ho, hst, hb⟩ := hrel
    have HO := Lib.hid ho
    have HST := Lib.hid hst
    have HB := Lib.hid hb
    obtain ⟨hfk, hk⟩ := hst.le
    obtain ⟨a, c, rfl⟩ := ho.form
    clear ho hst hb
    have HC1 : Hid ((ys.length + 1) * 16 ≤ 140737488355328) := by show _ ≤ _; omega
    have HC2 : Hid (ys.length + 1 ≤ 9223372036854775807) := by show _ ≤ _; omega
    by_cases hlt : k < s.size
    · by_cases h10 : s[k] = 10
      · have HN := Lib.hid (HST.out.cut hlt h10)
        have h10' : ((s[k].toNat : Int) == 10) = true := by rw [h10]; rfl
        have hd1 : ((k : Int) == (s.size : Int)) = false := by rw [beq_eq_false_iff_ne]; omega
        clear h10
        go_wp2_with (at_builtin; refine wpList_push rfl (.tmp 22) (.tmp 27) 42 rfl w.heap.size 9 16 elStrV _ ys (s.extract kf k) _ rfl rfl HO.out rfl HC1.out HC2.out HB.out.size ?_; intro a' c' w' hp; have HP := Lib.hid hp; clear hp)
        go_roundw
        case rel => exact ⟨k + 1, k + 1, ys ++ [s.extract kf k], by go_num, by go_num, by simp; omega, HP.out.1, HN.out, HB.out.grown HP.out.2 HB.out.size (fun j hj => (HO.out.lt j hj).1)⟩
        case measure => simp [intOf]; omega
      · have HN := Lib.hid (HST.out.go hlt h10)
        have h10i : ((s[k].toNat : Int) == 10) = false := by rw [beq_eq_false_iff_ne]; intro e; exact h10 (UInt8.toNat_inj.1 (by show _ = 10; omega))
        have hd1 : ((k : Int) == (s.size : Int)) = false := by rw [beq_eq_false_iff_ne]; omega
        clear h10
        go_wp2
        go_roundw
        case rel => exact ⟨kf, k + 1, ys, rfl, by go_num, by omega, HO.out, HN.out, HB.out⟩
        case measure => simp [intOf]; omega
    · by_cases he : k = s.size
      · subst he
        have HN := Lib.hid (HST.out.last)
        go_wp2_with (at_builtin; refine wpList_push rfl (.tmp 22) (.tmp 27) 42 rfl w.heap.size 9 16 elStrV _ ys (s.extract kf s.size) _ rfl rfl HO.out rfl HC1.out HC2.out HB.out.size ?_; intro a' c' w' hp; have HP := Lib.hid hp; clear hp)
        go_roundw
        case rel => exact ⟨s.size + 1, s.size + 1, ys ++ [s.extract kf s.size], by go_num, by go_num, by simp; omega, HP.out.1, HN.out, HB.out.grown HP.out.2 HB.out.size (fun j hj => (HO.out.lt j hj).1)⟩
        case measure => simp [intOf]
      · have HE := Lib.hid (HST.out.done (by omega))
        have hgt : (s.size : Int) < (k : Int) := by omega
        clear he
        go_wp2
        go_ret
        exact ⟨_, ys, rfl, HO.out, HE.out, HB.out⟩
theorem trim_take (s : ByteArray) (h : 0 < s.size) : s.data.toList.getLast? = some s[s.size - 1] := by
  have hl : s.data.toList.length = s.size := by simp
  rw [List.getLast?_eq_getElem?, hl, List.getElem?_eq_getElem (by omega)]
  rfl
set_option maxHeartbeats 1000000 in
theorem trim05_any (s : ByteArray) (w : World) (hs : s.size ≤ 1000000) :
    Calls Tryz.prog 23 #[.string s] w fun e w' => e = .returned (.string ⟨(trimCR s.data.toList).toArray⟩) ∧ w = w' := by
  have hs1 : (s.size : Int) ≤ 1000000 := by omega
  by_cases h0 : 0 < s.size
  · have hi0 : (0 : Int) ≤ (s.size : Int) - 1 := by omega
    have hi0' : (1 : Int) ≤ (s.size : Int) := by omega
    have hi1 : (s.size : Int) - 1 < (s.size : Int) := by omega
    have hi2 : ((s.size : Int) - 1).toNat = s.size - 1 := by omega
    by_cases h13 : s[s.size - 1] = 13
    · have HE : Hid (s.extract 0 (s.size - 1) = ⟨(trimCR s.data.toList).toArray⟩) := by
        refine ba_ofV ?_
        rw [extract_take]
        unfold trimCR
        rw [if_pos (by rw [trim_take s h0, h13]), List.dropLast_eq_take]
        simp
      have h13' : ((s[s.size - 1].toNat : Int) == 13) = true := by rw [h13]; rfl
      clear h13
      go_enter Tryz.func23, Tryz.ntmps23
      go_wp2
      go_ret
      exact ⟨ret_str HE.out, rfl⟩
    · have HE : Hid (s = ⟨(trimCR s.data.toList).toArray⟩) := by
        refine ba_ofV ?_
        unfold trimCR
        rw [if_neg (by rw [trim_take s h0]; intro e; injection e with e; exact h13 e)]
      have h13i : ((s[s.size - 1].toNat : Int) == 13) = false := by rw [beq_eq_false_iff_ne]; intro e; exact h13 (UInt8.toNat_inj.1 (by show _ = 13; omega))
      clear h13
      go_enter Tryz.func23, Tryz.ntmps23
      go_wp2
      go_ret
      exact ⟨ret_str HE.out, rfl⟩
  · have HE : Hid (s = ⟨(trimCR s.data.toList).toArray⟩) := by
      refine ba_ofV ?_
      have hl : s.data.toList.length = s.size := by simp
      have e : s.data.toList = [] := List.length_eq_zero_iff.1 (by omega)
      rw [e]; rfl
    have hz : (s.size : Int) = 0 := by omega
    go_enter Tryz.func23, Tryz.ntmps23
    go_wp2
    go_ret
    exact ⟨ret_str HE.out, rfl⟩
theorem blank_take {l : List UInt8} {k : Nat} (hk : k < l.length) (h : (l.take k).all isBl = true) (hc : isBl l[k] = true) : (l.take (k + 1)).all isBl = true := by
  rw [List.take_succ_eq_append_getElem hk, List.all_append, h]
  simp [hc]
theorem blank_bad {l : List UInt8} {k : Nat} (hk : k < l.length) (hc : isBl l[k] = false) : blankL l = false := by
  unfold blankL
  rw [List.all_eq_false]
  exact ⟨l[k], List.getElem_mem hk, by rw [hc]; simp⟩
set_option maxHeartbeats 1000000 in
theorem blank05_any (s : ByteArray) (w : World) (hs : s.size ≤ 1000000) :
    Calls Tryz.prog 24 #[.string s] w fun e w' => e = .returned (.bool (blankL s.data.toList)) ∧ w = w' := by
  have hs1 : (s.size : Int) ≤ 1000000 := by omega
  have HLEN : Hid (s.data.toList.length = s.size) := by show _ = _; simp
  go_enter Tryz.func24, Tryz.ntmps24
  go_wp2
  go_loop [3] (fun i => ∃ k : Nat, k ≤ s.size ∧ i = .int .i64 k ∧ (s.data.toList.take k).all isBl = true) (fun i => s.size - (intOf i).toNat)
  case atStart => exact ⟨0, Nat.zero_le _, rfl, rfl⟩
  case round =>
    obtain ⟨k, hk, rfl, hall⟩ := hrel
    have HA := Lib.hid hall
    clear hall
    by_cases hlt : k < s.size
    · have hll : k < s.data.toList.length := by rw [HLEN.out]; exact hlt
      have e1 : s.data.toList[k] = s[k] := rfl
      have HG := Lib.hid (fun hc => blank_take hll HA.out hc)
      have HBD := Lib.hid (fun hc => blank_bad hll hc)
      rw [e1] at HG HBD
      clear e1
      have HI : Hid (isBl s[k] = (decide (s[k].toNat = 32) || decide (s[k].toNat = 9))) := by
        show _ = _
        unfold isBl
        rw [Bool.eq_iff_iff]
        simp [← UInt8.toNat_inj]
      by_cases h32 : s[k].toNat = 32
      · have HN := Lib.hid (HG.out (by rw [HI.out]; simp [h32]))
        have h1 : ((s[k].toNat : Int) == 32) = true := by rw [h32]; rfl
        have h2 : ((s[k].toNat : Int) != 32) = false := by rw [h32]; rfl
        clear h32 HG HBD HI
        go_wp2
        go_round
        case rel => exact ⟨k + 1, by omega, by go_num, HN.out⟩
        case measure => simp [intOf]; omega
      · have h1 : ((s[k].toNat : Int) == 32) = false := by rw [beq_eq_false_iff_ne]; omega
        have h2 : ((s[k].toNat : Int) != 32) = true := by rw [bne_iff_ne]; omega
        by_cases h9 : s[k].toNat = 9
        · have HN := Lib.hid (HG.out (by rw [HI.out]; simp [h9]))
          have h3 : ((s[k].toNat : Int) == 9) = true := by rw [h9]; rfl
          have h4 : ((s[k].toNat : Int) != 9) = false := by rw [h9]; rfl
          clear h32 h9 HG HBD HI
          go_wp2
          go_round
          case rel => exact ⟨k + 1, by omega, by go_num, HN.out⟩
          case measure => simp [intOf]; omega
        · have HN := Lib.hid (HBD.out (by rw [HI.out]; simp [h32, h9]))
          have h3 : ((s[k].toNat : Int) == 9) = false := by rw [beq_eq_false_iff_ne]; omega
          have h4 : ((s[k].toNat : Int) != 9) = true := by rw [bne_iff_ne]; omega
          clear h32 h9 HG HBD HI
          go_wp2
          go_ret
          exact ⟨ret_bool HN.out.symm, rfl⟩
    · obtain rfl : k = s.size := by omega
      have HE : Hid (blankL s.data.toList = true) := by
        have := HA.out
        rw [List.take_of_length_le (by rw [HLEN.out]; exact Nat.le_refl _)] at this
        exact this
      go_wp2
      go_ret
      exact ⟨ret_bool HE.out.symm, rfl⟩
end Go.Proofs.YtcfjcoockklkeaaGreatDoor
