/-
  Texts merged: W1 W2 W3 W4 W5 R1 R2 W6 
-/
import Derived.Test.YtcfjcoockklkeaaGreatDoorM2
import Derived.Test.YtcfjcoockklkeaaGreatDoorShelf
import Derived.Lib.Builder
import Derived.Lib.AppendStr
import Derived.Lib.UnsafeStr
import Derived.Laws.Externs
import Derived.RangeFuncNested
import Derived.RangeFuncBound
import Derived.RangeFuncCalls
import Derived.RangeFuncLeaves
import Derived.TacticsInMore
import Derived.LoopNIn
import Derived.LoopIn
import Derived.Sort.QuietTacIn
import Derived.Shelf.RegionOpen
/-
  num.Fits; record.Sum and its closure; record.right. Conditions: none.
-/
namespace Go.Proofs.YtcfjcoockklkeaaGreatDoor
open Go.RowKit

def allB (lo hi : Int) (l : List Int) : Bool := l.all fun n => decide (lo ≤ n) && decide (n ≤ hi)
theorem allB_drop (lo hi : Int) {l : List Int} {k : Nat} (hk : k < l.length) : allB lo hi (l.drop k) = ((decide (lo ≤ l[k]) && decide (l[k] ≤ hi)) && allB lo hi (l.drop (k + 1))) := by
  unfold allB
  rw [List.drop_eq_getElem_cons hk, List.all_cons]
theorem allB_end (lo hi : Int) (l : List Int) : allB lo hi (l.drop l.length) = true := by rw [List.drop_length]; rfl

set_option maxHeartbeats 1000000 in
theorem Fits_any (lo hi : Int) (p : Blocks) (v : Value) (l : List Int) (w : World) (h : SlR intR w p v l) :
    Calls Tryz.prog 121 #[.int .i64 lo, .int .i64 hi, v] w fun e w' => e = .returned (.bool (allB lo hi l)) ∧ w = w' := by
  obtain ⟨a, c, rfl, hc1, hc2, g⟩ := h.int
  have G := Lib.hid g
  have hlen : (l.length : Int) ≤ 9223372036854775807 := by omega
  have HLN := Lib.hid hlen
  clear h g hc1 hc2 hlen
  go_enter Tryz.func121, Tryz.ntmps121
  go_wp2
  go_loop [11] (fun i => ∃ k : Nat, k ≤ l.length ∧ i = .int .i64 k ∧ allB lo hi l = allB lo hi (l.drop k)) (fun i => l.length - (intOf i).toNat)
  case atStart => exact ⟨0, Nat.zero_le _, rfl, rfl⟩
  case round =>
    obtain ⟨k, hk, rfl, hm⟩ := hrel
    have HM := Lib.hid hm
    clear hm
    by_cases hlt : k < l.length
    · obtain ⟨b1, o1, rfl, _, hcell⟩ := G.out k l[k] (List.getElem?_eq_getElem hlt)
      have HS := Lib.hid (allB_drop lo hi hlt)
      generalize l[k] = y at *
      have hk9 := HLN.out
      cases h1 : decide (y < lo)
      · cases h2 : decide (hi < y)
        · have e1 : decide (lo ≤ y) = true := by have := of_decide_eq_false h1; simp; omega
          have e2 : decide (y ≤ hi) = true := by have := of_decide_eq_false h2; simp; omega
          have HE := Lib.hid (HM.out.trans (by rw [HS.out, e1, e2]; rfl : _ = allB lo hi (l.drop (k + 1))))
          clear e1 e2
          go_wp2
          go_round
          case rel => exact ⟨k + 1, by omega, by go_num, HE.out⟩
          case measure => simp [intOf]; omega
        · have e2 : decide (y ≤ hi) = false := by have := of_decide_eq_true h2; simp; omega
          have HE := Lib.hid (HM.out.trans (by rw [HS.out, e2, Bool.and_false, Bool.false_and] : _ = false))
          clear e2
          go_wp2
          go_ret
          exact ⟨ret_bool HE.out.symm, rfl⟩
      · have e1 : decide (lo ≤ y) = false := by have := of_decide_eq_true h1; simp; omega
        have HE := Lib.hid (HM.out.trans (by rw [HS.out, e1]; rfl : _ = false))
        clear e1
        go_wp2
        go_ret
        exact ⟨ret_bool HE.out.symm, rfl⟩
    · obtain rfl : k = l.length := by omega
      have HE := Lib.hid (HM.out.trans (allB_end lo hi l))
      go_wp2
      go_ret
      exact ⟨ret_bool HE.out.symm, rfl⟩

theorem sum03_nil : sum03 [] = 0 := by decide
theorem sum03_snoc (l : List UInt8) (c : UInt8) : sum03 (l ++ [c]) = sum03 l - c := by
  apply UInt8.toNat_inj.1
  have h1 : ((sum03 (l ++ [c])).toNat : Int) = ((256 - (sumN (l ++ [c]) : Int)) % 256) % 256 := lowB_is _
  have h2 : ((sum03 l).toNat : Int) = ((256 - (sumN l : Int)) % 256) % 256 := lowB_is _
  have h3 := sumN_256 l
  have h4 := c.toNat_lt
  rw [sumN_app] at h1
  rw [UInt8.toNat_sub]
  omega
theorem u8_sub (s x : UInt8) : ((s - x).toNat : Int) = ((s.toNat : Int) - x.toNat) % 256 := by
  have := s.toNat_lt
  have := x.toNat_lt
  rw [UInt8.toNat_sub]
  omega
theorem Sum1_any (B : Nat) (s x : UInt8) (w : World) (hc : w.cell? ⟨B, 0, none⟩ = some (.int .u8 s.toNat)) (hf : w.frozen? ⟨B, 0, none⟩ = false) :
    Calls Tryz.prog 104 #[.int .u8 x.toNat, .pointer (some ⟨B, 0, none⟩)] w fun e w' => e = .returned (.tuple #[]) ∧ ∃ q, w' = (w.setCell ⟨B, 0, none⟩ (.int .u8 ((s - x).toNat : Nat))).drewN q := by
  have HS := Lib.hid (u8_sub s x)
  have h1 := s.toNat_lt
  have h2 := x.toNat_lt
  go_enter Tryz.func104, Tryz.ntmps104
  go_wp2
  go_end0
  exact ⟨rfl, 0, by rw [HS.out]; rfl⟩
end Go.Proofs.YtcfjcoockklkeaaGreatDoor

/-
  record.Sum; record.right. Conditions: none.
-/
namespace Go.Proofs.YtcfjcoockklkeaaGreatDoor
open Go.RowKit

set_option maxHeartbeats 1000000 in
theorem Sum_any (p : Blocks) (v : Value) (l : List UInt8) (w : World) (h : SlR byteR w p v l) :
    Calls Tryz.prog 80 #[v] w fun e w' => e = .returned (.int .u8 ((sum03 l).toNat : Nat)) ∧ Below w.heap.size w w' := by
  obtain ⟨a, c, rfl, hc1, hc2, _⟩ := h.byte
  have H := Lib.hid h
  have hlen : (l.length : Int) ≤ 9223372036854775807 := by omega
  have HLN := Lib.hid hlen
  clear h hc1 hc2 hlen
  have hmf : ∀ (fn : Fn) (first cap : Array Value) (w : World), (Instr.makeFunc fn first cap).run Tryz.prog w = .ok (.func fn first cap) w := fun _ _ _ _ => rfl
  go_enter Tryz.func80, Tryz.ntmps80
  go_wp2
  have HC0 : Hid ((w.alloc (.cells #[.int .u8 0] 5)).cell? ⟨w.heap.size, 0, none⟩ = some (.int .u8 ((sum03 (l.take 0)).toNat : Nat))) := by
    rw [List.take_zero, sum03_nil]
    exact World.cell?_alloc_at _ _ _ _ rfl
  have HF0 : Hid ((w.alloc (.cells #[.int .u8 0] 5)).frozen? ⟨w.heap.size, 0, none⟩ = false) := (Blk.new w 5 _).free 0
  have HB0 : Hid (Below w.heap.size w (w.alloc (.cells #[.int .u8 0] 5))) := (Below.refl _ w).alloc (Nat.le_refl _) _
  go_loopw [10] (fun i wr => ∃ k : Nat, k ≤ l.length ∧ i = .int .i64 k ∧ wr.cell? ⟨w.heap.size, 0, none⟩ = some (.int .u8 ((sum03 (l.take k)).toNat : Nat)) ∧ wr.frozen? ⟨w.heap.size, 0, none⟩ = false ∧ Below w.heap.size w wr) (fun i _ => l.length - (intOf i).toNat)
  case atStart => exact ⟨0, Nat.zero_le _, rfl, HC0.out, HF0.out, HB0.out⟩
  case round =>
    obtain ⟨k, hk, rfl, hc, hf, hb⟩ := hrel
    have HB := Lib.hid hb
    have HF := Lib.hid hf
    clear hb
    by_cases hlt : k < l.length
    · have HT : Hid (l.take (k+1) = l.take k ++ [l[k]]) := List.take_succ_eq_append_getElem hlt
      have HS := Lib.hid (sum03_snoc (l.take k) l[k])
      obtain ⟨ad, cd, hv, _, _, g⟩ := (H.out.old.below HB.out).byte
      obtain ⟨rfl, _, rfl⟩ : a = ad ∧ l.length = l.length ∧ c = cd := by injection hv with h1 h2 h3; exact ⟨h1, h2, h3⟩
      obtain ⟨b1, o1, rfl, _, hcell⟩ := g k l[k] (List.getElem?_eq_getElem hlt)
      clear g hv
      generalize l[k] = y at *
      have HX := Lib.hid (Sum1_any w.heap.size (sum03 (l.take k)) y wr hc hf)
      have HCC := Lib.hid hc
      clear hc hf
      generalize sum03 (l.take k) = s at *
      have hk9 := HLN.out
      go_wp2_with (go_at_call 104; refine HX.out.mono ?_; rintro e w' ⟨rfl, q, hw⟩; have HW := Lib.hid hw; clear hw)
      go_roundw
      case rel =>
        refine ⟨k + 1, by omega, by go_num, ?_, ?_, ?_⟩
        · rw [HW.out, HT.out, HS.out, World.cell?_drewN]
          exact World.cell?_setCell_same' _ _ _ (by rw [HCC.out]; rfl)
        · rw [HW.out, World.frozen?_drewN, World.frozen?_setCell]; exact HF.out
        · rw [HW.out]; exact below_dN (HB.out.setCell (p := ⟨w.heap.size, 0, none⟩) (Nat.le_refl _) _) _
      case measure => simp [intOf]; omega
    · obtain rfl : k = l.length := by omega
      rw [List.take_length] at hc
      go_wp2
      go_ret
      exact ⟨rfl, HB.out⟩

theorem right_is (t a : Int) (n : Nat) : rightB t a n = (allB 0 255 [t, (n : Int)] && allB 0 65535 [a]) := by
  unfold rightB allB
  rw [Bool.eq_iff_iff]
  simp
  omega
theorem fits_two (lo hi x y : Int) (W : World) (b : Nat) (hb : b = W.heap.size) :
    Calls Tryz.prog 121 #[.int .i64 lo, .int .i64 hi, .slice (some ⟨b, 0, none⟩) 2 2] (W.alloc (.cells #[.int .i64 x, .int .i64 y] 3)) fun e w' => e = .returned (.bool (allB lo hi [x, y])) ∧ W.alloc (.cells #[.int .i64 x, .int .i64 y] 3) = w' := by
  subst hb
  exact Fits_any lo hi (fun _ => True) _ [x, y] _ (slR_lit W 3 (fun _ => True) [x, y] #[.int .i64 x, .int .i64 y] 2 rfl rfl (by simp) (fun _ _ => trivial))
theorem fits_one (lo hi x : Int) (W : World) (b : Nat) (hb : b = W.heap.size) :
    Calls Tryz.prog 121 #[.int .i64 lo, .int .i64 hi, .slice (some ⟨b, 0, none⟩) 1 1] (W.alloc (.cells #[.int .i64 x] 3)) fun e w' => e = .returned (.bool (allB lo hi [x])) ∧ W.alloc (.cells #[.int .i64 x] 3) = w' := by
  subst hb
  exact Fits_any lo hi (fun _ => True) _ [x] _ (slR_lit W 3 (fun _ => True) [x] #[.int .i64 x] 1 rfl rfl (by simp) (fun _ _ => trivial))
set_option maxHeartbeats 1000000 in
theorem right_any (t a : Int) (sa : Option Addr) (n c : Nat) (w : World) :
    Calls Tryz.prog 107 #[.agg #[.int .i64 t, .int .i64 a, .slice sa n c]] w fun e w' => e = .returned (.bool (rightB t a n)) ∧ Below w.heap.size w w' := by
  rw [right_is]
  have H1 := Lib.hid (fun (W : World) (b : Nat) (hb : b = W.heap.size) => fits_two 0 255 t n W b hb)
  have H2 := Lib.hid (fun (W : World) (b : Nat) (hb : b = W.heap.size) => fits_one 0 65535 a W b hb)
  cases h : allB 0 255 [t, (n : Int)]
  · rw [h] at H1
    go_enter Tryz.func107, Tryz.ntmps107
    go_wp2_with (go_at_call 121; refine (H1.out _ _ (by simp)).mono ?_; rintro e w' ⟨rfl, rfl⟩)
    go_ret
    exact ⟨rfl, ((Below.refl _ _).alloc (Nat.le_refl _) _).alloc (by simp) _⟩
  · rw [h] at H1
    generalize allB 0 65535 [a] = q at *
    go_enter Tryz.func107, Tryz.ntmps107
    go_wp2_with (go_at_call 121; first | ((with_reducible refine (H1.out _ _ (by simp)).mono ?_); rintro e w' ⟨rfl, rfl⟩) | ((with_reducible refine (H2.out _ _ (by simp)).mono ?_); rintro e w' ⟨rfl, rfl⟩))
    go_ret
    exact ⟨by simp, (((Below.refl _ _).alloc (Nat.le_refl _) _).alloc (by simp) _).alloc (by simp; omega) _⟩
end Go.Proofs.YtcfjcoockklkeaaGreatDoor

/-
  strings.Builder: copyCheck, WriteByte, WriteString. Conditions: the new length's bytes.
-/
namespace Go.Proofs.YtcfjcoockklkeaaGreatDoor
open Go.RowKit

/-- a builder of the call's own, its buffer v -/
def Bld (w : World) (B b : Nat) (v : Value) (l : List UInt8) : Prop :=
  B ≤ b ∧ (∃ p, (p = .pointer none ∨ p = .pointer (some ⟨b, 0, none⟩)) ∧ Blk w b 78 #[p, v]) ∧ w.ownsRow B 5 1 v l.length (Lib.byteCells l) ∧ v.ownBlock ≠ some b
/-- what a write leaves as it was -/
structure Wrt (w w' : World) (B b : Nat) (v v' : Value) : Prop where
  below : Below B w w'
  size : w.heap.size ≤ w'.heap.size
  keep : ∀ k, k < w.heap.size → k ≠ b → v.ownBlock ≠ some k → w'.heap[k]? = w.heap[k]?
  row : v'.ownBlock = v.ownBlock ∨ ∃ k, v'.ownBlock = some k ∧ w.heap.size ≤ k
theorem Wrt.trans {w1 w2 w3 : World} {B b : Nat} {v1 v2 v3 : Value} (h : Wrt w1 w2 B b v1 v2) (k : Wrt w2 w3 B b v2 v3) : Wrt w1 w3 B b v1 v3 := by
  refine ⟨h.below.trans k.below, Nat.le_trans h.size k.size, fun j hj hb hv => ?_, ?_⟩
  · refine (k.keep j (Nat.lt_of_lt_of_le hj h.size) hb (fun e => ?_)).trans (h.keep j hj hb hv)
    rcases h.row with e2 | ⟨q, e2, hq⟩
    · exact hv (e2.symm.trans e)
    · rw [e2] at e; injection e with e; omega
  · rcases k.row with e2 | ⟨q, e2, hq⟩
    · rcases h.row with e3 | ⟨q, e3, hq⟩
      · exact .inl (e2.trans e3)
      · exact .inr ⟨q, e2.trans e3, hq⟩
    · exact .inr ⟨q, e2, Nat.le_trans h.size hq⟩
theorem bld_size : (Tryz.prog.info? 78).map (·.size) = some 2 := by kernel_rfl
theorem bld_lies : liesAt Tryz.prog Tryz.prog.depth 78 (2 / Tryz.prog.cellsOf 78) 0 78 1 = true := by kernel_rfl
theorem byte_info : (Tryz.prog.info? 5).map (fun i => (i.zero, i.size, i.bytes)) = some (some (.int .u8 0), 1, 1) := by kernel_rfl
theorem Blk.shape {w : World} {g : Nat} {t : TypeId} {cs : Array Value} (h : Blk w g t cs) : w.shape? g = some (t, cs.size) := by
  unfold Blk at h
  simp [World.shape?, h]
set_option maxHeartbeats 1000000 in
set_option maxRecDepth 100000 in
theorem copyCheck_used (b : Nat) (v : Value) (w : World) (h : Blk w b 78 #[.pointer (some ⟨b, 0, none⟩), v]) :
    Calls Tryz.prog 62 #[.pointer (some ⟨b, 0, none⟩)] w fun e w' => e = .returned (.tuple #[]) ∧ w = w' := by
  obtain ⟨j, hj, _⟩ := Option.map_eq_some_iff.1 bld_size
  have h0 := h.cell 0
  go_enter Tryz.func62, Tryz.ntmps62
  go_wp2
  rw [Lib.run_neq_ptr_same w _ Tryz.underlying76 hj]
  go_wp2
  go_end0
  exact ⟨rfl, rfl⟩
set_option maxHeartbeats 1000000 in
set_option maxRecDepth 100000 in
theorem copyCheck_fresh (b : Nat) (v : Value) (w : World) (h : Blk w b 78 #[.pointer none, v]) :
    Calls Tryz.prog 62 #[.pointer (some ⟨b, 0, none⟩)] w fun e w' => e = .returned (.tuple #[]) ∧ w' = w.setCell ⟨b, 0, none⟩ (.pointer (some ⟨b, 0, none⟩)) := by
  obtain ⟨j, hj, hjs⟩ := Option.map_eq_some_iff.1 bld_size
  have h0 := h.cell 0
  have hfz := h.free 0
  have hsh : w.shape? b = some (78, 2) := h.shape
  go_enter Tryz.func62, Tryz.ntmps62
  go_wp2
  rw [Lib.run_to_unsafe w ⟨b, 0, none⟩ Tryz.underlying76 Tryz.underlying151 hj (by rw [hjs]; decide) hsh (Nat.zero_lt_succ 1)]
  simp only [Result.andThen]
  rw [Oper.upon_value]
  go_wp2
  rw [run_callFunc_extern Tryz.func91 (by kernel_rfl) (by kernel_rfl) (by kernel_rfl) (e := Extern.AbiNoEscape.same) (by kernel_rfl)]
  rw [Lib.run_noEscape]
  simp only [Result.andThen]
  rw [Oper.upon_value]
  go_wp2
  rw [Lib.run_from_unsafe w ⟨b, 0, none⟩ Tryz.underlying151 Tryz.underlying76 hj hsh bld_lies]
  simp only [Result.andThen]
  rw [Oper.upon_value]
  go_wp2
  go_end0
  exact ⟨rfl, rfl⟩
end Go.Proofs.YtcfjcoockklkeaaGreatDoor

/-
  strings.Builder: WriteByte, WriteString, String. Conditions: the new length's bytes.
-/
namespace Go.Proofs.YtcfjcoockklkeaaGreatDoor
open Go.RowKit

theorem owns_lt {w : World} {B : Nat} {e : TypeId} {v : Value} {n : Nat} {xs : List Value} (h : w.ownsRow B e 1 v n xs) : ∀ k, v.ownBlock = some k → B ≤ k ∧ k < w.heap.size := fun k hk => h.lt k hk
theorem owns_form {w : World} {B : Nat} {e : TypeId} {v : Value} {n : Nat} {xs : List Value} (h : w.ownsRow B e 1 v n xs) : ∃ a n' c, v = .slice a n' c := by
  rcases h.2 with ⟨hv, _⟩ | ⟨g, cap, cur, hv, _⟩
  · exact ⟨_, _, _, hv⟩
  · exact ⟨_, _, _, hv⟩
theorem copyCheck_any (B b : Nat) (v : Value) (l : List UInt8) (w : World) (h : Bld w B b v l) :
    Calls Tryz.prog 62 #[.pointer (some ⟨b, 0, none⟩)] w fun e w' => e = .returned (.tuple #[]) ∧ Bld w' B b v l ∧ Wrt w w' B b v v ∧ Blk w' b 78 #[.pointer (some ⟨b, 0, none⟩), v] := by
  obtain ⟨hB, ⟨p, hp, hk⟩, ho, hne⟩ := h
  rcases hp with rfl | rfl
  · refine (copyCheck_fresh b v w hk).mono ?_
    rintro e w' ⟨rfl, rfl⟩
    have hk2 : Blk (w.setCell ⟨b, 0, none⟩ (.pointer (some ⟨b, 0, none⟩))) b 78 #[.pointer (some ⟨b, 0, none⟩), v] := hk.set 0 _
    refine ⟨rfl, ⟨hB, ⟨_, .inr rfl, hk2⟩, ?_, hne⟩, ⟨(Below.refl _ _).setCell (p := ⟨b, 0, none⟩) hB _, by simp [World.setCell], fun k _ hkb _ => Below.heap_setCell _ _ _ _ hkb, .inl rfl⟩, hk2⟩
    exact ho.kept (row := some b) ⟨rfl, rfl, rfl, by simp [World.setCell], fun k _ hk => Below.heap_setCell _ _ _ _ (fun e => hk (by simp [e]))⟩ (Or.inr hne)
  · refine (copyCheck_used b v w hk).mono ?_
    rintro e w' ⟨rfl, rfl⟩
    exact ⟨rfl, ⟨hB, ⟨_, .inr rfl, hk⟩, ho, hne⟩, ⟨Below.refl _ _, Nat.le_refl _, fun _ _ _ _ => rfl, .inl rfl⟩, hk⟩
theorem Bld.put {w : World} {B b : Nat} {v v' : Value} {l : List UInt8} (hB : B ≤ b) (hk : Blk w b 78 #[.pointer (some ⟨b, 0, none⟩), v]) (ho : w.ownsRow B 5 1 v' l.length (Lib.byteCells l)) :
    Bld (w.setCell ⟨b, 1, none⟩ v') B b v' l := by
  have hne : v'.ownBlock ≠ some b := Lib.ownBlock_ne ho hk (by decide)
  exact ⟨hB, ⟨_, .inr rfl, hk.set 1 _⟩, ho.kept (row := some b) ⟨rfl, rfl, rfl, by simp [World.setCell], fun k _ hk => Below.heap_setCell _ _ _ _ (fun e => hk (by simp [e]))⟩ (Or.inr hne), hne⟩
theorem wrt_put {w w1 w2 : World} {B b : Nat} {v v' : Value} (h : Wrt w w1 B b v v) (hB : B ≤ b) (hlt : ∀ k, v.ownBlock = some k → B ≤ k ∧ k < w1.heap.size) (hBw : B ≤ w.heap.size) (hg : w1.grownBy w2 v.ownBlock) (hr : v'.ownBlock = v.ownBlock ∨ ∃ k, v'.ownBlock = some k ∧ w1.heap.size ≤ k) :
    Wrt w (w2.setCell ⟨b, 1, none⟩ v') B b v v' := by
  refine h.trans ⟨((Below.refl _ _).grown hg (Nat.le_trans hBw h.size) (fun k hk => (hlt k hk).1)).setCell (p := ⟨b, 1, none⟩) hB _, ?_, fun k hk hkb hkv => ?_, hr⟩
  · have := hg.size
    simpa [World.setCell] using this
  · exact (Below.heap_setCell _ _ _ _ hkb).trans (hg.block k hk (fun e => hkv e.symm))
/-- where an append of a string lies -/
theorem str_at {w w' : World} {B : Nat} {ty : TypeId} {v v' : Value} {n : Nat} {xs : List Value} (hown : w.ownsRow B 5 1 v n xs) (s : ByteArray) (hb : n + s.size ≤ 140737488355328)
    (h : (Builtin.append_ #[55, 9] ty #[v, .string s]).run Tryz.prog w = .ok v' w') : v'.ownBlock = v.ownBlock ∨ ∃ k, v'.ownBlock = some k ∧ w.heap.size ≤ k := by
  obtain ⟨i0, hi, hz0, hz1, hz2⟩ := info_parts byte_info
  rcases hown.2 with ⟨rfl, rfl⟩ | ⟨g, cap, cur, rfl, hbg, hg, hnc, hcm, hcs, htake⟩
  · by_cases h0 : s.size = 0
    · have hf := Lib.run_firstCells_string (P := Tryz.prog) w 1 s
      rw [h0] at hf
      have : (Builtin.append_ #[55, 9] ty #[.slice none 0 0, .string s]).run Tryz.prog w = .ok (.slice none 0 0) w := by
        simp [Builtin.append_, run_underlying Tryz.underlying55, run_underlying Tryz.underlying9, sizeOf, typeInfo, hi, hz1, Builtin.lenOf, h0, hf]
      rw [this] at h
      injection h with h _
      exact .inl (by rw [← h])
    · have hr := run_append_nil_string (P := Tryz.prog) w 55 9 ty 5 i0 (.int .u8 0) Tryz.underlying55 Tryz.underlying9 hi hz0 s (by omega) (by omega) (by rw [hz2]; omega)
      rw [hr] at h
      injection h with h _
      exact .inr ⟨w.heap.size, by rw [← h]; rfl, Nat.le_refl _⟩
  · have hcs' : cur.size = cap := by simpa using hcs
    by_cases hroom : n + s.size ≤ cap
    · have hr := Lib.run_append_room_string (P := Tryz.prog) w 55 9 ty 5 i0 Tryz.underlying55 Tryz.underlying9 hi hz1 g n cap cur hg s hroom (by omega)
      rw [hr] at h
      injection h with h _
      exact .inl (by rw [← h]; rfl)
    · have hxl : xs.length = n := by simpa using hown.1
      have holds : ∀ j u, xs[j]? = some u → w.cell? ((⟨g, 0, none⟩ : Addr).add j) = some u := hown.cells (g := g) rfl
      have hr := Lib.run_append_grow_string (P := Tryz.prog) w 55 9 ty 5 i0 (.int .u8 0) Tryz.underlying55 Tryz.underlying9 hi hz0 ⟨g, 0, none⟩ n cap xs (by rw [hz1]; simpa using hxl) holds s (by omega) (by omega) (by rw [hz2]; exact growslice_fits (by omega) (by omega))
      rw [hr] at h
      injection h with h _
      exact .inr ⟨w.heap.size, by rw [← h]; rfl, Nat.le_refl _⟩
/-- append of a string, and where it lies -/
theorem wpList_str_at {w : World} {ops : Array Oper} {rest : List Oper} {o : Oper} {a : Act} {Q : Exit → Act → World → Prop} (hgd : o.guard = none) (sl x : Operand)
    (ho : o.op = .call { callee := .builtin .append, args := #[sl, x], argTypes := #[55, 9] })
    (B : Nat) (v : Value) (n : Nat) (xs : List Value) (hs : a.eval sl = v) (hown : w.ownsRow B 5 1 v n xs) (s : ByteArray) (hx : a.eval x = .string s)
    (hbytes : n + s.size ≤ 140737488355328) (hbase : B ≤ w.heap.size)
    (h : ∀ v' w', w'.ownsRow B 5 1 v' (n + s.size) (xs ++ Lib.strCells s) → w.grownBy w' v.ownBlock → (v'.ownBlock = v.ownBlock ∨ ∃ k, v'.ownBlock = some k ∧ w.heap.size ≤ k) → wpList Tryz.prog ops Q rest (a.put o.dst v') w') : wpList Tryz.prog ops Q (o :: rest) a w := by
  obtain ⟨i0, hi, hz0, hz1, hz2⟩ := info_parts byte_info
  refine wpList_plain hgd fun K hK => ?_
  obtain ⟨v', w', hr, h2, h3, h4⟩ := Lib.run_append_own_string (P := Tryz.prog) w B 55 9 o.type 5 i0 Tryz.underlying55 Tryz.underlying9 hi hz0 hz1 hz2 v n xs hown s (by unfold maxLen; omega) hbytes hbase
  have hat := str_at hown s hbytes hr
  unfold Oper.wp execOp
  simp only [ho, resolve, invoke, builtin, Sem.run_bind, Sem.run_pure, Result.andThen_ok, List.map_toArray, List.map_cons, List.map_nil, hs, hx, hr]
  exact hK _ _ (h v' w' h2 h3 hat)
/-- What a write leaves. -/
def Wrote (w : World) (B b : Nat) (v : Value) (l : List UInt8) (w' : World) : Prop := ∃ v', Bld w' B b v' l ∧ Wrt w w' B b v v'

set_option maxHeartbeats 2000000 in
set_option maxRecDepth 100000 in
theorem WriteString_any (B b : Nat) (v : Value) (l : List UInt8) (s : ByteArray) (w : World) (h : Bld w B b v l) (hn : l.length + s.size ≤ 140737488355328) (hBw : B ≤ w.heap.size) :
    Calls Tryz.prog 37 #[.pointer (some ⟨b, 0, none⟩), .string s] w fun e w' => e = .returned (.tuple #[.int .i64 s.size, .nilIface]) ∧ Wrote w B b v (l ++ s.data.toList) w' := by
  obtain ⟨i0, hi, hz0, hz1, hz2⟩ := info_parts byte_info
  have HN := Lib.hid hn
  have HBW := Lib.hid hBw
  have HCC := Lib.hid (copyCheck_any B b v l w h)
  have HB0 := Lib.hid h.1
  have HS9 : Hid ((s.size : Int) ≤ 140737488355328) := by show _ ≤ _; omega
  clear h hn hBw
  go_enter Tryz.func37, Tryz.ntmps37
  go_wp2_with (first
    | (go_at_call 62; refine HCC.out.mono ?_; rintro e w1 ⟨rfl, hbl, hw, hk⟩; have HBL := Lib.hid hbl; have HW := Lib.hid hw; have c1 : w1.cell? ⟨b, 1, none⟩ = some v := hk.cell 1; have HK := Lib.hid hk; have HOW := Lib.hid hbl.2.2.1; clear hbl hw hk)
    | (at_builtin; refine wpList_str_at rfl (.tmp 12) (.tmp 13) rfl B v l.length _ rfl HOW.out s rfl HN.out (Nat.le_trans HBW.out HW.out.size) ?_; intro v' w2 ho2 hg2 hat; have HO2 := Lib.hid ho2; have HG2 := Lib.hid hg2; have HAT := Lib.hid hat; clear ho2 hg2 hat
       have hk2 : Blk w2 b 78 #[.pointer (some ⟨b, 0, none⟩), v] := HK.out.grown HG2.out (fun e => HBL.out.2.2.2 e.symm)
       have d1 := hk2.cell 1
       have f1 := hk2.free 1
       have HK2 := Lib.hid hk2
       clear hk2 c1
       obtain ⟨ao, n', cap, rfl⟩ := owns_form HO2.out))
  go_ret2
  refine ⟨rfl, _, Bld.put HB0.out HK2.out ?_, wrt_put HW.out HB0.out (owns_lt HOW.out) HBW.out HG2.out HAT.out⟩
  have e := HO2.out
  rw [Lib.strCells_eq, ← Lib.byteCells_append] at e
  rw [List.length_append]
  simpa using e
set_option maxHeartbeats 2000000 in
set_option maxRecDepth 100000 in
theorem WriteByte_any (B b : Nat) (v : Value) (l : List UInt8) (c : UInt8) (w : World) (h : Bld w B b v l) (hn : l.length + 1 ≤ 140737488355328) (hBw : B ≤ w.heap.size) :
    Calls Tryz.prog 38 #[.pointer (some ⟨b, 0, none⟩), .int .u8 c.toNat] w fun e w' => e = .returned .nilIface ∧ Wrote w B b v (l ++ [c]) w' := by
  obtain ⟨i0, hi, hz0, hz1, hz2⟩ := info_parts byte_info
  have HN := Lib.hid hn
  have HBW := Lib.hid hBw
  have HCC := Lib.hid (copyCheck_any B b v l w h)
  have HB0 := Lib.hid h.1
  clear h hn hBw
  go_enter Tryz.func38, Tryz.ntmps38
  go_wp2_with (first
    | (go_at_call 62; refine HCC.out.mono ?_; rintro e w1 ⟨rfl, hbl, hw, hk⟩; have HBL := Lib.hid hbl; have HW := Lib.hid hw; have c1 : w1.cell? ⟨b, 1, none⟩ = some v := hk.cell 1; have HK := Lib.hid hk; have HOW := Lib.hid hbl.2.2.1; clear hbl hw hk)
    | (at_builtin; refine wpList_append_own_at _ rfl (.tmp 11) (.tmp 13) 55 rfl B 5 i0 (.int .u8 0) 1 1 Tryz.underlying55 hi hz0 hz1 hz2 rfl (by decide) v l.length _ rfl (HOW.out.alloc _) ⟨w1.heap.size, 0, none⟩ 1 1 [.int .u8 c.toNat] rfl rfl (cell_one_new _ _ _) (by simp [Value.oneCell']) (by unfold maxLen; have := HN.out; omega) (by have := HN.out; omega) (by have := HW.out.size; have := HBW.out; simp; omega) ?_
       intro v' w2 ho2 hg2 _ hat; have HO2 := Lib.hid ho2; have HG2 := Lib.hid (grown_step (World.grownBy_alloc w1 _ _) hg2); have HAT : Hid (v'.ownBlock = v.ownBlock ∨ ∃ k, v'.ownBlock = some k ∧ w1.heap.size ≤ k) := hat.imp id (fun e => ⟨_, e, by simp⟩); clear ho2 hg2 hat
       have hk2 : Blk w2 b 78 #[.pointer (some ⟨b, 0, none⟩), v] := HK.out.grown HG2.out (fun e => HBL.out.2.2.2 e.symm)
       have d1 := hk2.cell 1
       have f1 := hk2.free 1
       have HK2 := Lib.hid hk2
       clear hk2 c1
       obtain ⟨ao, n', cap, rfl⟩ := owns_form HO2.out))
  go_ret
  refine ⟨rfl, _, Bld.put HB0.out HK2.out ?_, wrt_put HW.out HB0.out (owns_lt HOW.out) HBW.out HG2.out HAT.out⟩
  have e := HO2.out
  rw [show Lib.byteCells l ++ [Value.int IntKind.u8 (c.toNat : Int)] = Lib.byteCells (l ++ [c]) by rw [Lib.byteCells_append]; rfl] at e
  rw [List.length_append]
  exact e
/-- the bytes in a builder of the call's own -/
theorem String_any (B b : Nat) (v : Value) (l : List UInt8) (w : World) (h : Bld w B b v l) (hBw : B ≤ w.heap.size) :
    Calls Tryz.prog 39 #[.pointer (some ⟨b, 0, none⟩)] w fun e w' => e = .returned (.string ⟨l.toArray⟩) ∧ Below B w w' := by
  obtain ⟨hB, ⟨p, hp, hk⟩, ho, hne⟩ := h
  rw [← Lib.byteCells_length l] at ho
  rcases hp with rfl | rfl
  · exact Tryz.Builder_String_any B b l w (.inl ⟨hB, v, hk, ho, hne⟩) hBw
  · exact Tryz.Builder_String_any B b l w (.inr ⟨hB, v, hk, ho, hne⟩) hBw
end Go.Proofs.YtcfjcoockklkeaaGreatDoor

/-
  record.Print. Conditions: none.
-/
namespace Go.Proofs.YtcfjcoockklkeaaGreatDoor
open Go.RowKit

section
variable {P : Program} {α : Type} {n : Nat} {enc : α → List Value} {h0 : ∀ x, (enc x).length = n} {h1 : ∀ x, ∀ u ∈ enc x, u.oneCell' = true}
/-- What one more element leaves, and where. -/
def PushedA (R : Rep α) (w : World) (B : Nat) (e : TypeId) (row : Option Nat) (zs : List α) (v' : Value) (w' : World) : Prop := Own R w' B e NoB v' zs ∧ w.grownBy w' row ∧ (v'.ownBlock = row ∨ ∃ k, v'.ownBlock = some k ∧ w.heap.size ≤ k)
theorem Own.pushedA {w : World} {B bytes : Nat} {t ty e : TypeId} {v : Value} {xs : List α} {x : α} (hE : ElT P t e n bytes) (h : Own (Rep.flat n enc h0 h1) w B e NoB v xs) (cs : Array Value) (hcs : cs = (enc x).toArray)
    (hbytes : (xs.length + 1) * bytes ≤ 140737488355328) (hlen : xs.length + 1 ≤ 9223372036854775807) (hB : B ≤ w.heap.size) :
    ∃ a c w', (Builtin.append_ #[t, t] ty #[v, .slice (some ⟨w.heap.size, 0, none⟩) 1 1]).run P (w.alloc (.cells cs e)) = .ok (.slice a (xs.length + 1) c) w' ∧ PushedA (Rep.flat n enc h0 h1) w B e v.ownBlock (xs ++ [x]) (.slice a (xs.length + 1) c) w' := by
  subst hcs
  have hlt := h.lt
  obtain ⟨v', w', hrun, ho, hg, hat⟩ := run_append_R (P := P) (R := Rep.flat n enc h0 h1) (w := w.alloc (.cells (enc x).toArray e)) B t ty e bytes hE (p := NoB) (q := fun k => NoB k ∨ k = w.heap.size) (v := v)
    (vx := .slice (some ⟨w.heap.size, 0, none⟩) 1 1) (xs := xs) (ys := [x]) (h.keep (Keep.of_below ((Below.refl _ _).alloc (Nat.le_refl _) _) (fun k hk => by rcases hk with hk | hk; exact hk.elim; exact (hlt k hk).2))) (slR_one (R := Rep.flat n enc h0 h1) (p := NoB) rfl _) (fun _ hk => hk.elim)
    (fun k hk e => by
      rcases hk with hk | rfl
      · exact hk.elim
      · exact absurd (hlt _ e.symm).2 (Nat.lt_irrefl _)) (by simpa using hbytes) (by simpa using hlen) (by simp; omega)
  obtain ⟨a, c, rfl⟩ := ho.form
  have ho' := ho.flat NoB
  rw [List.length_append, List.length_singleton] at hrun ho' hat
  exact ⟨a, c, w', hrun, ho', grown_step (World.grownBy_alloc w _ _) hg, hat.imp id (fun e => ⟨_, e, by simp⟩)⟩
theorem wp_pushA {o : Oper} {a : Act} {w : World} {K : Act → World → Prop} {Q : Exit → Act → World → Prop} (s x : Operand) (t : TypeId)
    (ho : o.op = .call { callee := .builtin .append, args := #[s, x], argTypes := #[t, t] })
    (B : Nat) (e : TypeId) (bytes : Nat) (hE : ElT P t e n bytes) (v : Value) (xs : List α) (y : α) (cs : Array Value) (hs : a.eval s = v) (hxe : a.eval x = .slice (some ⟨w.heap.size, 0, none⟩) 1 1) (hown : Own (Rep.flat n enc h0 h1) w B e NoB v xs)
    (hcs : cs = (enc y).toArray) (hbytes : (xs.length + 1) * bytes ≤ 140737488355328) (hlen : xs.length + 1 ≤ 9223372036854775807) (hB : B ≤ w.heap.size)
    (h : ∀ a' c' w', PushedA (Rep.flat n enc h0 h1) w B e v.ownBlock (xs ++ [y]) (.slice a' (xs.length + 1) c') w' → K (a.put o.dst (.slice a' (xs.length + 1) c')) w') : o.wp P a (w.alloc (.cells cs e)) K Q := by
  obtain ⟨a', c', w', hrun, h2⟩ := hown.pushedA (P := P) (ty := o.type) hE cs hcs hbytes hlen hB
  unfold Oper.wp execOp
  simp only [ho, resolve, invoke, builtin, Sem.run_bind, Sem.run_pure, Result.andThen_ok, List.map_toArray, List.map_cons, List.map_nil, hs, hxe, hrun]
  exact h a' c' w' h2
theorem wpList_pushA {ops : Array Oper} {rest : List Oper} {o : Oper} {a : Act} {w : World} {Q : Exit → Act → World → Prop} (hgd : o.guard = none) (s x : Operand) (t : TypeId)
    (ho : o.op = .call { callee := .builtin .append, args := #[s, x], argTypes := #[t, t] })
    (B : Nat) (e : TypeId) (bytes : Nat) (hE : ElT P t e n bytes) (v : Value) (xs : List α) (y : α) (cs : Array Value) (hs : a.eval s = v) (hxe : a.eval x = .slice (some ⟨w.heap.size, 0, none⟩) 1 1) (hown : Own (Rep.flat n enc h0 h1) w B e NoB v xs)
    (hcs : cs = (enc y).toArray) (hbytes : (xs.length + 1) * bytes ≤ 140737488355328) (hlen : xs.length + 1 ≤ 9223372036854775807) (hB : B ≤ w.heap.size)
    (h : ∀ a' c' w', PushedA (Rep.flat n enc h0 h1) w B e v.ownBlock (xs ++ [y]) (.slice a' (xs.length + 1) c') w' → wpList P ops Q rest (a.put o.dst (.slice a' (xs.length + 1) c')) w') : wpList P ops Q (o :: rest) a (w.alloc (.cells cs e)) :=
  wpList_plain hgd fun _ hK => wp_pushA s x t ho B e bytes hE v xs y cs hs hxe hown hcs hbytes hlen hB fun a' c' w' h2 => hK _ _ (h a' c' w' h2)
end
theorem grown_of_below {w w' : World} (hb : Below w.heap.size w w') (row : Option Nat) : w.grownBy w' row := ⟨hb.os, hb.tape, hb.output, hb.size, fun k hk _ => hb.block k hk⟩
theorem Bld.lt {w : World} {B b : Nat} {v : Value} {l : List UInt8} (h : Bld w B b v l) : b < w.heap.size := by
  obtain ⟨_, ⟨p, _, hk⟩, _⟩ := h
  exact hk.lt
theorem Bld.stay {w w' : World} {B b : Nat} {v : Value} {l : List UInt8} (h : Bld w B b v l) {row : Option Nat} (hg : w.grownBy w' row) (h1 : some b ≠ row) (h2 : v.ownBlock = none ∨ v.ownBlock ≠ row) : Bld w' B b v l := by
  obtain ⟨hB, ⟨p, hp, hk⟩, ho, hne⟩ := h
  exact ⟨hB, ⟨p, hp, hk.grown hg h1⟩, ho.kept hg h2, hne⟩
theorem Bld.below {w w' : World} {B b : Nat} {v : Value} {l : List UInt8} (h : Bld w B b v l) (hb : Below w.heap.size w w') : Bld w' B b v l :=
  h.stay (grown_of_below hb none) (by simp) (by cases v.ownBlock <;> simp)
theorem Bld.new (w : World) (B : Nat) (hB : B ≤ w.heap.size) : Bld (w.alloc (.cells #[.pointer none, .slice none 0 0] 78)) B w.heap.size (.slice none 0 0) [] :=
  ⟨hB, ⟨_, .inl rfl, Blk.new _ _ _⟩, World.ownsRow_nil _ _ _ _, by simp [Value.ownBlock]⟩
/-- a row that a write does not meet -/
theorem Wrt.own {α : Type} {R : Rep α} {w w' : World} {B b B2 : Nat} {v v' r : Value} {e : TypeId} {xs : List α} (h : Wrt w w' B b v v') (ho : Own R w B2 e NoB r xs) (h1 : r.ownBlock ≠ some b) (h2 : ∀ k, r.ownBlock = some k → v.ownBlock ≠ some k) : Own R w' B2 e NoB r xs :=
  ho.keep (fun k hk => by
    rcases hk with hk | hk
    · exact hk.elim
    · exact h.keep k (ho.lt k hk).2 (fun e => h1 (by rw [hk, e])) (h2 k hk))
/-- a row that a builder does not meet -/
def Apart (r : Value) (b : Nat) (v : Value) : Prop := r.ownBlock ≠ some b ∧ ∀ k, r.ownBlock = some k → v.ownBlock ≠ some k
theorem Wrt.apart {α : Type} {R : Rep α} {w w' : World} {B b B2 : Nat} {v v' r : Value} {e : TypeId} {xs : List α} (h : Wrt w w' B b v v') (ho : Own R w B2 e NoB r xs) (ha : Apart r b v) : Apart r b v' := by
  refine ⟨ha.1, fun k hk => ?_⟩
  rcases h.row with e2 | ⟨q, e2, hq⟩
  · rw [e2]; exact ha.2 k hk
  · rw [e2]; intro e3; injection e3 with e3; have := (ho.lt k hk).2; omega
theorem write58 (B b : Nat) (v : Value) (l : List UInt8) (w : World) (h : Bld w B b v l) (hn : l.length + 1 ≤ 140737488355328) (hBw : B ≤ w.heap.size) :
    Calls Tryz.prog 38 #[.pointer (some ⟨b, 0, none⟩), .int .u8 58] w fun e w' => e = .returned .nilIface ∧ Wrote w B b v (l ++ [58]) w' := WriteByte_any B b v l 58 w h hn hBw
theorem hexTxt (x : UInt8) (w : World) : Calls Tryz.prog 109 #[.int .i64 x.toNat, .int .i64 2] w fun e w' => e = .returned (.string ⟨(byteTxt x).toArray⟩) ∧ Below w.heap.size w w' := Hex_any x.toNat 2 w (by have := x.toNat_lt; omega) (by omega)
/-- What stands while Print writes the digits. -/
structure PrH (w0 : World) (B bB : Nat) (vr : Value) (M : List UInt8) (k : Nat) (vb : Value) (wr : World) : Prop where
  bld : Bld wr w0.heap.size bB vb (58 :: (M.take k).flatMap byteTxt)
  own : Own byteR wr B 5 NoB vr M
  apart : Apart vr bB vb
  below : Below w0.heap.size w0 wr
theorem PrH.next {w0 wr w2 w3 : World} {B bB k : Nat} {vr vb vb' : Value} {M : List UInt8} (h : PrH w0 B bB vr M k vb wr) (hk : k < M.length) (hb : Below wr.heap.size wr w2) (h2 : Bld w3 w0.heap.size bB vb' ((58 :: (M.take k).flatMap byteTxt) ++ byteTxt M[k])) (hw : Wrt w2 w3 w0.heap.size bB vb vb') : PrH w0 B bB vr M (k + 1) vb' w3 := by
  have ho2 : Own byteR w2 B 5 NoB vr M := h.own.keep (Keep.of_below hb (fun j hj => by rcases hj with hj | hj; exact hj.elim; exact (h.own.lt j hj).2))
  refine ⟨?_, hw.own ho2 h.apart.1 h.apart.2, hw.apart ho2 h.apart, (h.below.trans (hb.mono h.below.size)).trans hw.below⟩
  rw [List.take_succ_eq_append_getElem hk, List.flatMap_append]
  simpa using h2
theorem flat_len (l : List UInt8) : (l.flatMap byteTxt).length = 2 * l.length := by
  induction l with
  | nil => rfl
  | cons x l ih => rw [List.flatMap_cons, List.length_append, ih, byteTxt_len, List.length_cons]; omega
set_option maxHeartbeats 1000000 in
theorem Print_no (t a : Int) (sa : Option Addr) (n c : Nat) (w : World) (h : rightB t a n = false) :
    Calls Tryz.prog 83 #[.agg #[.int .i64 t, .int .i64 a, .slice sa n c]] w fun e w' => e = .returned (.tuple #[.string ⟨#[]⟩, .bool false]) ∧ Below w.heap.size w w' := by
  have HR := Lib.hid (fun W => right_any t a sa n c W)
  rw [h] at HR
  have HB0 : Hid (Below w.heap.size w (w.alloc (.cells #[.int .i64 t, .int .i64 a, .slice sa n c] 98))) := (Below.refl _ w).alloc (Nat.le_refl _) _
  go_enter Tryz.func83, Tryz.ntmps83
  go_wp2_with (go_at_call 107; refine (HR.out _).mono ?_; rintro e w' ⟨rfl, hb⟩; have HB := Lib.hid (HB0.out.trans (hb.mono HB0.out.size)); clear hb)
  go_ret2
  exact ⟨rfl, HB.out⟩

theorem low_four (x y z u : Int) (W : World) (b : Nat) (hb : b = W.heap.size) :
    Calls Tryz.prog 108 #[.slice (some ⟨b, 0, none⟩) 4 4] (W.alloc (.cells #[.int .i64 x, .int .i64 y, .int .i64 z, .int .i64 u] 3)).drew fun e w' => ∃ v', e = .returned v' ∧ Own byteR w' W.heap.size 5 NoB v' [lowB x, lowB y, lowB z, lowB u] ∧ Below W.heap.size W w' := by
  subst hb
  refine (Low_any (fun _ => True) _ [x, y, z, u] _ ((slR_lit W 3 (fun _ => True) [x, y, z, u] #[.int .i64 x, .int .i64 y, .int .i64 z, .int .i64 u] 4 rfl rfl (by simp) (fun _ _ => trivial)).drew) (by simp)).mono ?_
  rintro e w' ⟨v', rfl, ho, hb⟩
  have hle : W.heap.size ≤ (W.alloc (.cells #[.int .i64 x, .int .i64 y, .int .i64 z, .int .i64 u] 3)).drew.heap.size := by simp
  exact ⟨v', rfl, ho.base hle, ((Below.refl _ W).alloc (Nat.le_refl _) _).drew.trans (hb.mono hle)⟩
set_option maxHeartbeats 2000000 in
set_option maxRecDepth 100000 in
theorem Print_yes (t a : Nat) (p : Blocks) (v : Value) (l : List UInt8) (w : World) (h : SlR byteR w p v l) (ht : t ≤ 255) (ha : a ≤ 65535) (hl : l.length ≤ 255) :
    Calls Tryz.prog 83 #[.agg #[.int .i64 t, .int .i64 a, v]] w fun e w' => e = .returned (.tuple #[.string ⟨(recLine t a l).toArray⟩, .bool true]) ∧ Below w.heap.size w w' := by
  obtain ⟨sa, c, rfl, hc1, hc2, _⟩ := h.byte
  have hr : rightB t a l.length = true := by unfold rightB; simp; omega
  have HR := Lib.hid (fun W => right_any t a sa l.length c W)
  rw [hr] at HR
  have HSL := Lib.hid h
  have HL := Lib.hid hl
  have HB0 : Hid (Below w.heap.size w (w.alloc (.cells #[.int .i64 t, .int .i64 a, .slice sa l.length c] 98))) := (Below.refl _ w).alloc (Nat.le_refl _) _
  have HK0 : Hid (Blk (w.alloc (.cells #[.int .i64 t, .int .i64 a, .slice sa l.length c] 98)) w.heap.size 98 #[.int .i64 t, .int .i64 a, .slice sa l.length c]) := Blk.new _ _ _
  have ht0 : (0 : Int) ≤ (t : Int) := by omega
  have ht1 : (t : Int) ≤ 255 := by omega
  have ha0 : (0 : Int) ≤ (a : Int) := by omega
  have ha1 : (a : Int) ≤ 65535 := by omega
  have hl1 : (l.length : Int) ≤ 255 := by omega
  have HEQ : Hid ([lowB l.length, lowB ((a : Int) / 256), lowB a, lowB t] ++ l = recB t a l) := by
    show _ = _
    unfold recB
    rfl
  have HF : Hid (recLine t a l = 58 :: (recB t a l ++ [sum03 (recB t a l)]).flatMap byteTxt) := Lib.hid rfl
  have HRL : Hid ((recB t a l).length ≤ 300) := by
    show _ ≤ _
    unfold recB
    simp only [List.length_cons]
    omega
  rw [HF.out]
  clear h hr hl hc1 hc2 ht ha HF
  generalize recB t a l = R at *
  have HC3 : Hid ((R.length + 1) * 1 ≤ 140737488355328) := by show _ ≤ _; have := HRL.out; omega
  have HC4 : Hid (R.length + 1 ≤ 9223372036854775807) := by show _ ≤ _; have := HRL.out; omega
  have HC5 : Hid (([] : List UInt8).length + 1 ≤ 140737488355328) := by show _ ≤ _; simp
  go_enter Tryz.func83, Tryz.ntmps83
  go_wp2_with (go_at_call 107; refine (HR.out _).mono ?_; rintro e w1 ⟨rfl, hb⟩; have HB := Lib.hid (HB0.out.trans (hb.mono HB0.out.size)); have hk := HK0.out.below hb (by simp); obtain ⟨e0, e1, e2, _, _, _⟩ := hk.three; have hs1 : w.heap.size < w1.heap.size := hk.lt; clear hb hk)
  generalize hn : l.length = n at *
  have HNL := Lib.hid hn
  have HC1 : Hid (([lowB n, lowB ((a : Int) / 256), lowB a, lowB t].length + l.length) * 1 ≤ 140737488355328) := by show (4 + _) * 1 ≤ _; omega
  have HC2 : Hid ([lowB n, lowB ((a : Int) / 256), lowB a, lowB t].length + l.length ≤ 9223372036854775807) := by show 4 + _ ≤ _; omega
  clear hn
  go_region_held3 (fun w' => w'.cell? ⟨w.heap.size, 0, none⟩ = some (.int .i64 t) ∧ w'.cell? ⟨w.heap.size, 1, none⟩ = some (.int .i64 a) ∧ w'.cell? ⟨w.heap.size, 2, none⟩ = some (.slice sa n c)) (go_keep)
    (first
      | (go_at_call 108; refine (low_four (n : Int) ((a : Int) / 256) a t w1 _ rfl).mono ?_; rintro e w2 ⟨v4, rfl, ho, hb⟩; have HO := Lib.hid ho; have HB2 := Lib.hid hb; obtain ⟨a4, c4, rfl⟩ : ∃ a c, v4 = .slice a 4 c := ho.form; have HX : Hid (SlR byteR w2 (fun k => p k ∧ k < w.heap.size) (.slice sa n c) l) := HSL.out.old.below (HB.out.trans (hb.mono HB.out.size)); have HQ : Hid (∀ k, p k ∧ k < w.heap.size → some k ≠ Value.ownBlock (.slice a4 4 c4)) := fun k hk e => absurd (HO.out.lt k e.symm).1 (by have := HB.out.size; omega); have HNB : Hid (some w.heap.size ≠ Value.ownBlock (.slice a4 4 c4)) := fun e => absurd (HO.out.lt _ e.symm).1 (by omega); have HOD : Hid (Own byteR w2 w1.heap.size 5 NoB (.slice a4 4 c4) [lowB n, lowB ((a : Int) / 256), lowB a, lowB t]) := ho; have e0' := (hb.cell (p := ⟨w.heap.size, 0, none⟩) hs1).trans e0; have e1' := (hb.cell (p := ⟨w.heap.size, 1, none⟩) hs1).trans e1; have e2' := (hb.cell (p := ⟨w.heap.size, 2, none⟩) hs1).trans e2; clear ho hb)
      | ((refine step_append_R (o := ⟨some 25, _, _, _, _, _⟩) _ (by rfl) (.tmp 22) (.tmp 24) 55 (by rfl) w1.heap.size 5 1 elByte NoB (fun k => p k ∧ k < w.heap.size) (.slice a4 4 c4) (.slice sa n c) _ l (by rfl) (by rfl) HOD.out HX.out (fun _ h => h.elim) HQ.out HC1.out HC2.out HB2.out.size ?_); intro v5 w3 hap; rw [HEQ.out] at hap; have HAP := Lib.hid hap; have e0'' : w3.cell? ⟨w.heap.size, 0, none⟩ = some (.int .i64 t) := hap.2.1.cell (a := ⟨w.heap.size, 0, none⟩) e0' HNB.out; have e1'' : w3.cell? ⟨w.heap.size, 1, none⟩ = some (.int .i64 a) := hap.2.1.cell (a := ⟨w.heap.size, 1, none⟩) e1' HNB.out; have e2'' : w3.cell? ⟨w.heap.size, 2, none⟩ = some (.slice sa n c) := hap.2.1.cell (a := ⟨w.heap.size, 2, none⟩) e2' HNB.out; obtain ⟨a5, c5, rfl⟩ := hap.1.form; clear hap))
  have HB3 : Hid (Below w.heap.size w w3) := (HB.out.trans (HB2.out.mono HB.out.size)).grown HAP.out.2.1 (Nat.le_trans HB.out.size HB2.out.size) (fun k hk => by have := (HOD.out.lt k hk).1; have := HB.out.size; omega)
  have HO3 : Hid (Own byteR (w3.alloc (.cells #[.pointer none, .slice none 0 0] 78)) w1.heap.size 5 NoB (.slice a5 R.length c5) R) := (HAP.out.1.flat NoB).keep (Keep.alloc (fun j hj => by rcases hj with hj | hj; exact hj.elim; exact (HAP.out.1.lt j hj).2) _)
  have HNW : Hid (Bld (w3.alloc (.cells #[.pointer none, .slice none 0 0] 78)) w.heap.size w3.heap.size (.slice none 0 0) []) := Bld.new w3 _ HB3.out.size
  have HB3a : Hid (w.heap.size ≤ (w3.alloc (.cells #[.pointer none, .slice none 0 0] 78)).heap.size) := by show _ ≤ _; have := HB3.out.size; simp; omega
  have HAPT : Hid (Apart (.slice a5 R.length c5) w3.heap.size (.slice none 0 0)) := ⟨fun e => absurd (HAP.out.1.lt _ e).2 (Nat.lt_irrefl _), fun k _ => by simp [Value.ownBlock]⟩
  have HB3b : Hid (Below w.heap.size w (w3.alloc (.cells #[.pointer none, .slice none 0 0] 78))) := HB3.out.alloc HB3.out.size _
  clear e0 e1 e2 e0' e1' e2' e0'' e1'' e2''
  go_wp2_with (first
    | (go_at_call 38; refine (write58 _ _ _ _ _ HNW.out HC5.out HB3a.out).mono ?_; rintro e w4 ⟨rfl, v4, hbl, hwt⟩; have HBL := Lib.hid hbl; have HO4 := Lib.hid (hwt.own HO3.out HAPT.out.1 HAPT.out.2); have HA4 := Lib.hid (hwt.apart HO3.out HAPT.out); have HB4 := Lib.hid (HB3b.out.trans hwt.below); have HS4 : Hid (w1.heap.size ≤ w4.heap.size) := Nat.le_trans HB2.out.size (Nat.le_trans HAP.out.2.1.size (Nat.le_trans (by simp) hwt.size)); clear hbl hwt)
    | (go_at_call 80; refine (Sum_any _ _ R _ (HO4.out.slR (q := fun k => w1.heap.size ≤ k) (fun _ h => h.elim) (fun _ h => h))).mono ?_; rintro e w5 ⟨rfl, hb⟩; have HBL5 := Lib.hid (HBL.out.below hb); have HO5 : Hid (Own byteR w5 w1.heap.size 5 NoB (.slice a5 R.length c5) R) := HO4.out.keep (Keep.of_below hb (fun j hj => by rcases hj with hj | hj; exact hj.elim; exact (HO4.out.lt j hj).2)); have HB5 := Lib.hid (HB4.out.trans (hb.mono HB4.out.size)); have HS5 : Hid (w1.heap.size ≤ w5.heap.size) := Nat.le_trans HS4.out hb.size; clear hb)
    | (at_builtin; refine wpList_pushA rfl (.tmp 27) (.tmp 30) 55 rfl w1.heap.size 5 1 elByte _ R (sum03 R) _ rfl rfl HO5.out rfl HC3.out HC4.out HS5.out ?_; intro a6 c6 w6 hp; have HP := Lib.hid hp; clear hp))
  have HSTART : Hid (PrH w w1.heap.size w3.heap.size (.slice a6 (R.length + 1) c6) (R ++ [sum03 R]) 0 v4 w6) := by
    have hb5 : v4.ownBlock = none ∨ v4.ownBlock ≠ Value.ownBlock (.slice a5 R.length c5) := by
      cases h4 : v4.ownBlock with
      | none => exact .inl rfl
      | some q => exact .inr (fun e => HA4.out.2 q e.symm h4)
    refine ⟨HBL5.out.stay HP.out.2.1 (fun e => HA4.out.1 e.symm) hb5, HP.out.1, ?_, HB5.out.grown HP.out.2.1 HB5.out.size (fun k hk => Nat.le_trans HB.out.size (HO5.out.lt k hk).1)⟩
    have hlt4 : ∀ k, v4.ownBlock = some k → k < w5.heap.size := fun k hk => (HBL5.out.2.2.1.lt k hk).2
    rcases HP.out.2.2 with e | ⟨q, e, hq⟩
    · exact ⟨by rw [e]; exact HA4.out.1, fun k hk => HA4.out.2 k (e.symm.trans hk)⟩
    · exact ⟨by rw [e]; intro e2; injection e2 with e2; have := HBL5.out.lt; omega, fun k hk h4 => by rw [e] at hk; injection hk with hk; have := hlt4 k h4; omega⟩
  have HRN : Hid ((R ++ [sum03 R]).length = R.length + 1) := by show _ = _; simp
  have HRL2 : Hid ((R ++ [sum03 R]).length ≤ 301) := by show _ ≤ _; have := HRL.out; simp; omega
  rw [← HRN.out] at HSTART
  have hri : ((R.length : Int) + 1) = ((R ++ [sum03 R]).length : Int) := by simp
  rw [← HRN.out, hri]
  clear hri
  clear HP HAP HOD HX HQ HEQ HRN HC1 HC2 HC3 HC4 HC5 HB3 HO3 HNW HB3a HB3b HAPT HBL HO4 HA4 HB4 HS4 HBL5 HO5 HB5 HS5 HRL HSL HL HB0 HK0
  generalize hM : R ++ [sum03 R] = M at *
  have HM := Lib.hid hM
  clear hM
  have hM1 : (M.length : Int) ≤ 301 := by have := HRL2.out; omega
  go_loopw [33] (fun i wr => ∃ (k : Nat) (vb : Value), k ≤ M.length ∧ i = .int .i64 k ∧ PrH w w1.heap.size w3.heap.size (.slice a6 M.length c6) M k vb wr) (fun i _ => M.length - (intOf i).toNat)
  case atStart => exact ⟨0, v4, Nat.zero_le _, rfl, HSTART.out⟩
  case round =>
    obtain ⟨k, vb, hk, rfl, hh⟩ := hrel
    have HH := Lib.hid hh
    clear hh
    by_cases hlt : k < M.length
    · obtain ⟨ad, cd, hv, _, _, g⟩ := (HH.out.own.slR (q := fun k => w1.heap.size ≤ k) (fun _ h => h.elim) (fun _ h => h)).byte
      obtain ⟨rfl, _, rfl⟩ : a6 = ad ∧ M.length = M.length ∧ c6 = cd := by injection hv with h1 h2 h3; exact ⟨h1, h2, h3⟩
      obtain ⟨b1, o1, rfl, _, hcell⟩ := g k M[k] (List.getElem?_eq_getElem hlt)
      clear g hv
      have HNX := Lib.hid (fun (w2 w7 : World) (vb' : Value) => HH.out.next (w2 := w2) (w3 := w7) (vb' := vb') hlt)
      have HFL : Hid ((58 :: (M.take k).flatMap byteTxt).length + 2 ≤ 140737488355328) := by
        show _ ≤ _
        have := HRL2.out
        rw [List.length_cons, flat_len, List.length_take]
        omega
      generalize M[k] = x at *
      have hx := x.toNat_lt
      go_wp2_with (first
        | (go_at_call 109; refine (hexTxt x _).mono ?_; rintro e w7 ⟨rfl, hb⟩; have HBX := Lib.hid hb; have HBL7 := Lib.hid (HH.out.bld.below hb); have HS7 : Hid (w.heap.size ≤ w7.heap.size) := Nat.le_trans HH.out.below.size hb.size; clear hb)
        | (go_at_call 37; refine (WriteString_any _ _ vb _ ⟨(byteTxt x).toArray⟩ _ HBL7.out HFL.out HS7.out).mono ?_; rintro e w8 ⟨rfl, v8, hbl, hwt⟩; have HN8 := Lib.hid (HNX.out _ _ _ HBX.out hbl hwt); clear hbl hwt))
      go_roundw
      case rel => exact ⟨k + 1, v8, by omega, by go_num, HN8.out⟩
      case measure => simp [intOf]; omega
    · obtain rfl : k = M.length := by omega
      have hbe := HH.out.bld
      rw [List.take_length] at hbe
      have HBE := Lib.hid hbe
      clear hbe
      have HSZ : Hid (w.heap.size ≤ wr.heap.size) := HH.out.below.size
      go_wp2_with fail
      refine (String_any _ _ _ _ _ HBE.out HSZ.out).mono ?_
      rintro e w9 ⟨rfl, hb⟩
      have HB9 := Lib.hid (HH.out.below.trans hb)
      clear hb
      go_wp2
      go_ret2
      exact ⟨by rw [HM.out]; rfl, HB9.out⟩
end Go.Proofs.YtcfjcoockklkeaaGreatDoor

/-
  A LAW: a range over a function whose rounds are told what the memory holds of what they are handed. Conditions: none.
-/
namespace Go.Proofs.YtcfjcoockklkeaaGreatDoor
open Go.RowKit

section
variable {α : Type} {F : Fence} {n : Nat} {P : Program}
/-- An iterator's promise: each round is told Rx of what it is handed; a round keeps T; the iterator itself lays new blocks alone. -/
def MemSeq (F : Fence) (m : Nat) (P : Program) (g : Nat) (lb : Array Value) (encs : α → Array Value) (T : World → World → Prop) (Rx : List α → α → World → Prop) (S : List α → Prop) (w : World) : Prop :=
  ∀ (l : Nat) (J : List α → World → Prop) (W : World), Below w.heap.size w W → (∀ s A B, J s A → Below A.heap.size A B → J s B) →
    (∀ pre x W1, J pre W1 → Rx pre x W1 → YieldAt F (m - 1) P l (encs x) W1 fun e W' => e = .returned (.bool true) ∧ J (pre ++ [x]) W' ∧ T W1 W') →
    J [] W → CallsIn F m P g (#[.func (.yield l) #[] #[]] ++ lb) W fun e W' => (∃ v, e = .returned v) ∧ ∃ xs, S xs ∧ J xs W'
/-- the blocks of the loop's own records lie as they lay -/
structure Recs (B : Nat) (A C : World) : Prop where
  size : A.heap.size ≤ C.heap.size
  same : ∀ (k : Nat) (o : Obj), B ≤ k → A.heap[k]? = some o → o.isCells = false → C.heap[k]? = some o
/-- where a round that goes on must come to -/
def roundEnd (B : Nat) (T : World → World → Prop) (I : List α → World → Prop) (xs : List α) (W : World) : Exit → Act → World → Prop
  | .normal, _, W' => Recs B W W' ∧ T W W' ∧ I xs W'
  | _, _, _ => False
theorem Recs.below {B : Nat} {A C : World} (h : Below A.heap.size A C) : Recs B A C := ⟨h.size, fun k _ _ hk _ => (h.block k (Array.getElem?_eq_some_iff.1 hk).1).trans hk⟩
theorem Recs.trans {B : Nat} {X Y Z : World} (h : Recs B X Y) (k : Recs B Y Z) : Recs B X Z := ⟨Nat.le_trans h.size k.size, fun i o hB hi ho => k.same i o hB (h.same i o hB hi ho) ho⟩
theorem put_grown {W : World} {l : Nat} (o' : Obj) : W.grownBy (W.putObj l o') (some l) :=
  ⟨rfl, rfl, rfl, by simp [World.putObj], fun k _ hk => World.putObj_heap_other (fun e => hk (by rw [e]))⟩

theorem wpIn_range_mem {g : Operand} {ps : Array Tmp} {assign body : Code} {Q : Exit → Act → World → Prop} {a : Act} {w : World}
    (hro : F.round = none) (h1 : 1 ≤ n) {gf : Nat} {lb : Array Value} (hg : a.eval g = .func (.func gf) #[] lb) (hFg : F.fn gf) (eg : ∀ args w, (callFunc gf args).run P w = .ok (.enter gf args) w)
    {encs : α → Array Value} (hps : ∀ x, (encs x).size = ps.size) {T : World → World → Prop} {Rx : List α → α → World → Prop} {S : List α → Prop} (hseq : MemSeq F (n - 1) P gf lb encs T Rx S w)
    (hTt : ∀ {A B C : World}, T A B → T B C → T A C) (hTp : ∀ (W : World) (l : Nat) (o o' : Obj), W.heap[l]? = some o → o.isCells = false → T W (W.putObj l o'))
    (I : List α → World → Prop) (hI : OwnFrom w.heap.size I) (h0 : I [] w) (Ax : List α → α → Act → World → Prop)
    (hAx : ∀ s x a' (W : World) (l : Nat) (o o' : Obj), Ax s x a' W → w.heap.size ≤ l → W.heap[l]? = some o → o.isCells = false → Ax s x a' (W.putObj l o'))
    (hassign : ∀ (l : Nat) (pre : List α) (x : α) (W : World) (K : Act → World → Prop), I pre W → Rx pre x W → (∀ a' W', Recs w.heap.size W W' → T W W' → I pre W' → Ax pre x a' W' → K a' W') →
      assign.wpIn (F.inRound l) (n - 1 - 1) P (Exit.then K (fun _ _ _ => False)) { tmps := (ps.zip (encs x)).foldl (fun t (p, v) => t.setIfInBounds p v) a.tmps, defers := [] } W)
    (hbody : ∀ (l : Nat) (pre : List α) (x : α) (a' : Act) (W : World), w.heap.size ≤ l → I pre W → Ax pre x a' W → body.wpIn (F.inRound l) (n - 1 - 1) P (roundEnd w.heap.size T I (pre ++ [x]) W) a' W)
    (hdone : ∀ (D : Nat) (xs : List α) (W : World), w.heap.size ≤ D → S xs → I xs W → W.heap[D]? = some (.deferred (some [])) → Q .normal { a with defers := { target := .collected D, args := #[] } :: a.defers } W) :
    (Code.rangeFunc g ps assign body).wpIn F n P Q a w := by
  refine wpIn_rangeFunc ?_
  intro fn hfn
  rw [hro]
  -- the loop's record, in each of its states
  let rec_ : LoopState → Loop := fun st => { state := st, pending := none, fn, tmps := a.tmps, params := ps, assign, body, defers := w.heap.size }
  let D := w.heap.size
  let L := w.heap.size + 1
  let W1 := (w.alloc (.deferred (some []))).alloc (.loop (rec_ .ready))
  have hL1 : W1.heap[L]? = some (.loop (rec_ .ready)) := by
    have := World.alloc_heap_new (w.alloc (.deferred (some []))) (.loop (rec_ .ready))
    rwa [World.size_alloc] at this
  have hD1 : W1.heap[D]? = some (.deferred (some [])) := (Below.heap_alloc _ _ _ (by simp [D])).trans (World.alloc_heap_new w _)
  have hB1 : Below w.heap.size w W1 := ((Below.refl _ w).alloc (Nat.le_refl _) _).alloc (by simp) _
  -- the invariant of the calls: the caller's, and the two blocks of the loop
  let J : List α → World → Prop := fun s W => I s W ∧ W.heap[L]? = some (.loop (rec_ .ready)) ∧ W.heap[D]? = some (.deferred (some []))
  have hnew : ∀ s A B, J s A → Below A.heap.size A B → J s B := fun s A B hs hb =>
    ⟨hI s A B none hs.1 ⟨hb.os, hb.tape, hb.output, hb.size, fun k hk _ => hb.block k hk⟩ (fun r e => by cases e), (hb.block _ (Array.getElem?_eq_some_iff.1 hs.2.1).1).trans hs.2.1, (hb.block _ (Array.getElem?_eq_some_iff.1 hs.2.2).1).trans hs.2.2⟩
  have hrec : ∀ {s : List α} {A : World} (o o' : Obj), I s A → A.heap[L]? = some o → o.isCells = false → I s (A.putObj L o') := fun o o' hs ho hc =>
    hI _ _ _ (some L) hs (put_grown o') (fun r e => by injection e with e; subst e; exact ⟨Nat.le_succ _, o, ho, hc⟩)
  refine ⟨L, [{ target := .collected D, args := #[] }], W1, { target := .fn (.func gf) lb, args := #[.func (.yield L) #[] #[]] }, W1, gf, #[.func (.yield L) #[] #[]] ++ lb, W1, run_enterLoop_outer _ _ _ _ _, ?_, ?_, ?_, fun _ => h1, ?_⟩
  · simp only [resolve, hg]
    simp [go_sem]
  · intro f' hf'
    simp [Target.leads] at hf'
    subst hf'
    exact hFg
  · simp [invoke, go_sem, eg]
  refine (hseq L J W1 hB1 hnew ?_ ⟨hI _ _ _ none h0 ⟨hB1.os, hB1.tape, hB1.output, hB1.size, fun k hk _ => hB1.block k hk⟩ (fun r e => by cases e), hL1, hD1⟩).mono ?_
  · -- a round
    rintro pre x W ⟨hi, hl, hd⟩ hx
    refine ⟨fn, _, assign, body, run_yield (P := P) (args := encs x) hl (hps x), roundIn_of_wpIn hfn (hassign _ pre x W _ hi hx ?_)⟩
    intro a' Wa hka hTa hia haa
    have hla := hka.same _ _ (Nat.le_succ _) hl rfl
    have hda := hka.same _ _ (Nat.le_refl _) hd rfl
    refine ⟨_, run_beginRound hla rfl, ?_⟩
    have hLlt : L < Wa.heap.size := (Array.getElem?_eq_some_iff.1 hla).1
    have hlb : (Wa.putObj L (.loop { rec_ .ready with state := .busy })).heap[L]? = some (.loop { rec_ .ready with state := .busy }) := World.putObj_heap_same hLlt
    have hdb : (Wa.putObj L (.loop { rec_ .ready with state := .busy })).heap[D]? = some (.deferred (some [])) := (World.putObj_heap_other (by show D ≠ L; omega)).trans hda
    refine wpIn_mono (hbody _ pre x a' _ (Nat.le_succ _) (hrec _ _ hia hla rfl) (hAx pre x a' _ _ _ _ haa (Nat.le_succ _) hla rfl)) ?_
    rintro e a3 W3 hp
    cases e with
    | normal =>
      obtain ⟨hk3, hT3, hi3⟩ := hp
      have hl3 := hk3.same _ _ (Nat.le_succ _) hlb rfl
      have hd3 := hk3.same _ _ (Nat.le_refl _) hdb rfl
      refine ⟨_, _, run_endRound (P := P) none hl3, rfl, ⟨hrec _ _ hi3 hl3 rfl, World.putObj_heap_same (Array.getElem?_eq_some_iff.1 hl3).1, (World.putObj_heap_other (by show D ≠ L; omega)).trans hd3⟩, ?_⟩
      exact hTt hTa (hTt (hTt (hTp _ _ _ _ hla rfl) hT3) (hTp _ _ _ _ hl3 rfl))
    | ret => exact hp.elim
    | exit id => exact hp.elim
    | goto t => exact hp.elim
    | panic ch => exact hp.elim
    | outgrown => exact hp.elim
  · -- behind the iterator
    rintro e W2 ⟨⟨v, rfl⟩, xs, hS, hi, hl, hd⟩
    exact ⟨none, _, run_endLoop (P := P) hl (by simp [rec_]), hdone _ xs _ (Nat.le_refl _) hS (hrec _ _ hi hl rfl) ((World.putObj_heap_other (by show D ≠ L; omega)).trans hd)⟩
/-- blocks of cells that p names lie as they lay -/
def Tk (p : Nat → Obj → Prop) (W W' : World) : Prop := ∀ k o, p k o → W.heap[k]? = some o → o.isCells = true → W'.heap[k]? = some o
theorem Tk.trans {p : Nat → Obj → Prop} {A B C : World} (h : Tk p A B) (k : Tk p B C) : Tk p A C := fun i o hp hi hc => k i o hp (h i o hp hi hc) hc
theorem Tk.put {p : Nat → Obj → Prop} (W : World) (l : Nat) (o o' : Obj) (hl : W.heap[l]? = some o) (ho : o.isCells = false) : Tk p W (W.putObj l o') := fun k q _ hk hc => by
  refine (World.putObj_heap_other (fun e => ?_)).trans hk
  subst e
  rw [hl] at hk
  injection hk with hk
  subst hk
  rw [ho] at hc
  cases hc
theorem Tk.below {p : Nat → Obj → Prop} {W W' : World} (h : Below W.heap.size W W') : Tk p W W' := fun k _ _ hk _ => (h.block k (Array.getElem?_eq_some_iff.1 hk).1).trans hk
theorem Tk.blk {p : Nat → Obj → Prop} {W W' : World} (h : Tk p W W') {b : Nat} {t : TypeId} {cs : Array Value} (hb : Blk W b t cs) (hp : p b (.cells cs t (0, 0))) : Blk W' b t cs := h b _ hp hb rfl
end
end Go.Proofs.YtcfjcoockklkeaaGreatDoor

/-
  slices.Chunk of bytes: its iterator. Conditions: sizes.
-/
namespace Go.Proofs.YtcfjcoockklkeaaGreatDoor
open Go.RowKit
attribute [local go_sem] Oper.semAt_some

/-- where the parts begin -/
def starts (n len : Nat) : List Nat := (List.range ((len + n - 1) / n)).map (· * n)
def encC (b o n len : Nat) (i : Nat) : Array Value := #[.slice (some ⟨b, o + i, none⟩) (min n (len - i)) (min n (len - i))]
set_option maxHeartbeats 1000000 in
theorem chunk_seq (F : Fence) (m : Nat) (hF : F.fn 126) (hro : F.round = none) (hm : 1 ≤ m) (bS bN b o n len cap : Nat) (w : World)
    (hS : Blk w bS 55 #[.slice (some ⟨b, o, none⟩) len cap]) (hN : Blk w bN 3 #[.int .i64 n]) (hn : 1 ≤ n) (hn2 : n ≤ 1000) (hl : len ≤ 1000000) (hcap : len ≤ cap) (hcap2 : cap ≤ 9223372036854775807) (hl0 : 0 < len) :
    MemSeq F m Tryz.prog 126 #[.pointer (some ⟨bS, 0, none⟩), .pointer (some ⟨bN, 0, none⟩)] (encC b o n len) (Tk fun k _ => k = bS ∨ k = bN) (fun pre i _ => pre = (List.range pre.length).map (· * n) ∧ i = pre.length * n ∧ i < len) (fun xs => xs = starts n len) w := by
  intro l J W hW hJ hY h0
  have hS' := hS.below hW hS.lt
  have hN' := hN.below hW hN.lt
  refine callsIn_of_wp Tryz.func126 rfl hF ?_ hro
  simp only [Tryz.ntmps126, List.size_toArray, List.length_cons, List.length_nil, Nat.reduceAdd, Nat.reduceSub, Array.replicate_succ, Array.replicate_zero, List.push_toArray, List.append_toArray, List.nil_append, List.cons_append]
  have H := Lib.hid hY
  have HJ := Lib.hid hJ
  have H0 := Lib.hid h0
  have HS := Lib.hid hS'
  have HN := Lib.hid hN'
  clear hY h0 hS hN hS' hN' hJ hW
  gi_wp2
  gi_loopw [4] (fun i wr => ∃ k : Nat, i = .int .i64 ((k * n : Nat) : Int) ∧ k * n < len + n ∧ Blk wr bS 55 #[.slice (some ⟨b, o, none⟩) len cap] ∧ Blk wr bN 3 #[.int .i64 n] ∧ J ((List.range k).map (· * n)) wr)
    (fun i _ => len + n - (intOf i).toNat)
  case atStart => exact ⟨0, by simp, by omega, HS.out, HN.out, H0.out⟩
  case round =>
    obtain ⟨k, rfl, hk, hs, hnn, hj⟩ := hrel
    have c1 := hs.cell 0
    have c2 := hnn.cell 0
    generalize hkn : k * n = i at *
    by_cases hlt : i < len
    · have hi0 : (0 : Int) ≤ (i : Int) := by omega
      have hi1 : (i : Int) < (len : Int) := by omega
      have hn0 : (0 : Int) ≤ (n : Int) := by omega
      have hile : i ≤ len := by omega
      have hce : ¬ (cap = i) := by omega
      have hn9 : (n : Int) ≤ 1000 := by omega
      have hl9 : (len : Int) ≤ 1000000 := by omega
      have hm1 : min n (len - i) ≤ n := Nat.min_le_left _ _
      have hm2 : min n (len - i) ≤ len - i := Nat.min_le_right _ _
      have HM0 : Hid (1 ≤ min n (len - i)) := by show _ ≤ _; omega
      have HMI : Hid (min (n : Int) ((len - i : Nat) : Int) = ((min n (len - i) : Nat) : Int)) := by show _ = _; omega
      have HSW := Lib.hid hs
      have HNW := Lib.hid hnn
      have HKN := Lib.hid hkn
      have HJW := Lib.hid hj
      clear hs hnn hkn hj
      gi_wp2
      refine wpIn_region_quiet_lit hro (by kernel_rfl) (by kernel_rfl) ?_
      repeat (quiet_step_in (fail))
      refine wpQuietIn_nil ?_
      intro _ hw'
      obtain ⟨nq, hw''⟩ := hw'
      subst hw''
      rw [HMI.out]
      obtain ⟨fn, tmps, assign, body, hy, hR⟩ := H.out ((List.range k).map (· * n)) i (wr.drewN nq) (HJ.out _ _ _ HJW.out (below_dN (Below.refl _ _) nq)) ⟨by simp, by simp [HKN.out], hlt⟩
      dsimp only [encC] at hy
      have HR := Lib.hid hR
      clear hR
      generalize min n (len - i) = q at *
      have hq0 : (0 : Int) ≤ (q : Int) := by omega
      have hq1 : (i : Int) + (q : Int) ≤ (len : Int) := by omega
      have hq9 : (1 : Int) ≤ (q : Int) := by have := HM0.out; omega
      clear hm1 hm2
      gi_wp2
      refine HR.out.mono ?_
      rintro e W' ⟨rfl, hj2, hT⟩
      have hs2 : Blk W' bS 55 #[.slice (some ⟨b, o, none⟩) len cap] := hT.blk (HSW.out.below (below_dN (Below.refl wr.heap.size _) nq) HSW.out.lt) (.inl rfl)
      have hn2' : Blk W' bN 3 #[.int .i64 n] := hT.blk (HNW.out.below (below_dN (Below.refl wr.heap.size _) nq) HNW.out.lt) (.inr rfl)
      have c3 := hn2'.cell 0
      have HS2 := Lib.hid hs2
      have HN2 := Lib.hid hn2'
      have HJ2 := Lib.hid hj2
      clear hs2 hn2' hj2 hT c1 c2 hy
      gi_wp2
      go_roundw
      case rel => exact ⟨k + 1, by rw [Nat.succ_mul, HKN.out]; go_num, by rw [Nat.succ_mul, HKN.out]; omega, HS2.out, HN2.out, by rw [List.range_succ, List.map_append, List.map_singleton, HKN.out]; exact HJ2.out⟩
      case measure => simp [intOf]; omega
    · have HKE : Hid ((len + n - 1) / n = k) := Nat.div_eq_of_lt_le (by rw [hkn]; omega) (by rw [Nat.succ_mul, hkn]; omega)
      have HJW := Lib.hid hj
      clear hj hkn
      gi_wp2
      go_end0
      exact ⟨⟨_, rfl⟩, _, rfl, by unfold starts; rw [HKE.out]; exact HJW.out⟩
end Go.Proofs.YtcfjcoockklkeaaGreatDoor

/-
  record.Split. Conditions: the size and the address in their ranges.
-/
namespace Go.Proofs.YtcfjcoockklkeaaGreatDoor
open Go.RowKit
attribute [local go_sem] Oper.semAt_some

def recR : Rep (Nat × List UInt8) := Rep.pair (Rep.flat 2 (fun a : Nat => [.int .i64 0, .int .i64 a]) (fun _ => rfl) (fun _ u hu => by simp at hu; rcases hu with rfl | rfl <;> rfl)) (Rep.slice byteR)
theorem recR_size : recR.size = 3 := rfl
theorem elRec : ElT Tryz.prog 168 98 recR.size 40 := ElT.mk' (z := .agg #[.int .i64 0, .int .i64 0, .slice none 0 0]) Tryz.underlying168 (by kernel_rfl) rfl (by decide)
/-- slices.Chunk: two variables and a function -/
theorem Chunk_any (sa : Option Addr) (ln cp : Nat) (n : Nat) (w : World) (hn : 1 ≤ n) :
    Calls Tryz.prog 122 #[.slice sa ln cp, .int .i64 n] w fun e w' => e = .returned (.func (.func 126) #[] #[.pointer (some ⟨w.heap.size, 0, none⟩), .pointer (some ⟨w.heap.size + 1, 0, none⟩)]) ∧ w' = (w.alloc (.cells #[.slice sa ln cp] 55)).alloc (.cells #[.int .i64 n] 3) := by
  have hmf : ∀ (fn : Fn) (first cap : Array Value) (w : World), (Instr.makeFunc fn first cap).run Tryz.prog w = .ok (.func fn first cap) w := fun _ _ _ _ => rfl
  have h1 : decide ((n : Int) < 1) = false := by simp; omega
  go_enter Tryz.func122, Tryz.ntmps122
  go_wp2
  go_ret
  exact ⟨rfl, rfl⟩
/-- the world in which Split's loop begins -/
def splitW (w : World) (a n : Nat) (sv : Value) : World :=
  (((((w.alloc (.cells #[.int .i64 a] 3)).alloc (.cells #[.int .i64 n] 3)).alloc (.cells #[.int .i64 a] 3)).alloc (.cells #[.slice none 0 0] 168)).alloc (.cells #[sv] 55)).alloc (.cells #[.int .i64 n] 3)
theorem split_start (w : World) (a n : Nat) (sv : Value) : Blk (splitW w a n sv) w.heap.size 3 #[.int .i64 a] ∧ Blk (splitW w a n sv) (w.heap.size + 1 + 1 + 1) 168 #[.slice none 0 0] ∧
    Blk (splitW w a n sv) (w.heap.size + 1 + 1 + 1 + 1) 55 #[sv] ∧ Blk (splitW w a n sv) (w.heap.size + 1 + 1 + 1 + 1 + 1) 3 #[.int .i64 n] ∧ Below w.heap.size w (splitW w a n sv) := by
  unfold splitW
  refine ⟨(((((Blk.new _ _ _).alloc _).alloc _).alloc _).alloc _).alloc _, ?_, ?_, ?_, ((((((Below.refl _ w).alloc (Nat.le_refl _) _).alloc (by simp) _).alloc (by simp; omega) _).alloc (by simp; omega) _).alloc (by simp; omega) _).alloc (by simp; omega) _⟩
  · have := ((Blk.new (((w.alloc (.cells #[.int .i64 a] 3)).alloc (.cells #[.int .i64 n] 3)).alloc (.cells #[.int .i64 a] 3)) 168 #[.slice none 0 0]).alloc (.cells #[sv] 55)).alloc (.cells #[.int .i64 n] 3)
    simpa using this
  · have := (Blk.new ((((w.alloc (.cells #[.int .i64 a] 3)).alloc (.cells #[.int .i64 n] 3)).alloc (.cells #[.int .i64 a] 3)).alloc (.cells #[.slice none 0 0] 168)) 55 #[sv]).alloc (.cells #[.int .i64 n] 3)
    simpa using this
  · have := Blk.new (((((w.alloc (.cells #[.int .i64 a] 3)).alloc (.cells #[.int .i64 n] 3)).alloc (.cells #[.int .i64 a] 3)).alloc (.cells #[.slice none 0 0] 168)).alloc (.cells #[sv] 55)) 3 #[.int .i64 n]
    simpa using this
/-- What stands between two rounds of Split. -/
structure SpI (w0 : World) (bA bO bS bN : Nat) (n a : Nat) (l : List UInt8) (pre : List Nat) (w : World) : Prop where
  out : ∃ ov, Blk w bO 168 #[ov] ∧ OwnL recR w w0.heap.size 98 ov ((splitL n a l).take pre.length)
  adr : Blk w bA 3 #[.int .i64 (a + min (pre.length * n) l.length : Nat)]
  capS : TyB w [55] bS
  capN : TyB w [3] bN
  below : Below w0.heap.size w0 w
theorem Blk.own {w w' : World} {g B : Nat} {t : TypeId} {cs : Array Value} {row : Option Nat} (h : Blk w g t cs) (hg : w.grownBy w' row) (hr : ∀ r, row = some r → B ≤ r ∧ ∃ o : Obj, w.heap[r]? = some o ∧ o.isCells = false) : Blk w' g t cs :=
  h.grown hg (fun e => by
    obtain ⟨_, o, ho, hc⟩ := hr g e.symm
    have h : w.heap[g]? = some (.cells cs t (0, 0)) := h
    rw [h] at ho
    injection ho with ho
    subst ho
    cases hc)
theorem OwnL.own {α : Type} {R : Rep α} {w w' : World} {B B' : Nat} {e : TypeId} {v : Value} {xs : List α} {row : Option Nat} (h : OwnL R w B e v xs) (hg : w.grownBy w' row) (hr : ∀ r, row = some r → B' ≤ r ∧ ∃ o : Obj, w.heap[r]? = some o ∧ o.isCells = false) : OwnL R w' B e v xs :=
  h.keepT fun k _ ⟨cs, t, _, hk⟩ => hg.block k (Array.getElem?_eq_some_iff.1 hk).1 (fun e => by
    obtain ⟨_, o, ho, hc⟩ := hr k e.symm
    rw [hk] at ho
    injection ho with ho
    subst ho
    cases hc)
theorem TyB.own {w w' : World} {ts : List TypeId} {k B : Nat} {row : Option Nat} (h : TyB w ts k) (hg : w.grownBy w' row) (hr : ∀ r, row = some r → B ≤ r ∧ ∃ o : Obj, w.heap[r]? = some o ∧ o.isCells = false) : TyB w' ts k := by
  obtain ⟨cs, t, ht, hk⟩ := h
  exact ⟨cs, t, ht, (show Blk w' k t cs from (show Blk w k t cs from hk).own hg hr)⟩
theorem SpI.own {w0 : World} {bA bO bS bN n a B : Nat} {l : List UInt8} (hB : w0.heap.size ≤ B) : OwnFrom B (SpI w0 bA bO bS bN n a l) := fun pre A C row h hg hr => by
  obtain ⟨⟨ov, h1, h2⟩, h3, h5, h6, h4⟩ := h
  exact ⟨⟨ov, h1.own hg hr, h2.own hg hr⟩, h3.own hg hr, h5.own hg hr, h6.own hg hr, h4.grown hg h4.size (fun k hk => by have := (hr k hk).1; omega)⟩
theorem part_slR {w : World} {p : Blocks} {b o n x c : Nat} {l : List UInt8} (h : SlR byteR w p (.slice (some ⟨b, o, none⟩) l.length c) l) (hc : c ≤ 9223372036854775807) : SlR byteR w p (.slice (some ⟨b, o + x, none⟩) (min n (l.length - x)) (min n (l.length - x))) ((l.drop x).take n) := by
  have hlen : ((l.drop x).take n).length = min n (l.length - x) := by simp
  obtain ⟨a', c', e, h1, h2, h3⟩ := h
  injection e with e1 e2 e3
  subst e1 e3
  refine ⟨_, _, by rw [hlen], by rw [hlen]; exact Nat.le_refl _, by unfold maxLen at *; omega, fun i y hy => ?_⟩
  have hi : i < min n (l.length - x) := by rw [← hlen]; exact (List.getElem?_eq_some_iff.1 hy).1
  have hy2 : l[x + i]? = some y := by
    rw [List.getElem?_take, if_pos (by omega), List.getElem?_drop] at hy
    exact hy
  obtain ⟨b', o', cs, e, hp, hlt, hcs, hr⟩ := h3 (x + i) y hy2
  injection e with e
  injection e with e4 e5
  subst e4 e5
  refine ⟨_, _, cs, rfl, hp, hlt, ?_, hr⟩
  rw [byteR_size] at hcs ⊢
  rw [show o + x + i * 1 = o + (x + i) * 1 by omega]
  exact hcs
theorem stepIn_run {F : Fence} {n : Nat} {P : Program} {ops : Array Oper} {o : Oper} {a : Act} {K : Act → World → Prop} {Q : Exit → Act → World → Prop} {E : Prop} {w : World} (hgd : o.guard = none) (s x : Operand) (t : TypeId)
    (ho : o.op = .call { callee := .builtin .append, args := #[s, x], argTypes := #[t, t] }) (v' : Value) (w' : World) (hrun : (Builtin.append_ #[t, t] o.type #[a.eval s, a.eval x]).run P w = .ok v' w') (h : K (a.put o.dst v') w') :
    if Region.wanted o (yielded ops a.tmps) = true then Oper.wpIn F n P o a w K Q else E := by
  have hw : Region.wanted o (yielded ops a.tmps) = true := by simp [Region.wanted, hgd]
  rw [if_pos hw]
  unfold Oper.wpIn
  refine ⟨?_, ?_⟩
  · simp [Oper.about, ho, resolve, Target.leads, Sem.run_pure]
  · rw [Oper.semAt_plain F _ _ (by rw [ho]; intro c hc'; cases hc')]
    simp [execOp, ho, resolve, invoke, builtin, hrun, Result.andThen]
    exact h
/-- the append of one record -/
theorem split_app {w0 W w2 : World} {bO bA : Nat} {ov v2 : Value} {xs : List (Nat × List UInt8)} {part : List UInt8} {cA : Value} (hko : Blk W bO 168 #[ov]) (hka : Blk W bA 3 #[cA]) (hov : OwnL recR W w0.heap.size 98 ov xs) (hbw : Below w0.heap.size w0 W) (hxl : xs.length ≤ 65536)
    (ho : Own byteR w2 W.drew.heap.size 5 NoB v2 part) (hb : Below W.drew.heap.size W.drew w2) (A : Nat) :
    ∃ a5 c5 w3, (Builtin.append_ #[168, 168] 168 #[ov, .slice (some ⟨w2.heap.size, 0, none⟩) 1 1]).run Tryz.prog (w2.alloc (.cells #[.int .i64 0, .int .i64 A, v2] 98)) = .ok (.slice a5 (xs.length + 1) c5) w3 ∧
      OwnL recR w3 w0.heap.size 98 (.slice a5 (xs.length + 1) c5) (xs ++ [(A, part)]) ∧ Blk w3 bO 168 #[ov] ∧ Blk w3 bA 3 #[cA] ∧ Below w0.heap.size w0 w3 ∧ W.heap.size ≤ w3.heap.size ∧ ∀ k o, W.heap[k]? = some o → ov.ownBlock ≠ some k → w3.heap[k]? = some o := by
  have hov1 : OwnL recR W.drew w0.heap.size 98 ov xs := hov.keep (Keep.drew _)
  have hov2 := hov1.stay hb
  have hB : w0.heap.size ≤ w2.heap.size := Nat.le_trans hbw.size hb.size
  obtain ⟨a5, c5, w3, hrun, hp, hg⟩ := hov2.pushed (P := Tryz.prog) (ty := 168) (x := (A, part)) (q := fun k => v2.ownBlock = some k) elRec #[.int .i64 0, .int .i64 A, v2] ⟨[.int .i64 0, .int .i64 A], [v2], rfl, rfl, ⟨_, rfl, ho.slO (fun _ h => h.elim) (fun _ h => h)⟩⟩
    (fun k hk => ⟨Nat.le_trans hbw.size (ho.lt k hk).1, fun e => absurd (hov.lt k e).2 (Nat.not_lt.2 (ho.lt k hk).1), ho.rowT hk⟩) (by omega) (by omega) hB
  have hty : ∀ k, ov.ownBlock = some k → ∃ cs, W.heap[k]? = some (.cells cs 98 (0, 0)) := fun k hk => by
    obtain ⟨p, ho, _⟩ := hov
    exact ho.rowT hk
  have hsame : ∀ k o, W.heap[k]? = some o → ov.ownBlock ≠ some k → w3.heap[k]? = some o := fun k o hk hne => by
    have hlt : k < W.heap.size := (Array.getElem?_eq_some_iff.1 hk).1
    exact (hg.block k (Nat.lt_of_lt_of_le hlt hb.size) (fun e => hne e.symm)).trans ((hb.block k hlt).trans hk)
  have hbo : ∀ {b : Nat} {t : TypeId} {cs : Array Value}, Blk W b t cs → t ≠ 98 → Blk w3 b t cs := fun {b t cs} hk ht => hsame _ _ hk (fun e => by
    obtain ⟨cs2, h2⟩ := hty b e
    have hk : W.heap[b]? = some (.cells cs t (0, 0)) := hk
    rw [hk] at h2
    injection h2 with h2
    injection h2 with _ h2
    exact ht h2)
  refine ⟨a5, c5, w3, hrun, hp, hbo hko (by decide), hbo hka (by decide), ?_, Nat.le_trans hb.size hg.size, hsame⟩
  exact (hbw.trans ((Below.trans (Below.refl _ _).drew hb).mono hbw.size)).grown hg hB (fun k hk => (hov.lt k hk).1)
theorem OwnL.rowT {α : Type} {R : Rep α} {w : World} {B : Nat} {e : TypeId} {v : Value} {xs : List α} (h : OwnL R w B e v xs) {k : Nat} (hk : v.ownBlock = some k) : ∃ cs, w.heap[k]? = some (.cells cs e (0, 0)) := by
  obtain ⟨p, ho, _⟩ := h
  exact ho.rowT hk
/-- behind the two stores of a round -/
theorem split_next {w0 W w3 : World} {bA bO bS bN n a x q : Nat} {l part : List UInt8} {pre : List Nat} {ov v5 : Value} (hI : SpI w0 bA bO bS bN n a l pre W) (hx1 : x = pre.length * n) (hx2 : x < l.length) (hn : 1 ≤ n) (hq : q = min n (l.length - x)) (hpart : part = (l.drop x).take n)
    (hov : OwnL recR W w0.heap.size 98 ov ((splitL n a l).take pre.length)) (hne : bA ≠ bO) (hneN : bA ≠ bN) (hB1 : w0.heap.size ≤ bA) (hB2 : w0.heap.size ≤ bO)
    (ho3 : OwnL recR w3 w0.heap.size 98 v5 ((splitL n a l).take pre.length ++ [(a + x, part)])) (hk3 : Blk w3 bO 168 #[ov]) (hk4 : Blk w3 bA 3 #[.int .i64 (a + x : Nat)])
    (hb3 : Below w0.heap.size w0 w3) (hsz : W.heap.size ≤ w3.heap.size) (hsame : ∀ k o, W.heap[k]? = some o → ov.ownBlock ≠ some k → w3.heap[k]? = some o) (B : Nat) :
    Recs B W ((w3.setCell ⟨bO, 0, none⟩ v5).setCell ⟨bA, 0, none⟩ (.int .i64 ((a + x : Nat) + (q : Int)))) ∧ Tk (fun k _ => k = bS ∨ k = bN) W ((w3.setCell ⟨bO, 0, none⟩ v5).setCell ⟨bA, 0, none⟩ (.int .i64 ((a + x : Nat) + (q : Int)))) ∧
      SpI w0 bA bO bS bN n a l (pre ++ [x]) ((w3.setCell ⟨bO, 0, none⟩ v5).setCell ⟨bA, 0, none⟩ (.int .i64 ((a + x : Nat) + (q : Int)))) := by
  have hty : ∀ {b : Nat} {t : TypeId} {cs : Array Value}, W.heap[b]? = some (.cells cs t (0, 0)) → t ≠ 98 → ov.ownBlock ≠ some b := fun {b t cs} hk ht e => by
    obtain ⟨cs2, h2⟩ := hov.rowT e
    rw [hk] at h2
    injection h2 with h2
    injection h2 with _ h2
    exact ht h2
  have hset : ∀ k o, w3.heap[k]? = some o → k ≠ bO → k ≠ bA → ((w3.setCell ⟨bO, 0, none⟩ v5).setCell ⟨bA, 0, none⟩ (.int .i64 ((a + x : Nat) + (q : Int)))).heap[k]? = some o := fun k o hk h1 h2 =>
    ((Below.heap_setCell _ _ _ _ h2).trans (Below.heap_setCell _ _ _ _ h1)).trans hk
  have hkO : Blk ((w3.setCell ⟨bO, 0, none⟩ v5).setCell ⟨bA, 0, none⟩ (.int .i64 ((a + x : Nat) + (q : Int)))) bO 168 #[v5] := (hk3.set 0 v5).far (p := ⟨bA, 0, none⟩) (fun e => hne e.symm) _
  have hkA : Blk ((w3.setCell ⟨bO, 0, none⟩ v5).setCell ⟨bA, 0, none⟩ (.int .i64 ((a + x : Nat) + (q : Int)))) bA 3 #[.int .i64 ((a + x : Nat) + (q : Int))] := (hk4.far (p := ⟨bO, 0, none⟩) hne _).set 0 _
  have hne3 : ∀ {k : Nat} {cs : Array Value} {t : TypeId}, w3.heap[k]? = some (.cells cs t (0, 0)) → t ≠ 168 → k ≠ bO := fun {k cs t} hk ht e => by
    subst e
    have h2 : w3.heap[k]? = some (.cells #[ov] 168 (0, 0)) := hk3
    rw [hk] at h2
    injection h2 with h2
    injection h2 with _ h2
    exact ht h2
  have hne4 : ∀ {k : Nat} {cs : Array Value} {t : TypeId}, w3.heap[k]? = some (.cells cs t (0, 0)) → t ≠ 3 → k ≠ bA := fun {k cs t} hk ht e => by
    subst e
    have h2 : w3.heap[k]? = some (.cells #[.int .i64 (a + x : Nat)] 3 (0, 0)) := hk4
    rw [hk] at h2
    injection h2 with h2
    injection h2 with _ h2
    exact ht h2
  have hcapS : ∀ cs, W.heap[bS]? = some (.cells cs 55 (0, 0)) → ((w3.setCell ⟨bO, 0, none⟩ v5).setCell ⟨bA, 0, none⟩ (.int .i64 ((a + x : Nat) + (q : Int)))).heap[bS]? = some (.cells cs 55 (0, 0)) := fun cs hk => by
    have h3 := hsame _ _ hk (hty hk (by decide))
    exact hset _ _ h3 (hne3 h3 (by decide)) (hne4 h3 (by decide))
  have hcapN : ∀ cs, W.heap[bN]? = some (.cells cs 3 (0, 0)) → ((w3.setCell ⟨bO, 0, none⟩ v5).setCell ⟨bA, 0, none⟩ (.int .i64 ((a + x : Nat) + (q : Int)))).heap[bN]? = some (.cells cs 3 (0, 0)) := fun cs hk => by
    have h3 := hsame _ _ hk (hty hk (by decide))
    exact hset _ _ h3 (hne3 h3 (by decide)) (fun e => hneN e.symm)
  obtain ⟨csS, tS, htS, hS⟩ := hI.capS
  obtain ⟨csN, tN, htN, hN⟩ := hI.capN
  simp at htS htN
  subst htS htN
  refine ⟨⟨?_, fun k o _ hk hc => ?_⟩, fun k o hk1 hk2 _ => ?_, ?_⟩
  · have : ((w3.setCell ⟨bO, 0, none⟩ v5).setCell ⟨bA, 0, none⟩ (.int .i64 ((a + x : Nat) + (q : Int)))).heap.size = w3.heap.size := by simp [World.setCell]
    rw [this]; exact hsz
  · have hnr : ov.ownBlock ≠ some k := fun e => by
      obtain ⟨cs2, h2⟩ := hov.rowT e
      rw [hk] at h2
      injection h2 with h2
      subst h2
      cases hc
    have h3 := hsame k o hk hnr
    refine hset k o h3 (fun e => ?_) (fun e => ?_)
    · subst e
      have h2 : w3.heap[k]? = some (.cells #[ov] 168 (0, 0)) := hk3
      rw [h3] at h2; injection h2 with h2; subst h2; cases hc
    · subst e
      have h2 : w3.heap[k]? = some (.cells #[.int .i64 (a + x : Nat)] 3 (0, 0)) := hk4
      rw [h3] at h2; injection h2 with h2; subst h2; cases hc
  · rcases hk1 with rfl | rfl
    · rw [hS] at hk2
      injection hk2 with hk2
      subst hk2
      exact hcapS _ hS
    · rw [hN] at hk2
      injection hk2 with hk2
      subst hk2
      exact hcapN _ hN
  · have hlen : (pre ++ [x]).length = pre.length + 1 := by simp
    refine ⟨⟨v5, hkO, ?_⟩, ?_, ⟨csS, _, by simp, hcapS _ hS⟩, ⟨csN, _, by simp, hcapN _ hN⟩, (hb3.setCell (p := ⟨bO, 0, none⟩) hB2 _).setCell (p := ⟨bA, 0, none⟩) hB1 _⟩
    · rw [hlen, splitL_more (by omega) (by rw [← hx1]; exact hx2), ← hx1, ← hpart]
      exact ho3.keepT (fun k _ ⟨cs, t, ht, hk⟩ => by
        have h1 : t ≠ 168 := by simp at ht; rcases ht with rfl | rfl <;> decide
        have h2 : t ≠ 3 := by simp at ht; rcases ht with rfl | rfl <;> decide
        exact (hset _ _ hk (hne3 hk h1) (hne4 hk h2)).trans hk.symm)
    · have e : ((a + min ((pre ++ [x]).length * n) l.length : Nat) : Int) = ((a + x : Nat) : Int) + (q : Int) := by
        rw [hlen, Nat.succ_mul, ← hx1, hq]
        omega
      rw [e]
      exact hkA
theorem bcell {W w1 : World} (hb : Below W.drew.heap.size W.drew w1) : (∀ b o, b < W.heap.size → w1.cell? ⟨b, o, none⟩ = W.cell? ⟨b, o, none⟩) ∧ (∀ b o, b < W.heap.size → w1.frozen? ⟨b, o, none⟩ = W.frozen? ⟨b, o, none⟩) :=
  ⟨fun b o h => hb.cell (p := ⟨b, o, none⟩) h, fun b o h => hb.frozen (p := ⟨b, o, none⟩) h⟩
theorem split_next' {w0 W w3 : World} {bA bO bS bN n a x q A : Nat} {l part : List UInt8} {pre : List Nat} {ov v5 : Value} {xs : List (Nat × List UInt8)} (hxs : (splitL n a l).take pre.length = xs) (hA : a + x = A) (hI : SpI w0 bA bO bS bN n a l pre W) (hx1 : x = pre.length * n) (hx2 : x < l.length) (hn : 1 ≤ n) (hq : q = min n (l.length - x)) (hpart : part = (l.drop x).take n)
    (hov : OwnL recR W w0.heap.size 98 ov xs) (hne : bA ≠ bO) (hneN : bA ≠ bN) (hB1 : w0.heap.size ≤ bA) (hB2 : w0.heap.size ≤ bO)
    (ho3 : OwnL recR w3 w0.heap.size 98 v5 (xs ++ [(A, part)])) (hk3 : Blk w3 bO 168 #[ov]) (hk4 : Blk w3 bA 3 #[.int .i64 A])
    (hb3 : Below w0.heap.size w0 w3) (hsz : W.heap.size ≤ w3.heap.size) (hsame : ∀ k o, W.heap[k]? = some o → ov.ownBlock ≠ some k → w3.heap[k]? = some o) (B : Nat) :
    Recs B W ((w3.setCell ⟨bO, 0, none⟩ v5).setCell ⟨bA, 0, none⟩ (.int .i64 ((A : Int) + (q : Int)))) ∧ Tk (fun k _ => k = bS ∨ k = bN) W ((w3.setCell ⟨bO, 0, none⟩ v5).setCell ⟨bA, 0, none⟩ (.int .i64 ((A : Int) + (q : Int)))) ∧
      SpI w0 bA bO bS bN n a l (pre ++ [x]) ((w3.setCell ⟨bO, 0, none⟩ v5).setCell ⟨bA, 0, none⟩ (.int .i64 ((A : Int) + (q : Int)))) := by
  subst hxs hA
  exact split_next hI hx1 hx2 hn hq hpart hov hne hneN hB1 hB2 ho3 hk3 hk4 hb3 hsz hsame B
theorem Recs.refl (B : Nat) (W : World) : Recs B W W := ⟨Nat.le_refl _, fun _ _ _ h _ => h⟩
theorem Tk.refl {p : Nat → Obj → Prop} (W : World) : Tk p W W := fun _ _ _ h _ => h
set_option maxHeartbeats 2000000 in
set_option maxRecDepth 100000 in
theorem Split_in (n a : Nat) (p : Blocks) (v : Value) (l : List UInt8) (w : World) (h : SlR byteR w p v l) (hn : 1 ≤ n) (hn2 : n ≤ 255) (ha : a ≤ 65535) (hl : a + l.length ≤ 65536) (h0 : l ≠ []) :
    Calls Tryz.prog 106 #[.int .i64 a, .int .i64 n, v] w fun e w' => ∃ v', e = .returned v' ∧ OwnL recR w' w.heap.size 98 v' (splitL n a l) ∧ Below w.heap.size w w' := by
  obtain ⟨sa, c, rfl, hc1, hc2, g⟩ := h.byte
  obtain ⟨b, o, rfl, _, _⟩ := g 0 (l[0]'(List.length_pos_iff.2 h0)) (List.getElem?_eq_getElem _)
  have h1 : allB 1 255 [(n : Int)] = true := by simp [allB]; omega
  have h2 : allB 0 65535 [(a : Int)] = true := by simp [allB]; omega
  have H1 := Lib.hid (fun (W : World) (b : Nat) (hb : b = W.heap.size) => fits_one 1 255 n W b hb)
  have H2 := Lib.hid (fun (W : World) (b : Nat) (hb : b = W.heap.size) => fits_one 0 65535 a W b hb)
  rw [h1] at H1
  rw [h2] at H2
  have h3 : decide ((65536 : Int) - a < (l.length : Int)) = false := by simp; omega
  have hl1 : (l.length : Int) ≤ 65536 := by omega
  have ha0 : (0 : Int) ≤ (a : Int) := by omega
  have ha1 : (a : Int) ≤ 65535 := by omega
  have HSL := Lib.hid h
  have HL := Lib.hid hl
  have HC1 := Lib.hid hc1
  have HC2 := Lib.hid hc2
  clear h1 h2 h g hc1 hc2 hl
  refine (callsIn_wide (n := 9)).1 ?_
  refine callsIn_of_wp_marks Tryz.func106 rfl trivial ?_ rfl
  simp only [Tryz.ntmps106, List.size_toArray, List.length_cons, List.length_nil, Nat.reduceAdd, Nat.reduceSub, Array.replicate_succ, Array.replicate_zero, List.push_toArray, List.append_toArray, List.nil_append, List.cons_append]
  gi_wp2_with (first
    | (refine ⟨trivial, ?_⟩; gi_at_call 121; first | ((with_reducible refine (callsIn_wide.2 (H1.out _ _ (by simp))).mono ?_); rintro e w' ⟨rfl, rfl⟩) | ((with_reducible refine (callsIn_wide.2 (H2.out _ _ (by simp))).mono ?_); rintro e w' ⟨rfl, rfl⟩))
    | (refine ⟨trivial, ?_⟩; gi_at_call 122; refine (callsIn_wide.2 (Chunk_any _ _ _ n _ hn)).mono ?_; rintro e w' ⟨rfl, rfl⟩))
  obtain ⟨hk1, hk2, hk3, hk4, hb0⟩ := split_start w a n (.slice (some ⟨b, o, none⟩) l.length c)
  have HK1 := Lib.hid hk1
  have HK2 := Lib.hid hk2
  have HK3 := Lib.hid hk3
  have HK4 := Lib.hid hk4
  have HB0 := Lib.hid hb0
  clear hk1 hk2 hk3 hk4 hb0
  change Code.wpIn _ _ _ _ _ _ (splitW w a n (.slice (some ⟨b, o, none⟩) l.length c))
  generalize splitW w a n (.slice (some ⟨b, o, none⟩) l.length c) = W0 at *
  clear h3
  refine wpIn_range_mem rfl (by omega) (gf := 126) (lb := #[.pointer (some ⟨w.heap.size + 1 + 1 + 1 + 1, 0, none⟩), .pointer (some ⟨w.heap.size + 1 + 1 + 1 + 1 + 1, 0, none⟩)]) rfl trivial (enters_of Tryz.func126 (by kernel_rfl) rfl)
    (encs := encC b o n l.length) (fun _ => rfl) (chunk_seq Fence.wide 8 trivial rfl (by omega) (w.heap.size + 1 + 1 + 1 + 1) (w.heap.size + 1 + 1 + 1 + 1 + 1) b o n l.length c W0 HK3.out HK4.out hn (by omega) (by omega) HC1.out HC2.out (List.length_pos_iff.2 h0)) Tk.trans Tk.put
    (SpI w w.heap.size (w.heap.size + 1 + 1 + 1) (w.heap.size + 1 + 1 + 1 + 1) (w.heap.size + 1 + 1 + 1 + 1 + 1) n a l) (SpI.own HB0.out.size) ?start
    (fun pre x a' _ => (x = pre.length * n ∧ x < l.length) ∧ a' = { tmps := #[.int .i64 a, .int .i64 n, .slice (some ⟨b, o, none⟩) l.length c, .pointer (some ⟨w.heap.size, 0, none⟩), undef, undef, .slice none 0 0, .pointer (some ⟨w.heap.size + 1 + 1 + 1, 0, none⟩), .slice (some ⟨b, o + x, none⟩) (min n (l.length - x)) (min n (l.length - x)), .int .i64 n, .slice (some ⟨w.heap.size + 1, 0, none⟩) 1 1, .bool true, .bool false, .bool false, .int .i64 a, .slice (some ⟨w.heap.size + 1 + 1, 0, none⟩) 1 1, .bool true, .bool false, .bool false, .bool false, .slice (some ⟨b, o, none⟩) l.length c, .int .i64 l.length, .int .i64 a, .int .i64 (65536 - (a : Int)), .bool false, .bool false, .slice (some ⟨b, o, none⟩) l.length c, .int .i64 n, .func (.func 126) #[] #[.pointer (some ⟨w.heap.size + 1 + 1 + 1 + 1, 0, none⟩), .pointer (some ⟨w.heap.size + 1 + 1 + 1 + 1 + 1, 0, none⟩)], .slice (some ⟨b, o + x, none⟩) (min n (l.length - x)) (min n (l.length - x)), undef, undef, undef, undef, undef, undef, undef, undef, undef, undef, undef, undef], defers := [] })
    (fun _ _ _ _ _ _ _ h _ _ _ => h) ?assign ?body ?done
  case start => exact ⟨⟨_, HK2.out, by simpa using OwnL.nil _ _ _⟩, by simpa using HK1.out, ⟨_, _, by simp, HK3.out⟩, ⟨_, _, by simp, HK4.out⟩, HB0.out⟩
  case assign =>
    intro l' pre x W K hi hx hK
    have HX := Lib.hid hx
    have HI := Lib.hid hi
    clear hx hi
    dsimp only [encC]
    gi_wp2
    exact hK _ _ (Recs.refl _ _) (Tk.refl _) HI.out ⟨HX.out.2, rfl⟩
  case body =>
    rintro l' pre x a' W hl' hi ⟨⟨hx1, hx2⟩, rfl⟩
    have hsub : 9 - 1 - 1 = 7 := rfl
    have HI := Lib.hid hi
    obtain ⟨⟨ov, hko, hov⟩, hka, hcs, hcn, hbw⟩ := hi
    have HCS := Lib.hid hcs
    have HCN := Lib.hid hcn
    clear hcs hcn
    rw [← hx1, Nat.min_eq_left (Nat.le_of_lt hx2)] at hka
    have HKO := Lib.hid hko
    have HOV := Lib.hid hov
    have HKA := Lib.hid hka
    have HBW := Lib.hid hbw
    have HX1 := Lib.hid hx1
    have HX2 := Lib.hid hx2
    have c1 := hko.cell 0
    have c2 := hka.cell 0
    have hltO : w.heap.size + 1 + 1 + 1 < W.heap.size := hko.lt
    have hltA : w.heap.size < W.heap.size := hka.lt
    have HPT : Hid (SlR byteR W (fun k => p k ∧ k < w.heap.size) (.slice (some ⟨b, o + x, none⟩) (min n (l.length - x)) (min n (l.length - x))) ((l.drop x).take n)) := part_slR (HSL.out.old.below HBW.out) HC2.out
    have HPL : Hid (((l.drop x).take n).length = min n (l.length - x)) := by show _ = _; simp
    have HPM : Hid (((l.drop x).take n).length ≤ 1000000) := by show _ ≤ _; rw [HPL.out]; omega
    have HXL : Hid (((splitL n a l).take pre.length).length ≤ 65536) := by show _ ≤ _; rw [List.length_take]; have := splitL_le (n := n) (by omega) a l; have := HL.out; omega
    have hxb : x ≤ 65536 := by omega
    have hxa : a + x ≤ 131072 := by omega
    have hmi : min n (l.length - x) ≤ 255 := by omega
    have hmp := HPL.out
    have hmO : Tryz.prog.follows .mixedOrders = true := by kernel_rfl
    clear hko hov hka hbw hx1 hx2 hl1
    generalize hqd : min n (l.length - x) = q at *
    have HQD := Lib.hid hqd.symm
    have HQ := Lib.hid hmp
    clear hmp hqd
    generalize hpd : (l.drop x).take n = part at *
    have HPD := Lib.hid hpd.symm
    clear hpd
    generalize hA : a + x = A at *
    have HAE := Lib.hid hA
    clear hA
    generalize hxs : (splitL n a l).take pre.length = xs at *
    have HXS := Lib.hid hxs
    clear hxs
    dsimp only
    simp only [hsub]
    gi_wp2
    refine wpIn_region_any hmO ?_
    change wpAnyIn _ _ _ _ _ _ _ _ _ (World.drew _)
    refine wpAnyIn_ready (rs := [0, 1, 2]) (by kernel_rfl) (by simp) ?_
    refine AllReadyIn.cons rfl (fun K hK => ?_) ?_
    · go_simp
      refine hK _ _ ?_
      clear hK K
      refine wpAnyIn_ready (rs := [1, 2]) (by kernel_rfl) (by simp) ?_
      refine AllReadyIn.cons rfl (fun K hK => ?_) ?_
      · go_simp
        refine hK _ _ ?_
        clear hK K
        refine wpAnyIn_ready (rs := [2]) (by kernel_rfl) (by simp) ?_
        refine AllReadyIn.cons rfl (fun K hK => ?_) ?_
        · go_simp
          refine hK _ _ ?_
          clear hK K
          refine wpAnyIn_ready (rs := [3]) (by kernel_rfl) (by simp) ?_
          refine AllReadyIn.cons rfl (fun K hK => ?_) ?_
          · go_simp
            refine ⟨trivial, ?_⟩
            refine (CallsIn.inRound l' (callsIn_wide.2 (CloneByte_any _ _ part _ HPT.out.drew HPM.out))).mono ?_
            rintro e w2 ⟨v2, rfl, ho2, hb2⟩
            have HSA := Lib.hid (split_app HKO.out HKA.out HOV.out HBW.out HXL.out ho2 hb2 A)
            obtain ⟨a2, k2, rfl⟩ := ho2.form
            obtain ⟨a5, k5, w3, hrun, hpl, hk3, hk4, hb3, hsz3, hsm3⟩ := HSA.out
            rw [HQ.out] at hrun
            have HRUN := Lib.hid hrun
            have HSZ3 := Lib.hid hsz3
            have HSM3 := Lib.hid hsm3
            have HPL3 := Lib.hid hpl
            have HK3' := Lib.hid hk3
            have HK4' := Lib.hid hk4
            have HB3' := Lib.hid hb3
            have d1 := hk3.cell 0
            have d2 := hk4.cell 0
            have g1 := hk3.free 0
            have g2 := hk4.free 0
            obtain ⟨bc, bf⟩ := bcell hb2
            have hs2 := hb2.size
            have z1 : ∀ o', (w2.alloc o').cell? ⟨w.heap.size + 1 + 1 + 1, 0, none⟩ = some ov := fun o' => ((Blk.below (w := W.drew) HKO.out hb2 hltO).alloc o').cell 0
            clear hpl hk3 hk4 hb3 ho2 hrun hb2 HSA hsz3 hsm3
            rw [HQ.out]
            refine hK _ _ ?_
            clear hK K
            refine wpAnyIn_ready (rs := [4]) (by kernel_rfl) (by simp) ?_
            refine AllReadyIn.cons rfl (fun K hK => ?_) ?_
            · go_simp
              refine hK _ _ ?_
              clear hK K
              refine wpAnyIn_ready (rs := [5]) (by kernel_rfl) (by simp) ?_
              refine AllReadyIn.cons rfl (fun K hK => ?_) ?_
              · go_simp
                refine hK _ _ ?_
                clear hK K
                refine wpAnyIn_ready (rs := [6]) (by kernel_rfl) (by simp) ?_
                refine AllReadyIn.cons rfl (fun K hK => ?_) ?_
                · refine stepIn_run (o := ⟨some 36, _, _, _, _, _⟩) (by rfl) (.tmp 30) (.tmp 35) 168 (by rfl) _ _ HRUN.out ?_
                  refine hK _ _ ?_
                  clear hK K
                  refine wpAnyIn_ready (rs := [7]) (by kernel_rfl) (by simp) ?_
                  refine AllReadyIn.cons rfl (fun K hK => ?_) ?_
                  · go_simp
                    refine hK _ _ ?_
                    clear hK K
                    refine wpAnyIn_done (by kernel_rfl) ?_ _
                    gi_wp2
                    exact split_next' HXS.out HAE.out HI.out HX1.out HX2.out hn HQD.out HPD.out HOV.out (by omega) (by omega) (Nat.le_refl _) (by omega) HPL3.out HK3'.out HK4'.out HB3'.out HSZ3.out HSM3.out _
                  exact AllReadyIn.nil
                exact AllReadyIn.nil
              exact AllReadyIn.nil
            exact AllReadyIn.nil
          exact AllReadyIn.nil
        exact AllReadyIn.nil
      refine AllReadyIn.cons rfl (fun K hK => ?_) ?_
      · go_simp
        refine hK _ _ ?_
        clear hK K
        refine wpAnyIn_ready (rs := [1, 3]) (by kernel_rfl) (by simp) ?_
        refine AllReadyIn.cons rfl (fun K hK => ?_) ?_
        · go_simp
          refine hK _ _ ?_
          clear hK K
          refine wpAnyIn_ready (rs := [3]) (by kernel_rfl) (by simp) ?_
          refine AllReadyIn.cons rfl (fun K hK => ?_) ?_
          · go_simp
            refine ⟨trivial, ?_⟩
            refine (CallsIn.inRound l' (callsIn_wide.2 (CloneByte_any _ _ part _ HPT.out.drew HPM.out))).mono ?_
            rintro e w2 ⟨v2, rfl, ho2, hb2⟩
            have HSA := Lib.hid (split_app HKO.out HKA.out HOV.out HBW.out HXL.out ho2 hb2 A)
            obtain ⟨a2, k2, rfl⟩ := ho2.form
            obtain ⟨a5, k5, w3, hrun, hpl, hk3, hk4, hb3, hsz3, hsm3⟩ := HSA.out
            rw [HQ.out] at hrun
            have HRUN := Lib.hid hrun
            have HSZ3 := Lib.hid hsz3
            have HSM3 := Lib.hid hsm3
            have HPL3 := Lib.hid hpl
            have HK3' := Lib.hid hk3
            have HK4' := Lib.hid hk4
            have HB3' := Lib.hid hb3
            have d1 := hk3.cell 0
            have d2 := hk4.cell 0
            have g1 := hk3.free 0
            have g2 := hk4.free 0
            obtain ⟨bc, bf⟩ := bcell hb2
            have hs2 := hb2.size
            have z1 : ∀ o', (w2.alloc o').cell? ⟨w.heap.size + 1 + 1 + 1, 0, none⟩ = some ov := fun o' => ((Blk.below (w := W.drew) HKO.out hb2 hltO).alloc o').cell 0
            clear hpl hk3 hk4 hb3 ho2 hrun hb2 HSA hsz3 hsm3
            rw [HQ.out]
            refine hK _ _ ?_
            clear hK K
            refine wpAnyIn_ready (rs := [4]) (by kernel_rfl) (by simp) ?_
            refine AllReadyIn.cons rfl (fun K hK => ?_) ?_
            · go_simp
              refine hK _ _ ?_
              clear hK K
              refine wpAnyIn_ready (rs := [5]) (by kernel_rfl) (by simp) ?_
              refine AllReadyIn.cons rfl (fun K hK => ?_) ?_
              · go_simp
                refine hK _ _ ?_
                clear hK K
                refine wpAnyIn_ready (rs := [6]) (by kernel_rfl) (by simp) ?_
                refine AllReadyIn.cons rfl (fun K hK => ?_) ?_
                · refine stepIn_run (o := ⟨some 36, _, _, _, _, _⟩) (by rfl) (.tmp 30) (.tmp 35) 168 (by rfl) _ _ HRUN.out ?_
                  refine hK _ _ ?_
                  clear hK K
                  refine wpAnyIn_ready (rs := [7]) (by kernel_rfl) (by simp) ?_
                  refine AllReadyIn.cons rfl (fun K hK => ?_) ?_
                  · go_simp
                    refine hK _ _ ?_
                    clear hK K
                    refine wpAnyIn_done (by kernel_rfl) ?_ _
                    gi_wp2
                    exact split_next' HXS.out HAE.out HI.out HX1.out HX2.out hn HQD.out HPD.out HOV.out (by omega) (by omega) (Nat.le_refl _) (by omega) HPL3.out HK3'.out HK4'.out HB3'.out HSZ3.out HSM3.out _
                  exact AllReadyIn.nil
                exact AllReadyIn.nil
              exact AllReadyIn.nil
            exact AllReadyIn.nil
          exact AllReadyIn.nil
        refine AllReadyIn.cons rfl (fun K hK => ?_) ?_
        · go_simp
          refine ⟨trivial, ?_⟩
          refine (CallsIn.inRound l' (callsIn_wide.2 (CloneByte_any _ _ part _ HPT.out.drew HPM.out))).mono ?_
          rintro e w2 ⟨v2, rfl, ho2, hb2⟩
          have HSA := Lib.hid (split_app HKO.out HKA.out HOV.out HBW.out HXL.out ho2 hb2 A)
          obtain ⟨a2, k2, rfl⟩ := ho2.form
          obtain ⟨a5, k5, w3, hrun, hpl, hk3, hk4, hb3, hsz3, hsm3⟩ := HSA.out
          rw [HQ.out] at hrun
          have HRUN := Lib.hid hrun
          have HSZ3 := Lib.hid hsz3
          have HSM3 := Lib.hid hsm3
          have HPL3 := Lib.hid hpl
          have HK3' := Lib.hid hk3
          have HK4' := Lib.hid hk4
          have HB3' := Lib.hid hb3
          have d1 := hk3.cell 0
          have d2 := hk4.cell 0
          have g1 := hk3.free 0
          have g2 := hk4.free 0
          obtain ⟨bc, bf⟩ := bcell hb2
          have hs2 := hb2.size
          have z1 : ∀ o', (w2.alloc o').cell? ⟨w.heap.size + 1 + 1 + 1, 0, none⟩ = some ov := fun o' => ((Blk.below (w := W.drew) HKO.out hb2 hltO).alloc o').cell 0
          clear hpl hk3 hk4 hb3 ho2 hrun hb2 HSA hsz3 hsm3
          rw [HQ.out]
          refine hK _ _ ?_
          clear hK K
          refine wpAnyIn_ready (rs := [1]) (by kernel_rfl) (by simp) ?_
          refine AllReadyIn.cons rfl (fun K hK => ?_) ?_
          · go_simp
            refine hK _ _ ?_
            clear hK K
            refine wpAnyIn_ready (rs := [4]) (by kernel_rfl) (by simp) ?_
            refine AllReadyIn.cons rfl (fun K hK => ?_) ?_
            · go_simp
              refine hK _ _ ?_
              clear hK K
              refine wpAnyIn_ready (rs := [5]) (by kernel_rfl) (by simp) ?_
              refine AllReadyIn.cons rfl (fun K hK => ?_) ?_
              · go_simp
                refine hK _ _ ?_
                clear hK K
                refine wpAnyIn_ready (rs := [6]) (by kernel_rfl) (by simp) ?_
                refine AllReadyIn.cons rfl (fun K hK => ?_) ?_
                · refine stepIn_run (o := ⟨some 36, _, _, _, _, _⟩) (by rfl) (.tmp 30) (.tmp 35) 168 (by rfl) _ _ HRUN.out ?_
                  refine hK _ _ ?_
                  clear hK K
                  refine wpAnyIn_ready (rs := [7]) (by kernel_rfl) (by simp) ?_
                  refine AllReadyIn.cons rfl (fun K hK => ?_) ?_
                  · go_simp
                    refine hK _ _ ?_
                    clear hK K
                    refine wpAnyIn_done (by kernel_rfl) ?_ _
                    gi_wp2
                    exact split_next' HXS.out HAE.out HI.out HX1.out HX2.out hn HQD.out HPD.out HOV.out (by omega) (by omega) (Nat.le_refl _) (by omega) HPL3.out HK3'.out HK4'.out HB3'.out HSZ3.out HSM3.out _
                  exact AllReadyIn.nil
                exact AllReadyIn.nil
              exact AllReadyIn.nil
            exact AllReadyIn.nil
          exact AllReadyIn.nil
        exact AllReadyIn.nil
      exact AllReadyIn.nil
    refine AllReadyIn.cons rfl (fun K hK => ?_) ?_
    · go_simp
      refine hK _ _ ?_
      clear hK K
      refine wpAnyIn_ready (rs := [0, 2]) (by kernel_rfl) (by simp) ?_
      refine AllReadyIn.cons rfl (fun K hK => ?_) ?_
      · go_simp
        refine hK _ _ ?_
        clear hK K
        refine wpAnyIn_ready (rs := [2]) (by kernel_rfl) (by simp) ?_
        refine AllReadyIn.cons rfl (fun K hK => ?_) ?_
        · go_simp
          refine hK _ _ ?_
          clear hK K
          refine wpAnyIn_ready (rs := [3]) (by kernel_rfl) (by simp) ?_
          refine AllReadyIn.cons rfl (fun K hK => ?_) ?_
          · go_simp
            refine ⟨trivial, ?_⟩
            refine (CallsIn.inRound l' (callsIn_wide.2 (CloneByte_any _ _ part _ HPT.out.drew HPM.out))).mono ?_
            rintro e w2 ⟨v2, rfl, ho2, hb2⟩
            have HSA := Lib.hid (split_app HKO.out HKA.out HOV.out HBW.out HXL.out ho2 hb2 A)
            obtain ⟨a2, k2, rfl⟩ := ho2.form
            obtain ⟨a5, k5, w3, hrun, hpl, hk3, hk4, hb3, hsz3, hsm3⟩ := HSA.out
            rw [HQ.out] at hrun
            have HRUN := Lib.hid hrun
            have HSZ3 := Lib.hid hsz3
            have HSM3 := Lib.hid hsm3
            have HPL3 := Lib.hid hpl
            have HK3' := Lib.hid hk3
            have HK4' := Lib.hid hk4
            have HB3' := Lib.hid hb3
            have d1 := hk3.cell 0
            have d2 := hk4.cell 0
            have g1 := hk3.free 0
            have g2 := hk4.free 0
            obtain ⟨bc, bf⟩ := bcell hb2
            have hs2 := hb2.size
            have z1 : ∀ o', (w2.alloc o').cell? ⟨w.heap.size + 1 + 1 + 1, 0, none⟩ = some ov := fun o' => ((Blk.below (w := W.drew) HKO.out hb2 hltO).alloc o').cell 0
            clear hpl hk3 hk4 hb3 ho2 hrun hb2 HSA hsz3 hsm3
            rw [HQ.out]
            refine hK _ _ ?_
            clear hK K
            refine wpAnyIn_ready (rs := [4]) (by kernel_rfl) (by simp) ?_
            refine AllReadyIn.cons rfl (fun K hK => ?_) ?_
            · go_simp
              refine hK _ _ ?_
              clear hK K
              refine wpAnyIn_ready (rs := [5]) (by kernel_rfl) (by simp) ?_
              refine AllReadyIn.cons rfl (fun K hK => ?_) ?_
              · go_simp
                refine hK _ _ ?_
                clear hK K
                refine wpAnyIn_ready (rs := [6]) (by kernel_rfl) (by simp) ?_
                refine AllReadyIn.cons rfl (fun K hK => ?_) ?_
                · refine stepIn_run (o := ⟨some 36, _, _, _, _, _⟩) (by rfl) (.tmp 30) (.tmp 35) 168 (by rfl) _ _ HRUN.out ?_
                  refine hK _ _ ?_
                  clear hK K
                  refine wpAnyIn_ready (rs := [7]) (by kernel_rfl) (by simp) ?_
                  refine AllReadyIn.cons rfl (fun K hK => ?_) ?_
                  · go_simp
                    refine hK _ _ ?_
                    clear hK K
                    refine wpAnyIn_done (by kernel_rfl) ?_ _
                    gi_wp2
                    exact split_next' HXS.out HAE.out HI.out HX1.out HX2.out hn HQD.out HPD.out HOV.out (by omega) (by omega) (Nat.le_refl _) (by omega) HPL3.out HK3'.out HK4'.out HB3'.out HSZ3.out HSM3.out _
                  exact AllReadyIn.nil
                exact AllReadyIn.nil
              exact AllReadyIn.nil
            exact AllReadyIn.nil
          exact AllReadyIn.nil
        exact AllReadyIn.nil
      refine AllReadyIn.cons rfl (fun K hK => ?_) ?_
      · go_simp
        refine hK _ _ ?_
        clear hK K
        refine wpAnyIn_ready (rs := [0, 3]) (by kernel_rfl) (by simp) ?_
        refine AllReadyIn.cons rfl (fun K hK => ?_) ?_
        · go_simp
          refine hK _ _ ?_
          clear hK K
          refine wpAnyIn_ready (rs := [3]) (by kernel_rfl) (by simp) ?_
          refine AllReadyIn.cons rfl (fun K hK => ?_) ?_
          · go_simp
            refine ⟨trivial, ?_⟩
            refine (CallsIn.inRound l' (callsIn_wide.2 (CloneByte_any _ _ part _ HPT.out.drew HPM.out))).mono ?_
            rintro e w2 ⟨v2, rfl, ho2, hb2⟩
            have HSA := Lib.hid (split_app HKO.out HKA.out HOV.out HBW.out HXL.out ho2 hb2 A)
            obtain ⟨a2, k2, rfl⟩ := ho2.form
            obtain ⟨a5, k5, w3, hrun, hpl, hk3, hk4, hb3, hsz3, hsm3⟩ := HSA.out
            rw [HQ.out] at hrun
            have HRUN := Lib.hid hrun
            have HSZ3 := Lib.hid hsz3
            have HSM3 := Lib.hid hsm3
            have HPL3 := Lib.hid hpl
            have HK3' := Lib.hid hk3
            have HK4' := Lib.hid hk4
            have HB3' := Lib.hid hb3
            have d1 := hk3.cell 0
            have d2 := hk4.cell 0
            have g1 := hk3.free 0
            have g2 := hk4.free 0
            obtain ⟨bc, bf⟩ := bcell hb2
            have hs2 := hb2.size
            have z1 : ∀ o', (w2.alloc o').cell? ⟨w.heap.size + 1 + 1 + 1, 0, none⟩ = some ov := fun o' => ((Blk.below (w := W.drew) HKO.out hb2 hltO).alloc o').cell 0
            clear hpl hk3 hk4 hb3 ho2 hrun hb2 HSA hsz3 hsm3
            rw [HQ.out]
            refine hK _ _ ?_
            clear hK K
            refine wpAnyIn_ready (rs := [4]) (by kernel_rfl) (by simp) ?_
            refine AllReadyIn.cons rfl (fun K hK => ?_) ?_
            · go_simp
              refine hK _ _ ?_
              clear hK K
              refine wpAnyIn_ready (rs := [5]) (by kernel_rfl) (by simp) ?_
              refine AllReadyIn.cons rfl (fun K hK => ?_) ?_
              · go_simp
                refine hK _ _ ?_
                clear hK K
                refine wpAnyIn_ready (rs := [6]) (by kernel_rfl) (by simp) ?_
                refine AllReadyIn.cons rfl (fun K hK => ?_) ?_
                · refine stepIn_run (o := ⟨some 36, _, _, _, _, _⟩) (by rfl) (.tmp 30) (.tmp 35) 168 (by rfl) _ _ HRUN.out ?_
                  refine hK _ _ ?_
                  clear hK K
                  refine wpAnyIn_ready (rs := [7]) (by kernel_rfl) (by simp) ?_
                  refine AllReadyIn.cons rfl (fun K hK => ?_) ?_
                  · go_simp
                    refine hK _ _ ?_
                    clear hK K
                    refine wpAnyIn_done (by kernel_rfl) ?_ _
                    gi_wp2
                    exact split_next' HXS.out HAE.out HI.out HX1.out HX2.out hn HQD.out HPD.out HOV.out (by omega) (by omega) (Nat.le_refl _) (by omega) HPL3.out HK3'.out HK4'.out HB3'.out HSZ3.out HSM3.out _
                  exact AllReadyIn.nil
                exact AllReadyIn.nil
              exact AllReadyIn.nil
            exact AllReadyIn.nil
          exact AllReadyIn.nil
        refine AllReadyIn.cons rfl (fun K hK => ?_) ?_
        · go_simp
          refine ⟨trivial, ?_⟩
          refine (CallsIn.inRound l' (callsIn_wide.2 (CloneByte_any _ _ part _ HPT.out.drew HPM.out))).mono ?_
          rintro e w2 ⟨v2, rfl, ho2, hb2⟩
          have HSA := Lib.hid (split_app HKO.out HKA.out HOV.out HBW.out HXL.out ho2 hb2 A)
          obtain ⟨a2, k2, rfl⟩ := ho2.form
          obtain ⟨a5, k5, w3, hrun, hpl, hk3, hk4, hb3, hsz3, hsm3⟩ := HSA.out
          rw [HQ.out] at hrun
          have HRUN := Lib.hid hrun
          have HSZ3 := Lib.hid hsz3
          have HSM3 := Lib.hid hsm3
          have HPL3 := Lib.hid hpl
          have HK3' := Lib.hid hk3
          have HK4' := Lib.hid hk4
          have HB3' := Lib.hid hb3
          have d1 := hk3.cell 0
          have d2 := hk4.cell 0
          have g1 := hk3.free 0
          have g2 := hk4.free 0
          obtain ⟨bc, bf⟩ := bcell hb2
          have hs2 := hb2.size
          have z1 : ∀ o', (w2.alloc o').cell? ⟨w.heap.size + 1 + 1 + 1, 0, none⟩ = some ov := fun o' => ((Blk.below (w := W.drew) HKO.out hb2 hltO).alloc o').cell 0
          clear hpl hk3 hk4 hb3 ho2 hrun hb2 HSA hsz3 hsm3
          rw [HQ.out]
          refine hK _ _ ?_
          clear hK K
          refine wpAnyIn_ready (rs := [0, 4]) (by kernel_rfl) (by simp) ?_
          refine AllReadyIn.cons rfl (fun K hK => ?_) ?_
          · go_simp
            refine hK _ _ ?_
            clear hK K
            refine wpAnyIn_ready (rs := [4]) (by kernel_rfl) (by simp) ?_
            refine AllReadyIn.cons rfl (fun K hK => ?_) ?_
            · go_simp
              refine hK _ _ ?_
              clear hK K
              refine wpAnyIn_ready (rs := [5]) (by kernel_rfl) (by simp) ?_
              refine AllReadyIn.cons rfl (fun K hK => ?_) ?_
              · go_simp
                refine hK _ _ ?_
                clear hK K
                refine wpAnyIn_ready (rs := [6]) (by kernel_rfl) (by simp) ?_
                refine AllReadyIn.cons rfl (fun K hK => ?_) ?_
                · refine stepIn_run (o := ⟨some 36, _, _, _, _, _⟩) (by rfl) (.tmp 30) (.tmp 35) 168 (by rfl) _ _ HRUN.out ?_
                  refine hK _ _ ?_
                  clear hK K
                  refine wpAnyIn_ready (rs := [7]) (by kernel_rfl) (by simp) ?_
                  refine AllReadyIn.cons rfl (fun K hK => ?_) ?_
                  · go_simp
                    refine hK _ _ ?_
                    clear hK K
                    refine wpAnyIn_done (by kernel_rfl) ?_ _
                    gi_wp2
                    exact split_next' HXS.out HAE.out HI.out HX1.out HX2.out hn HQD.out HPD.out HOV.out (by omega) (by omega) (Nat.le_refl _) (by omega) HPL3.out HK3'.out HK4'.out HB3'.out HSZ3.out HSM3.out _
                  exact AllReadyIn.nil
                exact AllReadyIn.nil
              exact AllReadyIn.nil
            exact AllReadyIn.nil
          refine AllReadyIn.cons rfl (fun K hK => ?_) ?_
          · go_simp
            refine hK _ _ ?_
            clear hK K
            refine wpAnyIn_ready (rs := [0, 5]) (by kernel_rfl) (by simp) ?_
            refine AllReadyIn.cons rfl (fun K hK => ?_) ?_
            · go_simp
              refine hK _ _ ?_
              clear hK K
              refine wpAnyIn_ready (rs := [5]) (by kernel_rfl) (by simp) ?_
              refine AllReadyIn.cons rfl (fun K hK => ?_) ?_
              · go_simp
                refine hK _ _ ?_
                clear hK K
                refine wpAnyIn_ready (rs := [6]) (by kernel_rfl) (by simp) ?_
                refine AllReadyIn.cons rfl (fun K hK => ?_) ?_
                · refine stepIn_run (o := ⟨some 36, _, _, _, _, _⟩) (by rfl) (.tmp 30) (.tmp 35) 168 (by rfl) _ _ HRUN.out ?_
                  refine hK _ _ ?_
                  clear hK K
                  refine wpAnyIn_ready (rs := [7]) (by kernel_rfl) (by simp) ?_
                  refine AllReadyIn.cons rfl (fun K hK => ?_) ?_
                  · go_simp
                    refine hK _ _ ?_
                    clear hK K
                    refine wpAnyIn_done (by kernel_rfl) ?_ _
                    gi_wp2
                    exact split_next' HXS.out HAE.out HI.out HX1.out HX2.out hn HQD.out HPD.out HOV.out (by omega) (by omega) (Nat.le_refl _) (by omega) HPL3.out HK3'.out HK4'.out HB3'.out HSZ3.out HSM3.out _
                  exact AllReadyIn.nil
                exact AllReadyIn.nil
              exact AllReadyIn.nil
            refine AllReadyIn.cons rfl (fun K hK => ?_) ?_
            · go_simp
              refine hK _ _ ?_
              clear hK K
              refine wpAnyIn_ready (rs := [0]) (by kernel_rfl) (by simp) ?_
              refine AllReadyIn.cons rfl (fun K hK => ?_) ?_
              · go_simp
                refine hK _ _ ?_
                clear hK K
                refine wpAnyIn_ready (rs := [6]) (by kernel_rfl) (by simp) ?_
                refine AllReadyIn.cons rfl (fun K hK => ?_) ?_
                · refine stepIn_run (o := ⟨some 36, _, _, _, _, _⟩) (by rfl) (.tmp 30) (.tmp 35) 168 (by rfl) _ _ HRUN.out ?_
                  refine hK _ _ ?_
                  clear hK K
                  refine wpAnyIn_ready (rs := [7]) (by kernel_rfl) (by simp) ?_
                  refine AllReadyIn.cons rfl (fun K hK => ?_) ?_
                  · go_simp
                    refine hK _ _ ?_
                    clear hK K
                    refine wpAnyIn_done (by kernel_rfl) ?_ _
                    gi_wp2
                    exact split_next' HXS.out HAE.out HI.out HX1.out HX2.out hn HQD.out HPD.out HOV.out (by omega) (by omega) (Nat.le_refl _) (by omega) HPL3.out HK3'.out HK4'.out HB3'.out HSZ3.out HSM3.out _
                  exact AllReadyIn.nil
                exact AllReadyIn.nil
              exact AllReadyIn.nil
            exact AllReadyIn.nil
          exact AllReadyIn.nil
        exact AllReadyIn.nil
      exact AllReadyIn.nil
    refine AllReadyIn.cons rfl (fun K hK => ?_) ?_
    · go_simp
      refine hK _ _ ?_
      clear hK K
      refine wpAnyIn_ready (rs := [0, 1, 3]) (by kernel_rfl) (by simp) ?_
      refine AllReadyIn.cons rfl (fun K hK => ?_) ?_
      · go_simp
        refine hK _ _ ?_
        clear hK K
        refine wpAnyIn_ready (rs := [1, 3]) (by kernel_rfl) (by simp) ?_
        refine AllReadyIn.cons rfl (fun K hK => ?_) ?_
        · go_simp
          refine hK _ _ ?_
          clear hK K
          refine wpAnyIn_ready (rs := [3]) (by kernel_rfl) (by simp) ?_
          refine AllReadyIn.cons rfl (fun K hK => ?_) ?_
          · go_simp
            refine ⟨trivial, ?_⟩
            refine (CallsIn.inRound l' (callsIn_wide.2 (CloneByte_any _ _ part _ HPT.out.drew HPM.out))).mono ?_
            rintro e w2 ⟨v2, rfl, ho2, hb2⟩
            have HSA := Lib.hid (split_app HKO.out HKA.out HOV.out HBW.out HXL.out ho2 hb2 A)
            obtain ⟨a2, k2, rfl⟩ := ho2.form
            obtain ⟨a5, k5, w3, hrun, hpl, hk3, hk4, hb3, hsz3, hsm3⟩ := HSA.out
            rw [HQ.out] at hrun
            have HRUN := Lib.hid hrun
            have HSZ3 := Lib.hid hsz3
            have HSM3 := Lib.hid hsm3
            have HPL3 := Lib.hid hpl
            have HK3' := Lib.hid hk3
            have HK4' := Lib.hid hk4
            have HB3' := Lib.hid hb3
            have d1 := hk3.cell 0
            have d2 := hk4.cell 0
            have g1 := hk3.free 0
            have g2 := hk4.free 0
            obtain ⟨bc, bf⟩ := bcell hb2
            have hs2 := hb2.size
            have z1 : ∀ o', (w2.alloc o').cell? ⟨w.heap.size + 1 + 1 + 1, 0, none⟩ = some ov := fun o' => ((Blk.below (w := W.drew) HKO.out hb2 hltO).alloc o').cell 0
            clear hpl hk3 hk4 hb3 ho2 hrun hb2 HSA hsz3 hsm3
            rw [HQ.out]
            refine hK _ _ ?_
            clear hK K
            refine wpAnyIn_ready (rs := [4]) (by kernel_rfl) (by simp) ?_
            refine AllReadyIn.cons rfl (fun K hK => ?_) ?_
            · go_simp
              refine hK _ _ ?_
              clear hK K
              refine wpAnyIn_ready (rs := [5]) (by kernel_rfl) (by simp) ?_
              refine AllReadyIn.cons rfl (fun K hK => ?_) ?_
              · go_simp
                refine hK _ _ ?_
                clear hK K
                refine wpAnyIn_ready (rs := [6]) (by kernel_rfl) (by simp) ?_
                refine AllReadyIn.cons rfl (fun K hK => ?_) ?_
                · refine stepIn_run (o := ⟨some 36, _, _, _, _, _⟩) (by rfl) (.tmp 30) (.tmp 35) 168 (by rfl) _ _ HRUN.out ?_
                  refine hK _ _ ?_
                  clear hK K
                  refine wpAnyIn_ready (rs := [7]) (by kernel_rfl) (by simp) ?_
                  refine AllReadyIn.cons rfl (fun K hK => ?_) ?_
                  · go_simp
                    refine hK _ _ ?_
                    clear hK K
                    refine wpAnyIn_done (by kernel_rfl) ?_ _
                    gi_wp2
                    exact split_next' HXS.out HAE.out HI.out HX1.out HX2.out hn HQD.out HPD.out HOV.out (by omega) (by omega) (Nat.le_refl _) (by omega) HPL3.out HK3'.out HK4'.out HB3'.out HSZ3.out HSM3.out _
                  exact AllReadyIn.nil
                exact AllReadyIn.nil
              exact AllReadyIn.nil
            exact AllReadyIn.nil
          exact AllReadyIn.nil
        refine AllReadyIn.cons rfl (fun K hK => ?_) ?_
        · go_simp
          refine ⟨trivial, ?_⟩
          refine (CallsIn.inRound l' (callsIn_wide.2 (CloneByte_any _ _ part _ HPT.out.drew HPM.out))).mono ?_
          rintro e w2 ⟨v2, rfl, ho2, hb2⟩
          have HSA := Lib.hid (split_app HKO.out HKA.out HOV.out HBW.out HXL.out ho2 hb2 A)
          obtain ⟨a2, k2, rfl⟩ := ho2.form
          obtain ⟨a5, k5, w3, hrun, hpl, hk3, hk4, hb3, hsz3, hsm3⟩ := HSA.out
          rw [HQ.out] at hrun
          have HRUN := Lib.hid hrun
          have HSZ3 := Lib.hid hsz3
          have HSM3 := Lib.hid hsm3
          have HPL3 := Lib.hid hpl
          have HK3' := Lib.hid hk3
          have HK4' := Lib.hid hk4
          have HB3' := Lib.hid hb3
          have d1 := hk3.cell 0
          have d2 := hk4.cell 0
          have g1 := hk3.free 0
          have g2 := hk4.free 0
          obtain ⟨bc, bf⟩ := bcell hb2
          have hs2 := hb2.size
          have z1 : ∀ o', (w2.alloc o').cell? ⟨w.heap.size + 1 + 1 + 1, 0, none⟩ = some ov := fun o' => ((Blk.below (w := W.drew) HKO.out hb2 hltO).alloc o').cell 0
          clear hpl hk3 hk4 hb3 ho2 hrun hb2 HSA hsz3 hsm3
          rw [HQ.out]
          refine hK _ _ ?_
          clear hK K
          refine wpAnyIn_ready (rs := [1]) (by kernel_rfl) (by simp) ?_
          refine AllReadyIn.cons rfl (fun K hK => ?_) ?_
          · go_simp
            refine hK _ _ ?_
            clear hK K
            refine wpAnyIn_ready (rs := [4]) (by kernel_rfl) (by simp) ?_
            refine AllReadyIn.cons rfl (fun K hK => ?_) ?_
            · go_simp
              refine hK _ _ ?_
              clear hK K
              refine wpAnyIn_ready (rs := [5]) (by kernel_rfl) (by simp) ?_
              refine AllReadyIn.cons rfl (fun K hK => ?_) ?_
              · go_simp
                refine hK _ _ ?_
                clear hK K
                refine wpAnyIn_ready (rs := [6]) (by kernel_rfl) (by simp) ?_
                refine AllReadyIn.cons rfl (fun K hK => ?_) ?_
                · refine stepIn_run (o := ⟨some 36, _, _, _, _, _⟩) (by rfl) (.tmp 30) (.tmp 35) 168 (by rfl) _ _ HRUN.out ?_
                  refine hK _ _ ?_
                  clear hK K
                  refine wpAnyIn_ready (rs := [7]) (by kernel_rfl) (by simp) ?_
                  refine AllReadyIn.cons rfl (fun K hK => ?_) ?_
                  · go_simp
                    refine hK _ _ ?_
                    clear hK K
                    refine wpAnyIn_done (by kernel_rfl) ?_ _
                    gi_wp2
                    exact split_next' HXS.out HAE.out HI.out HX1.out HX2.out hn HQD.out HPD.out HOV.out (by omega) (by omega) (Nat.le_refl _) (by omega) HPL3.out HK3'.out HK4'.out HB3'.out HSZ3.out HSM3.out _
                  exact AllReadyIn.nil
                exact AllReadyIn.nil
              exact AllReadyIn.nil
            exact AllReadyIn.nil
          exact AllReadyIn.nil
        exact AllReadyIn.nil
      refine AllReadyIn.cons rfl (fun K hK => ?_) ?_
      · go_simp
        refine hK _ _ ?_
        clear hK K
        refine wpAnyIn_ready (rs := [0, 3]) (by kernel_rfl) (by simp) ?_
        refine AllReadyIn.cons rfl (fun K hK => ?_) ?_
        · go_simp
          refine hK _ _ ?_
          clear hK K
          refine wpAnyIn_ready (rs := [3]) (by kernel_rfl) (by simp) ?_
          refine AllReadyIn.cons rfl (fun K hK => ?_) ?_
          · go_simp
            refine ⟨trivial, ?_⟩
            refine (CallsIn.inRound l' (callsIn_wide.2 (CloneByte_any _ _ part _ HPT.out.drew HPM.out))).mono ?_
            rintro e w2 ⟨v2, rfl, ho2, hb2⟩
            have HSA := Lib.hid (split_app HKO.out HKA.out HOV.out HBW.out HXL.out ho2 hb2 A)
            obtain ⟨a2, k2, rfl⟩ := ho2.form
            obtain ⟨a5, k5, w3, hrun, hpl, hk3, hk4, hb3, hsz3, hsm3⟩ := HSA.out
            rw [HQ.out] at hrun
            have HRUN := Lib.hid hrun
            have HSZ3 := Lib.hid hsz3
            have HSM3 := Lib.hid hsm3
            have HPL3 := Lib.hid hpl
            have HK3' := Lib.hid hk3
            have HK4' := Lib.hid hk4
            have HB3' := Lib.hid hb3
            have d1 := hk3.cell 0
            have d2 := hk4.cell 0
            have g1 := hk3.free 0
            have g2 := hk4.free 0
            obtain ⟨bc, bf⟩ := bcell hb2
            have hs2 := hb2.size
            have z1 : ∀ o', (w2.alloc o').cell? ⟨w.heap.size + 1 + 1 + 1, 0, none⟩ = some ov := fun o' => ((Blk.below (w := W.drew) HKO.out hb2 hltO).alloc o').cell 0
            clear hpl hk3 hk4 hb3 ho2 hrun hb2 HSA hsz3 hsm3
            rw [HQ.out]
            refine hK _ _ ?_
            clear hK K
            refine wpAnyIn_ready (rs := [4]) (by kernel_rfl) (by simp) ?_
            refine AllReadyIn.cons rfl (fun K hK => ?_) ?_
            · go_simp
              refine hK _ _ ?_
              clear hK K
              refine wpAnyIn_ready (rs := [5]) (by kernel_rfl) (by simp) ?_
              refine AllReadyIn.cons rfl (fun K hK => ?_) ?_
              · go_simp
                refine hK _ _ ?_
                clear hK K
                refine wpAnyIn_ready (rs := [6]) (by kernel_rfl) (by simp) ?_
                refine AllReadyIn.cons rfl (fun K hK => ?_) ?_
                · refine stepIn_run (o := ⟨some 36, _, _, _, _, _⟩) (by rfl) (.tmp 30) (.tmp 35) 168 (by rfl) _ _ HRUN.out ?_
                  refine hK _ _ ?_
                  clear hK K
                  refine wpAnyIn_ready (rs := [7]) (by kernel_rfl) (by simp) ?_
                  refine AllReadyIn.cons rfl (fun K hK => ?_) ?_
                  · go_simp
                    refine hK _ _ ?_
                    clear hK K
                    refine wpAnyIn_done (by kernel_rfl) ?_ _
                    gi_wp2
                    exact split_next' HXS.out HAE.out HI.out HX1.out HX2.out hn HQD.out HPD.out HOV.out (by omega) (by omega) (Nat.le_refl _) (by omega) HPL3.out HK3'.out HK4'.out HB3'.out HSZ3.out HSM3.out _
                  exact AllReadyIn.nil
                exact AllReadyIn.nil
              exact AllReadyIn.nil
            exact AllReadyIn.nil
          exact AllReadyIn.nil
        refine AllReadyIn.cons rfl (fun K hK => ?_) ?_
        · go_simp
          refine ⟨trivial, ?_⟩
          refine (CallsIn.inRound l' (callsIn_wide.2 (CloneByte_any _ _ part _ HPT.out.drew HPM.out))).mono ?_
          rintro e w2 ⟨v2, rfl, ho2, hb2⟩
          have HSA := Lib.hid (split_app HKO.out HKA.out HOV.out HBW.out HXL.out ho2 hb2 A)
          obtain ⟨a2, k2, rfl⟩ := ho2.form
          obtain ⟨a5, k5, w3, hrun, hpl, hk3, hk4, hb3, hsz3, hsm3⟩ := HSA.out
          rw [HQ.out] at hrun
          have HRUN := Lib.hid hrun
          have HSZ3 := Lib.hid hsz3
          have HSM3 := Lib.hid hsm3
          have HPL3 := Lib.hid hpl
          have HK3' := Lib.hid hk3
          have HK4' := Lib.hid hk4
          have HB3' := Lib.hid hb3
          have d1 := hk3.cell 0
          have d2 := hk4.cell 0
          have g1 := hk3.free 0
          have g2 := hk4.free 0
          obtain ⟨bc, bf⟩ := bcell hb2
          have hs2 := hb2.size
          have z1 : ∀ o', (w2.alloc o').cell? ⟨w.heap.size + 1 + 1 + 1, 0, none⟩ = some ov := fun o' => ((Blk.below (w := W.drew) HKO.out hb2 hltO).alloc o').cell 0
          clear hpl hk3 hk4 hb3 ho2 hrun hb2 HSA hsz3 hsm3
          rw [HQ.out]
          refine hK _ _ ?_
          clear hK K
          refine wpAnyIn_ready (rs := [0, 4]) (by kernel_rfl) (by simp) ?_
          refine AllReadyIn.cons rfl (fun K hK => ?_) ?_
          · go_simp
            refine hK _ _ ?_
            clear hK K
            refine wpAnyIn_ready (rs := [4]) (by kernel_rfl) (by simp) ?_
            refine AllReadyIn.cons rfl (fun K hK => ?_) ?_
            · go_simp
              refine hK _ _ ?_
              clear hK K
              refine wpAnyIn_ready (rs := [5]) (by kernel_rfl) (by simp) ?_
              refine AllReadyIn.cons rfl (fun K hK => ?_) ?_
              · go_simp
                refine hK _ _ ?_
                clear hK K
                refine wpAnyIn_ready (rs := [6]) (by kernel_rfl) (by simp) ?_
                refine AllReadyIn.cons rfl (fun K hK => ?_) ?_
                · refine stepIn_run (o := ⟨some 36, _, _, _, _, _⟩) (by rfl) (.tmp 30) (.tmp 35) 168 (by rfl) _ _ HRUN.out ?_
                  refine hK _ _ ?_
                  clear hK K
                  refine wpAnyIn_ready (rs := [7]) (by kernel_rfl) (by simp) ?_
                  refine AllReadyIn.cons rfl (fun K hK => ?_) ?_
                  · go_simp
                    refine hK _ _ ?_
                    clear hK K
                    refine wpAnyIn_done (by kernel_rfl) ?_ _
                    gi_wp2
                    exact split_next' HXS.out HAE.out HI.out HX1.out HX2.out hn HQD.out HPD.out HOV.out (by omega) (by omega) (Nat.le_refl _) (by omega) HPL3.out HK3'.out HK4'.out HB3'.out HSZ3.out HSM3.out _
                  exact AllReadyIn.nil
                exact AllReadyIn.nil
              exact AllReadyIn.nil
            exact AllReadyIn.nil
          refine AllReadyIn.cons rfl (fun K hK => ?_) ?_
          · go_simp
            refine hK _ _ ?_
            clear hK K
            refine wpAnyIn_ready (rs := [0, 5]) (by kernel_rfl) (by simp) ?_
            refine AllReadyIn.cons rfl (fun K hK => ?_) ?_
            · go_simp
              refine hK _ _ ?_
              clear hK K
              refine wpAnyIn_ready (rs := [5]) (by kernel_rfl) (by simp) ?_
              refine AllReadyIn.cons rfl (fun K hK => ?_) ?_
              · go_simp
                refine hK _ _ ?_
                clear hK K
                refine wpAnyIn_ready (rs := [6]) (by kernel_rfl) (by simp) ?_
                refine AllReadyIn.cons rfl (fun K hK => ?_) ?_
                · refine stepIn_run (o := ⟨some 36, _, _, _, _, _⟩) (by rfl) (.tmp 30) (.tmp 35) 168 (by rfl) _ _ HRUN.out ?_
                  refine hK _ _ ?_
                  clear hK K
                  refine wpAnyIn_ready (rs := [7]) (by kernel_rfl) (by simp) ?_
                  refine AllReadyIn.cons rfl (fun K hK => ?_) ?_
                  · go_simp
                    refine hK _ _ ?_
                    clear hK K
                    refine wpAnyIn_done (by kernel_rfl) ?_ _
                    gi_wp2
                    exact split_next' HXS.out HAE.out HI.out HX1.out HX2.out hn HQD.out HPD.out HOV.out (by omega) (by omega) (Nat.le_refl _) (by omega) HPL3.out HK3'.out HK4'.out HB3'.out HSZ3.out HSM3.out _
                  exact AllReadyIn.nil
                exact AllReadyIn.nil
              exact AllReadyIn.nil
            refine AllReadyIn.cons rfl (fun K hK => ?_) ?_
            · go_simp
              refine hK _ _ ?_
              clear hK K
              refine wpAnyIn_ready (rs := [0]) (by kernel_rfl) (by simp) ?_
              refine AllReadyIn.cons rfl (fun K hK => ?_) ?_
              · go_simp
                refine hK _ _ ?_
                clear hK K
                refine wpAnyIn_ready (rs := [6]) (by kernel_rfl) (by simp) ?_
                refine AllReadyIn.cons rfl (fun K hK => ?_) ?_
                · refine stepIn_run (o := ⟨some 36, _, _, _, _, _⟩) (by rfl) (.tmp 30) (.tmp 35) 168 (by rfl) _ _ HRUN.out ?_
                  refine hK _ _ ?_
                  clear hK K
                  refine wpAnyIn_ready (rs := [7]) (by kernel_rfl) (by simp) ?_
                  refine AllReadyIn.cons rfl (fun K hK => ?_) ?_
                  · go_simp
                    refine hK _ _ ?_
                    clear hK K
                    refine wpAnyIn_done (by kernel_rfl) ?_ _
                    gi_wp2
                    exact split_next' HXS.out HAE.out HI.out HX1.out HX2.out hn HQD.out HPD.out HOV.out (by omega) (by omega) (Nat.le_refl _) (by omega) HPL3.out HK3'.out HK4'.out HB3'.out HSZ3.out HSM3.out _
                  exact AllReadyIn.nil
                exact AllReadyIn.nil
              exact AllReadyIn.nil
            exact AllReadyIn.nil
          exact AllReadyIn.nil
        exact AllReadyIn.nil
      refine AllReadyIn.cons rfl (fun K hK => ?_) ?_
      · go_simp
        refine ⟨trivial, ?_⟩
        refine (CallsIn.inRound l' (callsIn_wide.2 (CloneByte_any _ _ part _ HPT.out.drew HPM.out))).mono ?_
        rintro e w2 ⟨v2, rfl, ho2, hb2⟩
        have HSA := Lib.hid (split_app HKO.out HKA.out HOV.out HBW.out HXL.out ho2 hb2 A)
        obtain ⟨a2, k2, rfl⟩ := ho2.form
        obtain ⟨a5, k5, w3, hrun, hpl, hk3, hk4, hb3, hsz3, hsm3⟩ := HSA.out
        rw [HQ.out] at hrun
        have HRUN := Lib.hid hrun
        have HSZ3 := Lib.hid hsz3
        have HSM3 := Lib.hid hsm3
        have HPL3 := Lib.hid hpl
        have HK3' := Lib.hid hk3
        have HK4' := Lib.hid hk4
        have HB3' := Lib.hid hb3
        have d1 := hk3.cell 0
        have d2 := hk4.cell 0
        have g1 := hk3.free 0
        have g2 := hk4.free 0
        obtain ⟨bc, bf⟩ := bcell hb2
        have hs2 := hb2.size
        have z1 : ∀ o', (w2.alloc o').cell? ⟨w.heap.size + 1 + 1 + 1, 0, none⟩ = some ov := fun o' => ((Blk.below (w := W.drew) HKO.out hb2 hltO).alloc o').cell 0
        clear hpl hk3 hk4 hb3 ho2 hrun hb2 HSA hsz3 hsm3
        rw [HQ.out]
        refine hK _ _ ?_
        clear hK K
        refine wpAnyIn_ready (rs := [0, 1]) (by kernel_rfl) (by simp) ?_
        refine AllReadyIn.cons rfl (fun K hK => ?_) ?_
        · go_simp
          refine hK _ _ ?_
          clear hK K
          refine wpAnyIn_ready (rs := [1]) (by kernel_rfl) (by simp) ?_
          refine AllReadyIn.cons rfl (fun K hK => ?_) ?_
          · go_simp
            refine hK _ _ ?_
            clear hK K
            refine wpAnyIn_ready (rs := [4]) (by kernel_rfl) (by simp) ?_
            refine AllReadyIn.cons rfl (fun K hK => ?_) ?_
            · go_simp
              refine hK _ _ ?_
              clear hK K
              refine wpAnyIn_ready (rs := [5]) (by kernel_rfl) (by simp) ?_
              refine AllReadyIn.cons rfl (fun K hK => ?_) ?_
              · go_simp
                refine hK _ _ ?_
                clear hK K
                refine wpAnyIn_ready (rs := [6]) (by kernel_rfl) (by simp) ?_
                refine AllReadyIn.cons rfl (fun K hK => ?_) ?_
                · refine stepIn_run (o := ⟨some 36, _, _, _, _, _⟩) (by rfl) (.tmp 30) (.tmp 35) 168 (by rfl) _ _ HRUN.out ?_
                  refine hK _ _ ?_
                  clear hK K
                  refine wpAnyIn_ready (rs := [7]) (by kernel_rfl) (by simp) ?_
                  refine AllReadyIn.cons rfl (fun K hK => ?_) ?_
                  · go_simp
                    refine hK _ _ ?_
                    clear hK K
                    refine wpAnyIn_done (by kernel_rfl) ?_ _
                    gi_wp2
                    exact split_next' HXS.out HAE.out HI.out HX1.out HX2.out hn HQD.out HPD.out HOV.out (by omega) (by omega) (Nat.le_refl _) (by omega) HPL3.out HK3'.out HK4'.out HB3'.out HSZ3.out HSM3.out _
                  exact AllReadyIn.nil
                exact AllReadyIn.nil
              exact AllReadyIn.nil
            exact AllReadyIn.nil
          exact AllReadyIn.nil
        refine AllReadyIn.cons rfl (fun K hK => ?_) ?_
        · go_simp
          refine hK _ _ ?_
          clear hK K
          refine wpAnyIn_ready (rs := [0, 4]) (by kernel_rfl) (by simp) ?_
          refine AllReadyIn.cons rfl (fun K hK => ?_) ?_
          · go_simp
            refine hK _ _ ?_
            clear hK K
            refine wpAnyIn_ready (rs := [4]) (by kernel_rfl) (by simp) ?_
            refine AllReadyIn.cons rfl (fun K hK => ?_) ?_
            · go_simp
              refine hK _ _ ?_
              clear hK K
              refine wpAnyIn_ready (rs := [5]) (by kernel_rfl) (by simp) ?_
              refine AllReadyIn.cons rfl (fun K hK => ?_) ?_
              · go_simp
                refine hK _ _ ?_
                clear hK K
                refine wpAnyIn_ready (rs := [6]) (by kernel_rfl) (by simp) ?_
                refine AllReadyIn.cons rfl (fun K hK => ?_) ?_
                · refine stepIn_run (o := ⟨some 36, _, _, _, _, _⟩) (by rfl) (.tmp 30) (.tmp 35) 168 (by rfl) _ _ HRUN.out ?_
                  refine hK _ _ ?_
                  clear hK K
                  refine wpAnyIn_ready (rs := [7]) (by kernel_rfl) (by simp) ?_
                  refine AllReadyIn.cons rfl (fun K hK => ?_) ?_
                  · go_simp
                    refine hK _ _ ?_
                    clear hK K
                    refine wpAnyIn_done (by kernel_rfl) ?_ _
                    gi_wp2
                    exact split_next' HXS.out HAE.out HI.out HX1.out HX2.out hn HQD.out HPD.out HOV.out (by omega) (by omega) (Nat.le_refl _) (by omega) HPL3.out HK3'.out HK4'.out HB3'.out HSZ3.out HSM3.out _
                  exact AllReadyIn.nil
                exact AllReadyIn.nil
              exact AllReadyIn.nil
            exact AllReadyIn.nil
          refine AllReadyIn.cons rfl (fun K hK => ?_) ?_
          · go_simp
            refine hK _ _ ?_
            clear hK K
            refine wpAnyIn_ready (rs := [0, 5]) (by kernel_rfl) (by simp) ?_
            refine AllReadyIn.cons rfl (fun K hK => ?_) ?_
            · go_simp
              refine hK _ _ ?_
              clear hK K
              refine wpAnyIn_ready (rs := [5]) (by kernel_rfl) (by simp) ?_
              refine AllReadyIn.cons rfl (fun K hK => ?_) ?_
              · go_simp
                refine hK _ _ ?_
                clear hK K
                refine wpAnyIn_ready (rs := [6]) (by kernel_rfl) (by simp) ?_
                refine AllReadyIn.cons rfl (fun K hK => ?_) ?_
                · refine stepIn_run (o := ⟨some 36, _, _, _, _, _⟩) (by rfl) (.tmp 30) (.tmp 35) 168 (by rfl) _ _ HRUN.out ?_
                  refine hK _ _ ?_
                  clear hK K
                  refine wpAnyIn_ready (rs := [7]) (by kernel_rfl) (by simp) ?_
                  refine AllReadyIn.cons rfl (fun K hK => ?_) ?_
                  · go_simp
                    refine hK _ _ ?_
                    clear hK K
                    refine wpAnyIn_done (by kernel_rfl) ?_ _
                    gi_wp2
                    exact split_next' HXS.out HAE.out HI.out HX1.out HX2.out hn HQD.out HPD.out HOV.out (by omega) (by omega) (Nat.le_refl _) (by omega) HPL3.out HK3'.out HK4'.out HB3'.out HSZ3.out HSM3.out _
                  exact AllReadyIn.nil
                exact AllReadyIn.nil
              exact AllReadyIn.nil
            refine AllReadyIn.cons rfl (fun K hK => ?_) ?_
            · go_simp
              refine hK _ _ ?_
              clear hK K
              refine wpAnyIn_ready (rs := [0]) (by kernel_rfl) (by simp) ?_
              refine AllReadyIn.cons rfl (fun K hK => ?_) ?_
              · go_simp
                refine hK _ _ ?_
                clear hK K
                refine wpAnyIn_ready (rs := [6]) (by kernel_rfl) (by simp) ?_
                refine AllReadyIn.cons rfl (fun K hK => ?_) ?_
                · refine stepIn_run (o := ⟨some 36, _, _, _, _, _⟩) (by rfl) (.tmp 30) (.tmp 35) 168 (by rfl) _ _ HRUN.out ?_
                  refine hK _ _ ?_
                  clear hK K
                  refine wpAnyIn_ready (rs := [7]) (by kernel_rfl) (by simp) ?_
                  refine AllReadyIn.cons rfl (fun K hK => ?_) ?_
                  · go_simp
                    refine hK _ _ ?_
                    clear hK K
                    refine wpAnyIn_done (by kernel_rfl) ?_ _
                    gi_wp2
                    exact split_next' HXS.out HAE.out HI.out HX1.out HX2.out hn HQD.out HPD.out HOV.out (by omega) (by omega) (Nat.le_refl _) (by omega) HPL3.out HK3'.out HK4'.out HB3'.out HSZ3.out HSM3.out _
                  exact AllReadyIn.nil
                exact AllReadyIn.nil
              exact AllReadyIn.nil
            exact AllReadyIn.nil
          exact AllReadyIn.nil
        exact AllReadyIn.nil
      exact AllReadyIn.nil
    exact AllReadyIn.nil
  case done =>
    rintro D xs W hD rfl hi hK
    obtain ⟨⟨ov, hko, hov⟩, _, _, _, hbw⟩ := hi
    have hlen : (starts n l.length).length = (l.length + n - 1) / n := by simp [starts]
    rw [hlen, splitL_all (by omega)] at hov
    have HOV := Lib.hid hov
    have HBW := Lib.hid hbw
    have HKD := Lib.hid hK
    have c1 := hko.cell 0
    obtain ⟨oa, oc, rfl⟩ := hov.form
    clear hlen hov hbw hK hko
    have hD2 : w.heap.size ≤ D := Nat.le_trans HB0.out.size hD
    gi_wp2
    refine ⟨by simp, .inl ⟨_, _, rfl, run_takeDeferred HKD.out, ?_⟩⟩
    refine ⟨_, results_tmp rfl _ _ _, ⟨_, rfl, ?_, ?_⟩⟩
    · exact HOV.out.own (B' := 0) (put_grown _) (fun r e => by injection e with e; subst e; exact ⟨Nat.zero_le _, _, HKD.out, rfl⟩)
    · exact HBW.out.grown (put_grown _) HBW.out.size (fun k e => by injection e with e; subst e; exact hD2)
end Go.Proofs.YtcfjcoockklkeaaGreatDoor
