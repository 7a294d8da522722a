/-
  Items by their bytes; breadboardref12.Same, decode.Same in general. Conditions: none.
-/
import Derived.Test.YtnbmbcjnncbaiaaGreatDoorQA
namespace Go.Proofs.YtnbmbcjnncbaiaaGreatDoor
open Go.RowKit Go.Shelf Go.Sort

/-- an item by its bytes -/
structure It where
  k : Int
  raw : List UInt8
  op : List UInt8
  args : List Opd
  al : Bool
def Itm.it (x : Itm) (l : List UInt8) : It := ⟨x.k, l.take x.n, x.op, x.args, x.al⟩
/-- an item's cells -/
def itCs (x : It) (ra : Option Addr) (rc : Nat) (va : Option Addr) (vc : Nat) : Array Value := #[.int .i64 x.k, .slice ra x.raw.length rc, .string ⟨x.op.toArray⟩, .slice va x.args.length vc, .bool x.al]
/-- an item in memory, in blocks that p names -/
def ItP (w : World) (p : Blocks) (x : It) (v : Value) : Prop :=
  ∃ ra rc va vc, v = .agg (itCs x ra rc va vc) ∧ SlR byteR w p (.slice ra x.raw.length rc) x.raw ∧ SlR opdR w p (.slice va x.args.length vc) x.args
theorem ItmR.it {w : World} {B : Nat} {x : Itm} {l : List UInt8} {v : Value} (h : ItmR w B x l v) : ItP w (fun b => B ≤ b) (x.it l) v := by
  obtain ⟨ra, rc, va, vc, rfl, h1, h2⟩ := h
  exact ⟨ra, rc, va, vc, rfl, h1, h2⟩
theorem ItP.below {w w' : World} {p : Blocks} {x : It} {v : Value} (h : ItP w p x v) (hb : RowKit.Below w.heap.size w w') : ItP w' p x v := by
  obtain ⟨ra, rc, va, vc, e, h1, h2⟩ := h
  exact ⟨ra, rc, va, vc, e, h1.below hb, h2.below hb⟩
/-- The same item? (a name that the walk does not open) -/
def itEq (x y : It) : Bool := decide (x.k = y.k) && (decide (x.raw = y.raw) && (insEq ⟨⟨x.op.toArray⟩, x.args⟩ ⟨⟨y.op.toArray⟩, y.args⟩ && (x.al == y.al)))
theorem itEq_iff {x y : It} : itEq x y = true ↔ x = y := by
  obtain ⟨a, b, c, d, e⟩ := x
  obtain ⟨a2, b2, c2, d2, e2⟩ := y
  simp [itEq, insEq, and_assoc]
theorem itEq_k {x y : It} (h : ¬ x.k = y.k) : itEq x y = false := by simp [itEq, h]
theorem bytesB {a b : List UInt8} : ((⟨a.toArray⟩ : ByteArray).toList == (⟨b.toArray⟩ : ByteArray).toList) = decide (a = b) := by
  by_cases h : a = b
  · subst h; simp
  · simp [h]
theorem itEq_raw {x y : It} (h : ((⟨x.raw.toArray⟩ : ByteArray).toList == (⟨y.raw.toArray⟩ : ByteArray).toList) = false) : itEq x y = false := by rw [bytesB] at h; simp [itEq, h]
theorem itEq_in {x y : It} (h1 : x.k = y.k) (h2 : ((⟨x.raw.toArray⟩ : ByteArray).toList == (⟨y.raw.toArray⟩ : ByteArray).toList) = true) : itEq x y = (insEq ⟨⟨x.op.toArray⟩, x.args⟩ ⟨⟨y.op.toArray⟩, y.args⟩ && (x.al == y.al)) := by rw [bytesB] at h2; simp [itEq, h1, h2]
set_option maxHeartbeats 4000000 in
set_option maxRecDepth 100000 in
theorem Same12_it (x y : It) (p q : Blocks) (v1 v2 : Value) (w : World) (h1 : ItP w p x v1) (h2 : ItP w q y v2) :
    Calls Tryz.prog 20 #[v1, v2] w fun e w' => e = .returned (.bool (itEq x y)) ∧ RowKit.Below w.heap.size w w' := by
  obtain ⟨ra, rc, va, vc, rfl, s1, a1⟩ := h1
  obtain ⟨rb, rd, vb, vd, rfl, s2, a2⟩ := h2
  have HK0 : Hid _ := @itEq_k x y
  have HR0 : Hid _ := @itEq_raw x y
  have HI0 : Hid _ := @itEq_in x y
  obtain ⟨k, R, op, args, al⟩ := x
  obtain ⟨k2, R2, op2, args2, al2⟩ := y
  unfold itCs
  dsimp only at *
  have HF := Lib.hid (((Fr.start w).new' 29 #[.int .i64 k, .slice ra R.length rc, .string ⟨op.toArray⟩, .slice va args.length vc, .bool al] (b := w.heap.size) rfl).new' 29 #[.int .i64 k2, .slice rb R2.length rd, .string ⟨op2.toArray⟩, .slice vb args2.length vd, .bool al2] (b := w.heap.size + 1) (World.size_alloc _ _))
  have k1 := run_string_sl _ _ _ R (s1.below HF.out.below)
  have k2' := run_string_sl _ _ _ R2 (s2.below HF.out.below)
  have HS := Lib.hid (ref07Same_any _ _ ⟨⟨op.toArray⟩, args⟩ ⟨⟨op2.toArray⟩, args2⟩ (.slice va args.length vc) (.slice vb args2.length vd) _ (a1.below HF.out.below) (a2.below HF.out.below))
  dsimp only at HS
  generalize insEq ⟨⟨op.toArray⟩, args⟩ ⟨⟨op2.toArray⟩, args2⟩ = bi at *
  generalize itEq ⟨k, R, op, args, al⟩ ⟨k2, R2, op2, args2, al2⟩ = bq at *
  obtain ⟨S, hS⟩ : ∃ S : ByteArray, S = ⟨R.toArray⟩ := ⟨_, rfl⟩
  obtain ⟨S2, hS2⟩ : ∃ S : ByteArray, S = ⟨R2.toArray⟩ := ⟨_, rfl⟩
  rw [← hS] at k1 HR0 HI0
  rw [← hS2] at k2' HR0 HI0
  obtain ⟨O, hO⟩ : ∃ S : ByteArray, S = ⟨op.toArray⟩ := ⟨_, rfl⟩
  obtain ⟨O2, hO2⟩ : ∃ S : ByteArray, S = ⟨op2.toArray⟩ := ⟨_, rfl⟩
  rw [← hO] at HS HF k1 k2' ⊢
  rw [← hO2] at HS HF k1 k2' ⊢
  clear hS hS2 hO hO2 s1 s2 a1 a2
  obtain ⟨W, hW⟩ : ∃ W : World, W = ((w.alloc (.cells #[.int .i64 k, .slice ra R.length rc, .string O, .slice va args.length vc, .bool al] 29)).alloc (.cells #[.int .i64 k2, .slice rb R2.length rd, .string O2, .slice vb args2.length vd, .bool al2] 29)) := ⟨_, rfl⟩
  rw [← hW] at HS HF k1 k2'
  obtain ⟨⟨c0, c1, c2, c3, c4⟩, _⟩ := (HF.out.blk 1 rfl).five
  obtain ⟨⟨d0, d1, d2, d3, d4⟩, _⟩ := (HF.out.blk 0 rfl).five
  by_cases hk : k = k2
  · by_cases hr : (S.toList == S2.toList) = true
    · have HE : Hid (bq = (bi && (al == al2))) := Lib.hid (HI0.out hk hr)
      subst hk
      cases bi
      · have HE2 : Hid (bq = false) := Lib.hid (by rw [HE.out]; rfl)
        clear HE HI0 HR0 HK0
        go_enter Tryz.func20, Tryz.ntmps20
        go_upto_region 1 with fail
        rw [← hW]
        clear hW
        go_wp2_with (go_at_call 22; refine (HS.out).mono ?_; rintro e w4 ⟨rfl, hb⟩; have H4 := Lib.hid (HF.out.next hb); clear hb c0 c1 c2 c3 c4 d0 d1 d2 d3 d4; obtain ⟨⟨c0, c1, c2, c3, c4⟩, _⟩ := (H4.out.blk 1 rfl).five; obtain ⟨⟨d0, d1, d2, d3, d4⟩, _⟩ := (H4.out.blk 0 rfl).five)
        go_ret
        exact ⟨ret_bool HE2.out.symm, H4.out.below⟩
      · have HE2 : Hid (bq = (al == al2)) := Lib.hid (by rw [HE.out]; rfl)
        clear HE HI0 HR0 HK0
        go_enter Tryz.func20, Tryz.ntmps20
        go_upto_region 1 with fail
        rw [← hW]
        clear hW
        go_wp2_with (go_at_call 22; refine (HS.out).mono ?_; rintro e w4 ⟨rfl, hb⟩; have H4 := Lib.hid (HF.out.next hb); clear hb c0 c1 c2 c3 c4 d0 d1 d2 d3 d4; obtain ⟨⟨c0, c1, c2, c3, c4⟩, _⟩ := (H4.out.blk 1 rfl).five; obtain ⟨⟨d0, d1, d2, d3, d4⟩, _⟩ := (H4.out.blk 0 rfl).five)
        go_ret
        exact ⟨ret_bool HE2.out.symm, H4.out.below⟩
    · have hr : (S.toList == S2.toList) = false := by simpa using hr
      have HE2 : Hid (bq = false) := Lib.hid (HR0.out hr)
      subst hk
      clear HI0 HR0 HK0
      go_enter Tryz.func20, Tryz.ntmps20
      go_upto_region 1 with fail
      rw [← hW]
      clear hW
      go_wp2
      go_ret
      exact ⟨ret_bool HE2.out.symm, HF.out.below⟩
  · have HE2 : Hid (bq = false) := Lib.hid (HK0.out hk)
    clear HI0 HR0 HK0
    go_enter Tryz.func20, Tryz.ntmps20
    go_upto_region 1 with fail
    rw [← hW]
    clear hW
    go_wp2
    go_ret
    exact ⟨ret_bool HE2.out.symm, HF.out.below⟩
set_option maxRecDepth 100000 in
theorem BEqual_any (p q : Blocks) (a1 a2 : Option Addr) (c1 c2 : Nat) (l1 l2 : List UInt8) (w : World) (h1 : SlR byteR w p (.slice a1 l1.length c1) l1) (h2 : SlR byteR w q (.slice a2 l2.length c2) l2) :
    Calls Tryz.prog 61 #[.slice a1 l1.length c1, .slice a2 l2.length c2] w fun e w' => e = .returned (.bool ((⟨l1.toArray⟩ : ByteArray).toList == (⟨l2.toArray⟩ : ByteArray).toList)) ∧ w' = w := by
  have k1 := run_string_sl _ _ _ l1 h1
  have k2 := run_string_sl _ _ _ l2 h2
  obtain ⟨S, hS⟩ : ∃ S : ByteArray, S = ⟨l1.toArray⟩ := ⟨_, rfl⟩
  obtain ⟨S2, hS2⟩ : ∃ S : ByteArray, S = ⟨l2.toArray⟩ := ⟨_, rfl⟩
  rw [← hS] at k1 ⊢
  rw [← hS2] at k2 ⊢
  clear hS hS2 h1 h2
  go_enter Tryz.func61, Tryz.ntmps61
  go_wp2
  go_ret
  exact ⟨rfl, rfl⟩
set_option maxHeartbeats 4000000 in
set_option maxRecDepth 100000 in
theorem SameD_it (x y : It) (p q : Blocks) (v1 v2 : Value) (w : World) (h1 : ItP w p x v1) (h2 : ItP w q y v2) :
    Calls Tryz.prog 29 #[v1, v2] w fun e w' => e = .returned (.bool (itEq x y)) ∧ RowKit.Below w.heap.size w w' := by
  obtain ⟨ra, rc, va, vc, rfl, s1, a1⟩ := h1
  obtain ⟨rb, rd, vb, vd, rfl, s2, a2⟩ := h2
  have HK0 : Hid _ := @itEq_k x y
  have HR0 : Hid _ := @itEq_raw x y
  have HI0 : Hid _ := @itEq_in x y
  obtain ⟨k, R, op, args, al⟩ := x
  obtain ⟨k2, R2, op2, args2, al2⟩ := y
  unfold itCs
  dsimp only at *
  have HF := Lib.hid (((Fr.start w).new' 29 #[.int .i64 k, .slice ra R.length rc, .string ⟨op.toArray⟩, .slice va args.length vc, .bool al] (b := w.heap.size) rfl).new' 29 #[.int .i64 k2, .slice rb R2.length rd, .string ⟨op2.toArray⟩, .slice vb args2.length vd, .bool al2] (b := w.heap.size + 1) (World.size_alloc _ _))
  have HBE := Lib.hid (BEqual_any _ _ ra rb rc rd R R2 _ (s1.below HF.out.below) (s2.below HF.out.below))
  have HS := Lib.hid (insSame_any _ _ ⟨⟨op.toArray⟩, args⟩ ⟨⟨op2.toArray⟩, args2⟩ (.slice va args.length vc) (.slice vb args2.length vd) _ (a1.below HF.out.below) (a2.below HF.out.below))
  dsimp only at HS
  generalize insEq ⟨⟨op.toArray⟩, args⟩ ⟨⟨op2.toArray⟩, args2⟩ = bi at *
  generalize itEq ⟨k, R, op, args, al⟩ ⟨k2, R2, op2, args2, al2⟩ = bq at *
  obtain ⟨S, hS⟩ : ∃ S : ByteArray, S = ⟨R.toArray⟩ := ⟨_, rfl⟩
  obtain ⟨S2, hS2⟩ : ∃ S : ByteArray, S = ⟨R2.toArray⟩ := ⟨_, rfl⟩
  rw [← hS] at HBE HR0 HI0
  rw [← hS2] at HBE HR0 HI0
  obtain ⟨O, hO⟩ : ∃ S : ByteArray, S = ⟨op.toArray⟩ := ⟨_, rfl⟩
  obtain ⟨O2, hO2⟩ : ∃ S : ByteArray, S = ⟨op2.toArray⟩ := ⟨_, rfl⟩
  rw [← hO] at HS HF HBE ⊢
  rw [← hO2] at HS HF HBE ⊢
  clear hS hS2 hO hO2 s1 s2 a1 a2
  obtain ⟨W, hW⟩ : ∃ W : World, W = ((w.alloc (.cells #[.int .i64 k, .slice ra R.length rc, .string O, .slice va args.length vc, .bool al] 29)).alloc (.cells #[.int .i64 k2, .slice rb R2.length rd, .string O2, .slice vb args2.length vd, .bool al2] 29)) := ⟨_, rfl⟩
  rw [← hW] at HS HF HBE
  obtain ⟨⟨c0, c1, c2, c3, c4⟩, _⟩ := (HF.out.blk 1 rfl).five
  obtain ⟨⟨d0, d1, d2, d3, d4⟩, _⟩ := (HF.out.blk 0 rfl).five
  by_cases hk : k = k2
  · by_cases hr : (S.toList == S2.toList) = true
    · have HE : Hid (bq = (bi && (al == al2))) := Lib.hid (HI0.out hk hr)
      subst hk
      cases bi
      · have HE2 : Hid (bq = false) := Lib.hid (by rw [HE.out]; rfl)
        clear HE HI0 HR0 HK0
        go_enter Tryz.func29, Tryz.ntmps29
        go_upto_region 1 with fail
        rw [← hW]
        clear hW
        go_wp2_with (first | (go_at_call 61; refine (HBE.out).mono ?_; rintro e w3 ⟨rfl, hw3⟩; subst w3; rw [hr]) | (go_at_call 62; refine (HS.out).mono ?_; rintro e w4 ⟨rfl, hb⟩; have H4 := Lib.hid (HF.out.next hb); clear hb c0 c1 c2 c3 c4 d0 d1 d2 d3 d4; obtain ⟨⟨c0, c1, c2, c3, c4⟩, _⟩ := (H4.out.blk 1 rfl).five; obtain ⟨⟨d0, d1, d2, d3, d4⟩, _⟩ := (H4.out.blk 0 rfl).five))
        go_ret
        exact ⟨ret_bool HE2.out.symm, H4.out.below⟩
      · have HE2 : Hid (bq = (al == al2)) := Lib.hid (by rw [HE.out]; rfl)
        clear HE HI0 HR0 HK0
        go_enter Tryz.func29, Tryz.ntmps29
        go_upto_region 1 with fail
        rw [← hW]
        clear hW
        go_wp2_with (first | (go_at_call 61; refine (HBE.out).mono ?_; rintro e w3 ⟨rfl, hw3⟩; subst w3; rw [hr]) | (go_at_call 62; refine (HS.out).mono ?_; rintro e w4 ⟨rfl, hb⟩; have H4 := Lib.hid (HF.out.next hb); clear hb c0 c1 c2 c3 c4 d0 d1 d2 d3 d4; obtain ⟨⟨c0, c1, c2, c3, c4⟩, _⟩ := (H4.out.blk 1 rfl).five; obtain ⟨⟨d0, d1, d2, d3, d4⟩, _⟩ := (H4.out.blk 0 rfl).five))
        go_ret
        exact ⟨ret_bool HE2.out.symm, H4.out.below⟩
    · have hr : (S.toList == S2.toList) = false := by simpa using hr
      have HE2 : Hid (bq = false) := Lib.hid (HR0.out hr)
      subst hk
      clear HI0 HR0 HK0
      go_enter Tryz.func29, Tryz.ntmps29
      go_upto_region 1 with fail
      rw [← hW]
      clear hW
      go_wp2_with (go_at_call 61; refine (HBE.out).mono ?_; rintro e w3 ⟨rfl, hw3⟩; subst w3; rw [hr])
      go_ret
      exact ⟨ret_bool HE2.out.symm, HF.out.below⟩
  · have HE2 : Hid (bq = false) := Lib.hid (HK0.out hk)
    clear HI0 HR0 HK0
    go_enter Tryz.func29, Tryz.ntmps29
    go_upto_region 1 with fail
    rw [← hW]
    clear hW
    go_wp2
    go_ret
    exact ⟨ret_bool HE2.out.symm, HF.out.below⟩
end Go.Proofs.YtnbmbcjnncbaiaaGreatDoor
