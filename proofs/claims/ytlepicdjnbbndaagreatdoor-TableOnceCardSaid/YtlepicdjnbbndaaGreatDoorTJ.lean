/-
  TableOnce. Conditions: the library's table as its initialiser lays it.
-/
import Derived.Test.YtlepicdjnbbndaaGreatDoorTI
import Derived.Test.YtlepicdjnbbndaaGreatDoorTF
import Derived.Test.YtlepicdjnbbndaaGreatDoorT43
/-
  breadboardlaw09.TableOnce, walked. Conditions: the library's table as its initialiser lays it.
-/
namespace Go.Proofs.YtlepicdjnbbndaaGreatDoor
open Go.RowKit Go.Shelf Go.Sort

theorem rem7 (u : Nat) : (u : Int).tmod 7 = (u : Int) % 7 := Int.tmod_eq_emod_of_nonneg (by omega)
set_option maxHeartbeats 8000000 in
set_option maxRecDepth 100000 in
theorem Once_any (u0 u1 a b : Nat) (hu0 : u0 < 256) (hu1 : u1 < 256) (ha : a < 256) (hb : b < 256) (w : World) (hT : Spc w)
    (hlaw : ∀ x y, (atF ((u0 : Int) % 7) a).1 = some x → (atF ((u1 : Int) % 7) b).1 = some y → x.al = false → y.al = false → insEq ⟨⟨x.iop.toArray⟩, x.args⟩ ⟨⟨y.iop.toArray⟩, y.args⟩ = (((u0 : Int) % 7 == (u1 : Int) % 7) && ((a : Int) == (b : Int)))) :
    Calls Tryz.prog 3 #[.agg #[.int .u8 u0, .int .u8 u1], .int .u8 a, .int .u8 b] w fun e w' => e = .returned (.bool true) ∧ Below w.heap.size w w' := by
  have HA1 := Lib.hid (fun W hT => At_any ((u0 : Int) % 7) a ha W hT)
  have HA2 := Lib.hid (fun W hT => At_any ((u1 : Int) % 7) b hb W hT)
  have HAL := Lib.hid (fun W hT => alive9_any W hT)
  have HK1 := Lib.hid (atF_kind ((u0 : Int) % 7) a)
  have HK2 := Lib.hid (atF_kind ((u1 : Int) % 7) b)
  have HLW := Lib.hid hlaw
  have r0 := rem7 u0
  have r1 := rem7 u1
  have HB0 := Lib.hid ((Below.refl w.heap.size w).alloc (Nat.le_refl _) (.cells #[.int .u8 u0, .int .u8 u1] 22)).drew
  have HT := Lib.hid hT
  clear hlaw hT
  generalize atF ((u0 : Int) % 7) a = x1 at *
  generalize atF ((u1 : Int) % 7) b = x2 at *
  obtain ⟨x1, k1⟩ := x1
  obtain ⟨x2, k2⟩ := x2
  dsimp only at *
  rcases x1 with _ | x1
  · have hk1 : ¬ k1 = 1 := by rcases HK1.out.2 rfl with h | h | h <;> omega
    rcases x2 with _ | x2
    · go_enter Tryz.func3, Tryz.ntmps3
      go_upto_region 1 with fail
      go_region
      go_wp2_with fail
      refine (HA1.out _ (HT.out.below HB0.out)).mono ?_
      rintro e w1 ⟨he, hb1⟩
      have HB1 := Lib.hid (HB0.out.trans (hb1.mono HB0.out.size))
      have HT1 := Lib.hid (HT.out.below HB1.out)
      clear hb1
      subst he
      have HE1 := Lib.hid (Blk.new w1 27 #[.int .i64 0, .int .u8 0, .string ⟨#[]⟩, .slice none 0 0, .string ⟨#[]⟩, .bool false])
      have HC1 := Lib.hid (HB1.out.alloc HB1.out.size (.cells #[.int .i64 0, .int .u8 0, .string ⟨#[]⟩, .slice none 0 0, .string ⟨#[]⟩, .bool false] 27))
      have HD1 := Lib.hid (HT.out.below HC1.out)
      unfold ent0
      go_wp2_with fail
      refine (HA2.out _ HD1.out).mono ?_
      rintro e w2 ⟨he, hb2⟩
      have HB2 := Lib.hid (HC1.out.trans (hb2.mono HC1.out.size))
      have HE2 := Lib.hid (HE1.out.below hb2 HE1.out.lt)
      have e5 := HE2.out.cell 5
      have hl2 := HE2.out.lt
      clear hb2
      subst he
      have HC2 := Lib.hid (HB2.out.alloc HB2.out.size (.cells #[.int .i64 0, .int .u8 0, .string ⟨#[]⟩, .slice none 0 0, .string ⟨#[]⟩, .bool false] 27))
      have HD2 := Lib.hid (HT.out.below HC2.out)
      unfold ent0
      go_wp2_with (go_at_call 14; refine (HAL.out _ HD2.out).mono ?_; rintro e w3 ⟨rfl, hb3⟩; have HB3 := Lib.hid (HC2.out.trans (hb3.mono HC2.out.size)); clear hb3)
      go_ret
      exact ⟨rfl, HB3.out⟩
    · go_enter Tryz.func3, Tryz.ntmps3
      go_upto_region 1 with fail
      go_region
      go_wp2_with fail
      refine (HA1.out _ (HT.out.below HB0.out)).mono ?_
      rintro e w1 ⟨he, hb1⟩
      have HB1 := Lib.hid (HB0.out.trans (hb1.mono HB0.out.size))
      have HT1 := Lib.hid (HT.out.below HB1.out)
      clear hb1
      subst he
      have HE1 := Lib.hid (Blk.new w1 27 #[.int .i64 0, .int .u8 0, .string ⟨#[]⟩, .slice none 0 0, .string ⟨#[]⟩, .bool false])
      have HC1 := Lib.hid (HB1.out.alloc HB1.out.size (.cells #[.int .i64 0, .int .u8 0, .string ⟨#[]⟩, .slice none 0 0, .string ⟨#[]⟩, .bool false] 27))
      have HD1 := Lib.hid (HT.out.below HC1.out)
      unfold ent0
      go_wp2_with fail
      refine (HA2.out _ HD1.out).mono ?_
      rintro e w2 ⟨he, hb2⟩
      have HB2 := Lib.hid (HC1.out.trans (hb2.mono HC1.out.size))
      have HE2 := Lib.hid (HE1.out.below hb2 HE1.out.lt)
      have e5 := HE2.out.cell 5
      have hl2 := HE2.out.lt
      clear hb2
      obtain ⟨v2, rfl, ho⟩ := he
      obtain ⟨va2, vc2, rfl⟩ : ∃ a c, v2 = .slice a x2.args.length c := by obtain ⟨a, c, e, _⟩ := ho; exact ⟨a, c, e⟩
      obtain ⟨p2, o2, i2, l2, s2, f2⟩ := x2
      dsimp only at *
      have HS2 := Lib.hid (ho.slR.alloc (.cells #[.int .i64 p2, .int .u8 o2, .string ⟨i2.toArray⟩, .slice va2 l2.length vc2, .string ⟨s2.toArray⟩, .bool f2] 27))
      have HF2 := Lib.hid (Blk.new w2 27 #[.int .i64 p2, .int .u8 o2, .string ⟨i2.toArray⟩, .slice va2 l2.length vc2, .string ⟨s2.toArray⟩, .bool f2])
      have HG2 := Lib.hid (HE2.out.alloc (.cells #[.int .i64 p2, .int .u8 o2, .string ⟨i2.toArray⟩, .slice va2 l2.length vc2, .string ⟨s2.toArray⟩, .bool f2] 27))
      have HC2 := Lib.hid (HB2.out.alloc HB2.out.size (.cells #[.int .i64 p2, .int .u8 o2, .string ⟨i2.toArray⟩, .slice va2 l2.length vc2, .string ⟨s2.toArray⟩, .bool f2] 27))
      have HD2 := Lib.hid (HT.out.below HC2.out)
      clear ho
      unfold entVal
      dsimp only
      go_wp2_with (go_at_call 14; refine (HAL.out _ HD2.out).mono ?_; rintro e w3 ⟨rfl, hb3⟩; have HB3 := Lib.hid (HC2.out.trans (hb3.mono HC2.out.size)); clear hb3)
      go_ret
      exact ⟨rfl, HB3.out⟩
  · obtain rfl : k1 = 1 := HK1.out.1 _ rfl
    rcases x2 with _ | x2
    · have hk2 : ¬ k2 = 1 := by rcases HK2.out.2 rfl with h | h | h <;> omega
      go_enter Tryz.func3, Tryz.ntmps3
      go_upto_region 1 with fail
      go_region
      go_wp2_with fail
      refine (HA1.out _ (HT.out.below HB0.out)).mono ?_
      rintro e w1 ⟨he, hb1⟩
      have HB1 := Lib.hid (HB0.out.trans (hb1.mono HB0.out.size))
      have HT1 := Lib.hid (HT.out.below HB1.out)
      clear hb1
      obtain ⟨v1, rfl, ho⟩ := he
      obtain ⟨va1, vc1, rfl⟩ : ∃ a c, v1 = .slice a x1.args.length c := by obtain ⟨a, c, e, _⟩ := ho; exact ⟨a, c, e⟩
      obtain ⟨p1, o1, i1, l1, s1, f1⟩ := x1
      dsimp only at *
      have HS1 := Lib.hid (ho.slR.alloc (.cells #[.int .i64 p1, .int .u8 o1, .string ⟨i1.toArray⟩, .slice va1 l1.length vc1, .string ⟨s1.toArray⟩, .bool f1] 27))
      have HE1 := Lib.hid (Blk.new w1 27 #[.int .i64 p1, .int .u8 o1, .string ⟨i1.toArray⟩, .slice va1 l1.length vc1, .string ⟨s1.toArray⟩, .bool f1])
      have HC1 := Lib.hid (HB1.out.alloc HB1.out.size (.cells #[.int .i64 p1, .int .u8 o1, .string ⟨i1.toArray⟩, .slice va1 l1.length vc1, .string ⟨s1.toArray⟩, .bool f1] 27))
      have HD1 := Lib.hid (HT.out.below HC1.out)
      clear ho
      unfold entVal
      dsimp only
      go_wp2_with fail
      refine (HA2.out _ HD1.out).mono ?_
      rintro e w2 ⟨he, hb2⟩
      have HB2 := Lib.hid (HC1.out.trans (hb2.mono HC1.out.size))
      have HE2 := Lib.hid (HE1.out.below hb2 HE1.out.lt)
      have e5 := HE2.out.cell 5
      have hl2 := HE2.out.lt
      clear hb2
      subst he
      have HC2 := Lib.hid (HB2.out.alloc HB2.out.size (.cells #[.int .i64 0, .int .u8 0, .string ⟨#[]⟩, .slice none 0 0, .string ⟨#[]⟩, .bool false] 27))
      have HD2 := Lib.hid (HT.out.below HC2.out)
      unfold ent0
      go_wp2_with (go_at_call 14; refine (HAL.out _ HD2.out).mono ?_; rintro e w3 ⟨rfl, hb3⟩; have HB3 := Lib.hid (HC2.out.trans (hb3.mono HC2.out.size)); clear hb3)
      go_ret
      exact ⟨rfl, HB3.out⟩
    · obtain rfl : k2 = 1 := HK2.out.1 _ rfl
      go_enter Tryz.func3, Tryz.ntmps3
      go_upto_region 1 with fail
      go_region
      go_wp2_with fail
      refine (HA1.out _ (HT.out.below HB0.out)).mono ?_
      rintro e w1 ⟨he, hb1⟩
      have HB1 := Lib.hid (HB0.out.trans (hb1.mono HB0.out.size))
      have HT1 := Lib.hid (HT.out.below HB1.out)
      clear hb1
      obtain ⟨v1, rfl, ho⟩ := he
      obtain ⟨va1, vc1, rfl⟩ : ∃ a c, v1 = .slice a x1.args.length c := by obtain ⟨a, c, e, _⟩ := ho; exact ⟨a, c, e⟩
      obtain ⟨p1, o1, i1, l1, s1, f1⟩ := x1
      dsimp only at *
      have HS1 := Lib.hid (ho.slR.alloc (.cells #[.int .i64 p1, .int .u8 o1, .string ⟨i1.toArray⟩, .slice va1 l1.length vc1, .string ⟨s1.toArray⟩, .bool f1] 27))
      have HE1 := Lib.hid (Blk.new w1 27 #[.int .i64 p1, .int .u8 o1, .string ⟨i1.toArray⟩, .slice va1 l1.length vc1, .string ⟨s1.toArray⟩, .bool f1])
      have HC1 := Lib.hid (HB1.out.alloc HB1.out.size (.cells #[.int .i64 p1, .int .u8 o1, .string ⟨i1.toArray⟩, .slice va1 l1.length vc1, .string ⟨s1.toArray⟩, .bool f1] 27))
      have HD1 := Lib.hid (HT.out.below HC1.out)
      clear ho
      unfold entVal
      dsimp only
      go_wp2_with fail
      refine (HA2.out _ HD1.out).mono ?_
      rintro e w2 ⟨he, hb2⟩
      have HB2 := Lib.hid (HC1.out.trans (hb2.mono HC1.out.size))
      have HE2 := Lib.hid (HE1.out.below hb2 HE1.out.lt)
      have HS12 := Lib.hid (HS1.out.below hb2)
      have e5 := HE2.out.cell 5
      have hl2 := HE2.out.lt
      clear hb2
      obtain ⟨v2, rfl, ho⟩ := he
      obtain ⟨va2, vc2, rfl⟩ : ∃ a c, v2 = .slice a x2.args.length c := by obtain ⟨a, c, e, _⟩ := ho; exact ⟨a, c, e⟩
      obtain ⟨p2, o2, i2, l2, s2, f2⟩ := x2
      dsimp only at *
      have HS2 := Lib.hid (ho.slR.alloc (.cells #[.int .i64 p2, .int .u8 o2, .string ⟨i2.toArray⟩, .slice va2 l2.length vc2, .string ⟨s2.toArray⟩, .bool f2] 27))
      have HF2 := Lib.hid (Blk.new w2 27 #[.int .i64 p2, .int .u8 o2, .string ⟨i2.toArray⟩, .slice va2 l2.length vc2, .string ⟨s2.toArray⟩, .bool f2])
      have HG2 := Lib.hid (HE2.out.alloc (.cells #[.int .i64 p2, .int .u8 o2, .string ⟨i2.toArray⟩, .slice va2 l2.length vc2, .string ⟨s2.toArray⟩, .bool f2] 27))
      have HC2 := Lib.hid (HB2.out.alloc HB2.out.size (.cells #[.int .i64 p2, .int .u8 o2, .string ⟨i2.toArray⟩, .slice va2 l2.length vc2, .string ⟨s2.toArray⟩, .bool f2] 27))
      have HD2 := Lib.hid (HT.out.below HC2.out)
      clear ho
      unfold entVal
      dsimp only
      have HS13 := Lib.hid (HS12.out.alloc (.cells #[.int .i64 p2, .int .u8 o2, .string ⟨i2.toArray⟩, .slice va2 l2.length vc2, .string ⟨s2.toArray⟩, .bool f2] 27))
      by_cases hf1 : f1 = true
      · subst hf1
        go_wp2_with (go_at_call 14; refine (HAL.out _ HD2.out).mono ?_; rintro e w3 ⟨rfl, hb3⟩; have HB3 := Lib.hid (HC2.out.trans (hb3.mono HC2.out.size)); clear hb3)
        go_ret
        exact ⟨rfl, HB3.out⟩
      have hf1 : f1 = false := by simpa using hf1
      subst hf1
      by_cases hf2 : f2 = true
      · subst hf2
        go_wp2_with (go_at_call 14; refine (HAL.out _ HD2.out).mono ?_; rintro e w3 ⟨rfl, hb3⟩; have HB3 := Lib.hid (HC2.out.trans (hb3.mono HC2.out.size)); clear hb3)
        go_ret
        exact ⟨rfl, HB3.out⟩
      have hf2 : f2 = false := by simpa using hf2
      subst hf2
      have hq := HLW.out _ _ rfl rfl rfl rfl
      dsimp only at hq
      have HSM := Lib.hid (fun p q W h1 h2 => ref07Same_any p q ⟨⟨i1.toArray⟩, l1⟩ ⟨⟨i2.toArray⟩, l2⟩ (.slice va1 l1.length vc1) (.slice va2 l2.length vc2) W h1 h2)
      rw [hq] at HSM
      clear hq
      go_wp2_with (first
        | (go_at_call 14; refine (HAL.out _ HD2.out).mono ?_; rintro e w3 ⟨rfl, hb3⟩; have HB3 := Lib.hid (HC2.out.trans (hb3.mono HC2.out.size)); have HS23 := Lib.hid (HS2.out.below hb3); have HS33 := Lib.hid (HS13.out.below hb3); have hG3 := HG2.out.below hb3 HG2.out.lt; have hF3 := HF2.out.below hb3 HF2.out.lt; have g2 := hG3.cell 2; have g3 := hG3.cell 3; have q2 := hF3.cell 2; have q3 := hF3.cell 3; clear hb3 hG3 hF3)
        | (go_at_call 15; refine (HSM.out _ _ _ HS33.out HS23.out).mono ?_; rintro e w4 ⟨rfl, hb4⟩; have HB4 := Lib.hid (HB3.out.trans (hb4.mono HB3.out.size)); clear hb4))
      all_goals go_ret
      all_goals first
        | exact ⟨rfl, HB4.out⟩
        | exact ⟨ret_bool (by simp [*]), HB4.out⟩
end Go.Proofs.YtlepicdjnbbndaaGreatDoor

/-
  The plain law of TableOnce. Conditions: none.
-/
namespace Go.Proofs.YtlepicdjnbbndaaGreatDoor
open Go.RowKit Go.Shelf Go.Sort

theorem all_ne {m : List Nat} {k : Nat} (h : m.all (fun j => !Nat.beq j k) = true) : k ∉ m := fun hk => by
  have := List.all_eq_true.1 h k hk
  simp at this
theorem apart_at {l m : List Nat} (h : apart l m = true) {k : Nat} (hl : k ∈ l) (hm : k ∈ m) : k = 0 := by
  have h1 := List.all_eq_true.1 h k hl
  rw [Bool.or_eq_true] at h1
  rcases h1 with h1 | h1
  · exact beq_iff_eq.1 h1
  · exact absurd hm (all_ne h1)
theorem noDup_at : ∀ {l : List Nat} {i j k : Nat}, noDup l = true → l[i]? = some k → l[j]? = some k → k ≠ 0 → i = j
  | [], _, _, _, _, h, _, _ => by cases h
  | x :: r, i, j, k, h, hi, hj, hk => by
    rw [noDup, Bool.and_eq_true, Bool.or_eq_true] at h
    have hno : x ≠ 0 → x ∉ r := fun hx => by
      rcases h.1 with h1 | h1
      · exact absurd (beq_iff_eq.1 h1) hx
      · exact all_ne h1
    cases i with
    | zero =>
      cases j with
      | zero => rfl
      | succ j =>
        obtain rfl : x = k := Option.some.inj hi
        exact absurd (List.mem_of_getElem? (show r[j]? = some x from hj)) (hno hk)
    | succ i =>
      cases j with
      | zero =>
        obtain rfl : x = k := Option.some.inj hj
        exact absurd (List.mem_of_getElem? (show r[i]? = some x from hi)) (hno hk)
      | succ j => rw [noDup_at (l := r) (i := i) (j := j) h.2 hi hj hk]
def nzAt (p : Int) : Bool := (List.range 256).all fun op => match atF p op with | (some x, _) => x.al || keyE x != 0 | (none, _) => true
theorem nz0 : nzAt 0 = true := by decide +kernel
theorem nz1 : nzAt 1 = true := by decide +kernel
theorem nz2 : nzAt 2 = true := by decide +kernel
theorem nz3 : nzAt 3 = true := by decide +kernel
theorem nz4 : nzAt 4 = true := by decide +kernel
theorem nz5 : nzAt 5 = true := by decide +kernel
theorem nz6 : nzAt 6 = true := by decide +kernel
theorem nz_at {p : Int} (h : nzAt p = true) {a : Nat} (ha : a < 256) {x : EntV} (hx : (atF p a).1 = some x) (hl : x.al = false) : keyE x ≠ 0 ∧ (keysOf p)[a]? = some (keyE x) := by
  have h1 := List.all_eq_true.1 h a (List.mem_range.2 ha)
  unfold keysOf
  rw [List.getElem?_map, List.getElem?_range ha, Option.map_some]
  unfold keyAt
  generalize atF p a = r at *
  obtain ⟨r, k⟩ := r
  dsimp only at hx
  subst hx
  dsimp only at h1 ⊢
  rw [hl, Bool.false_or, bne_iff_ne] at h1
  rw [hl]
  exact ⟨h1, rfl⟩
theorem nz_all {p : Int} (h0 : 0 ≤ p) (h7 : p < 7) : nzAt p = true := by
  have : p = 0 ∨ p = 1 ∨ p = 2 ∨ p = 3 ∨ p = 4 ∨ p = 5 ∨ p = 6 := by omega
  rcases this with rfl | rfl | rfl | rfl | rfl | rfl | rfl
  · exact nz0
  · exact nz1
  · exact nz2
  · exact nz3
  · exact nz4
  · exact nz5
  · exact nz6
theorem nd_all {p : Int} (h0 : 0 ≤ p) (h7 : p < 7) : noDup (keysOf p) = true := by
  have : p = 0 ∨ p = 1 ∨ p = 2 ∨ p = 3 ∨ p = 4 ∨ p = 5 ∨ p = 6 := by omega
  rcases this with rfl | rfl | rfl | rfl | rfl | rfl | rfl
  · exact nd0
  · exact nd1
  · exact nd2
  · exact nd3
  · exact nd4
  · exact nd5
  · exact nd6
theorem ap_all {p q : Int} (h0 : 0 ≤ p) (h7 : q < 7) (hpq : p < q) : apart (keysOf p) (keysOf q) = true := by
  have hp : p = 0 ∨ p = 1 ∨ p = 2 ∨ p = 3 ∨ p = 4 ∨ p = 5 := by omega
  rcases hp with rfl | rfl | rfl | rfl | rfl | rfl
  · have hq : q = 1 ∨ q = 2 ∨ q = 3 ∨ q = 4 ∨ q = 5 ∨ q = 6 := by omega
    rcases hq with rfl | rfl | rfl | rfl | rfl | rfl
    · exact ap01
    · exact ap02
    · exact ap03
    · exact ap04
    · exact ap05
    · exact ap06
  · have hq : q = 2 ∨ q = 3 ∨ q = 4 ∨ q = 5 ∨ q = 6 := by omega
    rcases hq with rfl | rfl | rfl | rfl | rfl
    · exact ap12
    · exact ap13
    · exact ap14
    · exact ap15
    · exact ap16
  · have hq : q = 3 ∨ q = 4 ∨ q = 5 ∨ q = 6 := by omega
    rcases hq with rfl | rfl | rfl | rfl
    · exact ap23
    · exact ap24
    · exact ap25
    · exact ap26
  · have hq : q = 4 ∨ q = 5 ∨ q = 6 := by omega
    rcases hq with rfl | rfl | rfl
    · exact ap34
    · exact ap35
    · exact ap36
  · have hq : q = 5 ∨ q = 6 := by omega
    rcases hq with rfl | rfl
    · exact ap45
    · exact ap46
  · have hq : q = 6 := by omega
    rcases hq with rfl
    · exact ap56
theorem once_law (p q : Int) (a b : Nat) (hp : 0 ≤ p ∧ p < 7) (hq : 0 ≤ q ∧ q < 7) (ha : a < 256) (hb : b < 256) (x y : EntV) (hx : (atF p a).1 = some x) (hy : (atF q b).1 = some y) (hxl : x.al = false) (hyl : y.al = false) :
    insEq ⟨⟨x.iop.toArray⟩, x.args⟩ ⟨⟨y.iop.toArray⟩, y.args⟩ = ((p == q) && ((a : Int) == (b : Int))) := by
  obtain ⟨k1, g1⟩ := nz_at (nz_all hp.1 hp.2) ha hx hxl
  obtain ⟨k2, g2⟩ := nz_at (nz_all hq.1 hq.2) hb hy hyl
  rw [Bool.eq_iff_iff, insEq_iff, Bool.and_eq_true, beq_iff_eq, beq_iff_eq]
  constructor
  · intro e
    injection e with e1 e2
    have e3 : x.iop = y.iop := by
      have := congrArg (fun b : ByteArray => b.data.toList) e1
      simpa using this
    have hk : keyE x = keyE y := by unfold keyE; rw [e3, e2]
    rw [← hk] at g2
    rcases Int.lt_trichotomy p q with h | h | h
    · exact absurd (apart_at (ap_all hp.1 hq.2 h) (List.mem_of_getElem? g1) (List.mem_of_getElem? g2)) k1
    · subst h
      exact ⟨rfl, by rw [noDup_at (nd_all hp.1 hp.2) g1 g2 k1]⟩
    · exact absurd (apart_at (ap_all hq.1 hp.2 h) (List.mem_of_getElem? g2) (List.mem_of_getElem? g1)) k1
  · rintro ⟨rfl, hab⟩
    obtain rfl : a = b := by omega
    obtain rfl : x = y := Option.some.inj (hx.symm.trans hy)
    rfl
end Go.Proofs.YtlepicdjnbbndaaGreatDoor

/-
  TableOnce, joined with its plain law. Conditions: the library's table as its initialiser lays it.
-/
namespace Go.Proofs.YtlepicdjnbbndaaGreatDoor
open Go.RowKit Go.Shelf Go.Sort

theorem Once_all (u0 u1 a b : Int) (h0 : 0 ≤ u0 ∧ u0 ≤ 255) (h1 : 0 ≤ u1 ∧ u1 ≤ 255) (ha : 0 ≤ a ∧ a ≤ 255) (hb : 0 ≤ b ∧ b ≤ 255) (w : World) (hT : Spc w) :
    Calls Tryz.prog 3 #[.agg #[.int .u8 u0, .int .u8 u1], .int .u8 a, .int .u8 b] w fun e w' => e = .returned (.bool true) ∧ Below w.heap.size w w' := by
  obtain ⟨n0, rfl⟩ := Int.eq_ofNat_of_zero_le h0.1
  obtain ⟨n1, rfl⟩ := Int.eq_ofNat_of_zero_le h1.1
  obtain ⟨na, rfl⟩ := Int.eq_ofNat_of_zero_le ha.1
  obtain ⟨nb, rfl⟩ := Int.eq_ofNat_of_zero_le hb.1
  exact Once_any n0 n1 na nb (by omega) (by omega) (by omega) (by omega) w hT (fun x y hx hy hxl hyl => once_law _ _ na nb (by omega) (by omega) (by omega) (by omega) x y hx hy hxl hyl)
end Go.Proofs.YtlepicdjnbbndaaGreatDoor
