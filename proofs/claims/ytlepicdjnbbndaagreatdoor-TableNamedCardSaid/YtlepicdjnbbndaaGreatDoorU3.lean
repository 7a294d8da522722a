/-
  The entries of a page, the reference's list. Conditions: none.
-/
import Derived.Test.YtlepicdjnbbndaaGreatDoorA1
import Derived.Test.YtlepicdjnbbndaaGreatDoorS15
namespace Go.Proofs.YtlepicdjnbbndaaGreatDoor
open Go.RowKit Go.Shelf Go.Sort

/-- An entry in six cells. -/
def entR : Rep EntV where
  size := 6
  rel := fun w p cs x => ∃ v, cs = [.int .i64 x.pg, .int .u8 x.op, .string ⟨x.iop.toArray⟩, v, .string ⟨x.ex.toArray⟩, .bool x.al] ∧ SlR opdR w p v x.args
  len := fun ⟨_, e, _⟩ => by subst e; rfl
  keep := fun hk ⟨v, e, h⟩ => ⟨v, e, h.keep hk⟩
  mono := fun hp ⟨v, e, h⟩ => ⟨v, e, h.mono hp⟩
  old := fun ⟨v, e, h⟩ => ⟨v, e, h.old⟩
  one := fun ⟨v, e, a, cap, hv, _⟩ u hu => by subst e; subst hv; simp at hu; rcases hu with rfl | rfl | rfl | rfl | rfl | rfl <;> rfl
theorem elE9 : ElT Tryz.prog 34 36 entR.size 80 := ElT.mk' (z := .agg #[.int .i64 0, .int .u8 0, .string ⟨#[]⟩, .slice none 0 0, .string ⟨#[]⟩, .bool false]) Tryz.underlying34 (by kernel_rfl) rfl (by decide)
theorem elET : ElT Tryz.prog 56 27 entR.size 80 := ElT.mk' (z := .agg #[.int .i64 0, .int .u8 0, .string ⟨#[]⟩, .slice none 0 0, .string ⟨#[]⟩, .bool false]) Tryz.underlying56 (by kernel_rfl) rfl (by decide)
theorem entR_rel {w : World} {q : Blocks} {v : Value} {x : EntV} (h : OpdOwn w q v x.args) : entR.rel w q [.int .i64 x.pg, .int .u8 x.op, .string ⟨x.iop.toArray⟩, v, .string ⟨x.ex.toArray⟩, .bool x.al] x := ⟨v, rfl, h.slR⟩
/-- the entries of a page up to an opcode; of a page; of pages -/
def entsK (p : Int) (k : Nat) : List EntV := (List.range k).filterMap fun op => (atF p op).1
def entsF (p : Int) : List EntV := entsK p 256
theorem entsK_no {p : Int} {k : Nat} (h : (atF p k).1 = none) : entsK p (k + 1) = entsK p k := by
  unfold entsK; rw [List.range_succ, List.filterMap_append]; simp [h]
theorem entsK_yes {p : Int} {k : Nat} {x : EntV} (h : (atF p k).1 = some x) : entsK p (k + 1) = entsK p k ++ [x] := by
  unfold entsK; rw [List.range_succ, List.filterMap_append]; simp [h]
theorem entsK_len (p : Int) (k : Nat) : (entsK p k).length ≤ k := by
  unfold entsK; exact Nat.le_trans (List.length_filterMap_le _ _) (by simp)
theorem wrap_u8f : ∀ x : Fin 256, IntKind.u8.wrap (x.val : Int) = x.val := by decide +kernel
theorem wrap_u8 {k : Nat} (h : k < 256) : IntKind.u8.wrap (k : Int) = k := wrap_u8f ⟨k, h⟩
/-- what Entries leaves -/
def EntsP (t : TypeId) (w : World) (l : List EntV) (e : Ending) (w' : World) : Prop := ∃ v, e = .returned v ∧ Acc entR w' w.heap.size t v l ∧ Below w.heap.size w w'
set_option maxHeartbeats 4000000 in
set_option maxRecDepth 100000 in
theorem Entries9_any (page : Int) (w : World) : Calls Tryz.prog 16 #[.int .i64 page] w (EntsP 36 w (entsF page)) := by
  have HA := Lib.hid (fun k hk W => AtRef_any page k hk W)
  have HK := Lib.hid (fun k => atF_kind page k)
  have HEP : Hid (EntsP 36 w (entsF page) = fun e w' => ∃ v, e = .returned v ∧ Acc entR w' w.heap.size 36 v (entsF page) ∧ Below w.heap.size w w') := rfl
  rw [HEP.out]
  clear HEP
  go_enter Tryz.func16, Tryz.ntmps16
  go_wp2
  go_loopw [3, 4] (fun s3 s4 wx => ∃ k : Nat, k ≤ 256 ∧ s4 = .int .i64 k ∧ Acc entR wx w.heap.size 36 s3 (entsK page k) ∧ Below w.heap.size w wx) (fun _ s4 _ => 256 - (intOf s4).toNat)
  case atStart => exact ⟨0, by omega, rfl, Acc.nil _ _ _, Below.refl _ _⟩
  case round =>
    obtain ⟨k, hk, rfl, hacc, hb⟩ := hrel
    have HC := Lib.hid hacc
    have HB := Lib.hid hb
    clear hacc hb
    by_cases hlt : k < 256
    · have hwr := wrap_u8 hlt
      have HA1 := Lib.hid (HA.out k hlt)
      have HK1 := Lib.hid (HK.out k)
      have HN := Lib.hid (entsK_no (p := page) (k := k))
      have HY := Lib.hid (fun x => entsK_yes (p := page) (k := k) (x := x))
      have HL := Lib.hid (entsK_len page k)
      generalize atF page k = xk at *
      obtain ⟨x, kd⟩ := xk
      dsimp only at *
      generalize entsK page k = L at *
      obtain ⟨a3, c3, rfl⟩ := HC.out.form
      go_wp2_with fail
      refine (HA1.out _).mono ?_
      rintro e w1 ⟨he, hb1⟩
      have HB1 := Lib.hid hb1
      have HS1 := Lib.hid hb1.size
      clear hb1
      rcases x with _ | x
      · have hk1 : ¬ kd = 1 := by rcases HK1.out.2 rfl with h | h | h <;> omega
        subst he
        have HN1 := Lib.hid (HN.out rfl)
        clear HN HY
        have HB2 := Lib.hid (HB1.out.alloc HS1.out (.cells #[.int .i64 0, .int .u8 0, .string ⟨#[]⟩, .slice none 0 0, .string ⟨#[]⟩, .bool false] 36))
        unfold ent0
        go_wp2
        go_round
        case rel => exact ⟨k + 1, by omega, by go_num, by rw [HN1.out]; exact HC.out.stay HB2.out, HB.out.trans (HB2.out.mono HB.out.size)⟩
        case measure => simp [intOf]; omega
      · obtain rfl : kd = 1 := HK1.out.1 _ rfl
        obtain ⟨v, rfl, ho⟩ := he
        obtain ⟨va, vc, rfl⟩ := ho.form
        have HO := Lib.hid ho
        have HX := Lib.hid (HY.out x rfl)
        obtain ⟨p1, o1, i1, l1, s1, f1⟩ := x
        dsimp only at *
        have HB2 := Lib.hid (HB1.out.alloc HS1.out (.cells #[.int .i64 p1, .int .u8 o1, .string ⟨i1.toArray⟩, .slice va l1.length vc, .string ⟨s1.toArray⟩, .bool f1] 36))
        have HE := Lib.hid (Blk.new w1 36 #[.int .i64 p1, .int .u8 o1, .string ⟨i1.toArray⟩, .slice va l1.length vc, .string ⟨s1.toArray⟩, .bool f1])
        have HR := Lib.hid (entR_rel (x := ⟨p1, o1, i1, l1, s1, f1⟩) (ho.below ((Below.refl w1.heap.size w1).alloc (Nat.le_refl _) (.cells #[.int .i64 p1, .int .u8 o1, .string ⟨i1.toArray⟩, .slice va l1.length vc, .string ⟨s1.toArray⟩, .bool f1] 36))))
        have HCC := Lib.hid (HC.out.stay HB2.out)
        have HQ : Hid (∀ k, wr.heap.size ≤ k → w.heap.size ≤ k ∧ Value.ownBlock (.slice a3 L.length c3) ≠ some k) := fun k hk => ⟨Nat.le_trans HB.out.size hk, fun e => absurd (HC.out.lt k e).2 (Nat.not_lt.2 hk)⟩
        have HLB : Hid ((L.length + 1) * 80 ≤ 140737488355328) := (by have := HL.out; show _ ≤ _; omega)
        have HLL : Hid (L.length + 1 ≤ 9223372036854775807) := (by have := HL.out; show _ ≤ _; omega)
        have HSZ : Hid (w.heap.size ≤ (w1.alloc (.cells #[.int .i64 p1, .int .u8 o1, .string ⟨i1.toArray⟩, .slice va l1.length vc, .string ⟨s1.toArray⟩, .bool f1] 36)).heap.size) := Nat.le_trans HB.out.size HB2.out.size
        clear ho HN HY HL HE
        unfold entVal
        dsimp only
        go_wp2_with (at_builtin; refine wpList_push_A rfl (.tmp 20) (.tmp 22) 34 rfl w.heap.size 36 80 elE9 _ L ⟨p1, o1, i1, l1, s1, f1⟩ _ (fun b => wr.heap.size ≤ b) rfl (by rw [World.size_alloc]; rfl) HCC.out HR.out HQ.out HLB.out HLL.out HSZ.out ?_; intro a' c' w' hp; have HP := Lib.hid hp; clear hp)
        go_round
        case rel => exact ⟨k + 1, by omega, by go_num, by rw [HX.out]; have := HP.out.1; simpa using this, HB.out.trans ((HB2.out.mono HB.out.size).trans (AccP.below HP.out HCC.out HSZ.out))⟩
        case measure => simp [intOf]; omega
    · have hk2 : k = 256 := by omega
      subst hk2
      go_wp2
      go_ret
      exact ⟨_, rfl, HC.out, HB.out⟩
end Go.Proofs.YtlepicdjnbbndaaGreatDoor
