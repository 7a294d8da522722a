/-
  The reference's comparison of entries. Conditions: none.
-/
import Derived.Test.YtlepicdjnbbndaaGreatDoorS15
namespace Go.Proofs.YtlepicdjnbbndaaGreatDoor
open Go.RowKit Go.Shelf Go.Sort

/-- the same entry? (a name that the walk does not open) -/
def same9 (p1 o1 : Int) (s1 : ByteArray) (l1 : List Opd) (e1 : ByteArray) (a1 : Bool) (p2 o2 : Int) (s2 : ByteArray) (l2 : List Opd) (e2 : ByteArray) (a2 : Bool) : Bool :=
  (p1 == p2) && ((o1 == o2) && ((e1.toList == e2.toList) && ((a1 == a2) && insEq ⟨s1, l1⟩ ⟨s2, l2⟩)))
set_option maxHeartbeats 4000000 in
set_option maxRecDepth 100000 in
theorem Same9_any (p1 o1 p2 o2 : Int) (s1 s2 e1 e2 : ByteArray) (l1 l2 : List Opd) (a1 a2 : Bool) (p q : Blocks) (v1 v2 : Value) (w : World) (h1 : SlR opdR w p v1 l1) (h2 : SlR opdR w q v2 l2) :
    Calls Tryz.prog 18 #[.agg #[.int .i64 p1, .int .u8 o1, .string s1, v1, .string e1, .bool a1], .agg #[.int .i64 p2, .int .u8 o2, .string s2, v2, .string e2, .bool a2]] w fun e w' => e = .returned (.bool (same9 p1 o1 s1 l1 e1 a1 p2 o2 s2 l2 e2 a2)) ∧ Below w.heap.size w w' := by
  obtain ⟨c1, d1, rfl⟩ : ∃ a c, v1 = .slice a l1.length c := by obtain ⟨a, c, e, _⟩ := h1; exact ⟨a, c, e⟩
  obtain ⟨c2, d2, rfl⟩ : ∃ a c, v2 = .slice a l2.length c := by obtain ⟨a, c, e, _⟩ := h2; exact ⟨a, c, e⟩
  have hb : Below w.heap.size w ((w.alloc (.cells #[.int .i64 p1, .int .u8 o1, .string s1, .slice c1 l1.length d1, .string e1, .bool a1] 36)).alloc (.cells #[.int .i64 p2, .int .u8 o2, .string s2, .slice c2 l2.length d2, .string e2, .bool a2] 36)) := ((Below.refl _ _).alloc (Nat.le_refl _) _).alloc (by rw [World.size_alloc]; omega) _
  have HB := Lib.hid hb
  have HS1 := Lib.hid (h1.below hb)
  have HS2 := Lib.hid (h2.below hb)
  have HSM := Lib.hid (fun p q W h1 h2 => ref07Same_any p q ⟨s1, l1⟩ ⟨s2, l2⟩ (.slice c1 l1.length d1) (.slice c2 l2.length d2) W h1 h2)
  clear h1 h2 hb
  unfold same9
  cases b1 : (p1 == p2)
  · go_enter Tryz.func18, Tryz.ntmps18
    go_wp2
    go_ret
    exact ⟨rfl, HB.out⟩
  cases b2 : (o1 == o2)
  · go_enter Tryz.func18, Tryz.ntmps18
    go_wp2
    go_ret
    exact ⟨rfl, HB.out⟩
  cases b3 : (e1.toList == e2.toList)
  · go_enter Tryz.func18, Tryz.ntmps18
    go_wp2
    go_ret
    exact ⟨rfl, HB.out⟩
  cases b4 : (a1 == a2)
  · go_enter Tryz.func18, Tryz.ntmps18
    go_wp2
    go_ret
    exact ⟨rfl, HB.out⟩
  generalize insEq ⟨s1, l1⟩ ⟨s2, l2⟩ = r at *
  go_enter Tryz.func18, Tryz.ntmps18
  go_wp2_with (go_at_call 15; refine (HSM.out _ _ _ HS1.out HS2.out).mono ?_; rintro e w' ⟨rfl, hb⟩; have HB2 := Lib.hid (HB.out.trans (hb.mono HB.out.size)); clear hb)
  go_ret
  exact ⟨by simp, HB2.out⟩
end Go.Proofs.YtlepicdjnbbndaaGreatDoor
