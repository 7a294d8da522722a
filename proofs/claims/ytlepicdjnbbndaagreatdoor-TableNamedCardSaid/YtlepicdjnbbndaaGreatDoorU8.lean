/-
  Two equal lists of entries compared; the law TablePage. Conditions: the library's table as its initialiser lays it.
-/
import Derived.Test.YtlepicdjnbbndaaGreatDoorU7
import Derived.Test.YtlepicdjnbbndaaGreatDoorS16
namespace Go.Proofs.YtlepicdjnbbndaaGreatDoor
open Go.RowKit Go.Shelf Go.Sort

theorem same9_refl (p o : Int) (s : ByteArray) (l : List Opd) (e : ByteArray) (a : Bool) : same9 p o s l e a p o s l e a = true := by
  unfold same9; simp [insEq]
theorem SlR.ent {w : World} {p : Blocks} {v : Value} {l : List EntV} (h : SlR entR w p v l) : ∃ a cap, v = .slice a l.length cap ∧ l.length ≤ 9223372036854775807 ∧
    ∀ i x, l[i]? = some x → ∃ b o va vc, a = some ⟨b, o, none⟩ ∧ b < w.heap.size ∧ w.cell? ⟨b, o + i * 6, none⟩ = some (.int .i64 x.pg) ∧ w.cell? ⟨b, o + i * 6 + 1, none⟩ = some (.int .u8 x.op) ∧ w.cell? ⟨b, o + i * 6 + 2, none⟩ = some (.string ⟨x.iop.toArray⟩) ∧
      w.cell? ⟨b, o + i * 6 + 3, none⟩ = some (.slice va x.args.length vc) ∧ w.cell? ⟨b, o + i * 6 + 4, none⟩ = some (.string ⟨x.ex.toArray⟩) ∧ w.cell? ⟨b, o + i * 6 + 5, none⟩ = some (.bool x.al) ∧ SlR opdR w p (.slice va x.args.length vc) x.args := by
  have hl := h.len_le
  obtain ⟨a, cap, e, h1, h2, h3⟩ := h
  refine ⟨a, cap, e, hl, fun i x hx => ?_⟩
  obtain ⟨b, o, cs, ea, hb, hbs, hc, v, hcs, hr⟩ := h3 i x hx
  subst hcs
  obtain ⟨va, vc, rfl⟩ : ∃ va vc, v = .slice va x.args.length vc := by obtain ⟨a, c, e, _⟩ := hr; exact ⟨a, c, e⟩
  exact ⟨b, o, va, vc, ea, hbs, hc 0 _ rfl, hc 1 _ rfl, hc 2 _ rfl, hc 3 _ rfl, hc 4 _ rfl, hc 5 _ rfl, hr⟩
set_option maxHeartbeats 4000000 in
set_option maxRecDepth 100000 in
theorem page1_any (p1 o1 : Int) (i1 s1 : ByteArray) (l1 : List Opd) (f1 : Bool) (p q : Blocks) (v1 v2 : Value) (w : World) (h1 : SlR opdR w p v1 l1) (h2 : SlR opdR w q v2 l1) :
    Calls Tryz.prog 30 #[.agg #[.int .i64 p1, .int .u8 o1, .string i1, v1, .string s1, .bool f1], .agg #[.int .i64 p1, .int .u8 o1, .string i1, v2, .string s1, .bool f1]] w fun e w' => e = .returned (.bool true) ∧ Below w.heap.size w w' := by
  obtain ⟨a1, c1, rfl⟩ : ∃ a c, v1 = .slice a l1.length c := by obtain ⟨a, c, e, _⟩ := h1; exact ⟨a, c, e⟩
  obtain ⟨a2, c2, rfl⟩ : ∃ a c, v2 = .slice a l1.length c := by obtain ⟨a, c, e, _⟩ := h2; exact ⟨a, c, e⟩
  have HSM := Lib.hid (fun W h1 h2 => Same9_any p1 o1 p1 o1 i1 i1 s1 s1 l1 l1 f1 f1 p q (.slice a1 l1.length c1) (.slice a2 l1.length c2) W h1 h2)
  rw [same9_refl] at HSM
  have HB := Lib.hid (((Below.refl w.heap.size w).alloc (Nat.le_refl _) (.cells #[.int .i64 p1, .int .u8 o1, .string i1, .slice a1 l1.length c1, .string s1, .bool f1] 27)).alloc (by rw [World.size_alloc]; omega) (.cells #[.int .i64 p1, .int .u8 o1, .string i1, .slice a2 l1.length c2, .string s1, .bool f1] 36))
  have HS1 := Lib.hid (h1.below HB.out)
  have HS2 := Lib.hid (h2.below HB.out)
  clear h1 h2
  go_enter Tryz.func30, Tryz.ntmps30
  go_wp2_with (go_at_call 18; refine (HSM.out _ HS1.out HS2.out).mono ?_; rintro e w' ⟨rfl, hb⟩; have HB2 := Lib.hid (HB.out.trans (hb.mono HB.out.size)); clear hb)
  go_ret
  exact ⟨rfl, HB2.out⟩
set_option maxHeartbeats 4000000 in
set_option maxRecDepth 100000 in
theorem EqEnt_any (p q : Blocks) (v1 v2 : Value) (l : List EntV) (w : World) (h1 : SlR entR w p v1 l) (h2 : SlR entR w q v2 l) :
    Calls Tryz.prog 28 #[v1, v2, .func (.func 30) #[] #[]] w fun e w' => e = .returned (.bool true) ∧ Below w.heap.size w w' := by
  obtain ⟨a1, c1, rfl, hl, _⟩ := h1.ent
  obtain ⟨a2, c2, rfl, _, _⟩ := h2.ent
  have HS1 := Lib.hid h1
  have HS2 := Lib.hid h2
  clear h1 h2
  go_enter Tryz.func28, Tryz.ntmps28
  go_wp2
  go_loopw [17] (fun s17 wx => ∃ k : Nat, k ≤ l.length ∧ s17 = .int .i64 k ∧ Below w.heap.size w wx) (fun s17 _ => l.length - (intOf s17).toNat)
  case atStart => exact ⟨0, by omega, rfl, Below.refl _ _⟩
  case round =>
    obtain ⟨k, hk, rfl, hb⟩ := hrel
    have HB := Lib.hid hb
    have HR1 := Lib.hid (HS1.out.below hb)
    have HR2 := Lib.hid (HS2.out.below hb)
    clear hb
    by_cases hlt : k < l.length
    · obtain ⟨a3, c3, e3, _, g3⟩ := HR1.out.ent
      obtain ⟨a4, c4, e4, _, g4⟩ := HR2.out.ent
      injection e3 with e5 e6 e7
      injection e4 with e8 e9 e10
      clear e6 e9
      subst e5 e7 e8 e10
      obtain ⟨b1, m1, va1, vc1, rfl, hb1, x0, x1, x2, x3, x4, x5, hs1⟩ := g3 k l[k] (List.getElem?_eq_getElem hlt)
      obtain ⟨b2, m2, va2, vc2, rfl, hb2, y0, y1, y2, y3, y4, y5, hs2⟩ := g4 k l[k] (List.getElem?_eq_getElem hlt)
      clear g3 g4
      generalize l[k] = x at *
      obtain ⟨pg, op, iop, args, ex, al⟩ := x
      dsimp only at *
      have hP1 := fun W h1 h2 => page1_any pg op ⟨iop.toArray⟩ ⟨ex.toArray⟩ args al p q (.slice va1 args.length vc1) (.slice va2 args.length vc2) W h1 h2
      have HP1 := Lib.hid hP1
      have HA := Lib.hid (((Below.refl wr.heap.size wr).alloc (Nat.le_refl _) (.cells #[.int .i64 pg, .int .u8 op, .string ⟨iop.toArray⟩, .slice va1 args.length vc1, .string ⟨ex.toArray⟩, .bool al] 27)).alloc (by rw [World.size_alloc]; omega) (.cells #[.int .i64 pg, .int .u8 op, .string ⟨iop.toArray⟩, .slice va2 args.length vc2, .string ⟨ex.toArray⟩, .bool al] 36))
      have HT1 := Lib.hid (hs1.below HA.out)
      have HT2 := Lib.hid (hs2.below HA.out)
      have n2 : ¬ b2 = wr.heap.size := Nat.ne_of_lt hb2
      clear hs1 hs2 hP1
      go_wp2_with (go_at_call 30; refine (HP1.out _ HT1.out HT2.out).mono ?_; rintro e w2 ⟨rfl, hb⟩; have HB2 := Lib.hid (HA.out.trans (hb.mono HA.out.size)); clear hb)
      go_round
      case rel => exact ⟨k + 1, by omega, by go_num, HB.out.trans (HB2.out.mono HB.out.size)⟩
      case measure => simp [intOf]; omega
    · obtain rfl : k = l.length := by omega
      go_wp2
      go_ret
      exact ⟨rfl, HB.out⟩
end Go.Proofs.YtlepicdjnbbndaaGreatDoor
