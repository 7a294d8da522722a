/-
  The reference's lists of operands, owned. Conditions: none.
-/
import Derived.Test.YtlepicdjnbbndaaGreatDoorS3
namespace Go.Proofs.YtlepicdjnbbndaaGreatDoor
open Go.RowKit Go.Shelf Go.Sort

/-- a list of operands of the call's own, from block B on -/
def OwO (w : World) (B : Nat) (v : Value) (l : List Opd) : Prop := Own opdR w B 87 NoB v l
theorem OwO.below {w w' : World} {B : Nat} {v : Value} {l : List Opd} (h : OwO w B v l) (hb : Below w.heap.size w w') : OwO w' B v l := Own.keep h (Keep.of_below hb (fun k hk => by rcases hk with hk | hk; exact hk.elim; exact (Own.lt h k hk).2))
theorem OwO.far {w : World} {B : Nat} {v : Value} {l : List Opd} (h : OwO w B v l) {p : Addr} (hp : p.block < B) (u : Value) : OwO (w.setCell p u) B v l :=
  Own.keep h (Keep.setCell (fun k hk => by
    rcases hk with hk | hk
    · exact hk.elim
    · have := (Own.lt h k hk).1; omega) u)
theorem OwO.form {w : World} {B : Nat} {v : Value} {l : List Opd} (h : OwO w B v l) : ∃ a c, v = .slice a l.length c := Own.form h
theorem one_own (x : Opd) (w : World) : Calls Tryz.prog 101 #[.agg #[.int .i64 x.kind, .int .i64 x.reg, .int .i64 x.n]] w fun e w' => ∃ v, e = .returned v ∧ OwO w' w.heap.size v [x] ∧ Below w.heap.size w w' := by
  go_enter Tryz.func101, Tryz.ntmps101
  go_wp2
  go_ret
  refine ⟨_, rfl, ?_, ((Below.refl _ _).alloc (Nat.le_refl _) _).alloc (by simp) _⟩
  have h := (Own.lit (h0 := fun _ => rfl) (h1 := fun _ u hu => by simp [Opd.cells] at hu; rcases hu with rfl | rfl | rfl <;> rfl) (w.alloc (.cells #[.int .i64 x.kind, .int .i64 x.reg, .int .i64 x.n] 87)) 87 [x] (#[.int .i64 x.kind, .int .i64 x.reg, .int .i64 x.n]) 1 rfl (enc := Opd.cells) (n := 3) rfl (by simp))
  rw [World.size_alloc] at h
  exact h.base (by omega)
theorem two_own (x y : Opd) (w : World) : Calls Tryz.prog 98 #[.agg #[.int .i64 x.kind, .int .i64 x.reg, .int .i64 x.n], .agg #[.int .i64 y.kind, .int .i64 y.reg, .int .i64 y.n]] w fun e w' => ∃ v, e = .returned v ∧ OwO w' w.heap.size v [x, y] ∧ Below w.heap.size w w' := by
  go_enter Tryz.func98, Tryz.ntmps98
  go_wp2
  go_ret
  refine ⟨_, rfl, ?_, (((Below.refl _ _).alloc (Nat.le_refl _) _).alloc (by simp) _).alloc (by rw [World.size_alloc, World.size_alloc]; omega) _⟩
  have h := (Own.lit (h0 := fun _ => rfl) (h1 := fun _ u hu => by simp [Opd.cells] at hu; rcases hu with rfl | rfl | rfl <;> rfl) ((w.alloc (.cells #[.int .i64 x.kind, .int .i64 x.reg, .int .i64 x.n] 87)).alloc (.cells #[.int .i64 y.kind, .int .i64 y.reg, .int .i64 y.n] 87)) 87 [x, y] (#[.int .i64 x.kind, .int .i64 x.reg, .int .i64 x.n, .int .i64 y.kind, .int .i64 y.reg, .int .i64 y.n]) 2 rfl (enc := Opd.cells) (n := 3) rfl (by simp))
  rw [World.size_alloc, World.size_alloc] at h
  exact h.base (by omega)
theorem ins_own (s : ByteArray) (a : Option Addr) (n c : Nat) (w : World) {B : Nat} {l : List Opd} (ho : OwO w B (.slice a n c) l) : Calls Tryz.prog 97 #[.string s, .slice a n c] w fun e w' => e = .returned (.agg #[.string s, .slice a n c]) ∧ OwO w' B (.slice a n c) l ∧ Below w.heap.size w w' := by
  have HO := Lib.hid ho
  clear ho
  go_enter Tryz.func97, Tryz.ntmps97
  go_wp2
  have hb := (Below.refl w.heap.size w).alloc (Nat.le_refl _) (.cells #[.string s, .slice a n c] 25)
  refine bodyPost_ret (ins_end rfl rfl (Blk.new w _ _)) rfl ⟨rfl, HO.out.below hb, hb⟩
/-- what a function that makes an instruction leaves, its operands owned -/
def InsOw (w : World) (s : ByteArray) (l : List Opd) (e : Ending) (w' : World) : Prop := ∃ v, e = .returned (.agg #[.string s, v]) ∧ OwO w' w.heap.size v l ∧ Below w.heap.size w w'
theorem put_own {w0 w1 : World} {b B : Nat} {v x y : Value} {l : List Opd} (hB : Below w0.heap.size w0 w1) (ho : OwO w1 B v l) (hq : b < B) (hb : w0.heap.size ≤ b) :
    OwO ((w1.setCell ⟨b, 0, none⟩ x).setCell ⟨b, 1, none⟩ y) w0.heap.size v l ∧ Below w0.heap.size w0 ((w1.setCell ⟨b, 0, none⟩ x).setCell ⟨b, 1, none⟩ y) :=
  ⟨Own.base ((ho.far (p := ⟨b, 0, none⟩) hq x).far (p := ⟨b, 1, none⟩) hq y) (by omega), (hB.setCell hb _).setCell hb _⟩
theorem frLo {f : FuncId} {args : Array Value} {w0 W : World} {L : List (Nat × TypeId × Array Value)} {l : List Opd} {b : Nat} {t : TypeId} {cs : Array Value} (H : Hid (Fr w0 L W)) (hi : (b, t, cs) ∈ L)
    (h : Calls Tryz.prog f args W fun e w' => ∃ v, e = .returned v ∧ OwO w' W.heap.size v l ∧ Below W.heap.size W w') : Calls Tryz.prog f args W fun e w' => ∃ a c, e = .returned (.slice a l.length c) ∧ Hid (OwO w' (b + 1) (.slice a l.length c) l) ∧ Hid (Fr w0 L w') :=
  h.mono fun _ _ ⟨_, hv, ho, hb⟩ => by
    obtain ⟨a, c, rfl⟩ := ho.form
    exact ⟨a, c, hv, Lib.hid (Own.base ho (H.out.mem b t cs hi).lt), Lib.hid (H.out.next hb)⟩
theorem frIo {f : FuncId} {args : Array Value} {w0 W : World} {L : List (Nat × TypeId × Array Value)} {l : List Opd} {B : Nat} {v r : Value} (H : Hid (Fr w0 L W))
    (h : Calls Tryz.prog f args W fun e w' => e = .returned r ∧ OwO w' B v l ∧ Below W.heap.size W w') : Calls Tryz.prog f args W fun e w' => e = .returned r ∧ Hid (OwO w' B v l) ∧ Hid (Fr w0 L w') :=
  h.mono fun _ _ ⟨hr, ho, hb⟩ => ⟨hr, Lib.hid ho, Lib.hid (H.out.next hb)⟩
end Go.Proofs.YtlepicdjnbbndaaGreatDoor
