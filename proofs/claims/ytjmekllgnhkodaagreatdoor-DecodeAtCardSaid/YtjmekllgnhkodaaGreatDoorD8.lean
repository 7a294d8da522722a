/-
  decode.read's deferred closure, with recover. Conditions: sizes.
-/
import Derived.Test.YtjmekllgnhkodaaGreatDoorD5
import Derived.Defers
import Derived.Recover
namespace Go.Proofs.YtjmekllgnhkodaaGreatDoor
open Go.RowKit Go.Shelf Go.Sort

theorem tmps19 (a b c : Value) : (#[a, b, c] : Array Value) ++ Array.replicate (Tryz.f84.ntmps - (#[a, b, c] : Array Value).size) undef = #[a, b, c, undef, undef, undef, undef, undef, undef, undef, undef, undef, undef, undef, undef, undef, undef, undef, undef] := by
  rw [Tryz.ntmps84]; rfl
set_option maxHeartbeats 4000000 in
set_option maxRecDepth 100000 in
theorem catch_idle (x b o : Addr) (w : World) :
    CallsD Tryz.prog 84 #[.pointer (some x), .pointer (some b), .pointer (some o)] .returning w fun e u' w' => e = .returned (.tuple #[]) ∧ u' = .returning ∧ w' = w := by
  refine callsD_of_wpS Tryz.func84 rfl fun c₀ cs hu => ?_
  rw [tmps19]
  apply wpS_seq
  apply wpS_region
  simp [wpOpsS, go_sem, recoverD, hu, Exit.thenS]
  refine wpS_of_wp ?_
  go_wp2
  cases c₀
  simp_all [bodyPostS, results, Tryz.results84]
/-- what the closure leaves behind -/
def CatP (wz : World) (xb bb ob g : Nat) (cs : Array Value) (l : List UInt8) (vx vb : Value) (w' : World) : Prop :=
  ∃ ra rc, Fr wz [(ob, tItm, #[.int .i64 4, .slice ra l.length rc, .string ⟨#[]⟩, .slice none 0 0, .bool false]), (g, tDec, cs), (xb, 76, #[vx]), (bb, 22, #[vb])] w' ∧ SlR byteR w' (fun k => wz.heap.size ≤ k) (.slice ra l.length rc) l
set_option maxHeartbeats 4000000 in
set_option maxRecDepth 100000 in
theorem catch_some (wz : World) (p : Blocks) (xb bb ob g : Nat) (cs : Array Value) (ad : Addr) (c : Nat) (l : List UInt8) (older : List PanicEntry) (w : World)
    (h : Fr wz [(ob, tItm, itm0), (g, tDec, cs), (xb, 76, #[.pointer (some ⟨g, 0, none⟩)]), (bb, 22, #[.slice (some ad) l.length c])] w)
    (h0 : cs[0]? = some (.slice (some ad) l.length c)) (hs : SlR byteR wz p (.slice (some ad) l.length c) l) (hl : l.length ≤ 1000000) (hz : wz.heap.size ≤ ob) (hn : g ≠ ob ∧ xb ≠ ob ∧ bb ≠ ob) :
    CallsD Tryz.prog 84 #[.pointer (some ⟨xb, 0, none⟩), .pointer (some ⟨bb, 0, none⟩), .pointer (some ⟨ob, 0, none⟩)] (.panicking ({ v := .iface 129 (.agg #[]), recovered := false } :: older)) w fun e u' w' =>
      e = .returned (.tuple #[]) ∧ u' = .panicking ({ v := .iface 129 (.agg #[]), recovered := true } :: older) ∧ CatP wz xb bb ob g cs l (.pointer (some ⟨g, 0, none⟩)) (.slice (some ad) l.length c) w' := by
  have hta : ∀ W : World, (Instr.typeAssert (.iface 129 (.agg #[])) 20 129 true).run Tryz.prog W = .ok (.tuple #[.agg #[], .bool true]) W := fun _ => by kernel_rfl
  refine callsD_of_wpS Tryz.func84 rfl fun c₀ cc hu => ?_
  rw [tmps19]
  apply wpS_seq
  apply wpS_region
  simp [wpOpsS, go_sem, recoverD, hu, Exit.thenS]
  refine wpS_of_wp ?_
  go_upto_region 7 with fail
  have HF := Lib.hid (h.alloc (.cells #[] 129))
  have HFD := Lib.hid HF.out.drew
  have HRW := Lib.hid (raw_any g cs _ ad c l l.length _ (HFD.out.blk 1 rfl) h0 (hs.old.below HFD.out.below) (Nat.le_refl _) hl)
  rw [List.take_length] at HRW
  have x0 : (w.alloc (.cells #[] 129)).cell? ⟨xb, 0, none⟩ = some (.pointer (some ⟨g, 0, none⟩)) := (HF.out.blk 2 rfl).cell 0
  have y0 : (w.alloc (.cells #[] 129)).cell? ⟨bb, 0, none⟩ = some (.slice (some ad) l.length c) := (HF.out.blk 3 rfl).cell 0
  have HZO : Hid (ob < (w.alloc (.cells #[] 129)).drew.heap.size) := Lib.hid ((HFD.out.blk 0 rfl).lt)
  generalize w.alloc (.cells #[] 129) = W at *
  clear h h0 hs hl
  go_region_law ((go_simp; (go_at_call 85; refine (HRW.out).mono ?_; rintro e w4 ⟨v4, rfl, ho4, hb4⟩; obtain ⟨ra, rc, rfl⟩ := ho4.form; have HO4 := Lib.hid ho4; have HF4 := Lib.hid (HFD.out.next hb4); obtain ⟨⟨c0, c1, c2, c3, c4⟩, f0, f1, f2, f3, f4⟩ := (HF4.out.blk 0 rfl).five; clear ho4 hb4); dsimp only))
  all_goals go_wp2
  all_goals have F5 := Lib.hid (HF4.out.set5 hz (fun x hx => by rcases List.mem_cons.1 hx with e | hx; rw [e]; exact hn.1; rcases List.mem_cons.1 hx with e | hx; rw [e]; exact hn.2.1; rw [List.mem_singleton.1 hx]; exact hn.2.2) (.int .i64 4) (.slice ra l.length rc) (.string ⟨#[]⟩) (.slice none 0 0) (.bool false))
  all_goals have HC : CatP wz xb bb ob g cs l (.pointer (some ⟨g, 0, none⟩)) (.slice (some ad) l.length c) (((((w4.setCell ⟨ob, 0, none⟩ (.int .i64 4)).setCell ⟨ob, 1, none⟩ (.slice ra l.length rc)).setCell ⟨ob, 2, none⟩ (.string ⟨#[]⟩)).setCell ⟨ob, 3, none⟩ (.slice none 0 0)).setCell ⟨ob, 4, none⟩ (.bool false)) := ⟨ra, rc, F5.out, Own.slR (q := fun k => wz.heap.size ≤ k) (((((HO4.out.off HZO.out 0 _).off HZO.out 1 _).off HZO.out 2 _).off HZO.out 3 _).off HZO.out 4 _) (fun _ h => h.elim) (fun k hk => by have := HZO.out; omega)⟩
  all_goals generalize ((((w4.setCell ⟨ob, 0, none⟩ (.int .i64 4)).setCell ⟨ob, 1, none⟩ (.slice ra l.length rc)).setCell ⟨ob, 2, none⟩ (.string ⟨#[]⟩)).setCell ⟨ob, 3, none⟩ (.slice none 0 0)).setCell ⟨ob, 4, none⟩ (.bool false) = W5 at *
  all_goals simp [bodyPostS, results, Tryz.results84]
  all_goals exact HC
end Go.Proofs.YtjmekllgnhkodaaGreatDoor
