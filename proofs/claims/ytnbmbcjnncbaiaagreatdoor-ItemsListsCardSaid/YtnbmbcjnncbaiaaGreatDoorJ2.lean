/-
  Lists of items in memory; the rest of a row of bytes. Conditions: none.
-/
import Derived.Test.YtnbmbcjnncbaiaaGreatDoorJ1
import Derived.Test.YtnbmbcjnncbaiaaGreatDoorQD
namespace Go.Proofs.YtnbmbcjnncbaiaaGreatDoor
open Go.RowKit Go.Shelf Go.Sort

/-- An item in five cells. -/
def itR : Rep It where
  size := 5
  rel := fun w p cs x => ∃ ra rc va vc, cs = (itCs x ra rc va vc).toList ∧ SlR byteR w p (.slice ra x.raw.length rc) x.raw ∧ SlR opdR w p (.slice va x.args.length vc) x.args
  len := fun ⟨_, _, _, _, e, _⟩ => by subst e; rfl
  keep := fun hk ⟨ra, rc, va, vc, e, h1, h2⟩ => ⟨ra, rc, va, vc, e, h1.keep hk, h2.keep hk⟩
  mono := fun hp ⟨ra, rc, va, vc, e, h1, h2⟩ => ⟨ra, rc, va, vc, e, h1.mono hp, h2.mono hp⟩
  old := fun ⟨ra, rc, va, vc, e, h1, h2⟩ => ⟨ra, rc, va, vc, e, h1.old, h2.old⟩
  one := fun ⟨ra, rc, va, vc, e, _⟩ u hu => by
    subst e
    simp [itCs] at hu
    rcases hu with rfl | rfl | rfl | rfl | rfl <;> rfl
abbrev tIL : TypeId := 39
theorem elIT : ElT Tryz.prog tIL tItm itR.size 80 := ElT.mk' (z := .agg #[.int .i64 0, .slice none 0 0, .string ⟨#[]⟩, .slice none 0 0, .bool false]) Tryz.underlying39 (by kernel_rfl) rfl (by decide)
/-- The cells of an item in a list. -/
theorem SlR.it {w : World} {p : Blocks} {v : Value} {l : List It} (h : SlR itR w p v l) : ∃ a cap, v = .slice a l.length cap ∧ l.length ≤ cap ∧ cap ≤ 9223372036854775807 ∧
    ∀ i x, l[i]? = some x → ∃ b o ra rc va vc, a = some ⟨b, o, none⟩ ∧ b < w.heap.size ∧ w.cell? ⟨b, o + i * 5, none⟩ = some (.int .i64 x.k) ∧ w.cell? ⟨b, o + i * 5 + 1, none⟩ = some (.slice ra x.raw.length rc) ∧ w.cell? ⟨b, o + i * 5 + 2, none⟩ = some (.string ⟨x.op.toArray⟩) ∧ w.cell? ⟨b, o + i * 5 + 3, none⟩ = some (.slice va x.args.length vc) ∧ w.cell? ⟨b, o + i * 5 + 4, none⟩ = some (.bool x.al) ∧
      SlR byteR w p (.slice ra x.raw.length rc) x.raw ∧ SlR opdR w p (.slice va x.args.length vc) x.args := by
  obtain ⟨a, cap, e, h1, h2, h3⟩ := h
  refine ⟨a, cap, e, h1, by simpa [maxLen] using h2, fun i x hx => ?_⟩
  obtain ⟨b, o, cs, ea, hb, hbs, hc, ra, rc, va, vc, hcs, hr1, hr2⟩ := h3 i x hx
  subst hcs
  exact ⟨b, o, ra, rc, va, vc, ea, hbs, hc 0 _ rfl, hc 1 _ rfl, hc 2 _ rfl, hc 3 _ rfl, hc 4 _ rfl, hr1, hr2⟩
/-- the rest of a row of bytes, as a run -/
theorem cut_rest {w : World} {p : Blocks} {a : Option Addr} {c : Nat} {l : List UInt8} (h : SlR byteR w p (.slice a l.length c) l) (k : Nat) (hk : k ≤ l.length) (h0 : 0 < l.length) :
    ∃ a' c', (∀ W, (Instr.sliceAt 22 (.slice a l.length c) (some (.int .i64 (k : Int))) none none).run Tryz.prog W = .ok (.slice a' (l.drop k).length c') W) ∧ SlR byteR w p (.slice a' (l.drop k).length c') (l.drop k) := by
  obtain ⟨b, o, rfl, hc1, hc2, _⟩ := byteAt h h0
  by_cases hkc : k < c
  · refine ⟨some ⟨b, o + k, none⟩, c - k, fun W => ?_, h.dropB hk⟩
    rw [List.length_drop]
    exact cut_from b o l.length c k hk hkc W
  · have hkl : k = l.length := by omega
    have hcl : c = l.length := by omega
    have hd : l.drop k = [] := by rw [hkl]; exact List.drop_length
    rw [hd]
    refine ⟨some ⟨b, o, none⟩, 0, fun W => ?_, ⟨_, _, rfl, Nat.le_refl _, by decide, fun i x hx => by simp at hx⟩⟩
    rw [run_sliceAt_slice _ _ _ _ _ _ (by kernel_rfl), run_slice_l W _ (some ⟨b, o, none⟩) l.length c (by kernel_rfl) .i64 (k : Int) (by omega) (by omega)]
    subst hkl hcl
    go_simp
end Go.Proofs.YtnbmbcjnncbaiaaGreatDoor
