/-
  hexwrite.records: its iterator. Conditions: the size in its range.
-/
import Derived.Test.YtcfjcoockklkeaaDoorW6
namespace Go.Proofs.YtcfjcoockklkeaaDoor
open Go.RowKit
attribute [local go_sem] Oper.semAt_some

theorem SlR.run {w : World} {p : Blocks} {v : Value} {l : List (Nat × List UInt8)} (h : SlR runR w p v l) : ∃ a cap, v = .slice a l.length cap ∧ l.length ≤ cap ∧ cap ≤ 9223372036854775807 ∧
    ∀ i x, l[i]? = some x → ∃ b o sa sc, a = some ⟨b, o, none⟩ ∧ p b ∧ w.cell? ⟨b, o + i * 2, none⟩ = some (.int .i64 x.1) ∧ w.cell? ⟨b, o + i * 2 + 1, none⟩ = some (.slice sa x.2.length sc) ∧ SlR byteR w p (.slice sa x.2.length sc) x.2 := by
  obtain ⟨a, cap, e, h1, h2, h3⟩ := h
  refine ⟨a, cap, e, h1, by simpa [maxLen] using h2, fun i x hx => ?_⟩
  obtain ⟨b, o, cs, ea, hb, hbs, hc, hr⟩ := h3 i x hx
  obtain ⟨c1, c2, ecs, hr1, vs, hv, hs⟩ := hr
  have hr1 : c1 = [.int .i64 x.1] := hr1
  obtain ⟨sa, sc, rfl, _⟩ := hs.byte
  subst ecs hr1 hv
  exact ⟨b, o, sa, sc, ea, hb, hc 0 _ rfl, hc 1 _ rfl, hs⟩
theorem SlR.rec_ {w : World} {p : Blocks} {v : Value} {l : List (Nat × List UInt8)} (h : SlR recR w p v l) : ∃ a cap, v = .slice a l.length cap ∧ l.length ≤ cap ∧ cap ≤ 9223372036854775807 ∧
    ∀ i x, l[i]? = some x → ∃ b o sa sc, a = some ⟨b, o, none⟩ ∧ p b ∧ w.cell? ⟨b, o + i * 3, none⟩ = some (.int .i64 0) ∧ w.cell? ⟨b, o + i * 3 + 1, none⟩ = some (.int .i64 x.1) ∧ w.cell? ⟨b, o + i * 3 + 2, none⟩ = some (.slice sa x.2.length sc) ∧ SlR byteR w p (.slice sa x.2.length sc) x.2 := by
  obtain ⟨a, cap, e, h1, h2, h3⟩ := h
  refine ⟨a, cap, e, h1, by simpa [maxLen] using h2, fun i x hx => ?_⟩
  obtain ⟨b, o, cs, ea, hb, hbs, hc, hr⟩ := h3 i x hx
  obtain ⟨c1, c2, ecs, hr1, vs, hv, hs⟩ := hr
  have hr1 : c1 = [.int .i64 0, .int .i64 x.1] := hr1
  obtain ⟨sa, sc, rfl, _⟩ := hs.byte
  subst ecs hr1 hv
  exact ⟨b, o, sa, sc, ea, hb, hc 0 _ rfl, hc 1 _ rfl, hc 2 _ rfl, hs⟩
/-- an image: nil, or a block with its runs -/
def ImgV (w : World) (mv : Value) (R : List (Nat × List UInt8)) : Prop :=
  (mv = .pointer none ∧ R = []) ∨ ∃ b n d v, mv = .pointer (some ⟨b, 0, none⟩) ∧ ImgC w b d v n ∧ R = runsOf d v
theorem ImgV.below {w w' : World} {mv : Value} {R : List (Nat × List UInt8)} (h : ImgV w mv R) (hb : Below w.heap.size w w') : ImgV w' mv R := by
  rcases h with h | ⟨b, n, d, v, h1, h2, h3⟩
  · exact .inl h
  · exact .inr ⟨b, n, d, v, h1, h2.below hb h2.lt, h3⟩
theorem ImgV.sep {w : World} {mv : Value} {R : List (Nat × List UInt8)} (h : ImgV w mv R) : Sep 0 R := by
  rcases h with ⟨_, rfl⟩ | ⟨b, n, d, v, _, _, rfl⟩
  · trivial
  · exact runs_sep d v
theorem RunsV_any (mv : Value) (R : List (Nat × List UInt8)) (w : World) (h : ImgV w mv R) (hT : Deb w) :
    Calls Tryd.prog 47 #[mv] w fun e w' => ∃ v', e = .returned v' ∧ OwnL runR w' w.heap.size 79 v' R ∧ Below w.heap.size w w' := by
  rcases h with ⟨rfl, rfl⟩ | ⟨b, n, d, v, rfl, h2, rfl⟩
  · go_enter Tryd.func47, Tryd.ntmps47
    go_wp2
    go_ret
    exact ⟨_, rfl, OwnL.nil _ _ _, Below.refl _ _⟩
  · exact Runs_any b n d v w h2 hT
theorem records_any (n : Nat) (mo : Option Addr) (w : World) :
    Calls Tryd.prog 84 #[.int .i64 n, .pointer mo] w fun e w' => e = .returned (.func (.func 115) #[] #[.pointer (some ⟨w.heap.size + 1, 0, none⟩), .pointer (some ⟨w.heap.size, 0, none⟩)]) ∧ w' = (w.alloc (.cells #[.int .i64 n] 3)).alloc (.cells #[.pointer mo] 23) := by
  have hmf : ∀ (fn : Fn) (first cap : Array Value) (w : World), (Instr.makeFunc fn first cap).run Tryd.prog w = .ok (.func fn first cap) w := fun _ _ _ _ => rfl
  go_enter Tryd.func84, Tryd.ntmps84
  go_wp2
  go_ret
  exact ⟨rfl, rfl⟩
end Go.Proofs.YtcfjcoockklkeaaDoor
