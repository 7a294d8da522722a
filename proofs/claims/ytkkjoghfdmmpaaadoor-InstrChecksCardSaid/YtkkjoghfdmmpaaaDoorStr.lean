/-
  Lists of strings: the references' search, Go's search. Conditions: none.
-/
import Derived.Test.YtkkjoghfdmmpaaaDoorOpd
namespace Go.Proofs.YtkkjoghfdmmpaaaDoor
open Go.RowKit

def strR : Rep ByteArray := Rep.flat 1 (fun s => [.string s]) (fun _ => rfl) (fun _ u hu => by simp at hu; subst hu; rfl)
theorem SlR.str {w : World} {p : Blocks} {v : Value} {l : List ByteArray} (h : SlR strR w p v l) : ∃ a cap, v = .slice a l.length cap ∧ l.length ≤ cap ∧ cap ≤ 9223372036854775807 ∧
    ∀ i x, l[i]? = some x → ∃ b o, a = some ⟨b, o, none⟩ ∧ p b ∧ w.cell? ⟨b, o + i, none⟩ = some (.string x) := by
  obtain ⟨a, cap, e, h1, h2, h3⟩ := h
  refine ⟨a, cap, e, h1, by simpa [maxLen] using h2, fun i x hx => ?_⟩
  obtain ⟨b, o, cs, ea, hb, hbs, hc, hr⟩ := h3 i x hx
  have hr : cs = [.string x] := hr
  subst hr
  have := hc 0 _ rfl
  exact ⟨b, o, ea, hb, by simpa [strR, Rep.flat] using this⟩

/-- Is the string in the list? (a name that the walk does not open) -/
def inL (l : List ByteArray) (s : ByteArray) : Bool := l.any fun x => x.toList == s.toList
theorem toList_inj {a b : ByteArray} (h : a.toList = b.toList) : a = b := by
  rw [Go.ByteArray.toList_eq, Go.ByteArray.toList_eq] at h
  obtain ⟨⟨x⟩⟩ := a
  obtain ⟨⟨y⟩⟩ := b
  simp at h
  rw [h]
theorem inL_iff {l : List ByteArray} {s : ByteArray} : inL l s = true ↔ s ∈ l := by
  unfold inL
  rw [List.any_eq_true]
  constructor
  · rintro ⟨x, hx, he⟩
    have e : x = s := toList_inj (by simpa using he)
    exact e ▸ hx
  · intro h; exact ⟨s, h, by simp⟩
theorem inL_drop_yes {l : List ByteArray} {s : ByteArray} {k : Nat} (hk : k < l.length) (h : (l[k].toList == s.toList) = true) : inL l s = true := by
  unfold inL; rw [List.any_eq_true]; exact ⟨l[k], List.getElem_mem _, h⟩

set_option maxHeartbeats 400000 in
theorem in08_any (p : Blocks) (v : Value) (l : List ByteArray) (s : ByteArray) (w : World) (h1 : SlR strR w p v l) :
    Calls Tryd.prog 76 #[v, .string s] w fun e w' => e = .returned (.bool (inL l s)) ∧ w = w' := by
  obtain ⟨a1, c1, rfl, hc1, hm1, g1⟩ := h1.str
  clear h1
  go_enter Tryd.func76, Tryd.ntmps76
  go_wp2
  go_loop [5] (fun i => ∃ k : Nat, k ≤ l.length ∧ i = .int .i64 k ∧ inL l s = inL (l.drop k) s) (fun i => l.length - (intOf i).toNat)
  case atStart => exact ⟨0, Nat.zero_le _, rfl, rfl⟩
  case round =>
    obtain ⟨k, hk, rfl, ht⟩ := hrel
    have HT := Lib.hid ht
    clear ht
    by_cases hlt : k < l.length
    · obtain ⟨b1, o1, rfl, _, d1⟩ := g1 k l[k] (List.getElem?_eq_getElem hlt)
      clear g1
      have HD := Lib.hid (List.drop_eq_getElem_cons hlt)
      have HY : Hid ((l[k].toList == s.toList) = true → inL l s = true) := inL_drop_yes hlt
      generalize l[k] = x at *
      go_wp2
      · go_ret
        exact ⟨ret_bool (HY.out (by assumption)).symm, rfl⟩
      · go_round
        case rel => exact ⟨k + 1, by omega, by go_num, by rw [HT.out, HD.out]; simp only [inL, List.any_cons]; simp [*]⟩
        case measure => simp [intOf]; omega
    · go_wp2
      go_ret
      exact ⟨ret_bool (by rw [HT.out, List.drop_of_length_le (by omega)]; rfl), rfl⟩
end Go.Proofs.YtkkjoghfdmmpaaaDoor
