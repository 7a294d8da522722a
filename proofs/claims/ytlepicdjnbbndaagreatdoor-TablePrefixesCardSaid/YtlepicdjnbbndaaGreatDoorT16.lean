/-
  (*table.builder).arg, whole; the rule of a text. Conditions: sizes; the library's table as its initialiser lays it.
-/
import Derived.Test.YtlepicdjnbbndaaGreatDoorT13
import Derived.Test.YtlepicdjnbbndaaGreatDoorT15
namespace Go.Proofs.YtlepicdjnbbndaaGreatDoor
open Go.RowKit Go.Shelf

def numF (bits : List UInt8) (op : Nat) (c : UInt8) : Nat := fieldF c op 0 0 bits
/-- the operand of a word of a rule, and the letters that it adds -/
def argF (bits : List UInt8) (op : Nat) (s : List UInt8) : Option (Opd × List UInt8) :=
  if s = [40, 110, 41] then some (⟨7, 0, 0⟩, [110]) else if s = [40, 119, 41] then some (⟨7, 0, 0⟩, [119])
  else if s = [114] then ((Lib.fields listR)[numF bits op 114]?.bind wordF).map (·, []) else if s = [115] then ((Lib.fields listR)[numF bits op 115]?.bind wordF).map (·, [])
  else if s = [112] then ((Lib.fields listP)[numF bits op 112]?.bind wordF).map (·, []) else if s = [113] then ((Lib.fields listQ)[numF bits op 113]?.bind wordF).map (·, [])
  else if s = [99] then some (⟨8, numF bits op 99, 0⟩, []) else if s = [107] then some (⟨8, numF bits op 107, 0⟩, [])
  else if s = [98] then some (⟨6, 0, numF bits op 98⟩, []) else if s = [116] then some (⟨6, 0, 8 * numF bits op 116⟩, [])
  else if s = [101] then some (⟨10, 0, 0⟩, [101]) else if s = [110] then some (⟨6, 0, 0⟩, [110]) else if s = [119] then some (⟨6, 0, 0⟩, [119])
  else if s = [48] then some (⟨6, 0, 0⟩, []) else if s = [49] then some (⟨6, 0, 1⟩, []) else if s = [50] then some (⟨6, 0, 2⟩, [])
  else if s = [65] then (wordF [65]).map (·, []) else if s = [73] then (wordF [73]).map (·, []) else if s = [82] then (wordF [82]).map (·, [])
  else if 1 < s.length then (wordF s).map (·, []) else none
theorem fields_short : (∀ y ∈ Lib.fields listR, y.length ≤ 1000) ∧ (∀ y ∈ Lib.fields listP, y.length ≤ 1000) ∧ ∀ y ∈ Lib.fields listQ, y.length ≤ 1000 := by decide +kernel
theorem bytes_is {s : ByteArray} {l : List UInt8} (h : s.data.toList = l) : s = ⟨l.toArray⟩ := by
  subst h
  simp
theorem bind_two {α β : Type} {a : Option α} {f : α → Option β} {o : β} {ext : List UInt8} (h : (a.bind f).map (·, ([] : List UInt8)) = some (o, ext)) : ext = [] ∧ ∃ y, a = some y ∧ f y = some o := by
  cases a with
  | none => cases h
  | some y =>
    rw [Option.bind_some] at h
    cases hy : f y with
    | none => rw [hy] at h; cases h
    | some z =>
      rw [hy] at h
      injection h with h
      injection h with h1 h2
      exact ⟨h2.symm, y, rfl, hy.trans (by rw [h1])⟩
theorem map_two {β : Type} {a : Option β} {o : β} {ext : List UInt8} (h : a.map (·, ([] : List UInt8)) = some (o, ext)) : ext = [] ∧ a = some o := by
  cases a with
  | none => cases h
  | some z =>
    injection h with h
    injection h with h1 h2
    exact ⟨h2.symm, by rw [h1]⟩
theorem some_two {β : Type} {a o : β} {e ext : List UInt8} (h : some (a, e) = some (o, ext)) : a = o ∧ e = ext := by
  injection h with h
  injection h with h1 h2
  exact ⟨h1, h2⟩
theorem arg_any (bp : Nat) (x : BdrV) (s : ByteArray) (o : Opd) (ext : List UInt8) (w : World) (h : BK w bp x) (hx : x.ok) (ha : argF x.bits.data.toList x.op s.data.toList = some (o, ext)) (hs : s.size ≤ 1000) (hT : Spc w) :
    Calls Tryz.prog 89 #[.pointer (some ⟨bp, 0, none⟩), .string s] w (ArgP w bp x o ext) := by
  unfold argF at ha
  by_cases e0 : s.data.toList = [40, 110, 41]
  · rw [if_pos e0] at ha
    obtain ⟨rfl, rfl⟩ := some_two ha
    rw [bytes_is e0]
    exact arg_mem110 bp x w h hx
  rw [if_neg e0] at ha
  by_cases e1 : s.data.toList = [40, 119, 41]
  · rw [if_pos e1] at ha
    obtain ⟨rfl, rfl⟩ := some_two ha
    rw [bytes_is e1]
    exact arg_mem119 bp x w h hx
  rw [if_neg e1] at ha
  by_cases e114 : s.data.toList = [114]
  · rw [if_pos e114] at ha
    obtain ⟨rfl, y, hy, ho⟩ := bind_two ha
    rw [bytes_is e114]
    exact arg_114 bp x y o hy ho (fields_short.1 y (List.mem_of_getElem? hy)) w h hx hT
  rw [if_neg e114] at ha
  by_cases e115 : s.data.toList = [115]
  · rw [if_pos e115] at ha
    obtain ⟨rfl, y, hy, ho⟩ := bind_two ha
    rw [bytes_is e115]
    exact arg_115 bp x y o hy ho (fields_short.1 y (List.mem_of_getElem? hy)) w h hx hT
  rw [if_neg e115] at ha
  by_cases e112 : s.data.toList = [112]
  · rw [if_pos e112] at ha
    obtain ⟨rfl, y, hy, ho⟩ := bind_two ha
    rw [bytes_is e112]
    exact arg_112 bp x y o hy ho (fields_short.2.1 y (List.mem_of_getElem? hy)) w h hx hT
  rw [if_neg e112] at ha
  by_cases e113 : s.data.toList = [113]
  · rw [if_pos e113] at ha
    obtain ⟨rfl, y, hy, ho⟩ := bind_two ha
    rw [bytes_is e113]
    exact arg_113 bp x y o hy ho (fields_short.2.2 y (List.mem_of_getElem? hy)) w h hx hT
  rw [if_neg e113] at ha
  by_cases e99 : s.data.toList = [99]
  · rw [if_pos e99] at ha
    obtain ⟨rfl, rfl⟩ := some_two ha
    rw [bytes_is e99]
    exact arg_99 bp x w h hx
  rw [if_neg e99] at ha
  by_cases e107 : s.data.toList = [107]
  · rw [if_pos e107] at ha
    obtain ⟨rfl, rfl⟩ := some_two ha
    rw [bytes_is e107]
    exact arg_107 bp x w h hx
  rw [if_neg e107] at ha
  by_cases e98 : s.data.toList = [98]
  · rw [if_pos e98] at ha
    obtain ⟨rfl, rfl⟩ := some_two ha
    rw [bytes_is e98]
    exact arg_98 bp x w h hx
  rw [if_neg e98] at ha
  by_cases e116 : s.data.toList = [116]
  · rw [if_pos e116] at ha
    obtain ⟨rfl, rfl⟩ := some_two ha
    rw [bytes_is e116]
    exact arg_116 bp x w h hx
  rw [if_neg e116] at ha
  by_cases e101 : s.data.toList = [101]
  · rw [if_pos e101] at ha
    obtain ⟨rfl, rfl⟩ := some_two ha
    rw [bytes_is e101]
    exact arg_101 bp x w h hx
  rw [if_neg e101] at ha
  by_cases e110 : s.data.toList = [110]
  · rw [if_pos e110] at ha
    obtain ⟨rfl, rfl⟩ := some_two ha
    rw [bytes_is e110]
    exact arg_110 bp x w h hx
  rw [if_neg e110] at ha
  by_cases e119 : s.data.toList = [119]
  · rw [if_pos e119] at ha
    obtain ⟨rfl, rfl⟩ := some_two ha
    rw [bytes_is e119]
    exact arg_119 bp x w h hx
  rw [if_neg e119] at ha
  by_cases e48 : s.data.toList = [48]
  · rw [if_pos e48] at ha
    obtain ⟨rfl, rfl⟩ := some_two ha
    rw [bytes_is e48]
    exact arg_48 bp x w h
  rw [if_neg e48] at ha
  by_cases e49 : s.data.toList = [49]
  · rw [if_pos e49] at ha
    obtain ⟨rfl, rfl⟩ := some_two ha
    rw [bytes_is e49]
    exact arg_49 bp x w h
  rw [if_neg e49] at ha
  by_cases e50 : s.data.toList = [50]
  · rw [if_pos e50] at ha
    obtain ⟨rfl, rfl⟩ := some_two ha
    rw [bytes_is e50]
    exact arg_50 bp x w h
  rw [if_neg e50] at ha
  by_cases e65 : s.data.toList = [65]
  · rw [if_pos e65] at ha
    obtain ⟨rfl, ho⟩ := map_two ha
    rw [bytes_is e65]
    exact arg_65 bp x o ho w h
  rw [if_neg e65] at ha
  by_cases e73 : s.data.toList = [73]
  · rw [if_pos e73] at ha
    obtain ⟨rfl, ho⟩ := map_two ha
    rw [bytes_is e73]
    exact arg_73 bp x o ho w h
  rw [if_neg e73] at ha
  by_cases e82 : s.data.toList = [82]
  · rw [if_pos e82] at ha
    obtain ⟨rfl, ho⟩ := map_two ha
    rw [bytes_is e82]
    exact arg_82 bp x o ho w h
  rw [if_neg e82] at ha
  by_cases hl : 1 < s.data.toList.length
  · rw [if_pos hl] at ha
    obtain ⟨rfl, ho⟩ := map_two ha
    exact arg_long bp x s o ho hs (by simpa using hl) e0 e1 w h
  · rw [if_neg hl] at ha
    cases ha
/-- the rule of a text: its bits, its mnemonic, its words, whether it is an alias -/
structure RuleV where
  bits : List UInt8
  op : List UInt8
  args : List (List UInt8)
  alias : Bool
def ruleF (t : List UInt8) : Option RuleV :=
  match Lib.fields t with
  | [b, o] => if o = [42] then none else some ⟨b, o, [], false⟩
  | [b, o, a] => if o = [42] then none else if a = [42] then some ⟨b, o, [], true⟩ else if a.length ≤ 1000 ∧ (Lib.split a [44]).length ≤ 1000 then some ⟨b, o, Lib.split a [44], false⟩ else none
  | [b, o, a, x] => if o = [42] ∨ a = [42] then none else if x = [42] ∧ a.length ≤ 1000 ∧ (Lib.split a [44]).length ≤ 1000 then some ⟨b, o, Lib.split a [44], true⟩ else none
  | _ => none
theorem parse_any (s : ByteArray) (r : RuleV) (w : World) (hr : ruleF s.data.toList = some r) (hs : s.size ≤ 1000) (hasc : ∀ b ∈ s.data.toList, b.toNat < 128) (hT : Spc w) :
    Calls Tryz.prog 88 #[.string s] w fun e w' => ∃ v LS, e = .returned (.agg #[.string ⟨r.bits.toArray⟩, .string ⟨r.op.toArray⟩, v, .bool r.alias]) ∧ SlR strR w' (fun k => w.heap.size ≤ k) v LS ∧ LS.map (·.data.toList) = r.args ∧ Below w.heap.size w w' := by
  unfold ruleF at hr
  split at hr
  · rename_i b o hF
    split at hr
    · cases hr
    · rename_i ho
      injection hr with hr
      subst hr
      exact parse_2 s b o ho w hF hs hasc hT
  · rename_i b o a hF
    split at hr
    · cases hr
    · rename_i ho
      split at hr
      · rename_i ha
        injection hr with hr
        subst hr ha
        exact parse_3s s b o ho w hF hs hasc hT
      · rename_i ha
        split at hr
        · rename_i hl
          injection hr with hr
          subst hr
          exact parse_3 s b o a ho ha w hF hs hasc hl.1 hl.2 hT
        · cases hr
  · rename_i b o a x hF
    split at hr
    · cases hr
    · rename_i ho
      split at hr
      · rename_i hl
        injection hr with hr
        subst hr
        obtain ⟨rfl, hl1, hl2⟩ := hl
        exact parse_4 s b o a (fun h => ho (.inl h)) (fun h => ho (.inr h)) w hF hs hasc hl1 hl2 hT
      · cases hr
  · cases hr
end Go.Proofs.YtlepicdjnbbndaaGreatDoor
