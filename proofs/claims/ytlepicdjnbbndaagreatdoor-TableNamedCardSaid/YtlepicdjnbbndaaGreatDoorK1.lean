/-
  Go's data in memory, operands, instructions, append, copies, words of a text. Conditions: sizes.
-/
import Derived.Test.YtlepicdjnbbndaaGreatDoorG1
import Derived.WalkKit
import Derived.WalkSpells
import Derived.WalkLawsBesides
import Derived.Lib.Hide
import Derived.Maps.AppendAt
import Derived.Test.YtlepicdjnbbndaaGreatDoorChecked
import Derived.Deep.QuietTactic
import Derived.BigQuiet
import Derived.Laws.StructEq
import Derived.Lib.ConvBytes
import Derived.OwnWalkIn
import Derived.Deep.RegionLaw
import Derived.Test.YtlepicdjnbbndaaGreatDoorShelf

/-
  Operands and instructions in memory; Go's comparison of lists of operands. Conditions: none.
-/
namespace Go.Proofs.YtlepicdjnbbndaaGreatDoor
open Go.RowKit

structure Opd where
  kind : Int
  reg : Int
  n : Int
  deriving DecidableEq, Inhabited
def Opd.cells (o : Opd) : List Value := [.int .i64 o.kind, .int .i64 o.reg, .int .i64 o.n]
def opdR : Rep Opd := Rep.flat 3 Opd.cells (fun _ => rfl) (fun _ u hu => by simp [Opd.cells] at hu; rcases hu with rfl | rfl | rfl <;> rfl)
theorem opdR_size : opdR.size = 3 := rfl

/-- Three cells of an operand in a list. -/
theorem SlR.opd {w : World} {p : Blocks} {v : Value} {l : List Opd} (h : SlR opdR w p v l) : ∃ a cap, v = .slice a l.length cap ∧ l.length ≤ cap ∧ cap ≤ 9223372036854775807 ∧
    ∀ i x, l[i]? = some x → ∃ b o, a = some ⟨b, o, none⟩ ∧ p b ∧ w.cell? ⟨b, o + i * 3, none⟩ = some (.int .i64 x.kind) ∧ w.cell? ⟨b, o + i * 3 + 1, none⟩ = some (.int .i64 x.reg) ∧ w.cell? ⟨b, o + i * 3 + 2, none⟩ = some (.int .i64 x.n) := by
  obtain ⟨a, cap, e, h1, h2, h3⟩ := h
  refine ⟨a, cap, e, h1, by simpa [maxLen] using h2, fun i x hx => ?_⟩
  obtain ⟨b, o, cs, ea, hb, hbs, hc, hr⟩ := h3 i x hx
  have hr : cs = x.cells := hr
  subst hr
  exact ⟨b, o, ea, hb, hc 0 _ rfl, hc 1 _ rfl, hc 2 _ rfl⟩

def opdEq (x y : Opd) : Bool := decide (x = y)
theorem opdEq_iff {x y : Opd} : opdEq x y = true ↔ x = y := by simp [opdEq]
theorem opdEq_no {x y : Opd} : opdEq x y = false ↔ x ≠ y := by simp [opdEq]
/-- '==' and '!=' on two operands. -/
theorem run_eqOpd (a b c d e f : Int) (w : World) : (binOp .eql 87 (.agg #[.int .i64 a, .int .i64 b, .int .i64 c]) (.agg #[.int .i64 d, .int .i64 e, .int .i64 f])).run Tryz.prog w = .ok (.bool (opdEq ⟨a, b, c⟩ ⟨d, e, f⟩)) w := by
  have hS : Tryz.prog.underlying 87 = some (.struct (Tryz.prog.fieldsOf 87)) := by kernel_rfl
  have hp : Tryz.prog.stoodInHeld 87 = false := by kernel_rfl
  rw [run_eql_struct, show (10000 : Nat) = 9999 + 1 from rfl, run_equalIn_agg w 9999 87 _ _ hS hp]
  simp only [Program.fieldsOf, Tryz.underlying87]
  go_simp
  by_cases h1 : a = d <;> by_cases h2 : b = e <;> by_cases h3 : c = f <;> simp [h1, h2, h3, opdEq]
theorem run_neqOpd (a b c d e f : Int) (w : World) : (binOp .neq 87 (.agg #[.int .i64 a, .int .i64 b, .int .i64 c]) (.agg #[.int .i64 d, .int .i64 e, .int .i64 f])).run Tryz.prog w = .ok (.bool (!opdEq ⟨a, b, c⟩ ⟨d, e, f⟩)) w := by
  have hS : Tryz.prog.underlying 87 = some (.struct (Tryz.prog.fieldsOf 87)) := by kernel_rfl
  have hp : Tryz.prog.stoodInHeld 87 = false := by kernel_rfl
  rw [run_neq_struct, show (10000 : Nat) = 9999 + 1 from rfl, run_equalIn_agg w 9999 87 _ _ hS hp]
  simp only [Program.fieldsOf, Tryz.underlying87]
  go_simp
  by_cases h1 : a = d <;> by_cases h2 : b = e <;> by_cases h3 : c = f <;> simp [h1, h2, h3, opdEq]

theorem take_succ_eq {α : Type} {l1 l2 : List α} {k : Nat} (h1 : k < l1.length) (h2 : k < l2.length) (ht : l1.take k = l2.take k) (he : l1[k] = l2[k]) : l1.take (k + 1) = l2.take (k + 1) := by
  rw [List.take_succ_eq_append_getElem h1, List.take_succ_eq_append_getElem h2, ht, he]

end Go.Proofs.YtlepicdjnbbndaaGreatDoor

/-
  Lists of strings: the references' search, Go's search. Conditions: none.
-/
namespace Go.Proofs.YtlepicdjnbbndaaGreatDoor
open Go.RowKit


/-- Is the string in the list? (a name that the walk does not open) -/
def inL (l : List ByteArray) (s : ByteArray) : Bool := l.any fun x => x.toList == s.toList
theorem inL_iff {l : List ByteArray} {s : ByteArray} : inL l s = true ↔ s ∈ l := by
  unfold inL
  rw [List.any_eq_true]
  constructor
  · rintro ⟨x, hx, he⟩
    have e : x = s := toList_inj (by simpa using he)
    exact e ▸ hx
  · intro h; exact ⟨s, h, by simp⟩
theorem inL_drop_yes {l : List ByteArray} {s : ByteArray} {k : Nat} (hk : k < l.length) (h : (l[k].toList == s.toList) = true) : inL l s = true := by
  unfold inL; rw [List.any_eq_true]; exact ⟨l[k], List.getElem_mem _, h⟩

end Go.Proofs.YtlepicdjnbbndaaGreatDoor

/-
  Instructions in memory; the program's and the reference's comparison of them; short. Conditions: none.
-/
namespace Go.Proofs.YtlepicdjnbbndaaGreatDoor
open Go.RowKit

structure Ins where
  op : ByteArray
  args : List Opd
/-- The same instruction? (a name that the walk does not open) -/
def insEq (x y : Ins) : Bool := decide (x.op = y.op ∧ x.args = y.args)
theorem insEq_yes {x y : Ins} (h : (x.op.toList == y.op.toList) = true) : insEq x y = decide (x.args = y.args) := by
  have := toList_inj (by simpa using h); simp [insEq, this]
theorem insEq_no {x y : Ins} (h : (x.op.toList == y.op.toList) = false) : insEq x y = false := by
  have : x.op ≠ y.op := fun e => by simp [e] at h
  simp [insEq, this]


theorem insEq_len {x y : Ins} (h : x.args.length ≠ y.args.length) : insEq x y = false := by
  have : x.args ≠ y.args := fun e => h (by rw [e])
  simp [insEq, this]
theorem insEq_at {x y : Ins} (k : Nat) (h1 : k < x.args.length) (h2 : k < y.args.length) (h : x.args[k] ≠ y.args[k]) : insEq x y = false := by
  have : x.args ≠ y.args := fun e => h (by simp only [e])
  simp [insEq, this]

set_option maxHeartbeats 600000 in
theorem ref07Same_any (p q : Blocks) (x y : Ins) (v1 v2 : Value) (w : World) (h1 : SlR opdR w p v1 x.args) (h2 : SlR opdR w q v2 y.args) :
    Calls Tryz.prog 15 #[.agg #[.string x.op, v1], .agg #[.string y.op, v2]] w fun e w' => e = .returned (.bool (insEq x y)) ∧ Below w.heap.size w w' := by
  have HB : Below w.heap.size w ((w.alloc (.cells #[.string x.op, v1] 25)).alloc (.cells #[.string y.op, v2] 25)) := ((Below.refl _ _).alloc (Nat.le_refl _) _).alloc (by simp) _
  obtain ⟨a1, c1, rfl, hc1, hm1, g1⟩ := (h1.below HB).opd
  obtain ⟨a2, c2, rfl, hc2, hm2, g2⟩ := (h2.below HB).opd
  have HY : Hid _ := @insEq_yes x y
  have HN : Hid _ := @insEq_no x y
  have HL : Hid _ := @insEq_len x y
  have HA : Hid _ := @insEq_at x y
  clear h1 h2
  have hop := run_neqOpd
  obtain ⟨s, l1⟩ := x
  obtain ⟨t, l2⟩ := y
  dsimp only at *
  by_cases hs : (s.toList == t.toList) = true
  · by_cases hl : l1.length = l2.length
    · have HE := Lib.hid hl
      rw [← hl] at hc2 HB g1 g2 ⊢
      clear hl
      go_enter Tryz.func15, Tryz.ntmps15
      go_wp2
      go_loopw [5] (fun i wr => ∃ k n : Nat, k ≤ l1.length ∧ i = .int .i64 k ∧ wr = ((w.alloc (.cells #[.string s, .slice a1 l1.length c1] 25)).alloc (.cells #[.string t, .slice a2 l1.length c2] 25)).drewN n ∧ l1.take k = l2.take k) (fun i _ => l1.length - (intOf i).toNat)
      case atStart => exact ⟨0, 0, Nat.zero_le _, rfl, rfl, rfl⟩
      case round =>
        obtain ⟨k, n, hk, rfl, rfl, ht⟩ := hrel
        have HT := Lib.hid ht
        clear ht
        by_cases hlt : k < l1.length
        · have hlt2 : k < l2.length := by have := HE.out; omega
          obtain ⟨b1, o1, rfl, _, d1, d2, d3⟩ := g1 k l1[k] (List.getElem?_eq_getElem hlt)
          obtain ⟨b2, o2, rfl, _, e1, e2, e3⟩ := g2 k l2[k] (List.getElem?_eq_getElem hlt2)
          clear g1 g2
          have HS := Lib.hid (take_succ_eq hlt hlt2 HT.out)
          have HN : Hid _ := HA.out k hlt hlt2
          generalize l1[k] = x at *
          generalize l2[k] = y at *
          by_cases hxy : opdEq x y = true
          · go_wp2
            go_quiet (fail)
            go_wp2
            go_roundw
            case rel => exact ⟨k + 1, n + nq, by omega, by go_num, rfl, HS.out (opdEq_iff.1 hxy)⟩
            case measure => simp [intOf]; omega
          · have hxy : opdEq x y = false := by simpa using hxy
            go_wp2
            go_quiet (fail)
            go_wp2
            go_ret
            exact ⟨ret_bool (HN.out (opdEq_no.1 hxy)).symm, below_dN (below_dN HB _) _⟩
        · go_wp2
          go_ret
          exact ⟨ret_bool (by rw [HY.out hs]; exact (decide_eq_true (by have h1 := HT.out; have h2 := HE.out; rwa [List.take_of_length_le (by omega), List.take_of_length_le (by omega)] at h1)).symm), below_dN HB _⟩
    · go_enter Tryz.func15, Tryz.ntmps15
      go_wp2
      go_ret
      exact ⟨ret_bool (HL.out hl).symm, HB⟩
  · have hs : (s.toList == t.toList) = false := by simpa using hs
    go_enter Tryz.func15, Tryz.ntmps15
    go_wp2
    go_ret
    exact ⟨ret_bool (HN.out hs).symm, HB⟩
end Go.Proofs.YtlepicdjnbbndaaGreatDoor

/-
  A row of bytes of the call's own; num.Upper. Conditions: the string's size.
-/
namespace Go.Proofs.YtlepicdjnbbndaaGreatDoor
open Go.RowKit

def up (c : UInt8) : UInt8 := if 97 ≤ c.toNat ∧ c.toNat ≤ 122 then c - 32 else c
theorem up_step {l : List UInt8} {k : Nat} {c : UInt8} (hk : k < l.length) (HT : l.take (k+1) = l.take k ++ [c]) (HD : l.drop k = c :: l.drop (k+1)) :
    ((l.take k).map up ++ l.drop k).set k (up c) = (l.take (k+1)).map up ++ l.drop (k+1) := by
  rw [HT, HD, List.set_append_right _ _ (by simp; omega)]
  simp [List.length_take, Nat.min_eq_left (Nat.le_of_lt hk)]
theorem up_keep {l : List UInt8} {k : Nat} {c : UInt8} (hc : up c = c) (HT : l.take (k+1) = l.take k ++ [c]) (HD : l.drop k = c :: l.drop (k+1)) :
    (l.take k).map up ++ l.drop k = (l.take (k+1)).map up ++ l.drop (k+1) := by
  rw [HT, HD]; simp [hc]
theorem up_yes {c : UInt8} (h1 : 97 ≤ c.toNat) (h2 : c.toNat ≤ 122) : ((up c).toNat : Int) = (c.toNat : Int) - 97 + 65 := by
  have : (up c).toNat = c.toNat - 32 := by
    unfold up
    rw [if_pos ⟨h1, h2⟩, UInt8.toNat_sub_of_le _ _ (by rw [UInt8.le_iff_toNat_le]; show 32 ≤ c.toNat; omega)]
    rfl
  omega
theorem up_no {c : UInt8} (h : ¬ (97 ≤ c.toNat ∧ c.toNat ≤ 122)) : up c = c := by unfold up; rw [if_neg h]
def upper (s : ByteArray) : ByteArray := ⟨(s.data.toList.map up).toArray⟩

set_option maxHeartbeats 600000 in
theorem Upper_any (s : ByteArray) (w : World) (hs : s.size ≤ 9223372036854775807) :
    Calls Tryz.prog 118 #[.string s] w fun e w' => e = .returned (.string (upper s)) ∧ Below w.heap.size w w' := by
  obtain ⟨cap, w0, hconv, hcap, hb, hsz, hrow⟩ := run_bytes w s
  have HSZ := Lib.hid hsz
  clear hsz
  generalize hl : s.data.toList = l at *
  have hlen : l.length = s.size := by rw [← hl]; simp
  have HL := Lib.hid hl
  have HLEN := Lib.hid hlen
  clear hl hlen
  go_enter Tryz.func118, Tryz.ntmps118
  go_wp2
  go_loopw [4, 5, 10] (fun _ _ i wr => ∃ k : Nat, k ≤ s.size ∧ i = .int .i64 k ∧ ByteRow wr w.heap.size ((l.take k).map up ++ l.drop k) ∧ Below w.heap.size w wr) (fun _ _ i _ => s.size - (intOf i).toNat)
  case atStart => exact ⟨0, Nat.zero_le _, rfl, by simpa using hrow, hb⟩
  case round =>
    clear hconv hrow hb
    obtain ⟨k, hk, rfl, hrow, hb⟩ := hrel
    by_cases hlt : k < s.size
    · have hlt' : k < l.length := by have := HLEN.out; omega
      have hc := hrow.cell k l[k] (by rw [List.getElem?_append_right (by simp; omega)]; simp [Nat.min_eq_left (Nat.le_of_lt hlt')])
      have hf := hrow.free k (by simp; omega)
      have HSET := Lib.hid (hrow.set k (up l[k]))
      have HROW := Lib.hid hrow
      have HT : Hid (l.take (k+1) = l.take k ++ [l[k]]) := List.take_succ_eq_append_getElem hlt'
      have HD : Hid (l.drop k = l[k] :: l.drop (k+1)) := List.drop_eq_getElem_cons hlt'
      clear hrow
      generalize l[k] = c at *
      have hc256 : c.toNat < 256 := c.toNat_lt
      by_cases h1 : 97 ≤ c.toNat
      · by_cases h2 : c.toNat ≤ 122
        · have HU := Lib.hid (up_yes h1 h2)
          go_wp2
          go_roundw
          case rel => exact ⟨k + 1, by omega, by go_num, by rw [← up_step hlt' HT.out HD.out, ← HU.out]; exact HSET.out, hb.setCell (p := ⟨w.heap.size, k, none⟩) (Nat.le_refl _) _⟩
          case measure => simp [intOf]; omega
        · go_wp2
          go_roundw
          case rel => exact ⟨k + 1, by omega, by go_num, by rw [← up_keep (up_no (by omega)) HT.out HD.out]; exact HROW.out, hb⟩
          case measure => simp [intOf]; omega
      · go_wp2
        go_roundw
        case rel => exact ⟨k + 1, by omega, by go_num, by rw [← up_keep (up_no (by omega)) HT.out HD.out]; exact HROW.out, hb⟩
        case measure => simp [intOf]; omega
    · have hk' : k = s.size := by omega
      have hfull : (l.take k).map up ++ l.drop k = l.map up := by
        have := HLEN.out
        rw [List.take_of_length_le (by omega), List.drop_of_length_le (by omega)]; simp
      rw [hfull] at hrow
      have hstr := run_string wr w.heap.size cap (l.map up) hrow
      rw [List.length_map, HLEN.out, ← HL.out] at hstr
      clear hfull hrow hk'
      go_wp2
      go_ret
      exact ⟨rfl, hb⟩
end Go.Proofs.YtlepicdjnbbndaaGreatDoor


/-
  slices.Clone at operands; instr.Make. Conditions: at most a million operands.
-/
namespace Go.Proofs.YtlepicdjnbbndaaGreatDoor
open Go.RowKit

theorem elOpd : ElT Tryz.prog 23 87 opdR.size 24 := ElT.mk' (z := .agg #[.int .i64 0, .int .i64 0, .int .i64 0]) Tryz.underlying23 (by kernel_rfl) rfl (by decide)
theorem Own.opd {w : World} {B : Nat} {e : TypeId} {p : Blocks} (q : Blocks) {v : Value} {xs : List Opd} (ho : Own opdR w B e p v xs) : Own opdR w B e q v xs := Own.flat q ho

set_option maxHeartbeats 400000 in
theorem CloneOpd_any (p : Blocks) (v : Value) (l : List Opd) (w : World) (h : SlR opdR w p v l) (hn : l.length ≤ 1000000) :
    Calls Tryz.prog 119 #[v] w fun e w' => ∃ v', e = .returned v' ∧ Own opdR w' w.heap.size 87 NoB v' l ∧ Below w.heap.size w w' := by
  have HN := Lib.hid hn
  clear hn
  obtain ⟨a, c, rfl, hc, hm, g⟩ := h.opd
  have HH := Lib.hid h
  clear h
  have heq := fun wx a n c => Lib.run_eql_slice_nil (P := Tryz.prog) wx 23 87 a n c 0 0 Tryz.underlying23
  cases a with
  | none =>
    obtain rfl : l = [] := by
      cases l with
      | nil => rfl
      | cons y ys => obtain ⟨b, o, ea, _⟩ := g 0 y rfl; cases ea
    clear g
    go_enter Tryz.func119, Tryz.ntmps119
    go_wp2
    go_ret
    exact ⟨_, rfl, Own.nil _ _ _ _ _, Below.refl _ _⟩
  | some ad =>
    clear g
    go_enter Tryz.func119, Tryz.ntmps119
    have HB : Below w.heap.size w (w.alloc (.cells #[] 87)) := (Below.refl _ _).alloc (Nat.le_refl _) _
    have HX : Hid (SlR opdR (w.alloc (.cells #[] 87)) (fun k => p k ∧ k < w.heap.size) (.slice (some ad) l.length c) l) := HH.out.old.below HB
    have HO : Hid (Own opdR (w.alloc (.cells #[] 87)) w.heap.size 87 NoB (.slice (some ⟨w.heap.size, 0, none⟩) 0 0) []) := Own.made w _ _
    have C2 : Hid (∀ k, p k ∧ k < w.heap.size → some k ≠ Value.ownBlock (.slice (some ⟨w.heap.size, 0, none⟩) 0 0)) := fun k hk e => by simp [Value.ownBlock] at e; omega
    have C3 : Hid (([] : List Opd).length + l.length ≤ 1000000) := by have := HN.out; simp; omega
    go_wp2_with (at_builtin; refine wpList_append_R _ rfl (.tmp 5) (.tmp 6) 23 rfl w.heap.size 87 24 elOpd NoB _ _ _ [] l rfl rfl HO.out HX.out (fun _ h => False.elim h) C2.out (by have := C3.out; omega) (by have := C3.out; omega) HB.size ?_; intro v' w' hap; have HAP := Lib.hid hap; clear hap)
    obtain ⟨ho, hg, _⟩ := HAP.out
    go_ret
    exact ⟨_, rfl, ho.opd NoB, HB.grown hg HB.size (fun k hk => by cases hk; exact Nat.le_refl _)⟩

set_option maxHeartbeats 400000 in
theorem Make_any (p : Blocks) (s : ByteArray) (v : Value) (l : List Opd) (w : World) (h : SlR opdR w p v l) (hn : l.length ≤ 1000000) (hs : s.size ≤ 9223372036854775807) :
    Calls Tryz.prog 70 #[.string s, v] w fun e w' => ∃ v', e = .returned (.agg #[.string (upper s), v']) ∧ Own opdR w' w.heap.size 87 NoB v' l ∧ Below w.heap.size w w' := by
  have HH := Lib.hid h
  have HN := Lib.hid hn
  clear h hn
  go_enter Tryz.func70, Tryz.ntmps70
  go_wp2_with fail
  refine (Upper_any _ _ hs).mono ?_
  rintro e w1 ⟨rfl, hb1⟩
  have HB1 := Lib.hid hb1
  clear hb1
  go_wp2_with fail
  have hl : SlR opdR w1 p v l := (HH.out.alloc _).below HB1.out
  refine (CloneOpd_any p _ _ _ hl HN.out).mono ?_
  rintro e w2 ⟨v', rfl, ho, hb2⟩
  have hk : Blk w2 w.heap.size 25 #[.string ⟨#[]⟩, .slice none 0 0] := ((Blk.new w _ _).below HB1.out (by simp)).below hb2 (by have := HB1.out.size; simp at this; omega)
  obtain ⟨c0, c1, f0, f1⟩ := hk.two
  obtain ⟨a', cap', rfl⟩ := ho.form
  have HK := Lib.hid ((hk.set 0 (.string (upper s))).set 1 (.slice a' l.length cap'))
  have HO := Lib.hid ho
  have HB2 := Lib.hid hb2
  clear ho hb2 hk hl
  go_wp2
  refine bodyPost_ret (results_cell_row rfl _ _ w.heap.size 25 #[.string (upper s), .slice a' l.length cap'] (0, 0) _ rfl HK.out Tryz.underlying25 rfl (by kernel_rfl)) rfl ⟨_, rfl, ?_, ?_⟩
  · have hsz := HB1.out.size
    simp at hsz
    refine (HO.out.keep fun k hk => ?_).base (by omega)
    have hk' : w1.heap.size ≤ k := hk.elim (fun h => False.elim h) (fun h => (HO.out.lt k h).1)
    rw [Below.heap_setCell _ _ _ _ (by simp; omega), Below.heap_setCell _ _ _ _ (by simp; omega)]
  · exact (((Below.refl _ w).alloc (Nat.le_refl _) _).trans ((HB1.out.mono (by simp)).trans (HB2.out.mono (by have := HB1.out.size; simp at this; omega)))).setCell (Nat.le_refl _) _ |>.setCell (Nat.le_refl _) _
end Go.Proofs.YtlepicdjnbbndaaGreatDoor

/-
  The width of an instruction: the reference's. Conditions: none.
-/
namespace Go.Proofs.YtlepicdjnbbndaaGreatDoor
open Go.RowKit



end Go.Proofs.YtlepicdjnbbndaaGreatDoor

/-
  canon.word: is a word in a list of words? Conditions: the library's table of white space as its initialiser lays it.
-/
namespace Go.Proofs.YtlepicdjnbbndaaGreatDoor
open Go.RowKit

/-- The library's table of white space. -/
def Spc (w : World) : Prop := Lib.TabIs Tryz.prog w "strings.asciiSpace" .u8 Lib.asciiSpaceTab
theorem Spc.below {w w' : World} (h : Spc w) (hb : Below w.heap.size w w') : Spc w' := by
  have hg : Tryz.prog.globalNamed "strings.asciiSpace" = some 1 := by kernel_rfl
  exact var?_below hb hg (World.block_lt_of_cell? w _ (h.cell hg 0 (by rw [Lib.asciiSpaceTab_length]; decide))) h

/-- The words of a text. -/
def fieldsOf (c : ByteArray) : List ByteArray := (Lib.fields c.data.toList).map fun l => ⟨l.toArray⟩

end Go.Proofs.YtlepicdjnbbndaaGreatDoor
