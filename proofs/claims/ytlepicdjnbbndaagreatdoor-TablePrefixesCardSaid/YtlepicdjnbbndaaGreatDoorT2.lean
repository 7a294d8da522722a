/-
  table.texts, fits, lookup. Conditions: sizes.
-/
import Derived.Test.YtlepicdjnbbndaaGreatDoorT1
namespace Go.Proofs.YtlepicdjnbbndaaGreatDoor
open Go.RowKit Go.Shelf
attribute [local go_sem] Oper.semAt_some

/-- the texts between semicolons -/
def splitC : List UInt8 → List (List UInt8)
  | [] => [[]]
  | c :: r => if c = 59 then [] :: splitC r else match splitC r with | [] => [[c]] | x :: L => (c :: x) :: L
theorem splitC_line : ∀ (x r : List UInt8), (∀ c ∈ x, c ≠ 59) → splitC (x ++ 59 :: r) = x :: splitC r
  | [], r, _ => by show splitC (59 :: r) = _; rw [splitC, if_pos rfl]
  | c :: x, r, h => by
    show splitC (c :: (x ++ 59 :: r)) = _
    rw [splitC, if_neg (h c (by simp)), splitC_line x r (fun z hz => h z (by simp [hz]))]
theorem splitC_last : ∀ (x : List UInt8), (∀ c ∈ x, c ≠ 59) → splitC x = [x]
  | [], _ => rfl
  | c :: x, h => by rw [splitC, if_neg (h c (by simp)), splitC_last x (fun z hz => h z (by simp [hz]))]
theorem cut_split (s : List UInt8) : ((Lib.cut s [59]).2.2 = true ∧ splitC s = (Lib.cut s [59]).1 :: splitC (Lib.cut s [59]).2.1 ∧ (Lib.cut s [59]).2.1.length < s.length) ∨ ((Lib.cut s [59]).2.2 = false ∧ splitC s = [(Lib.cut s [59]).1] ∧ (Lib.cut s [59]).2.1 = []) := by
  unfold Lib.cut
  rw [Lib.index_one]
  by_cases h : 0 ≤ Lib.indexByte s 59
  · rw [if_pos h]
    left
    obtain ⟨o, ho⟩ : ∃ o : Nat, Lib.indexByte s 59 = o := ⟨_, (Int.toNat_of_nonneg h).symm⟩
    obtain ⟨h1, h2⟩ := Lib.indexByte_some ho
    have hlt : o < s.length := (List.getElem?_eq_some_iff.1 h1).1
    rw [ho]
    have hto : ((o : Nat) : Int).toNat = o := rfl
    rw [hto]
    refine ⟨rfl, ?_, by simp; omega⟩
    have hs : s = s.take o ++ 59 :: s.drop (o + 1) := by
      have h3 : s.drop o = 59 :: s.drop (o + 1) := by
        rw [List.drop_eq_getElem_cons hlt]
        congr 1
        exact (List.getElem?_eq_some_iff.1 h1).2
      rw [← h3, List.take_append_drop]
    have h4 := splitC_line (s.take o) (s.drop (o + 1)) (fun c hc e => by
      obtain ⟨k, hk⟩ := List.mem_iff_getElem?.1 hc
      have hk2 : k < o := by have := (List.getElem?_eq_some_iff.1 hk).1; simp at this; omega
      rw [List.getElem?_take_of_lt hk2] at hk
      exact h2 k hk2 (by rw [hk, e]))
    rw [← hs] at h4
    exact h4
  · rw [if_neg h]
    right
    refine ⟨rfl, ?_, rfl⟩
    have h1 : Lib.indexByte s 59 = -1 := by have := Lib.indexByte_ge s 59; omega
    exact splitC_last s (fun c hc e => by
      obtain ⟨k, hk⟩ := List.mem_iff_getElem?.1 hc
      exact Lib.indexByte_none h1 k (by rw [hk, e]))
theorem cut_fst (s : List UInt8) : (Lib.cut s [59]).1.length ≤ s.length := by
  unfold Lib.cut
  split
  · show (s.take _).length ≤ _; rw [List.length_take]; exact Nat.min_le_right _ _
  · exact Nat.le_refl _
theorem texts_any (s : ByteArray) (w : World) :
    Calls Tryz.prog 114 #[.string s] w fun e w' => e = .returned (.func (.func 158) #[] #[.pointer (some ⟨w.heap.size, 0, none⟩)]) ∧ w' = w.alloc (.cells #[.string s] 9) := by
  have hmf : ∀ (fn : Fn) (first cap : Array Value) (w : World), (Instr.makeFunc fn first cap).run Tryz.prog w = .ok (.func fn first cap) w := fun _ _ _ _ => rfl
  go_enter Tryz.func114, Tryz.ntmps114
  go_wp2
  go_ret
  exact ⟨rfl, rfl⟩
/-- the length of the string in a box -/
def boxLen (bx : Nat) (w : World) : Nat := match w.cell? ⟨bx, 0, none⟩ with | some (.string s) => s.size | _ => 0
theorem boxLen_of {bx : Nat} {w : World} {s : ByteArray} (h : w.cell? ⟨bx, 0, none⟩ = some (.string s)) : boxLen bx w = s.size := by unfold boxLen; rw [h]
def moreN : Value → Nat | .bool true => 1 | _ => 0
theorem grown_box (w : World) (n bx : Nat) (v : Value) : w.grownBy ((w.drewN n).setCell ⟨bx, 0, none⟩ v) (some bx) :=
  ⟨rfl, rfl, rfl, by rw [World.size_setCell]; exact Nat.le_refl _, fun k _ hk => Below.heap_setCell _ _ _ _ (fun e => hk (by rw [e]))⟩
abbrev SL := { x : List UInt8 // x.length ≤ 1000000 }
def encS (x : SL) : Array Value := #[.string ⟨x.1.toArray⟩]
abbrev vals (L : List SL) : List (List UInt8) := L.map (·.1)
set_option maxHeartbeats 4000000 in
set_option maxRecDepth 100000 in
theorem texts_seq (bx : Nat) (s : ByteArray) (w : World) (hB : Blk w bx 9 #[.string s]) (hs : s.size ≤ 1000000) :
    BoxSeq Fence.wide 8 Tryz.prog 158 #[.pointer (some ⟨bx, 0, none⟩)] encS bx (fun xs => vals xs = splitC s.data.toList) (fun pre => vals pre <+: splitC s.data.toList) w := by
  intro l J Jx W hW hJ hJx hY h0
  have hB' := hB.below hW hB.lt
  have HJ := Lib.hid hJ
  have HJx := Lib.hid hJx
  have HY := Lib.hid hY
  have H0 := Lib.hid h0
  have HBW := Lib.hid hB'
  have HSZ := Lib.hid hs
  clear hB hW hJ hJx hY h0 hB' hs
  refine callsIn_of_wp Tryz.func158 rfl trivial ?_ rfl
  simp only [Tryz.ntmps158, List.size_toArray, List.length_cons, List.length_nil, Nat.reduceAdd, Nat.reduceSub, Array.replicate_succ, Array.replicate_zero, List.push_toArray, List.append_toArray, List.nil_append, List.cons_append]
  gi_wp2
  gi_loopw [3] (fun m wr => ∃ (more : Bool) (rest : ByteArray) (pre : List SL), m = .bool more ∧ Blk wr bx 9 #[.string rest] ∧ rest.size ≤ 1000000 ∧ J pre wr ∧ (more = true → splitC s.data.toList = vals pre ++ splitC rest.data.toList) ∧ (more = false → splitC s.data.toList = vals pre ∧ rest.size = 0)) (fun m wr => boxLen bx wr + moreN m)
  case atStart => exact ⟨true, s, [], rfl, HBW.out, HSZ.out, H0.out, fun _ => rfl, fun h => by cases h⟩
  case round =>
    obtain ⟨more, rest, pre, rfl, hb, hr, hj, h1, h2⟩ := hrel
    have c1 := hb.cell 0
    cases more
    · have HE := Lib.hid (h2 rfl).1
      have HJ2 := Lib.hid hj
      clear h1 h2 hj hb
      gi_wp2
      go_end0
      exact ⟨⟨_, rfl⟩, .inl ⟨pre, HE.out.symm, HJ2.out⟩⟩
    · have HE := Lib.hid (h1 rfl)
      have HJ2 := Lib.hid hj
      have HBR := Lib.hid hb
      have hbl := boxLen_of c1
      have HCU := Lib.hid (Cut_any rest 59 wr hr)
      have HCS := Lib.hid (cut_split rest.data.toList)
      have HRS : Hid (rest.data.toList.length = rest.size) := by show _ = _; simp
      clear h1 h2 hj hb
      have hxl : (Lib.cut rest.data.toList [59]).1.length ≤ 1000000 := Nat.le_trans (cut_fst _) (by rw [HRS.out]; exact hr)
      generalize Lib.cut rest.data.toList [59] = q at *
      obtain ⟨x, y, z⟩ := q
      have hxl : x.length ≤ 1000000 := hxl
      gi_wp2_with (refine ⟨trivial, ?_⟩; gi_at_call 115; refine (callsIn_wide.2 HCU.out).mono ?_; rintro e w2 ⟨rfl, nq, rfl⟩; have hb2 := HBR.out.below (below_dN (Below.refl wr.heap.size _) nq) HBR.out.lt; have c2 := hb2.cell 0; have g2 := hb2.free 0; have HB3 := Lib.hid (hb2.set 0 (.string ⟨y.toArray⟩)); obtain ⟨fn, tmps, assign, body, hy, hR⟩ := HY.out pre ⟨x, hxl⟩ _ (HJ.out _ _ _ _ HJ2.out (grown_box wr nq bx (.string ⟨y.toArray⟩)) (fun r e => by injection e with e; exact e.symm)); dsimp only [encS] at hy; have HR := Lib.hid hR; clear hR hb2)
      refine HR.out.mono ?_
      rintro e W' (⟨rfl, hj3, hk3⟩ | ⟨rfl, hjx3⟩)
      · have hb4 : Blk W' bx 9 #[.string ⟨y.toArray⟩] := hk3.trans HB3.out
        have HB4 := Lib.hid hb4
        have HJ3 := Lib.hid hj3
        have hbl4 := boxLen_of (hb4.cell 0)
        have hys : (⟨y.toArray⟩ : ByteArray).size = y.length := List.size_toArray
        clear hj3 hk3 hb4 hy c1 c2 g2
        gi_wp2
        go_roundw
        case rel =>
          refine ⟨z, ⟨y.toArray⟩, pre ++ [⟨x, hxl⟩], rfl, HB4.out, ?_, HJ3.out, ?_, ?_⟩
          · rw [hys]
            have h3 := HRS.out
            rcases HCS.out with ⟨_, _, h⟩ | ⟨_, _, h⟩
            · omega
            · rw [h]; exact Nat.zero_le _
          · intro hz
            rcases HCS.out with ⟨_, h, _⟩ | ⟨h, _, _⟩
            · rw [HE.out, h]; simp [vals]
            · rw [hz] at h; cases h
          · intro hz
            rcases HCS.out with ⟨h, _, _⟩ | ⟨_, h, h2⟩
            · rw [hz] at h; cases h
            · rw [HE.out, h, hys, h2]; exact ⟨by simp [vals], rfl⟩
        case measure =>
          rw [hbl4, hbl, hys]
          have h3 := HRS.out
          rcases HCS.out with ⟨h1, _, h⟩ | ⟨h1, _, h⟩
          · rw [h1]
            show y.length + 1 < rest.size + 1
            omega
          · rw [h1, h]
            show 0 + 0 < rest.size + 1
            omega
      · have HJ3 := Lib.hid hjx3
        have HP : Hid (vals (pre ++ [⟨x, hxl⟩]) <+: splitC s.data.toList) := by
          show _ <+: _
          rcases HCS.out with ⟨_, h, _⟩ | ⟨_, h, _⟩
          · rw [HE.out, h]
            exact ⟨splitC y, by simp [vals]⟩
          · rw [HE.out, h]
            exact ⟨[], by simp [vals]⟩
        clear hjx3 hy c1 c2 g2
        gi_wp2
        refine bodyPost_ret (results_none rfl _ _ _) rfl ?_
        exact ⟨⟨_, rfl⟩, .inr ⟨pre ++ [⟨x, hxl⟩], HP.out, HJ3.out⟩⟩
end Go.Proofs.YtlepicdjnbbndaaGreatDoor
