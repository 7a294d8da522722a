/-
  flow.Kind and flow.Sometimes. Conditions: the library's table as its initialiser lays it; a short instruction.
-/
import Derived.Test.YtmpmciccgempeaaGreatDoorF1
namespace Go.Proofs.YtmpmciccgempeaaGreatDoor
open Go.RowKit Go.Shelf Go.Sort

/-- the kind of an operation's effect; does it jump to an operand in brackets? -/
def kndL (s : List UInt8) (ind : Bool) : Int :=
  if (s == [74, 80]) = true then (if ind = true then 4 else 1)
  else if ((s == [74, 82]) || (s == [68, 74, 78, 90])) = true then 1
  else if ((s == [67, 65, 76, 76]) || (s == [82, 83, 84])) = true then 2
  else if ((s == [82, 69, 84]) || ((s == [82, 69, 84, 73]) || (s == [82, 69, 84, 78]))) = true then 3
  else if (s == [72, 65, 76, 84]) = true then 4 else 0
def kndF (s : ByteArray) (ind : Bool) : Int := kndL s.toList ind
def KindF (x : Ins) : Int := kndF (legC x).op (ofK (legC x).args 4).isSome
def SomF (x : Ins) : Bool := (ofK (legC x).args 8).isSome || ((legC x).op.toList == [68, 74, 78, 90])
set_option maxHeartbeats 8000000 in
set_option maxRecDepth 100000 in
theorem Kind_any (x : Ins) (m : CV x) (p : aB) (v : Value) (w : World) (h : SlR aM w p v x.args) (hT : Spc w) :
    Calls Tryz.prog 17 #[.agg #[.string x.op, v]] w fun e w' => e = .returned (.int .i64 (KindF x)) ∧ Below w.heap.size w w' := by
  have HL := aA (fun W (hb : RowKit.Below w.heap.size w W) => legal_any x m p v W (h.below hb) (hT.below hb))
  have HO := aA (fun q v W h => ofK_any (legC x) 4 q v W h)
  have HG : Hid (KindF x = kndF (legC x).op (ofK (legC x).args 4).isSome) := aA rfl
  obtain ⟨a, c, rfl⟩ : ∃ a c, v = .slice a x.args.length c := by obtain ⟨a, c, e, _⟩ := h; exact ⟨a, c, e⟩
  have HF0 := aA ((Fr.start w).new 24 #[.string x.op, .slice a x.args.length c])
  unfold OfV at HO
  generalize KindF x = K at *
  generalize ofK (legC x).args 4 = r at *
  generalize r.getD ⟨0, 0, 0⟩ = z at *
  generalize r.isSome = B at *
  generalize legC x = G at *
  obtain ⟨s, l⟩ := G
  obtain ⟨z1, z2, z3⟩ := z
  dsimp only at *
  obtain ⟨W0, hW0⟩ : ∃ W : World, W = w.alloc (.cells #[.string x.op, .slice a x.args.length c] 24) := ⟨_, rfl⟩
  rw [← hW0] at HF0
  clear h hT m
  go_enter Tryz.func17, Tryz.ntmps17
  go_upto_region 1 with fail
  rw [← hW0]
  clear hW0
  obtain ⟨e0, e1⟩ := (HF0.out.blk 0 rfl).pair
  go_upto_region 2 with (go_at_call 67; (with_reducible refine (HL.out _ HF0.out.below).mono ?_); rintro e w1 ⟨⟨va, vc, rfl, h1⟩, hb⟩; have HS := aA (h1.alloc (.cells #[.string s, .slice va l.length vc] 24)); have HF1 := aA ((HF0.out.next hb).new' 24 #[.string s, .slice va l.length vc] (b := w1.heap.size) rfl); clear hb h1 e0 e1)
  obtain ⟨W1, hW1⟩ : ∃ W : World, W = w1.alloc (.cells #[.string s, .slice va l.length vc] 24) := ⟨_, rfl⟩
  rw [← hW1] at HF1 HS ⊢
  clear hW1
  generalize w1.heap.size = g1 at *
  obtain ⟨e0, e1⟩ := (HF1.out.blk 0 rfl).pair
  go_upto_region 3 with (go_at_call 68; (with_reducible refine (HO.out _ _ _ HS.out).mono ?_); rintro e w2 ⟨rfl, hb⟩; have HF2 := aA ((HF1.out.next hb).alloc (.cells #[.int .i64 z1, .int .i64 z2, .int .i64 z3] 90)); clear hb e0 e1)
  obtain ⟨W2, hW2⟩ : ∃ W : World, W = w2.alloc (.cells #[.int .i64 z1, .int .i64 z2, .int .i64 z3] 90) := ⟨_, rfl⟩
  rw [← hW2] at HF2 ⊢
  clear hW2
  obtain ⟨e0, e1⟩ := (HF2.out.blk 0 rfl).pair
  clear HL HO HF0 HF1 HS
  unfold kndF kndL at HG
  cases h1 : (s.toList == [74, 80])
  · cases h2 : (s.toList == [74, 82])
    · cases h3 : (s.toList == [68, 74, 78, 90])
      · cases h4 : (s.toList == [67, 65, 76, 76])
        · cases h5 : (s.toList == [82, 83, 84])
          · cases h6 : (s.toList == [82, 69, 84])
            · cases h7 : (s.toList == [82, 69, 84, 73])
              · cases h8 : (s.toList == [82, 69, 84, 78])
                · cases h9 : (s.toList == [72, 65, 76, 84])
                  · have hK : K = 0 := by have := HG.out; rw [h1, h2, h3, h4, h5, h6, h7, h8, h9] at this; exact this
                    subst hK
                    go_wp2
                    go_ret
                    exact ⟨rfl, HF2.out.below⟩
                  · have hK : K = 4 := by have := HG.out; rw [h1, h2, h3, h4, h5, h6, h7, h8, h9] at this; exact this
                    subst hK
                    go_wp2
                    go_ret
                    exact ⟨rfl, HF2.out.below⟩
                · have hK : K = 3 := by have := HG.out; rw [h1, h2, h3, h4, h5, h6, h7, h8] at this; exact this
                  subst hK
                  go_wp2
                  go_ret
                  exact ⟨rfl, HF2.out.below⟩
              · have hK : K = 3 := by have := HG.out; rw [h1, h2, h3, h4, h5, h6, h7] at this; exact this
                subst hK
                go_wp2
                go_ret
                exact ⟨rfl, HF2.out.below⟩
            · have hK : K = 3 := by have := HG.out; rw [h1, h2, h3, h4, h5, h6] at this; exact this
              subst hK
              go_wp2
              go_ret
              exact ⟨rfl, HF2.out.below⟩
          · have hK : K = 2 := by have := HG.out; rw [h1, h2, h3, h4, h5] at this; exact this
            subst hK
            go_wp2
            go_ret
            exact ⟨rfl, HF2.out.below⟩
        · have hK : K = 2 := by have := HG.out; rw [h1, h2, h3, h4] at this; exact this
          subst hK
          go_wp2
          go_ret
          exact ⟨rfl, HF2.out.below⟩
      · have hK : K = 1 := by have := HG.out; rw [h1, h2, h3] at this; exact this
        subst hK
        go_wp2
        go_ret
        exact ⟨rfl, HF2.out.below⟩
    · have hK : K = 1 := by have := HG.out; rw [h1, h2] at this; exact this
      subst hK
      go_wp2
      go_ret
      exact ⟨rfl, HF2.out.below⟩
  · cases B
    · have hK : K = 1 := by have := HG.out; rw [h1] at this; exact this
      subst hK
      go_wp2
      go_ret
      exact ⟨rfl, HF2.out.below⟩
    · have hK : K = 4 := by have := HG.out; rw [h1] at this; exact this
      subst hK
      go_wp2
      go_ret
      exact ⟨rfl, HF2.out.below⟩
set_option maxHeartbeats 4000000 in
set_option maxRecDepth 100000 in
theorem Som_any (x : Ins) (m : CV x) (p : aB) (v : Value) (w : World) (h : SlR aM w p v x.args) (hT : Spc w) :
    Calls Tryz.prog 19 #[.agg #[.string x.op, v]] w fun e w' => e = .returned (.bool (SomF x)) ∧ Below w.heap.size w w' := by
  have HL := aA (fun W (hb : RowKit.Below w.heap.size w W) => legal_any x m p v W (h.below hb) (hT.below hb))
  have HO := aA (fun q v W h => ofK_any (legC x) 8 q v W h)
  have HG : Hid (SomF x = ((ofK (legC x).args 8).isSome || ((legC x).op.toList == [68, 74, 78, 90]))) := aA rfl
  obtain ⟨a, c, rfl⟩ : ∃ a c, v = .slice a x.args.length c := by obtain ⟨a, c, e, _⟩ := h; exact ⟨a, c, e⟩
  have HF0 := aA ((Fr.start w).new 24 #[.string x.op, .slice a x.args.length c])
  unfold OfV at HO
  generalize SomF x = K at *
  generalize ofK (legC x).args 8 = r at *
  generalize r.getD ⟨0, 0, 0⟩ = z at *
  generalize r.isSome = B at *
  generalize legC x = G at *
  obtain ⟨s, l⟩ := G
  obtain ⟨z1, z2, z3⟩ := z
  dsimp only at *
  obtain ⟨W0, hW0⟩ : ∃ W : World, W = w.alloc (.cells #[.string x.op, .slice a x.args.length c] 24) := ⟨_, rfl⟩
  rw [← hW0] at HF0
  clear h hT m
  go_enter Tryz.func19, Tryz.ntmps19
  go_upto_region 1 with fail
  rw [← hW0]
  clear hW0
  obtain ⟨e0, e1⟩ := (HF0.out.blk 0 rfl).pair
  go_upto_region 2 with (go_at_call 67; (with_reducible refine (HL.out _ HF0.out.below).mono ?_); rintro e w1 ⟨⟨va, vc, rfl, h1⟩, hb⟩; have HS := aA (h1.alloc (.cells #[.string s, .slice va l.length vc] 24)); have HF1 := aA ((HF0.out.next hb).new' 24 #[.string s, .slice va l.length vc] (b := w1.heap.size) rfl); clear hb h1 e0 e1)
  obtain ⟨W1, hW1⟩ : ∃ W : World, W = w1.alloc (.cells #[.string s, .slice va l.length vc] 24) := ⟨_, rfl⟩
  rw [← hW1] at HF1 HS ⊢
  clear hW1
  generalize w1.heap.size = g1 at *
  obtain ⟨e0, e1⟩ := (HF1.out.blk 0 rfl).pair
  go_upto_region 3 with (go_at_call 68; (with_reducible refine (HO.out _ _ _ HS.out).mono ?_); rintro e w2 ⟨rfl, hb⟩; have HF2 := aA ((HF1.out.next hb).alloc (.cells #[.int .i64 z1, .int .i64 z2, .int .i64 z3] 90)); clear hb e0 e1)
  obtain ⟨W2, hW2⟩ : ∃ W : World, W = w2.alloc (.cells #[.int .i64 z1, .int .i64 z2, .int .i64 z3] 90) := ⟨_, rfl⟩
  rw [← hW2] at HF2 ⊢
  clear hW2
  obtain ⟨e0, e1⟩ := (HF2.out.blk 0 rfl).pair
  clear HL HO HF0 HF1 HS
  cases B
  · cases h3 : (s.toList == [68, 74, 78, 90])
    all_goals
      have hK := HG.out
      rw [h3] at hK
      try dsimp only [Bool.or_self, Bool.false_or] at hK
      subst hK
      go_wp2
      go_ret
      exact ⟨rfl, HF2.out.below⟩
  · have hK := HG.out
    rw [Bool.true_or] at hK
    subst hK
    go_wp2
    go_ret
    exact ⟨rfl, HF2.out.below⟩
end Go.Proofs.YtmpmciccgempeaaGreatDoor
