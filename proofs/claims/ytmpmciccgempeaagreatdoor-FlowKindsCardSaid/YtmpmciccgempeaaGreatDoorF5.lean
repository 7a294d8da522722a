/-
  breadboardref14.Kind, Sometimes, Target. Conditions: a short instruction.
-/
import Derived.Test.YtmpmciccgempeaaGreatDoorF4
namespace Go.Proofs.YtmpmciccgempeaaGreatDoor
open Go.RowKit Go.Shelf Go.Sort

def kndR (s : List UInt8) (imm : Bool) : Int :=
  if ((s == [74, 82]) || (s == [68, 74, 78, 90])) = true then 1
  else if (s == [74, 80]) = true then (if imm = true then 1 else 4)
  else if ((s == [67, 65, 76, 76]) || (s == [82, 83, 84])) = true then 2
  else if ((s == [82, 69, 84]) || ((s == [82, 69, 84, 73]) || (s == [82, 69, 84, 78]))) = true then 3
  else if (s == [72, 65, 76, 84]) = true then 4 else 0
def KindR (x : Ins) : Int := if (cQ x).2 = 0 then kndR x.op.toList (argR x 6).isSome else 0
def SomR (x : Ins) : Bool := ((cQ x).2 == 0) && ((argR x 8).isSome || (x.op.toList == [68, 74, 78, 90]))
def tgtR (addr : Int) (x : Ins) : Int := match argR x 10 with
  | some o => (addr + 2 + o.n + 65536) % 65536
  | none => ((argR x 6).getD ⟨0, 0, 0⟩).n
def TgtR (addr : Int) (x : Ins) : Int := if (0 ≤ addr ∧ addr ≤ 65535) ∧ (KindR x = 1 ∨ KindR x = 2) then tgtR addr x else -1
set_option maxHeartbeats 8000000 in
set_option maxRecDepth 100000 in
theorem Kind14_any (x : Ins) (m : CV x) (p : aB) (v : Value) (w : World) (h : SlR aM w p v x.args) :
    Calls Tryz.prog 18 #[.agg #[.string x.op, v]] w fun e w' => e = .returned (.int .i64 (KindR x)) ∧ Below w.heap.size w w' := by
  have HCD := aA (fun W (hb : RowKit.Below w.heap.size w W) => code14_any x m p v W (h.below hb))
  have HA := aA (fun W (hb : RowKit.Below w.heap.size w W) => arg14_any x m 6 p v W (h.below hb))
  have HG : Hid (KindR x = if (cQ x).2 = 0 then kndR x.op.toList (argR x 6).isSome else 0) := aA rfl
  obtain ⟨a, c, rfl⟩ : ∃ a c, v = .slice a x.args.length c := by obtain ⟨a, c, e, _⟩ := h; exact ⟨a, c, e⟩
  have HF0 := aA ((Fr.start w).new 24 #[.string x.op, .slice a x.args.length c])
  unfold OfV at HA
  generalize KindR x = K at *
  generalize argR x 6 = r at *
  generalize r.getD ⟨0, 0, 0⟩ = y at *
  generalize r.isSome = B at *
  generalize (cQ x).2 = cd at *
  obtain ⟨y1, y2, y3⟩ := y
  obtain ⟨s, l⟩ := x
  dsimp only at *
  obtain ⟨W0, hW0⟩ : ∃ W : World, W = w.alloc (.cells #[.string s, .slice a l.length c] 24) := ⟨_, rfl⟩
  rw [← hW0] at HF0
  clear h m
  by_cases hcd : cd = 0
  · subst hcd
    have hG := HG.out
    rw [if_pos rfl] at hG
    unfold kndR at hG
    clear HG
    go_enter Tryz.func18, Tryz.ntmps18
    go_upto_region 1 with fail
    rw [← hW0]
    clear hW0
    obtain ⟨e0, e1⟩ := (HF0.out.blk 0 rfl).pair
    go_upto_region 5 with (go_at_call 48; (with_reducible refine (HCD.out _ HF0.out.below).mono ?_); rintro e w1 ⟨⟨z0, z1, z2, z3, z4, z5, z6, z7, rfl⟩, hb⟩; have HF1 := aA ((HF0.out.next hb).alloc (.cells #[.int .i64 z0, .int .u8 z1, .string z2, .slice z3 z4 z5, .string z6, .bool z7] 72)); clear hb e0 e1; obtain ⟨e0, e1⟩ := (HF1.out.blk 0 rfl).pair)
    cases h0 : (s.toList == [74, 82])
    · cases h1 : (s.toList == [68, 74, 78, 90])
      · cases h2 : (s.toList == [74, 80])
        · cases h3 : (s.toList == [67, 65, 76, 76])
          · cases h4 : (s.toList == [82, 83, 84])
            · cases h5 : (s.toList == [82, 69, 84])
              · cases h6 : (s.toList == [82, 69, 84, 73])
                · cases h7 : (s.toList == [82, 69, 84, 78])
                  · cases h8 : (s.toList == [72, 65, 76, 84])
                    · have hK : K = 0 := by rw [h0, h1, h2, h3, h4, h5, h6, h7, h8] at hG; exact hG
                      subst hK
                      go_wp2
                      go_ret
                      exact ⟨rfl, HF1.out.below⟩
                    · have hK : K = 4 := by rw [h0, h1, h2, h3, h4, h5, h6, h7, h8] at hG; exact hG
                      subst hK
                      go_wp2
                      go_ret
                      exact ⟨rfl, HF1.out.below⟩
                  · have hK : K = 3 := by rw [h0, h1, h2, h3, h4, h5, h6, h7] at hG; exact hG
                    subst hK
                    go_wp2
                    go_ret
                    exact ⟨rfl, HF1.out.below⟩
                · have hK : K = 3 := by rw [h0, h1, h2, h3, h4, h5, h6] at hG; exact hG
                  subst hK
                  go_wp2
                  go_ret
                  exact ⟨rfl, HF1.out.below⟩
              · have hK : K = 3 := by rw [h0, h1, h2, h3, h4, h5] at hG; exact hG
                subst hK
                go_wp2
                go_ret
                exact ⟨rfl, HF1.out.below⟩
            · have hK : K = 2 := by rw [h0, h1, h2, h3, h4] at hG; exact hG
              subst hK
              go_wp2
              go_ret
              exact ⟨rfl, HF1.out.below⟩
          · have hK : K = 2 := by rw [h0, h1, h2, h3] at hG; exact hG
            subst hK
            go_wp2
            go_ret
            exact ⟨rfl, HF1.out.below⟩
        · cases B
          · have hK : K = 4 := by rw [h0, h1, h2] at hG; exact hG
            subst hK
            go_wp2_with (go_at_call 69; (with_reducible refine (HA.out _ HF1.out.below).mono ?_); rintro e w2 ⟨rfl, hb⟩; have HF2 := aA ((HF1.out.next hb).alloc (.cells #[.int .i64 y1, .int .i64 y2, .int .i64 y3] 90)); clear hb e0 e1; obtain ⟨e0, e1⟩ := (HF2.out.blk 0 rfl).pair)
            go_ret
            exact ⟨rfl, HF2.out.below⟩
          · have hK : K = 1 := by rw [h0, h1, h2] at hG; exact hG
            subst hK
            go_wp2_with (go_at_call 69; (with_reducible refine (HA.out _ HF1.out.below).mono ?_); rintro e w2 ⟨rfl, hb⟩; have HF2 := aA ((HF1.out.next hb).alloc (.cells #[.int .i64 y1, .int .i64 y2, .int .i64 y3] 90)); clear hb e0 e1; obtain ⟨e0, e1⟩ := (HF2.out.blk 0 rfl).pair)
            go_ret
            exact ⟨rfl, HF2.out.below⟩
      · have hK : K = 1 := by rw [h0, h1] at hG; exact hG
        subst hK
        go_wp2
        go_ret
        exact ⟨rfl, HF1.out.below⟩
    · have hK : K = 1 := by rw [h0] at hG; exact hG
      subst hK
      go_wp2
      go_ret
      exact ⟨rfl, HF1.out.below⟩
  · have hG := HG.out
    rw [if_neg hcd] at hG
    subst hG
    go_enter Tryz.func18, Tryz.ntmps18
    go_upto_region 1 with fail
    rw [← hW0]
    clear hW0
    obtain ⟨e0, e1⟩ := (HF0.out.blk 0 rfl).pair
    go_wp2_with (go_at_call 48; (with_reducible refine (HCD.out _ HF0.out.below).mono ?_); rintro e w1 ⟨⟨z0, z1, z2, z3, z4, z5, z6, z7, rfl⟩, hb⟩; have HF1 := aA ((HF0.out.next hb).alloc (.cells #[.int .i64 z0, .int .u8 z1, .string z2, .slice z3 z4 z5, .string z6, .bool z7] 72)); clear hb e0 e1; obtain ⟨e0, e1⟩ := (HF1.out.blk 0 rfl).pair)
    go_ret
    exact ⟨rfl, HF1.out.below⟩
set_option maxHeartbeats 8000000 in
set_option maxRecDepth 100000 in
theorem Som14_any (x : Ins) (m : CV x) (p : aB) (v : Value) (w : World) (h : SlR aM w p v x.args) :
    Calls Tryz.prog 20 #[.agg #[.string x.op, v]] w fun e w' => e = .returned (.bool (SomR x)) ∧ Below w.heap.size w w' := by
  have HCD := aA (fun W (hb : RowKit.Below w.heap.size w W) => code14_any x m p v W (h.below hb))
  have HA := aA (fun W (hb : RowKit.Below w.heap.size w W) => arg14_any x m 8 p v W (h.below hb))
  have HG : Hid (SomR x = (((cQ x).2 == 0) && ((argR x 8).isSome || (x.op.toList == [68, 74, 78, 90])))) := aA rfl
  obtain ⟨a, c, rfl⟩ : ∃ a c, v = .slice a x.args.length c := by obtain ⟨a, c, e, _⟩ := h; exact ⟨a, c, e⟩
  have HF0 := aA ((Fr.start w).new 24 #[.string x.op, .slice a x.args.length c])
  unfold OfV at HA
  generalize SomR x = K at *
  generalize argR x 8 = r at *
  generalize r.getD ⟨0, 0, 0⟩ = y at *
  generalize r.isSome = B at *
  generalize (cQ x).2 = cd at *
  obtain ⟨y1, y2, y3⟩ := y
  obtain ⟨s, l⟩ := x
  dsimp only at *
  obtain ⟨W0, hW0⟩ : ∃ W : World, W = w.alloc (.cells #[.string s, .slice a l.length c] 24) := ⟨_, rfl⟩
  rw [← hW0] at HF0
  clear h m
  go_enter Tryz.func20, Tryz.ntmps20
  go_upto_region 1 with fail
  rw [← hW0]
  clear hW0
  obtain ⟨e0, e1⟩ := (HF0.out.blk 0 rfl).pair
  go_upto_region 3 with (first
    | (go_at_call 48; (with_reducible refine (HCD.out _ HF0.out.below).mono ?_); rintro e w1 ⟨⟨z0, z1, z2, z3, z4, z5, z6, z7, rfl⟩, hb⟩; have HF1 := aA ((HF0.out.next hb).alloc (.cells #[.int .i64 z0, .int .u8 z1, .string z2, .slice z3 z4 z5, .string z6, .bool z7] 72)); clear hb e0 e1; obtain ⟨e0, e1⟩ := (HF1.out.blk 0 rfl).pair)
    | (go_at_call 69; (with_reducible refine (HA.out _ HF1.out.below).mono ?_); rintro e w2 ⟨rfl, hb⟩; have HF2 := aA ((HF1.out.next hb).alloc (.cells #[.int .i64 y1, .int .i64 y2, .int .i64 y3] 90)); clear hb e0 e1; obtain ⟨e0, e1⟩ := (HF2.out.blk 0 rfl).pair))
  have hG := HG.out
  clear HG
  cases hc : (cd == 0)
  · rw [hc, Bool.false_and] at hG
    subst hG
    go_wp2
    go_ret
    exact ⟨rfl, HF2.out.below⟩
  · rw [hc, Bool.true_and] at hG
    cases B
    · cases h3 : (s.toList == [68, 74, 78, 90])
      all_goals
        rw [h3] at hG
        try dsimp only [Bool.or_self, Bool.false_or] at hG
        subst hG
        go_wp2
        go_ret
        exact ⟨rfl, HF2.out.below⟩
    · rw [Bool.true_or] at hG
      subst hG
      go_wp2
      go_ret
      exact ⟨rfl, HF2.out.below⟩
theorem argR_mem {x : Ins} {k : Int} {o : Opd} (h : argR x k = some o) : o ∈ (legC x).args := ofK_mem h
set_option maxHeartbeats 8000000 in
set_option maxRecDepth 100000 in
theorem Target14_any (addr : Int) (x : Ins) (m : CV x) (hn : ∀ o ∈ (legC x).args, -65000 ≤ o.n ∧ o.n ≤ 70000) (p : aB) (v : Value) (w : World) (h : SlR aM w p v x.args) :
    Calls Tryz.prog 16 #[.int .i64 addr, .agg #[.string x.op, v]] w fun e w' => e = .returned (.int .i64 (TgtR addr x)) ∧ Below w.heap.size w w' := by
  have HKI := aA (fun W (hb : RowKit.Below w.heap.size w W) => Kind14_any x m p v W (h.below hb))
  have HA := aA (fun k W (hb : RowKit.Below w.heap.size w W) => arg14_any x m k p v W (h.below hb))
  have HG : Hid (TgtR addr x = if (0 ≤ addr ∧ addr ≤ 65535) ∧ (KindR x = 1 ∨ KindR x = 2) then tgtR addr x else -1) := aA rfl
  have HN := aA hn
  obtain ⟨a, c, rfl⟩ : ∃ a c, v = .slice a x.args.length c := by obtain ⟨a, c, e, _⟩ := h; exact ⟨a, c, e⟩
  have HF0 := aA ((Fr.start w).new 24 #[.string x.op, .slice a x.args.length c])
  unfold OfV at HA
  generalize TgtR addr x = K at *
  generalize KindR x = kd at *
  obtain ⟨W0, hW0⟩ : ∃ W : World, W = w.alloc (.cells #[.string x.op, .slice a x.args.length c] 24) := ⟨_, rfl⟩
  rw [← hW0] at HF0
  clear h m hn
  by_cases hc : (0 ≤ addr ∧ addr ≤ 65535) ∧ (kd = 1 ∨ kd = 2)
  · have hG := HG.out
    rw [if_pos hc] at hG
    have ha1 := hc.1.1
    have ha2 := hc.1.2
    have ha3 : ¬ addr < 0 := by omega
    have ha4 : ¬ 65535 < addr := by omega
    have HKD := aA hc.2
    clear HG hc
    go_enter Tryz.func16, Tryz.ntmps16
    go_upto_region 1 with fail
    rw [← hW0]
    clear hW0
    obtain ⟨e0, e1⟩ := (HF0.out.blk 0 rfl).pair
    rcases HKD.out with hk | hk
    all_goals
      subst hk
      unfold tgtR at hG
      cases h10 : argR x 10 with
      | some o =>
        have hno := HN.out o (argR_mem h10)
        have HO1 := aA (HA.out 10)
        rw [h10] at HO1 hG
        dsimp only [Option.getD_some, Option.isSome_some] at HO1 hG
        obtain ⟨y1, y2, y3⟩ := o
        dsimp only at HO1 hG hno
        have hn1 := hno.1
        have hn2 := hno.2
        subst hG
        clear h10 HA HN hno
        go_upto_region 6 with (first
          | (go_at_call 18; (with_reducible refine (HKI.out _ HF0.out.below).mono ?_); rintro e w1 ⟨rfl, hb⟩; have HF1 := aA (HF0.out.next hb); clear hb e0 e1; obtain ⟨e0, e1⟩ := (HF1.out.blk 0 rfl).pair)
          | (go_at_call 69; (with_reducible refine (HO1.out _ HF1.out.below).mono ?_); rintro e w2 ⟨rfl, hb⟩; have HF2 := aA ((HF1.out.next hb).new' 90 #[.int .i64 y1, .int .i64 y2, .int .i64 y3] (b := w2.heap.size) rfl); clear hb e0 e1))
        obtain ⟨W2, hW2⟩ : ∃ W : World, W = w2.alloc (.cells #[.int .i64 y1, .int .i64 y2, .int .i64 y3] 90) := ⟨_, rfl⟩
        rw [← hW2] at HF2 ⊢
        clear hW2
        generalize w2.heap.size = g2 at *
        obtain ⟨c0, c1, c2⟩ := (HF2.out.blk 0 rfl).three
        go_wp2
        go_ret
        exact ⟨rfl, HF2.out.below⟩
      | none =>
        have HO1 := aA (HA.out 10)
        have HO2 := aA (HA.out 6)
        rw [h10] at HO1 hG
        dsimp only [Option.getD_none, Option.isSome_none] at HO1 hG
        generalize argR x 6 = r at *
        generalize r.getD ⟨0, 0, 0⟩ = z at *
        generalize r.isSome = B at *
        obtain ⟨z1, z2, z3⟩ := z
        dsimp only at HO2 hG
        subst hG
        clear h10 HA HN
        go_upto_region 7 with (first
          | (go_at_call 18; (with_reducible refine (HKI.out _ HF0.out.below).mono ?_); rintro e w1 ⟨rfl, hb⟩; have HF1 := aA (HF0.out.next hb); clear hb e0 e1; obtain ⟨e0, e1⟩ := (HF1.out.blk 0 rfl).pair)
          | (go_at_call 69; (with_reducible refine (HO1.out _ HF1.out.below).mono ?_); rintro e w2 ⟨rfl, hb⟩; have HF2 := aA ((HF1.out.next hb).alloc (.cells #[.int .i64 0, .int .i64 0, .int .i64 0] 90)); clear hb e0 e1))
        obtain ⟨e0, e1⟩ := (HF2.out.blk 0 rfl).pair
        obtain ⟨W2, hW2⟩ : ∃ W : World, W = w2.alloc (.cells #[.int .i64 0, .int .i64 0, .int .i64 0] 90) := ⟨_, rfl⟩
        rw [← hW2] at HF2 e0 e1 ⊢
        clear hW2
        go_upto_region 8 with (go_at_call 69; (with_reducible refine (HO2.out _ HF2.out.below).mono ?_); rintro e w3 ⟨rfl, hb⟩; have HF3 := aA ((HF2.out.next hb).new' 90 #[.int .i64 z1, .int .i64 z2, .int .i64 K] (b := w3.heap.size) rfl); clear hb e0 e1)
        obtain ⟨W3, hW3⟩ : ∃ W : World, W = w3.alloc (.cells #[.int .i64 z1, .int .i64 z2, .int .i64 K] 90) := ⟨_, rfl⟩
        rw [← hW3] at HF3 ⊢
        clear hW3
        generalize w3.heap.size = g3 at *
        obtain ⟨c0, c1, c2⟩ := (HF3.out.blk 0 rfl).three
        go_wp2
        go_ret
        exact ⟨rfl, HF3.out.below⟩
  · have hG := HG.out
    rw [if_neg hc] at hG
    subst hG
    have hcc : addr < 0 ∨ (¬ addr < 0 ∧ 65535 < addr) ∨ ((¬ addr < 0 ∧ ¬ 65535 < addr) ∧ ¬ kd = 1 ∧ ¬ kd = 2) := by
      by_cases h1 : addr < 0
      · exact .inl h1
      · by_cases h2 : 65535 < addr
        · exact .inr (.inl ⟨h1, h2⟩)
        · exact .inr (.inr ⟨⟨h1, h2⟩, fun e => hc ⟨⟨by omega, by omega⟩, .inl e⟩, fun e => hc ⟨⟨by omega, by omega⟩, .inr e⟩⟩)
    clear HG HN HA hc
    go_enter Tryz.func16, Tryz.ntmps16
    go_upto_region 1 with fail
    rw [← hW0]
    clear hW0
    obtain ⟨e0, e1⟩ := (HF0.out.blk 0 rfl).pair
    have hcd : addr < 0 ∨ (¬ addr < 0 ∧ 65535 < addr) ∨ ((¬ addr < 0 ∧ ¬ 65535 < addr) ∧ (kd != 1) = true ∧ (kd != 2) = true) := hcc.imp id (fun h => h.imp id (fun h => ⟨h.1, by rw [bne_iff_ne]; exact h.2.1, by rw [bne_iff_ne]; exact h.2.2⟩))
    clear hcc
    rcases hcd with h1 | ⟨h1, h2⟩ | ⟨⟨h1, h2⟩, h3, h4⟩
    all_goals
      go_wp2_with (go_at_call 18; (with_reducible refine (HKI.out _ HF0.out.below).mono ?_); rintro e w1 ⟨rfl, hb⟩; have HF1 := aA (HF0.out.next hb); clear hb)
      go_ret
      exact ⟨rfl, HF1.out.below⟩
end Go.Proofs.YtmpmciccgempeaaGreatDoor
