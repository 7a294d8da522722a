/-
  flow.Target. Conditions: the library's table as its initialiser lays it; a short instruction whose numbers are small.
-/
import Derived.Test.YtmpmciccgempeaaGreatDoorF2
namespace Go.Proofs.YtmpmciccgempeaaGreatDoor
open Go.RowKit Go.Shelf Go.Sort

theorem i64_andW (m : Int) : bits .and .i64 m 65535 = m % 65536 := by
  have h16 : (BitVec.ofInt 64 65535).toNat = 2 ^ 16 - 1 := by decide
  have key : (BitVec.ofInt 64 m &&& BitVec.ofInt 64 65535).toNat = (m % ((2 ^ 64 : Nat) : Int)).toNat % 2 ^ 16 := by
    rw [BitVec.toNat_and, BitVec.toNat_ofInt, h16, Nat.and_two_pow_sub_one_eq_mod]
  show IntKind.i64.wrap ((BitVec.ofInt 64 m &&& BitVec.ofInt 64 65535).toNat : Nat) = m % 65536
  rw [key, IntKind.wrap_i64]
  omega
/-- the operand that says where to -/
def tgtK (addr : Int) (l : List Opd) : Int × Bool := match ofK l 10 with
  | some o => ((addr + 2 + o.n) % 65536, true)
  | none => (((ofK l 6).getD ⟨0, 0, 0⟩).n, (ofK l 6).isSome)
def TgtF (addr : Int) (x : Ins) : Int × Bool := if bG 0 65535 addr = true ∧ (KindF x = 1 ∨ KindF x = 2) then tgtK addr (legC x).args else (0, false)
theorem fitsB_iff2 (lo hi n : Int) : bG lo hi n = true ↔ lo ≤ n ∧ n ≤ hi := by unfold bG; simp
theorem ofK_mem {l : List Opd} {k : Int} {o : Opd} (h : ofK l k = some o) : o ∈ l := List.mem_of_find?_eq_some h
set_option maxHeartbeats 8000000 in
set_option maxRecDepth 100000 in
theorem Target_any (addr : Int) (x : Ins) (m : CV x) (hn : ∀ o ∈ (legC x).args, -70000 ≤ o.n ∧ o.n ≤ 70000) (p : aB) (v : Value) (w : World) (h : SlR aM w p v x.args) (hT : Spc w) :
    Calls Tryz.prog 15 #[.int .i64 addr, .agg #[.string x.op, v]] w fun e w' => e = .returned (.tuple #[.int .i64 (TgtF addr x).1, .bool (TgtF addr x).2]) ∧ Below w.heap.size w w' := by
  have HL := aA (fun W (hb : RowKit.Below w.heap.size w W) => legal_any x m p v W (h.below hb) (hT.below hb))
  have HKI := aA (fun W (hb : RowKit.Below w.heap.size w W) => Kind_any x m p v W (h.below hb) (hT.below hb))
  have HO := aA (fun k q v W h => ofK_any (legC x) k q v W h)
  have HFI := aA (fun b W h => sV 0 65535 addr b W h)
  have HG : Hid (TgtF addr x = if bG 0 65535 addr = true ∧ (KindF x = 1 ∨ KindF x = 2) then tgtK addr (legC x).args else (0, false)) := aA rfl
  have HFB := aA (fitsB_iff2 0 65535 addr)
  have HN := aA hn
  obtain ⟨a, c, rfl⟩ : ∃ a c, v = .slice a x.args.length c := by obtain ⟨a, c, e, _⟩ := h; exact ⟨a, c, e⟩
  have HF0 := aA ((Fr.start w).new 24 #[.string x.op, .slice a x.args.length c])
  unfold OfV at HO
  generalize TgtF addr x = K at *
  generalize KindF x = kd at *
  generalize legC x = G at *
  obtain ⟨s, l⟩ := G
  obtain ⟨K1, K2⟩ := K
  dsimp only at *
  obtain ⟨W0, hW0⟩ : ∃ W : World, W = w.alloc (.cells #[.string x.op, .slice a x.args.length c] 24) := ⟨_, rfl⟩
  rw [← hW0] at HF0
  clear h hT m hn
  by_cases hc : bG 0 65535 addr = true ∧ (kd = 1 ∨ kd = 2)
  · have hG := HG.out
    rw [if_pos hc] at hG
    have hf := HFB.out.1 hc.1
    have HKD := aA hc.2
    rw [hc.1] at HFI
    clear HG HFB
    go_enter Tryz.func15, Tryz.ntmps15
    go_upto_region 1 with fail
    rw [← hW0]
    clear hW0
    obtain ⟨e0, e1⟩ := (HF0.out.blk 0 rfl).pair
    rcases HKD.out with hk | hk
    all_goals
      subst hk
      go_upto_region 4 with (first
        | (go_at_call 17; (with_reducible refine (HKI.out _ HF0.out.below).mono ?_); rintro e w1 ⟨rfl, hb⟩; have HF1 := aA (HF0.out.next hb); clear hb)
        | (go_at_call 66; refine (HFI.out _ _ (Blk.cell (Blk.new w1 _ _) 0)).mono ?_; rintro e w2 ⟨rfl, hw2⟩; have HF2 := aA (HF1.out.alloc (.cells #[.int .i64 addr] 3)); subst hw2; clear e0 e1))
      obtain ⟨W2, hW2⟩ : ∃ W : World, W = w1.alloc (.cells #[.int .i64 addr] 3) := ⟨_, rfl⟩
      rw [← hW2] at HF2 ⊢
      clear hW2
      obtain ⟨e0, e1⟩ := (HF2.out.blk 0 rfl).pair
      go_upto_region 5 with (go_at_call 67; (with_reducible refine (HL.out _ HF2.out.below).mono ?_); rintro e w3 ⟨⟨va, vc, rfl, h1⟩, hb⟩; have HS := aA (h1.alloc (.cells #[.string s, .slice va l.length vc] 24)); have HF3 := aA ((HF2.out.next hb).new' 24 #[.string s, .slice va l.length vc] (b := w3.heap.size) rfl); clear hb h1 e0 e1)
      obtain ⟨W3, hW3⟩ : ∃ W : World, W = w3.alloc (.cells #[.string s, .slice va l.length vc] 24) := ⟨_, rfl⟩
      rw [← hW3] at HF3 HS ⊢
      clear hW3
      generalize w3.heap.size = g3 at *
      obtain ⟨e0, e1⟩ := (HF3.out.blk 0 rfl).pair
      cases h10 : ofK l 10 with
      | some o =>
        have hno := HN.out o (ofK_mem h10)
        have HO1 := aA (HO.out 10)
        unfold tgtK at hG
        rw [h10] at HO1 hG
        dsimp only [Option.getD_some, Option.isSome_some] at HO1 hG
        obtain ⟨o1, o2, o3⟩ := o
        dsimp only at HO1 hG hno
        injection hG with hG1 hG2
        subst hG1 hG2
        have ha1 := hf.1
        have ha2 := hf.2
        have hn1 := hno.1
        have hn2 := hno.2
        have hand := i64_andW (addr + 2 + o3)
        clear h10 HO
        go_upto_region 6 with (go_at_call 68; (with_reducible refine (HO1.out _ _ _ HS.out).mono ?_); rintro e w4 ⟨rfl, hb⟩; have HF4 := aA ((HF3.out.next hb).new' 90 #[.int .i64 o1, .int .i64 o2, .int .i64 o3] (b := w4.heap.size) rfl); clear hb e0 e1)
        obtain ⟨W4, hW4⟩ : ∃ W : World, W = w4.alloc (.cells #[.int .i64 o1, .int .i64 o2, .int .i64 o3] 90) := ⟨_, rfl⟩
        rw [← hW4] at HF4 ⊢
        clear hW4
        generalize w4.heap.size = g4 at *
        obtain ⟨c0, c1, c2⟩ := (HF4.out.blk 0 rfl).three
        go_wp2
        go_ret2
        exact ⟨rfl, HF4.out.below⟩
      | none =>
        have HO1 := aA (HO.out 10)
        have HO2 := aA (HO.out 6)
        unfold tgtK at hG
        rw [h10] at HO1 hG
        dsimp only [Option.getD_none, Option.isSome_none] at HO1 hG
        generalize (ofK l 6).getD ⟨0, 0, 0⟩ = z at *
        generalize (ofK l 6).isSome = B at *
        obtain ⟨z1, z2, z3⟩ := z
        dsimp only at HO2 hG
        injection hG with hG1 hG2
        subst hG1 hG2
        clear h10 HO HN
        go_upto_region 6 with (go_at_call 68; (with_reducible refine (HO1.out _ _ _ HS.out).mono ?_); rintro e w4 ⟨rfl, hb⟩; have HS4 := aA ((HS.out.below hb).alloc (.cells #[.int .i64 0, .int .i64 0, .int .i64 0] 90)); have HF4 := aA ((HF3.out.next hb).alloc (.cells #[.int .i64 0, .int .i64 0, .int .i64 0] 90)); clear hb e0 e1)
        obtain ⟨W4, hW4⟩ : ∃ W : World, W = w4.alloc (.cells #[.int .i64 0, .int .i64 0, .int .i64 0] 90) := ⟨_, rfl⟩
        rw [← hW4] at HF4 HS4 ⊢
        clear hW4
        generalize w4.heap.size = g4 at *
        obtain ⟨e0, e1⟩ := (HF4.out.blk 0 rfl).pair
        go_upto_region 9 with (go_at_call 68; (with_reducible refine (HO2.out _ _ _ HS4.out).mono ?_); rintro e w5 ⟨rfl, hb⟩; have HF5 := aA ((HF4.out.next hb).new' 90 #[.int .i64 z1, .int .i64 z2, .int .i64 K1] (b := w5.heap.size) rfl); clear hb e0 e1)
        obtain ⟨W5, hW5⟩ : ∃ W : World, W = w5.alloc (.cells #[.int .i64 z1, .int .i64 z2, .int .i64 K1] 90) := ⟨_, rfl⟩
        rw [← hW5] at HF5 ⊢
        clear hW5
        generalize w5.heap.size = g5 at *
        obtain ⟨c0, c1, c2⟩ := (HF5.out.blk 0 rfl).three
        go_wp2
        go_ret2
        exact ⟨rfl, HF5.out.below⟩
  · have hG := HG.out
    rw [if_neg hc] at hG
    injection hG with hG1 hG2
    subst hG1 hG2
    clear HG HFB HN HL HO
    generalize bG 0 65535 addr = FB at *
    have hcc : FB = false ∨ (FB = true ∧ ¬ kd = 1 ∧ ¬ kd = 2) := by
      cases FB
      · exact .inl rfl
      · exact .inr ⟨rfl, fun e => hc ⟨rfl, .inl e⟩, fun e => hc ⟨rfl, .inr e⟩⟩
    clear hc
    go_enter Tryz.func15, Tryz.ntmps15
    go_upto_region 1 with fail
    rw [← hW0]
    clear hW0
    obtain ⟨e0, e1⟩ := (HF0.out.blk 0 rfl).pair
    have hcd : FB = false ∨ (FB = true ∧ (kd != 1) = true ∧ (kd != 2) = true) := hcc.imp id (fun h => ⟨h.1, by rw [bne_iff_ne]; exact h.2.1, by rw [bne_iff_ne]; exact h.2.2⟩)
    clear hcc
    rcases hcd with rfl | ⟨rfl, hk1, hk2⟩
    all_goals
      go_wp2_with (first
        | (go_at_call 17; (with_reducible refine (HKI.out _ HF0.out.below).mono ?_); rintro e w1 ⟨rfl, hb⟩; have HF1 := aA (HF0.out.next hb); clear hb)
        | (go_at_call 66; refine (HFI.out _ _ (Blk.cell (Blk.new w1 _ _) 0)).mono ?_; rintro e w2 ⟨rfl, hw2⟩; have HF2 := aA (HF1.out.alloc (.cells #[.int .i64 addr] 3)); subst hw2))
      go_ret2
      exact ⟨rfl, HF2.out.below⟩
end Go.Proofs.YtmpmciccgempeaaGreatDoor
