/-
  items.Count; slices.EqualFunc over alike instructions. Conditions: sizes.
-/
import Derived.Test.YtnbmbcjnncbaiaaGreatDoorJ20
import Derived.Test.YtnbmbcjnncbaiaaGreatDoorPB
namespace Go.Proofs.YtnbmbcjnncbaiaaGreatDoor
open Go.RowKit Go.Shelf Go.Sort

/-- how many items of a kind there are -/
def cntF (kd : Int) (L : List It) : Nat := (L.filter (fun x => decide (x.k = kd))).length
theorem cntF_succ {kd : Int} {L : List It} {k : Nat} (h : k < L.length) : cntF kd (L.take (k + 1)) = cntF kd (L.take k) + (if L[k].k = kd then 1 else 0) := by
  unfold cntF
  rw [List.take_succ_eq_append_getElem h, List.filter_append, List.length_append]
  by_cases e : L[k].k = kd <;> simp [e]
theorem cntF_le (kd : Int) (L : List It) (k : Nat) : cntF kd (L.take k) ≤ k := by
  unfold cntF
  exact Nat.le_trans (List.length_filter_le _ _) (by rw [List.length_take]; omega)
set_option maxHeartbeats 4000000 in
set_option maxRecDepth 100000 in
theorem Count1_any (bk bn : Nat) (kd : Int) (n : Nat) (x0 : Int) (v1 v2 v3 v4 : Value) (w : World) (hk : w.cell? ⟨bk, 0, none⟩ = some (.int .i64 kd)) (hb : Blk w bn 3 #[.int .i64 n]) (hn : n ≤ 1000000) :
    Calls Tryz.prog 67 #[.agg #[.int .i64 x0, v1, v2, v3, v4], .pointer (some ⟨bk, 0, none⟩), .pointer (some ⟨bn, 0, none⟩)] w fun e w' => (∃ v, e = .returned v) ∧ w.grownBy w' (some bn) ∧ Blk w' bn 3 #[.int .i64 ((n + (if x0 = kd then 1 else 0) : Nat))] := by
  have HBN := Lib.hid ((Below.refl w.heap.size w).alloc (Nat.le_refl _) (.cells #[.int .i64 x0, v1, v2, v3, v4] 29))
  have c0 : (w.alloc (.cells #[.int .i64 x0, v1, v2, v3, v4] 29)).cell? ⟨w.heap.size, 0, none⟩ = some (.int .i64 x0) := (Blk.new w _ _).cell 0
  have k0 := (HBN.out.cell (p := ⟨bk, 0, none⟩) (World.block_lt_of_cell? w _ hk)).trans hk
  have HB2 := Lib.hid (hb.below HBN.out hb.lt)
  have n0 := HB2.out.cell 0
  have z0 := HB2.out.free 0
  have HG := Lib.hid (grown_of bn HBN.out)
  have hw1 : IntKind.i64.wrap ((n : Int) + 1) = (n : Int) + 1 := by rw [IntKind.wrap_i64]; omega
  clear hk hb hn
  go_enter Tryz.func67, Tryz.ntmps67
  go_upto_region 1 with fail
  generalize w.alloc (.cells #[.int .i64 x0, v1, v2, v3, v4] 29) = W1 at *
  by_cases e : x0 = kd
  · subst e
    go_wp2
    go_end0
    exact ⟨⟨_, rfl⟩, dgrown_set HG.out 0 _, HB2.out.set 0 _⟩
  · go_wp2
    go_end0
    exact ⟨⟨_, rfl⟩, HG.out, HB2.out⟩
set_option maxHeartbeats 4000000 in
set_option maxRecDepth 100000 in
theorem Count_any (p : Blocks) (kd : Int) (v : Value) (ls : List It) (w : World) (h : SlR itR w p v ls) (hn : ls.length ≤ 100000) :
    Calls Tryz.prog 43 #[.int .i64 kd, v] w fun e w' => e = .returned (.int .i64 (cntF kd ls)) ∧ RowKit.Below w.heap.size w w' := by
  have hmf : ∀ (fn : Fn) (first cap : Array Value) (w : World), (Instr.makeFunc fn first cap).run Tryz.prog w = .ok (.func fn first cap) w := fun _ _ _ _ => rfl
  have HF0 := Lib.hid (((Fr.start w).new 3 #[.int .i64 kd]).new' 3 #[.int .i64 0] (b := w.heap.size + 1) (World.size_alloc _ _))
  have HSZ : Hid (((w.alloc (.cells #[.int .i64 kd] 3)).alloc (.cells #[.int .i64 0] 3)).heap.size = w.heap.size + 1 + 1) := Lib.hid (by rw [World.size_alloc, World.size_alloc])
  have HS0 := Lib.hid (h.old.below HF0.out.below)
  obtain ⟨a, c, rfl, _, _, _⟩ := h.it
  have HN := Lib.hid hn
  clear h hn
  go_enter Tryz.func43, Tryz.ntmps43
  go_upto_region 2 with fail
  generalize (w.alloc (.cells #[.int .i64 kd] 3)).alloc (.cells #[.int .i64 0] 3) = W0 at *
  obtain ⟨bk, hbk⟩ : ∃ b, w.heap.size = b := ⟨_, rfl⟩
  have HBK := Lib.hid hbk
  rw [hbk] at HF0 HSZ HS0 ⊢
  clear hbk
  go_wp2
  go_loopw [8, 12] (fun _ i wr => ∃ k : Nat, k ≤ ls.length ∧ i = .int .i64 k ∧ W0.grownBy wr (some (bk + 1)) ∧ Blk wr (bk + 1) 3 #[.int .i64 (cntF kd (ls.take k) : Nat)]) (fun _ i _ => ls.length - (intOf i).toNat)
  case atStart => exact ⟨0, Nat.zero_le _, rfl, grown_of _ (Below.refl _ _), HF0.out.blk 0 rfl⟩
  case round =>
    obtain ⟨k, hk, rfl, hgr, hb⟩ := hrel
    have HG := Lib.hid hgr
    have HB := Lib.hid hb
    have n0 := hb.cell 0
    clear hgr hb
    by_cases hlt : k < ls.length
    · obtain ⟨a8, c8, e8, _, _, g8⟩ := (HS0.out.keep (Keep.grown HG.out (fun j hj => ⟨by have := hj.2; have := HSZ.out; omega, fun e => by have := Option.some.inj e; have := hj.2; omega⟩))).it
      injection e8 with e8 e10 e11
      clear e10
      subst e8 e11
      obtain ⟨b1, o1, ra1, rc1, va1, vc1, rfl, _, x0, x1, x2, x3, x4, _, _⟩ := g8 k ls[k] (List.getElem?_eq_getElem hlt)
      have HSU := Lib.hid (cntF_succ (kd := kd) hlt)
      have HLE := Lib.hid (cntF_le kd ls k)
      clear g8
      generalize ls[k] = x at *
      obtain ⟨k9, R1, op, args, al⟩ := x
      dsimp only at x0 x1 x2 x3 x4 HSU
      obtain ⟨C2, hC2⟩ : ∃ C, cntF kd (ls.take (k + 1)) = C := ⟨_, rfl⟩
      rw [hC2] at HSU
      have HC2 := Lib.hid hC2
      clear hC2
      generalize cntF kd (ls.take k) = C1 at *
      have HBN := Lib.hid ((Below.refl wr.heap.size wr).alloc (Nat.le_refl _) (.cells #[.int .i64 k9, .slice ra1 R1.length rc1, .string ⟨op.toArray⟩, .slice va1 args.length vc1, .bool al] 29))
      have HKK := Lib.hid ((HF0.out.blk 1 rfl).grown HG.out (fun e => by have := Option.some.inj e; omega))
      have HCT := Lib.hid (Count1_any bk (bk + 1) kd C1 k9 (.slice ra1 R1.length rc1) (.string ⟨op.toArray⟩) (.slice va1 args.length vc1) (.bool al) _ ((HKK.out.below HBN.out HKK.out.lt).cell 0) (HB.out.below HBN.out HB.out.lt) (by have := HLE.out; have := HN.out; omega))
      have HGN := Lib.hid (grown_step HG.out (grown_of (bk + 1) HBN.out))
      rw [← HSU.out] at HCT
      go_wp2_with (go_at_call 67; refine (HCT.out).mono ?_; rintro e w5 ⟨⟨v5, rfl⟩, hg5, hb5⟩; have HG5 := Lib.hid (grown_step HGN.out hg5); have HB5 := Lib.hid hb5; clear hg5 hb5)
      go_roundw
      case rel => exact ⟨k + 1, by omega, by go_num, HG5.out, by rw [HC2.out]; exact HB5.out⟩
      case measure => simp [intOf]; omega
    · have HE : Hid (cntF kd (ls.take k) = cntF kd ls) := Lib.hid (by rw [List.take_of_length_le (by omega)])
      rw [HE.out] at n0
      go_wp2
      go_ret
      exact ⟨rfl, HF0.out.below.grown HG.out HF0.out.below.size (fun j e => by have := Option.some.inj e; have := HBK.out; omega)⟩
set_option maxHeartbeats 4000000 in
set_option maxRecDepth 100000 in
theorem EqualIns_any (p q : Blocks) (v1 v2 : Value) (l : List Ins) (w : World) (h1 : SlR insSR w p v1 l) (h2 : SlR insSR w q v2 l) :
    Calls Tryz.prog 44 #[v1, v2, .func (.func 22) #[] #[]] w fun e w' => e = .returned (.bool true) ∧ RowKit.Below w.heap.size w w' := by
  have H1 := Lib.hid h1
  have H2 := Lib.hid h2
  obtain ⟨a1, c1, rfl, hc1, hm1, _⟩ := h1.ins
  obtain ⟨a2, c2, rfl, hc2, hm2, _⟩ := h2.ins
  clear h1 h2
  go_enter Tryz.func44, Tryz.ntmps44
  go_wp2
  go_loopw [7, 8, 9, 17] (fun _ _ _ i wr => ∃ k : Nat, k ≤ l.length ∧ i = .int .i64 k ∧ RowKit.Below w.heap.size w wr) (fun _ _ _ i _ => l.length - (intOf i).toNat)
  case atStart => exact ⟨0, Nat.zero_le _, rfl, Below.refl _ _⟩
  case round =>
    obtain ⟨k, hk, rfl, hb⟩ := hrel
    have HB := Lib.hid hb
    clear hb
    by_cases hlt : k < l.length
    · obtain ⟨a8, c8, e8, _, _, g8⟩ := (H1.out.below HB.out).ins
      injection e8 with e8 e10 e11
      clear e10
      subst e8 e11
      obtain ⟨b1, o1, va1, rfl, _, x0, x1, s1⟩ := g8 k l[k] (List.getElem?_eq_getElem hlt)
      obtain ⟨a9, c9, e9, _, _, g9⟩ := (H2.out.below HB.out).ins
      injection e9 with e9 e10 e11
      clear e10
      subst e9 e11
      obtain ⟨b2, o2, va2, rfl, _, y0, y1, s2⟩ := g9 k l[k] (List.getElem?_eq_getElem hlt)
      have HS1 := Lib.hid s1
      have HS2 := Lib.hid s2
      clear g8 g9
      generalize l[k] = x at *
      obtain ⟨op1, ar1⟩ := x
      obtain ⟨xa, xc, rfl⟩ : ∃ a c, va1 = .slice a ar1.length c := by obtain ⟨a, c, e, _⟩ := s1; exact ⟨a, c, e⟩
      obtain ⟨ya, yc, rfl⟩ : ∃ a c, va2 = .slice a ar1.length c := by obtain ⟨a, c, e, _⟩ := s2; exact ⟨a, c, e⟩
      dsimp only at x0 x1 y0 y1 HS1 HS2
      have hbb1 : b1 < wr.heap.size := World.block_lt_of_cell? wr _ x0
      have hbb2 : b2 < wr.heap.size := World.block_lt_of_cell? wr _ y0
      clear s1 s2
      have HF := Lib.hid (((Fr.start wr).new 27 #[.string op1, .slice xa ar1.length xc]).new' 27 #[.string op1, .slice ya ar1.length yc] (b := wr.heap.size + 1) (World.size_alloc _ _))
      have HSM := Lib.hid (ref07Same_any _ _ ⟨op1, ar1⟩ ⟨op1, ar1⟩ (.slice xa ar1.length xc) (.slice ya ar1.length yc) _ (HS1.out.below HF.out.below) (HS2.out.below HF.out.below))
      rw [show insEq ⟨op1, ar1⟩ ⟨op1, ar1⟩ = true by simp [insEq]] at HSM
      dsimp only at HSM
      go_wp2_with (go_at_call 22; refine (HSM.out).mono ?_; rintro e w4 ⟨rfl, hb4⟩; have HB4 := Lib.hid (HB.out.trans ((HF.out.below.trans (hb4.mono HF.out.below.size)).mono HB.out.size)); clear hb4)
      go_roundw
      case rel => exact ⟨k + 1, by omega, by go_num, HB4.out⟩
      case measure => simp [intOf]; omega
    · go_wp2
      go_ret
      exact ⟨rfl, HB.out⟩
end Go.Proofs.YtnbmbcjnncbaiaaGreatDoor
