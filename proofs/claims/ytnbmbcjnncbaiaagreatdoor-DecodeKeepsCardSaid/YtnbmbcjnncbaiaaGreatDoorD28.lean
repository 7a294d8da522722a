/-
  Law of chapter 12, DecodeKeeps. Conditions: the library's table as its initialiser lays it.
-/
import Derived.Test.YtnbmbcjnncbaiaaGreatDoorD22
import Derived.Test.YtnbmbcjnncbaiaaGreatDoorQE
import Derived.Test.YtnbmbcjnncbaiaaGreatDoorD26a
import Derived.Test.YtnbmbcjnncbaiaaGreatDoorQF
import Derived.Test.YtnbmbcjnncbaiaaGreatDoorShelfU
namespace Go.Proofs.YtnbmbcjnncbaiaaGreatDoor
open Go.RowKit Go.Shelf Go.Sort

theorem EqualStr_any (p q : Blocks) (v1 v2 : Value) (l1 l2 : List ByteArray) (w : World) (h1 : SlR strR w p v1 l1) (h2 : SlR strR w q v2 l2) :
    Calls Tryz.prog 30 #[v1, v2] w fun e w' => e = .returned (.bool (decide (l1 = l2))) ∧ Below w.heap.size w w' := by
  have hb1 := h1.len_le
  have hb2 := h2.len_le
  obtain ⟨a1, c1, rfl, hc1, hm1, g1⟩ := h1.str
  obtain ⟨a2, c2, rfl, hc2, hm2, g2⟩ := h2.str
  by_cases hl : l1.length = l2.length
  · cases l1 with
    | nil =>
      refine (Tryz.slices_Equal_string_empty a1 a2 c1 l2.length c2 w hb2).mono ?_
      rintro e w' ⟨rfl, rfl⟩
      have : l2 = [] := List.eq_nil_of_length_eq_zero hl.symm
      subst this
      exact ⟨ret_bool (by simp), Below.refl _ _⟩
    | cons x xs =>
      cases l2 with
      | nil => simp at hl
      | cons y ys =>
        obtain ⟨b1, o1, rfl, _, _⟩ := g1 0 x rfl
        obtain ⟨b2, o2, rfl, _, _⟩ := g2 0 y rfl
        refine (Tryz.slices_Equal_string b1 o1 (x :: xs).length c1 b2 o2 (y :: ys).length c2 (x :: xs) (y :: ys) w (Nat.le_refl _) (Nat.le_refl _) hb1 hb2 (fun j hj => ?_) (fun j hj => ?_)).mono ?_
        · obtain ⟨b, o, e, _, h⟩ := g1 j (x :: xs)[j] (List.getElem?_eq_getElem hj)
          injection e with e
          injection e with e1 e2
          subst e1 e2
          rw [h]; simp [List.getD, List.getElem?_eq_getElem hj]
        · obtain ⟨b, o, e, _, h⟩ := g2 j (y :: ys)[j] (List.getElem?_eq_getElem hj)
          injection e with e
          injection e with e1 e2
          subst e1 e2
          rw [h]; simp [List.getD, List.getElem?_eq_getElem hj]
        · rintro e w' ⟨rfl, n, rfl⟩
          exact ⟨ret_bool (by rw [List.take_length, List.take_length]), (Below.refl _ _).trans ⟨rfl, rfl, rfl, Nat.le_refl _, fun _ _ => rfl⟩⟩
  · refine (Tryz.slices_Equal_string_lens a1 a2 l1.length c1 l2.length c2 w hl).mono ?_
    rintro e w' ⟨rfl, rfl⟩
    exact ⟨ret_bool (decide_eq_false (fun e => hl (by rw [e]))).symm, Below.refl _ _⟩
theorem own_blk {w : World} {B : Nat} {v : Value} {l : List UInt8} (h : Own byteR w B 5 NoB v l) (h0 : 0 < l.length) :
    ∃ g c cur, v = .slice (some ⟨g, 0, none⟩) l.length c ∧ B ≤ g ∧ Blk w g 5 cur ∧ ∀ j, j < l.length → ∃ u : Int, cur[j]? = some (.int .u8 u) := by
  have hs := h.slR (q := fun _ => True) (fun _ h => h.elim) (fun _ _ => trivial)
  obtain ⟨cs, hrow, _⟩ := h
  rcases hrow.2 with ⟨_, hn⟩ | ⟨g, cap, cur, rfl, hb, hg, _⟩
  · omega
  · obtain ⟨b, o, e, _, _, hc⟩ := byteAt hs h0
    injection e with e
    injection e with e1 e2
    subst e1 e2
    refine ⟨g, cap, cur, rfl, hb, hg, fun j hj => ⟨(bAt l j : Nat), ?_⟩⟩
    have h1 := hc j hj
    rw [Nat.zero_add] at h1
    exact ((Blk.cell hg j).symm.trans h1)
theorem ItmR.keepG {w w' : World} {B g : Nat} {x : Itm} {l : List UInt8} {v : Value} (h : ItmR w B x l v) (hg : w.grownBy w' (some g)) (hgB : g < B) : ItmR w' B x l v := by
  obtain ⟨ra, rc, va, vc, e, h1, h2⟩ := h
  exact ⟨ra, rc, va, vc, e, (h1.old.keep (Keep.grown hg (fun k hk => ⟨hk.2, fun e => by have := Option.some.inj e; have := hk.1; omega⟩))).mono (fun k hk => hk.1), (h2.old.keep (Keep.grown hg (fun k hk => ⟨hk.2, fun e => by have := Option.some.inj e; have := hk.1; omega⟩))).mono (fun k hk => hk.1)⟩
theorem names_lit (W : World) : SlR strR (W.alloc (.cells #[.string ⟨#[]⟩, .string ⟨#[99, 111, 100, 101]⟩, .string ⟨#[115, 116, 114, 97, 121]⟩, .string ⟨#[104, 111, 108, 101]⟩, .string ⟨#[116, 114, 117, 110, 99, 97, 116, 101, 100]⟩, .string ⟨#[]⟩] 9)) (fun _ => True) (.slice (some ⟨W.heap.size, 0, none⟩) 6 6) [⟨#[]⟩, ⟨#[99, 111, 100, 101]⟩, ⟨#[115, 116, 114, 97, 121]⟩, ⟨#[104, 111, 108, 101]⟩, ⟨#[116, 114, 117, 110, 99, 97, 116, 101, 100]⟩, ⟨#[]⟩] := slR_lit W 9 _ ([⟨#[]⟩, ⟨#[99, 111, 100, 101]⟩, ⟨#[115, 116, 114, 97, 121]⟩, ⟨#[104, 111, 108, 101]⟩, ⟨#[116, 114, 117, 110, 99, 97, 116, 101, 100]⟩, ⟨#[]⟩] : List ByteArray) #[.string ⟨#[]⟩, .string ⟨#[99, 111, 100, 101]⟩, .string ⟨#[115, 116, 114, 97, 121]⟩, .string ⟨#[104, 111, 108, 101]⟩, .string ⟨#[116, 114, 117, 110, 99, 97, 116, 101, 100]⟩, .string ⟨#[]⟩] 6 rfl rfl (by simp) (fun _ _ => trivial)
theorem kinds_lit (W : World) : SlR strR (W.alloc (.cells #[.string (kindB 0), .string (kindB 1), .string (kindB 2), .string (kindB 3), .string (kindB 4), .string (kindB 5)] 9)) (fun _ => True) (.slice (some ⟨W.heap.size, 0, none⟩) 6 6) [kindB 0, kindB 1, kindB 2, kindB 3, kindB 4, kindB 5] := slR_lit W 9 _ ([kindB 0, kindB 1, kindB 2, kindB 3, kindB 4, kindB 5] : List ByteArray) #[.string (kindB 0), .string (kindB 1), .string (kindB 2), .string (kindB 3), .string (kindB 4), .string (kindB 5)] 6 rfl rfl (by simp) (fun _ _ => trivial)
theorem EqNames_any (v1 v2 : Value) (w : World) (h1 : SlR strR w (fun _ => True) v1 [kindB 0, kindB 1, kindB 2, kindB 3, kindB 4, kindB 5]) (h2 : SlR strR w (fun _ => True) v2 [⟨#[]⟩, ⟨#[99, 111, 100, 101]⟩, ⟨#[115, 116, 114, 97, 121]⟩, ⟨#[104, 111, 108, 101]⟩, ⟨#[116, 114, 117, 110, 99, 97, 116, 101, 100]⟩, ⟨#[]⟩]) :
    Calls Tryz.prog 30 #[v1, v2] w fun e w' => e = .returned (.bool true) ∧ RowKit.Below w.heap.size w w' :=
  (EqualStr_any _ _ v1 v2 _ _ w h1 h2).mono (by rintro e w' ⟨rfl, hb⟩; exact ⟨by rfl, hb⟩)
set_option maxHeartbeats 16000000 in
set_option maxRecDepth 100000 in
theorem DecodeKeeps_law (p q : Blocks) (v1 v2 : Value) (l1 l2 : List UInt8) (w : World) (h1 : SlR byteR w p v1 l1) (h2 : SlR byteR w q v2 l2) (hT : Spc w) :
    Calls Tryz.prog 7 #[v1, v2] w fun e w' => e = .returned (.bool true) ∧ RowKit.Below w.heap.size w w' := by
  obtain ⟨a, c, rfl⟩ : ∃ a c, v1 = .slice a l1.length c := by obtain ⟨a, c, e, _⟩ := h1; exact ⟨a, c, e⟩
  obtain ⟨a2, c2, rfl⟩ : ∃ a c, v2 = .slice a l2.length c := by obtain ⟨a, c, e, _⟩ := h2; exact ⟨a, c, e⟩
  have HAL := Lib.hid (fun W (hb : RowKit.Below w.heap.size w W) => alive12_any W (hT.below hb))
  have H1 := Lib.hid h1.old
  have H2 := Lib.hid h2.old
  have HT := Lib.hid hT
  clear h1 h2 hT
  by_cases g0 : 300 < l1.length
  · have g0' : (300 : Int) < (l1.length : Int) := by omega
    go_enter Tryz.func7, Tryz.ntmps7
    go_wp2_with (go_at_call 15; refine (HAL.out _ (Below.refl _ _)).mono ?_; rintro e w1 ⟨rfl, hb⟩; have H1 := Lib.hid hb; clear hb)
    go_ret
    exact ⟨rfl, H1.out⟩
  have g0' : ¬ (300 : Int) < (l1.length : Int) := by omega
  by_cases g1 : 300 < l2.length
  · have g1' : (300 : Int) < (l2.length : Int) := by omega
    go_enter Tryz.func7, Tryz.ntmps7
    go_wp2_with (go_at_call 15; refine (HAL.out _ (Below.refl _ _)).mono ?_; rintro e w1 ⟨rfl, hb⟩; have H1 := Lib.hid hb; clear hb)
    go_ret
    exact ⟨rfl, H1.out⟩
  have g1' : ¬ (300 : Int) < (l2.length : Int) := by omega
  by_cases g2 : l1.length = 0
  · have g2' : (l1.length : Int) = 0 := by omega
    go_enter Tryz.func7, Tryz.ntmps7
    go_wp2_with (go_at_call 15; refine (HAL.out _ (Below.refl _ _)).mono ?_; rintro e w1 ⟨rfl, hb⟩; have H1 := Lib.hid hb; clear hb)
    go_ret
    exact ⟨rfl, H1.out⟩
  have g2' : ¬ (l1.length : Int) = 0 := by omega
  by_cases g3 : l2.length = 0
  · have g3' : (l2.length : Int) = 0 := by omega
    go_enter Tryz.func7, Tryz.ntmps7
    go_wp2_with (go_at_call 15; refine (HAL.out _ (Below.refl _ _)).mono ?_; rintro e w1 ⟨rfl, hb⟩; have H1 := Lib.hid hb; clear hb)
    go_ret
    exact ⟨rfl, H1.out⟩
  have g3' : ¬ (l2.length : Int) = 0 := by omega
  have g2b : ((l1.length : Int) == 0) = false := by rw [beq_eq_false_iff_ne]; exact g2'
  have g3b : ((l2.length : Int) == 0) = false := by rw [beq_eq_false_iff_ne]; exact g3'
  have h01 : 0 < l1.length := by omega
  have h02 : 0 < l2.length := by omega
  have n1 : ¬ l1 = [] := fun e => by rw [e] at h01; exact absurd h01 (by decide)
  have n2 : ¬ l2 = [] := fun e => by rw [e] at h02; exact absurd h02 (by decide)
  have HD1 := Lib.hid (fun q' a c W (hb : RowKit.Below w.heap.size w W) (h : SlR byteR W q' (.slice a l1.length c) l1) => First_any q' a c l1 W (HT.out.below hb) h h01 (by omega))
  have HD2 := Lib.hid (fun W (hb : RowKit.Below w.heap.size w W) => First_any _ a2 c2 l2 W (HT.out.below hb) (H2.out.below hb) h02 (by omega))
  have HR1 := Lib.hid (fun W (hb : RowKit.Below w.heap.size w W) => First12_any _ a c l1 W (H1.out.below hb) h01 (by omega))
  have HR2 := Lib.hid (fun W (hb : RowKit.Below w.heap.size w W) => First12_any _ a2 c2 l2 W (H2.out.below hb) h02 (by omega))
  have HSE := Lib.hid (fun v1 v2 B1 B2 W h1 h2 => same12_self (itF l1) l1 B1 B2 v1 v2 W h1 h2)
  have HSQ := Lib.hid (fun p q v1 v2 W h1 h2 => Same12_it ((itF l1).it l1) ((itF l2).it l2) p q v1 v2 W h1 h2)
  have HSD := Lib.hid (fun p q v1 v2 W h1 h2 => SameD_it ((itF l1).it l1) ((itF l2).it l2) p q v1 v2 W h1 h2)
  have HL1 : Hid (l1.length ≤ 300) := Lib.hid (by omega)
  have H01 := Lib.hid h01
  obtain ⟨R1, hR1⟩ : ∃ R, R = l1.take (itF l1).n := ⟨_, rfl⟩
  obtain ⟨R2, hR2⟩ : ∃ R, R = l2.take (itF l2).n := ⟨_, rfl⟩
  have HQ1 := Lib.hid hR1
  have HQ2 := Lib.hid hR2
  generalize itEq ((itF l1).it l1) ((itF l2).it l2) = bq at *
  clear hR1 hR2 h01 h02 g0 g1 g2 g3
  generalize itF l1 = X1 at *
  generalize itF l2 = X2 at *
  go_enter Tryz.func7, Tryz.ntmps7
  go_upto_region 3 with fail
  have HB0 : Hid (RowKit.Below w.heap.size w (w.alloc (.cells #[] 5))) := Lib.hid ((Below.refl _ _).alloc (Nat.le_refl _) _)
  have HO : Hid (Own byteR (w.alloc (.cells #[] 5)) w.heap.size 5 NoB (.slice (some ⟨w.heap.size, 0, none⟩) 0 0) []) := Own.made w _ _
  have HX : Hid (SlR byteR (w.alloc (.cells #[] 5)) (fun k => p k ∧ k < w.heap.size) (.slice a l1.length c) l1) := Lib.hid (H1.out.below HB0.out)
  have C2 : Hid (∀ k, p k ∧ k < w.heap.size → some k ≠ Value.ownBlock (.slice (some ⟨w.heap.size, 0, none⟩) 0 0)) := fun k hk e => by have e2 : k = w.heap.size := Option.some.inj e; omega
  have C3 : Hid (([] : List UInt8).length + l1.length ≤ 1000000) := by have := HL1.out; show 0 + l1.length ≤ 1000000; omega
  go_upto_region 4 with (at_builtin; refine wpList_append_R _ rfl (.tmp 29) (.tmp 30) 22 rfl w.heap.size 5 1 elByte NoB _ _ _ [] l1 rfl rfl HO.out HX.out (fun _ h => False.elim h) C2.out (by have := C3.out; omega) (by have := C3.out; omega) HB0.out.size ?_; intro v' w1 hap; obtain ⟨ho, hg, hv⟩ := hap; obtain ⟨g, gc, cur, rfl, hgw, hblk, hcur⟩ := own_blk (ho.flat NoB) H01.out; have HO1 := Lib.hid ((ho.flat NoB).slR (q := fun _ => True) (fun _ h => h.elim) (fun _ _ => trivial)); have HGW := Lib.hid hgw; have HBK := Lib.hid hblk; have HCU := Lib.hid hcur; have HB1 := Lib.hid (HB0.out.grown hg HB0.out.size (fun k e => by have e2 : w.heap.size = k := Option.some.inj e; omega)); clear ho hg hv hgw hblk hcur)
  clear HO HX C2 C3
  go_upto_region 5 with (first
    | (go_at_call 18; (with_reducible refine (HD2.out _ HB2.out).mono ?_); rintro e w3 ⟨⟨v3, rfl, hi⟩, hb⟩; have hi2 := hi; obtain ⟨rb, rd, vb, vd, hv, _, _⟩ := hi; unfold itmV at hv; rw [← HQ2.out] at hv; subst hv; have HY3 := Lib.hid hi2; have HX3 := Lib.hid (HX2.out.next hb); have HB3 := Lib.hid (HB2.out.trans (hb.mono HB2.out.size)); have HG3 := Lib.hid (HG2.out.below hb HG2.out.lt); have HZ23 := Lib.hid hb.size; clear hb hi2)
    | (go_at_call 18; refine (HD1.out _ _ _ _ HB1.out HO1.out).mono ?_; rintro e w2 ⟨⟨v2, rfl, hi⟩, hb⟩; have hi2 := hi; obtain ⟨ra, rc, va, vc, hv, _, _⟩ := hi; unfold itmV at hv; rw [← HQ1.out] at hv; subst hv; have HX2 := Lib.hid hi2; have HB2 := Lib.hid (HB1.out.trans (hb.mono HB1.out.size)); have HG2 := Lib.hid (HBK.out.below hb HBK.out.lt); have HZ12 := Lib.hid hb.size; clear hb hi2))
  have HF4 := Lib.hid ((((Fr.start w).next HB3.out).new' 29 #[.int .i64 X1.k, .slice ra R1.length rc, .string ⟨X1.op.toArray⟩, .slice va X1.args.length vc, .bool X1.al] (b := w3.heap.size) rfl).new' 29 #[.int .i64 X2.k, .slice rb R2.length rd, .string ⟨X2.op.toArray⟩, .slice vb X2.args.length vd, .bool X2.al] (b := w3.heap.size + 1) (World.size_alloc _ _))
  have hb4 : RowKit.Below w3.heap.size w3 ((w3.alloc (.cells #[.int .i64 X1.k, .slice ra R1.length rc, .string ⟨X1.op.toArray⟩, .slice va X1.args.length vc, .bool X1.al] 29)).alloc (.cells #[.int .i64 X2.k, .slice rb R2.length rd, .string ⟨X2.op.toArray⟩, .slice vb X2.args.length vd, .bool X2.al] 29)) := ((Below.refl _ _).alloc (Nat.le_refl _) _).alloc (by rw [World.size_alloc]; omega) _
  have HX4 := Lib.hid (HX3.out.next hb4)
  have HY4 := Lib.hid (HY3.out.next hb4)
  have HG4 := Lib.hid (HG3.out.below hb4 HG3.out.lt)
  have HGL := Lib.hid HBK.out.lt
  clear hb4 HX2 HX3 HY3 HG2 HG3 HBK HO1
  generalize (w3.alloc (.cells #[.int .i64 X1.k, .slice ra R1.length rc, .string ⟨X1.op.toArray⟩, .slice va X1.args.length vc, .bool X1.al] 29)).alloc (.cells #[.int .i64 X2.k, .slice rb R2.length rd, .string ⟨X2.op.toArray⟩, .slice vb X2.args.length vd, .bool X2.al] 29) = W4 at *
  have HZW : Hid (w1.heap.size ≤ w3.heap.size) := Lib.hid (Nat.le_trans HZ12.out HZ23.out)
  generalize w3.heap.size = tb at *
  go_upto_region 6 with fail
  go_loopw [8, 38] (fun _ i wr => ∃ (k : Nat) (cu : Array Value), k ≤ l1.length ∧ i = .int .i64 k ∧ W4.grownBy wr (some g) ∧ Blk wr g 5 cu ∧ ∀ j, j < l1.length → ∃ u : Int, cu[j]? = some (.int .u8 u)) (fun _ i _ => l1.length - (intOf i).toNat)
  case atStart => exact ⟨0, cur, Nat.zero_le _, rfl, grown_of g (Below.refl _ _), HG4.out, HCU.out⟩
  case round =>
    obtain ⟨k, cu, hk, rfl, hgr, hb, hcu⟩ := hrel
    have HGR := Lib.hid hgr
    have HBK2 := Lib.hid hb
    have HCU2 := Lib.hid hcu
    by_cases hlt : k < l1.length
    · obtain ⟨u, hu⟩ := hcu k hlt
      have HSZ := Lib.hid (Array.getElem?_eq_some_iff.1 hu).1
      have x0 : wr.cell? ⟨g, k, none⟩ = some (.int .u8 u) := (hb.cell k).trans hu
      have z0 := hb.free k
      clear hgr hb hcu hu
      go_wp2
      go_roundw
      case rel => exact ⟨k + 1, cu.setIfInBounds k _, by omega, by go_num, dgrown_set HGR.out k _, HBK2.out.set k _, fun j hj => by
        rw [Array.getElem?_setIfInBounds]
        by_cases e : k = j
        · subst e; rw [if_pos rfl, if_pos HSZ.out]; exact ⟨_, rfl⟩
        · rw [if_neg e]; exact HCU2.out j hj⟩
      case measure => simp [intOf]; omega
    · have hne1 : tb ≠ g := by have := HZW.out; have := HGL.out; omega
      have hne2 : tb + 1 ≠ g := by have := HZW.out; have := HGL.out; omega
      have HF5 : Hid (Fr w [(tb + 1, 29, #[.int .i64 X2.k, .slice rb R2.length rd, .string ⟨X2.op.toArray⟩, .slice vb X2.args.length vd, .bool X2.al]), (tb, 29, #[.int .i64 X1.k, .slice ra R1.length rc, .string ⟨X1.op.toArray⟩, .slice va X1.args.length vc, .bool X1.al])] wr) := Lib.hid ⟨HF4.out.below.grown hgr HF4.out.below.size (fun k e => by have e := Option.some.inj e; subst e; exact HGW.out), fun x hx => by
        rcases List.mem_cons.1 hx with e | hx
        · rw [e]; exact (HF4.out.blk 0 rfl).grown hgr (fun e => hne2 (Option.some.inj e))
        · rw [List.mem_singleton.1 hx]; exact (HF4.out.blk 1 rfl).grown hgr (fun e => hne1 (Option.some.inj e))⟩
      have HX5 := Lib.hid (HX4.out.keepG hgr HGL.out)
      have HY5 := Lib.hid (HY4.out.keepG hgr (Nat.lt_of_lt_of_le HGL.out HZ12.out))
      clear hgr hb hcu HF4 HX4 HY4 HG4 HCU HGR HBK2 HCU2
      go_upto_region 11 with (go_at_call 28; refine (Kind_any _ _).mono ?_; rintro e w5 ⟨rfl, hw5⟩; subst w5)
      have hba := (Below.refl wr.heap.size wr).alloc (Nat.le_refl _) (.cells #[.string (kindB 0), .string (kindB 1), .string (kindB 2), .string (kindB 3), .string (kindB 4), .string (kindB 5)] 9)
      have HN10 := Lib.hid (kinds_lit wr)
      have HF10 := Lib.hid (HF5.out.next hba)
      have HX10 := Lib.hid (HX5.out.next hba)
      have HY10 := Lib.hid (HY5.out.next hba)
      clear hba HF5 HX5 HY5
      generalize wr.alloc (.cells #[.string (kindB 0), .string (kindB 1), .string (kindB 2), .string (kindB 3), .string (kindB 4), .string (kindB 5)] 9) = W10 at *
      generalize wr.heap.size = nb at *
      have HF10d := Lib.hid HF10.out.drew
      have HX10d := Lib.hid (HX10.out.next (Below.refl _ _).drew)
      have HY10d := Lib.hid (HY10.out.next (Below.refl _ _).drew)
      have HN10d := Lib.hid HN10.out.drew
      obtain ⟨⟨c0, c1, c2', c3, c4⟩, _⟩ := (HF10d.out.blk 1 rfl).five
      obtain ⟨⟨d0, d1, d2, d3, d4⟩, _⟩ := (HF10d.out.blk 0 rfl).five
      cases bq
      all_goals
        go_region_held3 (fun w' => w'.cell? ⟨tb, 0, none⟩ = some (.int .i64 X1.k) ∧ w'.cell? ⟨tb, 1, none⟩ = some (.slice ra R1.length rc) ∧ w'.cell? ⟨tb, 2, none⟩ = some (.string ⟨X1.op.toArray⟩) ∧ w'.cell? ⟨tb, 3, none⟩ = some (.slice va X1.args.length vc) ∧ w'.cell? ⟨tb, 4, none⟩ = some (.bool X1.al) ∧ w'.cell? ⟨tb + 1, 0, none⟩ = some (.int .i64 X2.k) ∧ w'.cell? ⟨tb + 1, 1, none⟩ = some (.slice rb R2.length rd) ∧ w'.cell? ⟨tb + 1, 2, none⟩ = some (.string ⟨X2.op.toArray⟩) ∧ w'.cell? ⟨tb + 1, 3, none⟩ = some (.slice vb X2.args.length vd) ∧ w'.cell? ⟨tb + 1, 4, none⟩ = some (.bool X2.al)) (go_keep) (first
          | (go_at_call 30; refine (EqNames_any _ _ _ (HN17.out.alloc _) (names_lit w17)).mono ?_; rintro e w18 ⟨rfl, hb⟩; have hba := (Below.refl w17.heap.size w17).alloc (Nat.le_refl _) (.cells #[.string ⟨#[]⟩, .string ⟨#[99, 111, 100, 101]⟩, .string ⟨#[115, 116, 114, 97, 121]⟩, .string ⟨#[104, 111, 108, 101]⟩, .string ⟨#[116, 114, 117, 110, 99, 97, 116, 101, 100]⟩, .string ⟨#[]⟩] 9); have HF18 := Lib.hid ((HF17.out.next hba).next hb); clear hb hba; clear c0 c1 c2' c3 c4 d0 d1 d2 d3 d4; obtain ⟨⟨c0, c1, c2', c3, c4⟩, _⟩ := (HF18.out.blk 1 rfl).five; obtain ⟨⟨d0, d1, d2, d3, d4⟩, _⟩ := (HF18.out.blk 0 rfl).five)
          | (go_at_call 20; (with_reducible refine (HSQ.out _ _ _ _ _ HJ16.out.it HI16.out.it).mono ?_); rintro e w17 ⟨rfl, hb⟩; have HF17 := Lib.hid (HF16.out.next hb); have HX17 := Lib.hid (HX16.out.next hb); have HY17 := Lib.hid (HY16.out.next hb); have HN17 := Lib.hid (HN16.out.below hb); clear hb; clear c0 c1 c2' c3 c4 d0 d1 d2 d3 d4; obtain ⟨⟨c0, c1, c2', c3, c4⟩, _⟩ := (HF17.out.blk 1 rfl).five; obtain ⟨⟨d0, d1, d2, d3, d4⟩, _⟩ := (HF17.out.blk 0 rfl).five)
          | (go_at_call 21; (with_reducible refine (HR2.out _ HF15.out.below).mono ?_); rintro e w16 ⟨⟨v16, rfl, hi⟩, hb⟩; have hi2 := hi; obtain ⟨r16, s16, v16, z16, hv, _, _⟩ := hi; unfold itmV at hv; rw [← HQ2.out] at hv; subst hv; have HI16 := Lib.hid hi2; have HF16 := Lib.hid (HF15.out.next hb); have HX16 := Lib.hid (HX15.out.next hb); have HY16 := Lib.hid (HY15.out.next hb); have HN16 := Lib.hid (HN15.out.below hb); have HJ16 := Lib.hid (HI15.out.next hb); clear hb hi2; clear c0 c1 c2' c3 c4 d0 d1 d2 d3 d4; obtain ⟨⟨c0, c1, c2', c3, c4⟩, _⟩ := (HF16.out.blk 1 rfl).five; obtain ⟨⟨d0, d1, d2, d3, d4⟩, _⟩ := (HF16.out.blk 0 rfl).five)
          | (go_at_call 21; (with_reducible refine (HR1.out _ HF14.out.below).mono ?_); rintro e w15 ⟨⟨v15, rfl, hi⟩, hb⟩; have hi2 := hi; obtain ⟨r15, s15, v15, z15, hv, _, _⟩ := hi; unfold itmV at hv; rw [← HQ1.out] at hv; subst hv; have HI15 := Lib.hid hi2; have HF15 := Lib.hid (HF14.out.next hb); have HX15 := Lib.hid (HX14.out.next hb); have HY15 := Lib.hid (HY14.out.next hb); have HN15 := Lib.hid (HN14.out.below hb); clear hb hi2; clear c0 c1 c2' c3 c4 d0 d1 d2 d3 d4; obtain ⟨⟨c0, c1, c2', c3, c4⟩, _⟩ := (HF15.out.blk 1 rfl).five; obtain ⟨⟨d0, d1, d2, d3, d4⟩, _⟩ := (HF15.out.blk 0 rfl).five)
          | (go_at_call 29; refine (HSD.out _ _ _ _ _ HX13.out.it HY13.out.it).mono ?_; rintro e w14 ⟨rfl, hb⟩; have HF14 := Lib.hid (HF13.out.next hb); have HX14 := Lib.hid (HX13.out.next hb); have HY14 := Lib.hid (HY13.out.next hb); have HN14 := Lib.hid (HN13.out.below hb); clear hb; clear c0 c1 c2' c3 c4 d0 d1 d2 d3 d4; obtain ⟨⟨c0, c1, c2', c3, c4⟩, _⟩ := (HF14.out.blk 1 rfl).five; obtain ⟨⟨d0, d1, d2, d3, d4⟩, _⟩ := (HF14.out.blk 0 rfl).five)
          | (go_at_call 20; (with_reducible refine (HSE.out _ _ _ _ _ HX12.out HI12.out).mono ?_); rintro e w13 ⟨rfl, hb⟩; have HF13 := Lib.hid (HF12.out.next hb); have HX13 := Lib.hid (HX12.out.next hb); have HY13 := Lib.hid (HY12.out.next hb); have HN13 := Lib.hid (HN12.out.below hb); clear hb; clear c0 c1 c2' c3 c4 d0 d1 d2 d3 d4; obtain ⟨⟨c0, c1, c2', c3, c4⟩, _⟩ := (HF13.out.blk 1 rfl).five; obtain ⟨⟨d0, d1, d2, d3, d4⟩, _⟩ := (HF13.out.blk 0 rfl).five)
          | (go_at_call 21; (with_reducible refine (HR1.out _ HF11.out.below).mono ?_); rintro e w12 ⟨⟨v12, rfl, hi⟩, hb⟩; have hi2 := hi; obtain ⟨r12, s12, v12, z12, hv, _, _⟩ := hi; unfold itmV at hv; rw [← HQ1.out] at hv; subst hv; have HI12 := Lib.hid hi2; have HF12 := Lib.hid (HF11.out.next hb); have HX12 := Lib.hid (HX11.out.next hb); have HY12 := Lib.hid (HY11.out.next hb); have HN12 := Lib.hid (HN11.out.below hb); clear hb hi2; clear c0 c1 c2' c3 c4 d0 d1 d2 d3 d4; obtain ⟨⟨c0, c1, c2', c3, c4⟩, _⟩ := (HF12.out.blk 1 rfl).five; obtain ⟨⟨d0, d1, d2, d3, d4⟩, _⟩ := (HF12.out.blk 0 rfl).five)
          | (go_at_call 15; refine (HAL.out _ HF10d.out.below).mono ?_; rintro e w11 ⟨rfl, hb⟩; have HF11 := Lib.hid (HF10d.out.next hb); have HX11 := Lib.hid (HX10d.out.next hb); have HY11 := Lib.hid (HY10d.out.next hb); have HN11 := Lib.hid (HN10d.out.below hb); clear hb; clear c0 c1 c2' c3 c4 d0 d1 d2 d3 d4; obtain ⟨⟨c0, c1, c2', c3, c4⟩, _⟩ := (HF11.out.blk 1 rfl).five; obtain ⟨⟨d0, d1, d2, d3, d4⟩, _⟩ := (HF11.out.blk 0 rfl).five))
      all_goals go_wp2
      all_goals go_ret
      all_goals exact ⟨rfl, HF18.out.below⟩
end Go.Proofs.YtnbmbcjnncbaiaaGreatDoor

