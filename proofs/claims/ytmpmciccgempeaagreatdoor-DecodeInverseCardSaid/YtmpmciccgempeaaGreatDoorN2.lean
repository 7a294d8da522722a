/-
  Law of chapter 12, DecodeInverse. Conditions: the library's table as its initialiser lays it; sizes.
-/
import Derived.Test.YtmpmciccgempeaaGreatDoorN1
import Derived.Test.YtmpmciccgempeaaGreatDoorBR1
import Derived.Test.YtmpmciccgempeaaGreatDoorBJ1
import Derived.Test.YtmpmciccgempeaaGreatDoorBS1
import Derived.Test.YtmpmciccgempeaaGreatDoorBC2
import Derived.Test.YtmpmciccgempeaaGreatDoorBC1
import Derived.Test.YtmpmciccgempeaaGreatDoorBU1
import Derived.Test.YtmpmciccgempeaaGreatDoorBA17
import Derived.Test.YtmpmciccgempeaaGreatDoorBH1
import Derived.Test.YtmpmciccgempeaaGreatDoorBA14
import Derived.Test.YtmpmciccgempeaaGreatDoorBE3
import Derived.Test.YtmpmciccgempeaaGreatDoorBA12
import Derived.Test.YtmpmciccgempeaaGreatDoorBA6
import Derived.Test.YtmpmciccgempeaaGreatDoorBA5
import Derived.Test.YtmpmciccgempeaaGreatDoorBA1
import Derived.Test.YtmpmciccgempeaaGreatDoorChecked
import Derived.Test.YtmpmciccgempeaaGreatDoorBA4
import Derived.Test.YtmpmciccgempeaaGreatDoorShelf
import Derived.Test.YtmpmciccgempeaaGreatDoorBA2
import Derived.Test.YtmpmciccgempeaaGreatDoorBE1
import Derived.Test.YtmpmciccgempeaaGreatDoorBA3
import Derived.Test.YtmpmciccgempeaaGreatDoorBA9
import Derived.Test.YtmpmciccgempeaaGreatDoorBE2
import Derived.Test.YtmpmciccgempeaaGreatDoorBA7
import Derived.Test.YtmpmciccgempeaaGreatDoorBA8
import Derived.Test.YtmpmciccgempeaaGreatDoorBA11
import Derived.Test.YtmpmciccgempeaaGreatDoorBA10
import Derived.Test.YtmpmciccgempeaaGreatDoorBA13
import Derived.Test.YtmpmciccgempeaaGreatDoorBH2
import Derived.Test.YtmpmciccgempeaaGreatDoorBC4
import Derived.Test.YtmpmciccgempeaaGreatDoorBC3
import Derived.Test.YtmpmciccgempeaaGreatDoorBI1
namespace Go.Proofs.YtmpmciccgempeaaGreatDoor
open Go.RowKit Go.Shelf Go.Sort

theorem rows2 {w : World} {g : Nat} {t : TypeId} {va vb : Value} {la lb : List UInt8} (hb : Blk w g t #[va, vb]) (h1 : SlR aI w (fun _ => True) va la) (h2 : SlR aI w (fun _ => True) vb lb) : SlR qJ w (fun _ => True) (.slice (some ⟨g, 0, none⟩) 2 2) [la, lb] :=
  ⟨some ⟨g, 0, none⟩, 2, rfl, Nat.le_refl _, by decide, fun i x hx => by
    match i, hx with
    | 0, hx => simp at hx; subst hx; exact ⟨g, 0, [va], rfl, trivial, hb.lt, fun j v hv => (match j, hv with | 0, hv => by simp at hv; subst hv; exact hb.cell 0), va, rfl, h1⟩
    | 1, hx => simp at hx; subst hx; exact ⟨g, 0, [vb], rfl, trivial, hb.lt, fun j v hv => (match j, hv with | 0, hv => by simp at hv; subst hv; exact hb.cell 1), vb, rfl, h2⟩⟩
theorem itmR_of {w : World} {A LL O : List UInt8} {C : List Opd} {ra va : Option Addr} {rc vc : Nat} {p q : aB} (ht : LL.take A.length = A) (h1 : SlR aI w p (.slice ra A.length rc) A) (h2 : SlR aM w q (.slice va C.length vc) C) :
    dW w 0 ⟨1, A.length, O, C, false⟩ LL (.agg #[.int .i64 1, .slice ra A.length rc, .string ⟨O.toArray⟩, .slice va C.length vc, .bool false]) :=
  ⟨ra, rc, va, vc, by unfold qU; dsimp only; rw [ht], by dsimp only; rw [ht]; exact h1.mono (fun _ _ => Nat.zero_le _), h2.mono (fun _ _ => Nat.zero_le _)⟩
theorem itmR_to {w : World} {B : Nat} {A LL O : List UInt8} {C : List Opd} {v : Value} (ht : LL.take A.length = A) (h : dW w B ⟨1, A.length, O, C, false⟩ LL v) :
    ∃ ra rc va vc, v = .agg #[.int .i64 1, .slice ra A.length rc, .string ⟨O.toArray⟩, .slice va C.length vc, .bool false] ∧ SlR aI w (fun _ => True) (.slice ra A.length rc) A ∧ SlR aM w (fun _ => True) (.slice va C.length vc) C := by
  obtain ⟨ra, rc, va, vc, rfl, h1, h2⟩ := h
  unfold qU
  dsimp only at *
  rw [ht] at h1 ⊢
  exact ⟨ra, rc, va, vc, rfl, h1.mono (fun _ _ => trivial), h2.mono (fun _ _ => trivial)⟩
set_option maxHeartbeats 8000000 in
set_option maxRecDepth 100000 in
theorem DecodeInverse_law (x : Ins) (p q : aB) (v u : Value) (m : List UInt8) (w : World) (h : SlR aM w p v x.args) (g : SlR aI w q u m) (hT : Spc w) (fx : ∀ z ∈ x.args, cN z.n) :
    Calls Tryz.prog 5 #[.agg #[.string x.op, v], u] w fun e w' => e = .returned (.bool true) ∧ RowKit.Below w.heap.size w w' := by
  have HT := aA hT
  have HAL := aA (fun W (hb : RowKit.Below w.heap.size w W) => alive12_any W (hT.below hb))
  have HEX0 := aA (fun (mx : CV x) W (hb : RowKit.Below w.heap.size w W) => GC x mx p v W (h.below hb) (hT.below hb))
  have HOX0 := aA (fun (mx : CV x) W (hb : RowKit.Below w.heap.size w W) => jS p x v W (h.below hb) (by have := mx.n; omega) mx.f)
  have HNX := aA (fun k hk => NY (x := x) (k := k) hk)
  have HLW := aA (fun A k (hk : jM x = (some A, k)) => And.intro (enc_first hk) (enc_more (more := m) hk))
  have HSM := aA (fun p q v1 v2 W h1 h2 => nB p q (aE x) (aE x) v1 v2 W h1 h2)
  rw [show fG (aE x) (aE x) = true by simp [fG]] at HSM
  rw [show (aE x).op = x.op from rfl] at HSM
  obtain ⟨xa, xc, rfl⟩ : ∃ a c, v = .slice a x.args.length c := by obtain ⟨a, c, e, _⟩ := h; exact ⟨a, c, e⟩
  obtain ⟨ya, yc, rfl⟩ : ∃ a c, u = .slice a m.length c := by obtain ⟨a, c, e, _⟩ := g; exact ⟨a, c, e⟩
  have SM := aA (g.mono (q := fun _ => True) (fun _ _ => trivial))
  have HC := aA ((Fr.start w).new 24 #[.string x.op, .slice xa x.args.length xc])
  have HMX := aA (fun (h1 : ¬ (100 : Int) < (x.op.size : Int)) (h2 : ¬ (20 : Int) < (x.args.length : Int)) => (⟨by omega, by omega, fx⟩ : CV x))
  clear h g hT fx
  generalize x.op = xo at *
  obtain ⟨O, rfl⟩ : ∃ O : List UInt8, xo = ⟨O.toArray⟩ := ⟨xo.data.toList, rfl⟩
  rw [show (⟨O.toArray⟩ : ByteArray).data.toList = O from rfl] at HLW
  generalize (aE x).args = C at *
  generalize jM x = RX at *
  obtain ⟨W0, hW0⟩ : ∃ W : World, W = w.alloc (.cells #[.string ⟨O.toArray⟩, .slice xa x.args.length xc] 24) := ⟨_, rfl⟩
  rw [← hW0] at HC
  by_cases h1 : (100 : Int) < (O.length : Int)
  · clear HEX0 HOX0 HNX HLW HSM HMX
    go_enter Tryz.func5, Tryz.ntmps5
    go_upto_region 1 with fail
    rw [← hW0]
    clear hW0
    obtain ⟨e0, e1⟩ := (HC.out.blk 0 rfl).pair
    go_wp2_with (go_at_call 21; refine (HAL.out _ HC.out.below).mono ?_; rintro e w9 ⟨rfl, hb⟩; have H9 := aA (HC.out.next hb); clear hb)
    go_ret
    exact ⟨rfl, H9.out.below⟩
  by_cases h2 : (20 : Int) < (x.args.length : Int)
  · clear HEX0 HOX0 HNX HLW HSM HMX
    go_enter Tryz.func5, Tryz.ntmps5
    go_upto_region 1 with fail
    rw [← hW0]
    clear hW0
    obtain ⟨e0, e1⟩ := (HC.out.blk 0 rfl).pair
    go_wp2_with (go_at_call 21; refine (HAL.out _ HC.out.below).mono ?_; rintro e w9 ⟨rfl, hb⟩; have H9 := aA (HC.out.next hb); clear hb)
    go_ret
    exact ⟨rfl, H9.out.below⟩
  by_cases h3 : (300 : Int) < (m.length : Int)
  · clear HEX0 HOX0 HNX HLW HSM HMX
    go_enter Tryz.func5, Tryz.ntmps5
    go_upto_region 1 with fail
    rw [← hW0]
    clear hW0
    obtain ⟨e0, e1⟩ := (HC.out.blk 0 rfl).pair
    go_wp2_with (go_at_call 21; refine (HAL.out _ HC.out.below).mono ?_; rintro e w9 ⟨rfl, hb⟩; have H9 := aA (HC.out.next hb); clear hb)
    go_ret
    exact ⟨rfl, H9.out.below⟩
  have hmx := HMX.out (by show ¬ (100 : Int) < ((O.toArray.size : Nat) : Int); rw [List.size_toArray]; exact h1) h2
  have HEX := aA (HEX0.out hmx)
  have HOX := aA (HOX0.out hmx)
  clear hmx
  clear HEX0 HOX0 HMX
  obtain ⟨ox, kx⟩ := RX
  cases ox with
  | none =>
    have hkx := HNX.out _ rfl
    have hk2 : (kx != 0) = true := by rw [bne_iff_ne]; exact hkx
    clear HNX HLW HSM HOX
    go_enter Tryz.func5, Tryz.ntmps5
    go_upto_region 1 with fail
    rw [← hW0]
    clear hW0
    obtain ⟨e0, e1⟩ := (HC.out.blk 0 rfl).pair
    go_wp2_with fail
    refine (HEX.out _ HC.out.below).mono ?_
    rintro e w1 ⟨he, hb⟩
    have he2 : e = .returned (.tuple #[.slice none 0 0, .int .i64 kx]) := he
    clear he
    subst he2
    have H1 := aA (HC.out.next hb)
    clear hb
    go_wp2_with (go_at_call 21; refine (HAL.out _ H1.out.below).mono ?_; rintro e w9 ⟨rfl, hb⟩; have H9 := aA (H1.out.next hb); clear hb)
    go_ret
    exact ⟨rfl, H9.out.below⟩
  | some A =>
    obtain ⟨⟨hA0, hA1, rfl, hi1⟩, hi2⟩ := HLW.out A kx rfl
    have hm : (A ++ m).length ≤ 1000000 := by rw [List.length_append]; omega
    have htk : (A ++ m).take A.length = A := List.take_left
    have HFI : Hid (∀ q a c W, RowKit.Below w.heap.size w W → SlR aI W q (.slice a (A ++ m).length c) (A ++ m) → Calls Tryz.prog 22 #[.slice a (A ++ m).length c] W fun e w' => (∃ ra rc va vc, e = .returned (.agg #[.int .i64 1, .slice ra A.length rc, .string ⟨O.toArray⟩, .slice va C.length vc, .bool false]) ∧ SlR aI w' (fun _ => True) (.slice ra A.length rc) A ∧ SlR aM w' (fun _ => True) (.slice va C.length vc) C) ∧ RowKit.Below W.heap.size W w') := aA (fun q a c W hb h => by
      have := kE q a c (A ++ m) W (HT.out.below hb) h (by rw [List.length_append]; omega) hm
      rw [hi2] at this
      refine this.mono ?_
      rintro e w' ⟨⟨v, rfl, hv⟩, hb⟩
      obtain ⟨ra, rc, va, vc, rfl, h1, h2⟩ := itmR_to htk hv
      exact ⟨⟨ra, rc, va, vc, rfl, h1, h2⟩, hb⟩)
    have HID : Hid (∀ q a c W, RowKit.Below w.heap.size w W → SlR aI W q (.slice a A.length c) A → Calls Tryz.prog 26 #[.slice a A.length c] W fun e w' => (∃ va vc, e = .returned (.tuple #[.agg #[.string ⟨O.toArray⟩, .slice va C.length vc], .bool true]) ∧ SlR aM w' (fun k => W.heap.size ≤ k) (.slice va C.length vc) C) ∧ RowKit.Below W.heap.size W w') := aA (fun q a c W hb h => by
      have := InstrD_any q a c A W (HT.out.below hb) h hA0 (by omega) (by rw [hi1]) (by rw [hi1]; simp)
      rw [hi1] at this
      exact this)
    have HCB := aA (fun v W h => DG (fun _ => True) v [A, m] W h (show 2 ≤ 1000 by decide) (by simp at hm ⊢; omega))
    rw [show [A, m].flatten = A ++ m by simp] at HCB
    have HS12 := aA (fun (ra rc va vc rd re vd ve) W (h1 : SlR aI W (fun _ => True) (.slice ra A.length rc) A) (h2 : SlR aM W (fun _ => True) (.slice va C.length vc) C) (h3 : SlR aI W (fun _ => True) (.slice rd A.length re) A) (h4 : SlR aM W (fun _ => True) (.slice vd C.length ve) C) => same12_self ⟨1, A.length, O, C, false⟩ (A ++ m) 0 0 _ _ W (itmR_of htk h1 h2) (itmR_of htk h3 h4))
    clear HNX HLW hi1 hi2 hm htk hA0 hA1
    generalize A ++ m = L at *
    go_enter Tryz.func5, Tryz.ntmps5
    go_upto_region 1 with fail
    rw [← hW0]
    clear hW0
    obtain ⟨e0, e1⟩ := (HC.out.blk 0 rfl).pair
    go_upto_region 6 with (go_at_call 24; (with_reducible refine (HEX.out _ HC.out.below).mono ?_); rintro e w1 ⟨⟨v1, rfl, hoa⟩, hb⟩; obtain ⟨ba, bc, rfl⟩ := hoa.form; have SA := aA (Own.slR (q := fun _ => True) hoa (fun _ h => h.elim) (fun _ _ => trivial)); have H1 := aA (HC.out.next hb); clear hb hoa e0 e1)
    clear HEX HC
    go_upto_region 7 with (first
      | (go_at_call 30; refine (HCB.out _ _ (rows2 (Blk.new w1 32 _) (SA.out.alloc _) ((SM.out.below H1.out.below).alloc _))).mono ?_; rintro e w2 ⟨v2, rfl, ho, hb⟩; obtain ⟨za, zc, rfl⟩ := ho.form; have SO := aA (Own.slR (q := fun _ => True) ho (fun _ h => h.elim) (fun _ _ => trivial)); have SA2 := aA ((SA.out.alloc (.cells #[.slice ba A.length bc, .slice ya m.length yc] 32)).below hb); have H2 := aA ((H1.out.alloc (.cells #[.slice ba A.length bc, .slice ya m.length yc] 32)).next hb); clear ho hb)
      | (go_at_call 22; (with_reducible refine (HFI.out _ _ _ _ H2.out.below SO.out).mono ?_); rintro e w3 ⟨⟨ra, rc, va, vc, rfl, r1, r2⟩, hb⟩; have R1 := aA (r1.alloc (.cells #[.int .i64 1, .slice ra A.length rc, .string ⟨O.toArray⟩, .slice va C.length vc, .bool false] 34)); have R2 := aA (r2.alloc (.cells #[.int .i64 1, .slice ra A.length rc, .string ⟨O.toArray⟩, .slice va C.length vc, .bool false] 34)); have SA3 := aA ((SA2.out.below hb).alloc (.cells #[.int .i64 1, .slice ra A.length rc, .string ⟨O.toArray⟩, .slice va C.length vc, .bool false] 34)); have H3 := aA ((H2.out.next hb).new' 34 #[.int .i64 1, .slice ra A.length rc, .string ⟨O.toArray⟩, .slice va C.length vc, .bool false] (b := w3.heap.size) rfl); clear hb r1 r2))
    clear HCB HFI SA SA2 SO H1 H2 SM
    obtain ⟨W3, hW3⟩ : ∃ W : World, W = w3.alloc (.cells #[.int .i64 1, .slice ra A.length rc, .string ⟨O.toArray⟩, .slice va C.length vc, .bool false] 34) := ⟨_, rfl⟩
    rw [← hW3] at H3 R1 R2 SA3 ⊢
    clear hW3
    generalize w3.heap.size = g3 at *
    go_upto_region 8 with (go_at_call 26; (with_reducible refine (HID.out _ _ _ _ H3.out.below SA3.out).mono ?_); rintro e w4 ⟨⟨vb, vd, rfl, r3⟩, hb⟩; have R3 := aA ((r3.mono (q := fun _ => True) (fun _ _ => trivial)).alloc (.cells #[.string ⟨O.toArray⟩, .slice vb C.length vd] 24)); have R14 := aA ((R1.out.below hb).alloc (.cells #[.string ⟨O.toArray⟩, .slice vb C.length vd] 24)); have R24 := aA ((R2.out.below hb).alloc (.cells #[.string ⟨O.toArray⟩, .slice vb C.length vd] 24)); have SA4 := aA ((SA3.out.below hb).alloc (.cells #[.string ⟨O.toArray⟩, .slice vb C.length vd] 24)); have H4 := aA ((H3.out.next hb).new' 24 #[.string ⟨O.toArray⟩, .slice vb C.length vd] (b := w4.heap.size) rfl); clear hb r3)
    clear HID H3 R1 R2 SA3
    obtain ⟨W4, hW4⟩ : ∃ W : World, W = w4.alloc (.cells #[.string ⟨O.toArray⟩, .slice vb C.length vd] 24) := ⟨_, rfl⟩
    rw [← hW4] at H4 R3 R14 R24 SA4 ⊢
    clear hW4
    generalize w4.heap.size = g4 at *
    obtain ⟨e0, e1⟩ := (H4.out.blk 2 rfl).pair
    go_upto_region 9 with (go_at_call 31; (with_reducible refine (HOX.out _ H4.out.below).mono ?_); rintro e w5 ⟨v5, rfl, ho, hb⟩; have r4 := ho.slR.mono (q := fun _ => True) (fun _ _ => trivial); clear ho; obtain ⟨vo, vq, rfl⟩ : ∃ a c, v5 = .slice a C.length c := (by obtain ⟨a, c, e, _⟩ := r4; exact ⟨a, c, e⟩); have R4 := aA (r4.alloc (.cells #[.int .i64 1, .slice ba A.length bc, .string ⟨O.toArray⟩, .slice vo C.length vq, .bool false] 34)); have R35 := aA ((R3.out.below hb).alloc (.cells #[.int .i64 1, .slice ba A.length bc, .string ⟨O.toArray⟩, .slice vo C.length vq, .bool false] 34)); have R15 := aA ((R14.out.below hb).alloc (.cells #[.int .i64 1, .slice ba A.length bc, .string ⟨O.toArray⟩, .slice vo C.length vq, .bool false] 34)); have R25 := aA ((R24.out.below hb).alloc (.cells #[.int .i64 1, .slice ba A.length bc, .string ⟨O.toArray⟩, .slice vo C.length vq, .bool false] 34)); have SA5 := aA ((SA4.out.below hb).alloc (.cells #[.int .i64 1, .slice ba A.length bc, .string ⟨O.toArray⟩, .slice vo C.length vq, .bool false] 34)); have H5 := aA ((H4.out.next hb).new' 34 #[.int .i64 1, .slice ba A.length bc, .string ⟨O.toArray⟩, .slice vo C.length vq, .bool false] (b := w5.heap.size) rfl); clear hb r4 e0 e1)
    clear HOX H4 R3 R14 R24 SA4
    obtain ⟨W5, hW5⟩ : ∃ W : World, W = w5.alloc (.cells #[.int .i64 1, .slice ba A.length bc, .string ⟨O.toArray⟩, .slice vo C.length vq, .bool false] 34) := ⟨_, rfl⟩
    rw [← hW5] at H5 R4 R35 R15 R25 SA5 ⊢
    clear hW5
    generalize w5.heap.size = g5 at *
    go_wp2_with (first
      | (go_at_call 21; refine (HAL.out _ H5.out.below).mono ?_; rintro e w6 ⟨rfl, hb⟩; have H6 := aA (H5.out.next hb); have R46 := aA (R4.out.below hb); have R36 := aA (R35.out.below hb); have R16 := aA (R15.out.below hb); have R26 := aA (R25.out.below hb); have SA6 := aA (SA5.out.below hb); clear hb; obtain ⟨⟨c0, c1, c2, c3, c4⟩, _⟩ := (H6.out.blk 2 rfl).five; obtain ⟨⟨d0, d1, d2, d3, d4⟩, _⟩ := (H6.out.blk 0 rfl).five)
      | (go_at_call 32; (with_reducible refine (HS12.out _ _ _ _ _ _ _ _ _ R16.out R26.out SA6.out R46.out).mono ?_); rintro e w7 ⟨rfl, hb⟩; have H7 := aA (H6.out.next hb); have R47 := aA (R46.out.below hb); have R37 := aA (R36.out.below hb); clear hb c0 c1 c2 c3 c4 d0 d1 d2 d3 d4; obtain ⟨⟨d0, d1, d2, d3, d4⟩, _⟩ := (H7.out.blk 0 rfl).five; obtain ⟨e0, e1⟩ := (H7.out.blk 1 rfl).pair)
      | (go_at_call 27; refine (HSM.out _ _ _ _ _ R37.out R47.out).mono ?_; rintro e w8 ⟨rfl, hb⟩; have H8 := aA (H7.out.next hb); clear hb))
    go_ret
    exact ⟨rfl, H8.out.below⟩
end Go.Proofs.YtmpmciccgempeaaGreatDoor
