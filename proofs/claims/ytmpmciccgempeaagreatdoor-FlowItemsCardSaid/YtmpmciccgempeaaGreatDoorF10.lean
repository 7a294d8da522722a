/-
  flow.Item fR an image. Conditions: the library's table as its initialiser lays it.
-/
import Derived.Test.YtmpmciccgempeaaGreatDoorF9
import Derived.Test.YtmpmciccgempeaaGreatDoorBC4
import Derived.Test.YtmpmciccgempeaaGreatDoorBC3
import Derived.Test.YtmpmciccgempeaaGreatDoorBC2
import Derived.Test.YtmpmciccgempeaaGreatDoorBF1
import Derived.Test.YtmpmciccgempeaaGreatDoorBC1
import Derived.Test.YtmpmciccgempeaaGreatDoorBU1
import Derived.Test.YtmpmciccgempeaaGreatDoorBA17
import Derived.Test.YtmpmciccgempeaaGreatDoorBA14
import Derived.Test.YtmpmciccgempeaaGreatDoorBA12
import Derived.Test.YtmpmciccgempeaaGreatDoorBA6
import Derived.Test.YtmpmciccgempeaaGreatDoorBA5
import Derived.Test.YtmpmciccgempeaaGreatDoorBB1
import Derived.Test.YtmpmciccgempeaaGreatDoorBA1
import Derived.Test.YtmpmciccgempeaaGreatDoorBD1
import Derived.Test.YtmpmciccgempeaaGreatDoorBR1
import Derived.Test.YtmpmciccgempeaaGreatDoorChecked
import Derived.Test.YtmpmciccgempeaaGreatDoorBA4
import Derived.Test.YtmpmciccgempeaaGreatDoorShelf
import Derived.Test.YtmpmciccgempeaaGreatDoorBA2
import Derived.Test.YtmpmciccgempeaaGreatDoorBA3
import Derived.Test.YtmpmciccgempeaaGreatDoorBB2
import Derived.Test.YtmpmciccgempeaaGreatDoorBA9
import Derived.Test.YtmpmciccgempeaaGreatDoorBA7
import Derived.Test.YtmpmciccgempeaaGreatDoorBA8
import Derived.Test.YtmpmciccgempeaaGreatDoorBT1
import Derived.Test.YtmpmciccgempeaaGreatDoorBB3
import Derived.Test.YtmpmciccgempeaaGreatDoorBA11
import Derived.Test.YtmpmciccgempeaaGreatDoorBA10
import Derived.Test.YtmpmciccgempeaaGreatDoorBB8
import Derived.Test.YtmpmciccgempeaaGreatDoorBB4
import Derived.Test.YtmpmciccgempeaaGreatDoorBB6
import Derived.Test.YtmpmciccgempeaaGreatDoorBB5
import Derived.Test.YtmpmciccgempeaaGreatDoorBA13
import Derived.Test.YtmpmciccgempeaaGreatDoorBB7
import Derived.Test.YtmpmciccgempeaaGreatDoorD17n
namespace Go.Proofs.YtmpmciccgempeaaGreatDoor
open Go.RowKit Go.Shelf Go.Sort

def itZ : Itm := ⟨0, 0, [], [], false⟩
def itQ (L : List UInt8) : Itm := if L = [] then itZ else itF L
def lenV (v : Value) : Nat := match v with
  | .slice _ n _ => n
  | _ => 0
theorem itmZ (w : World) (B : Nat) : dW w B itZ [] (.agg cD) := ⟨none, 0, none, 0, rfl, SlR.nil _ _ _, SlR.nil _ _ _⟩
def FItP (w : World) (L : List UInt8) (e : Ending) (w' : World) : Prop :=
  (∃ x, e = .returned (.tuple #[x, .bool (decide (0 < L.length))]) ∧ dW w' w.heap.size (itQ L) L x) ∧ RowKit.Below w.heap.size w w'
theorem itmE_end {fn : Func} {p u : Tmp} (h : fn.results = #[.cell p 34, .tmp u]) {tmps : Array Value} {w' : World} {cs : Array Value} {g : Nat} (hp : tmps.getD p undef = .pointer (some ⟨g, 0, none⟩))
    (hg : Blk w' g 34 cs) (hs : cs.size = 5) : (results fn tmps).run Tryz.prog w' = .ok (.tuple #[.agg cs, tmps.getD u undef]) w' :=
  aH h tmps w' g 34 _ (0, 0) _ hp hg Tryz.underlying34 rfl (by rw [hs]; kernel_rfl)
theorem FirstQ_any (p : aB) (a : Option Addr) (c : Nat) (l : List UInt8) (w : World) (hT : Spc w) (hs : SlR aI w p (.slice a l.length c) l) (hl : l.length ≤ 1000000) :
    Calls Tryz.prog 22 #[.slice a l.length c] w (WJ w (itQ l) l) := by
  cases l with
  | nil =>
    refine (MO a c w).mono ?_
    rintro e w' ⟨rfl, hb⟩
    exact ⟨⟨_, rfl, itmZ _ _⟩, hb⟩
  | cons x l => exact kE p a c (x :: l) w hT hs (by simp) hl
set_option maxHeartbeats 2000000 in
set_option maxRecDepth 100000 in
theorem FItem_any (b n : Nat) (d : Nat → Bool) (v : Nat → UInt8) (addr : Int) (ha : cN addr) (w : World) (hT : Spc w) (h : eO w b d v n) :
    Calls Tryz.prog 35 #[.pointer (some ⟨b, 0, none⟩), .int .i64 addr] w (FItP w (bys d v addr 4)) := by
  have HI := aA (fun W (hb : RowKit.Below w.heap.size w W) (a : Int) => imgGet_gB b n a d v W (h.below hb h.lt))
  have HL4 := aA (bys_len d v 4 addr)
  have HGT := aA (fun k (hk : k < 4) hl => @bys_get d v 4 k addr hk hl)
  have HPS := aA (fun hp => @bys_pos d v 4 addr hp)
  obtain ⟨L, hL⟩ : ∃ L, L = bys d v addr 4 := ⟨_, rfl⟩
  rw [← hL] at HL4 HGT HPS ⊢
  clear hL
  have HA := aA ha
  have HFB := aA (fun a c W (hb : RowKit.Below w.heap.size w W) (hs : SlR aI W (fun _ => True) (.slice a L.length c) L) => FirstQ_any _ a c L W (hT.below hb) hs (by have := HL4.out; omega))
  have HF0 := aA ((Fr.start w).new 34 cD)
  obtain ⟨W0, hW0⟩ : ∃ W : World, W = w.alloc (.cells cD 34) := ⟨_, rfl⟩
  rw [← hW0] at HF0
  have HZ0 : Hid (w.heap.size < W0.heap.size) := aA ((HF0.out.blk 0 rfl).lt)
  unfold FItP
  clear h hT ha
  go_enter Tryz.func35, Tryz.ntmps35
  go_upto_region 1 with fail
  rw [← hW0]
  clear hW0
  go_wp2
  go_loopw [6, 7, 8] (fun x _ _ wr => ∃ k : Nat, k ≤ L.length ∧ k ≤ 4 ∧ Own aI wr W0.heap.size 5 NoB x (L.take k) ∧ RowKit.Below W0.heap.size W0 wr) (fun x _ _ _ => 4 - lenV x)
  case atStart => exact ⟨0, Nat.zero_le _, by omega, Own.nil _ _ _ _ _, Below.refl _ _⟩
  case round =>
    obtain ⟨k, hk, hk4, ho, hb⟩ := hrel
    have HB := aA hb
    have hxl : (L.take k).length = k := by rw [List.length_take]; omega
    generalize hx : L.take k = xs at *
    subst hxl
    have HX := aA hx
    have HO := aA ho
    obtain ⟨oa, oc, rfl⟩ := ho.form
    have HBW := aA (HF0.out.next hb).below
    have HFR := aA (HF0.out.next hb)
    have HSL := aA (ho.slR (q := fun _ => True) (fun _ h => h.elim) (fun _ _ => trivial))
    have hend : xs.length = L.length → xs = L := fun e => by rw [← hx, e, List.take_length]
    have HEN := aA hend
    have HGK := aA (fun h4 => HGT.out xs.length h4 hk)
    have hw9 : IntKind.i64.wrap (addr + (xs.length : Int)) = addr + (xs.length : Int) := by
      have h1 := HA.out.1
      have h2 := HA.out.2
      rw [IntKind.wrap_i64]
      by_cases h0 : 0 < L.length
      · have := HPS.out h0
        omega
      · omega
    have HIG := aA (HI.out _ HBW.out (addr + (xs.length : Int)))
    clear hend hb ho hx
    by_cases h4 : xs.length < 4
    · have h4i : (xs.length : Int) < 4 := by omega
      cases hG : gB d v (addr + (xs.length : Int)) with
      | none =>
        rw [hG, show byteO none = 0 from rfl, show (none : Option UInt8).isSome = false from rfl] at HIG
        have he := HEN.out ((HGK.out h4).1 hG).symm
        subst he
        clear hG hk hk4 h4
        go_wp2_with (first
          | (go_at_call 90; (with_reducible refine HIG.out.mono ?_); rintro e w1 ⟨rfl, rfl⟩)
          | (go_at_call 22; refine (HFB.out _ _ _ HBW.out HSL.out).mono ?_; rintro e w2 ⟨⟨x, rfl, hi⟩, hb⟩; have hm := hi; obtain ⟨ra, rc, va, vc, hv, _, _⟩ := hi; unfold qU at hv; rw [List.length_take] at hv; subst hv; have HM := aA hm; clear hm; have HF1 := aA (HFR.out.next hb); obtain ⟨⟨c0, c1, c2, c3, c4⟩, y0, y1, y2, y3, y4⟩ := (HF1.out.blk 0 rfl).five; clear hb))
        have F5 := aA (HF1.out.set5 (Nat.le_refl _) (fun x hx => by cases hx) (.int .i64 (itQ xs).k) (.slice ra (min (itQ xs).n xs.length) rc) (.string ⟨(itQ xs).op.toArray⟩) (.slice va (itQ xs).args.length vc) (.bool (itQ xs).al))
        exact bodyPost_ret (itmE_end rfl rfl (F5.out.blk 0 rfl) rfl) rfl ⟨⟨_, rfl, (HM.out.off5 (Nat.lt_of_lt_of_le HZ0.out HB.out.size) _ _ _ _ _).base (Nat.le_of_lt (Nat.lt_of_lt_of_le HZ0.out HB.out.size))⟩, F5.out.below⟩
      | some b0 =>
        rw [hG, show byteO (some b0) = (b0.toNat : Int) from rfl, show (some b0).isSome = true from rfl] at HIG
        obtain ⟨hlt, hx2⟩ := (HGK.out h4).2 b0 hG
        rw [HX.out] at hx2
        have HX2 := aA hx2
        have HC1 : Hid ((xs.length + 1) * 1 ≤ 140737488355328) := aA (by omega)
        have HC2 : Hid (xs.length + 1 ≤ 9223372036854775807) := aA (by omega)
        clear hG hk hx2
        go_wp2_with (first
          | (go_at_call 90; (with_reducible refine HIG.out.mono ?_); rintro e w1 ⟨rfl, rfl⟩)
          | (at_builtin; refine cK rfl (.tmp 23) (.tmp 25) 32 rfl W0.heap.size 5 1 mH _ xs b0 _ rfl rfl HO.out rfl HC1.out HC2.out HB.out.size ?_; intro a' c' w' hp; have HP := aA hp; clear hp))
        go_roundw
        case rel => exact ⟨xs.length + 1, by omega, by omega, by rw [HX2.out]; exact HP.out.1, HB.out.grown HP.out.2 HB.out.size (fun j hj => (HO.out.lt j hj).1)⟩
        case measure => simp [lenV]; omega
    · have he := HEN.out (by have := HL4.out; omega)
      have h4i : ¬ (xs.length : Int) < 4 := by omega
      subst he
      clear hk hk4 h4
      go_wp2_with (go_at_call 22; refine (HFB.out _ _ _ HBW.out HSL.out).mono ?_; rintro e w2 ⟨⟨x, rfl, hi⟩, hb⟩; have hm := hi; obtain ⟨ra, rc, va, vc, hv, _, _⟩ := hi; unfold qU at hv; rw [List.length_take] at hv; subst hv; have HM := aA hm; clear hm; have HF1 := aA (HFR.out.next hb); obtain ⟨⟨c0, c1, c2, c3, c4⟩, y0, y1, y2, y3, y4⟩ := (HF1.out.blk 0 rfl).five; clear hb)
      have F5 := aA (HF1.out.set5 (Nat.le_refl _) (fun x hx => by cases hx) (.int .i64 (itQ xs).k) (.slice ra (min (itQ xs).n xs.length) rc) (.string ⟨(itQ xs).op.toArray⟩) (.slice va (itQ xs).args.length vc) (.bool (itQ xs).al))
      exact bodyPost_ret (itmE_end rfl rfl (F5.out.blk 0 rfl) rfl) rfl ⟨⟨_, rfl, (HM.out.off5 (Nat.lt_of_lt_of_le HZ0.out HB.out.size) _ _ _ _ _).base (Nat.le_of_lt (Nat.lt_of_lt_of_le HZ0.out HB.out.size))⟩, F5.out.below⟩
end Go.Proofs.YtmpmciccgempeaaGreatDoor
