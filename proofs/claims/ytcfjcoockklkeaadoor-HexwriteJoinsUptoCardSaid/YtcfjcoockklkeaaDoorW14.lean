/-
  breadboardlaw04.alive. Conditions: the library's table as its initialiser lays it.
-/
import Derived.Test.YtcfjcoockklkeaaDoorW13
namespace Go.Proofs.YtcfjcoockklkeaaDoor
open Go.RowKit

theorem runs_none (v : Nat → UInt8) : runsOf (fun _ => false) v = [] := by rw [← runs02_of, cellsOf_none]; rfl
def putTwo : ImgS := imgPut (fun _ => false) (fun _ => 0) (15 : Int) [1, 2]
theorem put_two : cellsOf putTwo.1 putTwo.2 = cellsF 15 [1, 2] ∧ putCode (fun _ => false) (15 : Int) 2 = 0 := by
  obtain ⟨h1, h2⟩ := put_behind (d := fun _ => false) (v := fun _ => 0) (a := 15) (l := [1, 2]) (fun c hc => by rw [cellsOf_none] at hc; cases hc) (by simp) (by decide)
  rw [cellsOf_none] at h1
  have e : ((15 : Nat) : Int) = (15 : Int) := rfl
  rw [e] at h1 h2
  exact ⟨h1, h2⟩
theorem runs_two : runsOf putTwo.1 putTwo.2 = [(15, [1, 2])] := by
  rw [← runs02_of, put_two.1]
  decide
theorem text_none : textOf 16 [] = [58, 48, 48, 48, 48, 48, 48, 48, 49, 70, 70, 10] := by decide
theorem dump_two : dumpOf [(15, [1, 2])] = [48, 48, 48, 70, 58, 32, 48, 49, 10, 48, 48, 49, 48, 58, 32, 48, 50, 10] := by decide
theorem ImgC.grown {w w' : World} {b n : Nat} {d : Nat → Bool} {v : Nat → UInt8} {row : Option Nat} (h : ImgC w b d v n) (hg : w.grownBy w' row) (hb : some b ≠ row) : ImgC w' b d v n := by
  have hs : w'.heap[b]? = w.heap[b]? := hg.block b h.lt hb
  have hc : ∀ o, w'.cell? ⟨b, o, none⟩ = w.cell? ⟨b, o, none⟩ := fun o => by unfold World.cell?; rw [hs]
  have hf : ∀ o, w'.frozen? ⟨b, o, none⟩ = w.frozen? ⟨b, o, none⟩ := fun o => by unfold World.frozen?; rw [hs]
  exact ⟨fun i hi => (hc i).trans (h.words i hi), (hc 1024).trans h.count, fun a ha => (hc _).trans (h.bytes a ha), fun o => (hf o).trans (h.free o)⟩
theorem put_ok {w' : World} {b n : Nat} {d : Nat → Bool} {v : Nat → UInt8} {a : Int} {l : List UInt8} (hc : putCode d a l.length = 0) (h : Put w' b n d v a l) : ImgC w' b (imgPut d v a l).1 (imgPut d v a l).2 (n + l.length) := by
  unfold Put at h
  rw [if_pos hc] at h
  unfold imgPut
  rw [if_pos hc]
  exact h
theorem PutOK_any (b n : Nat) (a : Int) (d : Nat → Bool) (v : Nat → UInt8) (p : Blocks) (vl : Value) (l : List UInt8) (w : World) (h : ImgC w b d v n) (hn : n ≤ 900000000) (hs : SlR byteR w p vl l) (hT : Deb w) (ha1 : -9223372036854775808 ≤ a) (ha2 : a ≤ 9223372036854775807) (hl : l.length ≤ 1000000) (hc : putCode d a l.length = 0) :
    Calls Tryd.prog 28 #[.pointer (some ⟨b, 0, none⟩), .int .i64 a, vl] w fun e w' => e = .returned (.int .i64 0) ∧ ImgC w' b (imgPut d v a l).1 (imgPut d v a l).2 (n + l.length) ∧ w.grownBy w' (some b) :=
  (Put_any b n a d v p vl l w h hn hs hT ha1 ha2 hl).mono fun e w' h => ⟨h.1.trans (by rw [hc]; rfl), put_ok hc h.2.1, h.2.2⟩
theorem put_two_ok {w' : World} {b : Nat} (h : ImgC w' b (imgPut (fun _ => false) (fun _ => 0) (15 : Int) [1, 2]).1 (imgPut (fun _ => false) (fun _ => 0) (15 : Int) [1, 2]).2 (0 + ([1, 2] : List UInt8).length)) : ImgC w' b putTwo.1 putTwo.2 2 := h
set_option maxRecDepth 100000 in
theorem put15 (b : Nat) (v : Nat → UInt8) (w : World) (hv : v = fun _ => 0) (h : ImgC w b (fun _ => false) v 0) (hT : Deb w) (c : Nat) (hc : c = w.heap.size) :
    Calls Tryd.prog 28 #[.pointer (some ⟨b, 0, none⟩), .int .i64 15, .slice (some ⟨c, 0, none⟩) 2 2] (w.alloc (.cells #[.int .u8 1, .int .u8 2] 5)) fun e w' => e = .returned (.int .i64 0) ∧ ImgC w' b putTwo.1 putTwo.2 2 ∧ (w.alloc (.cells #[.int .u8 1, .int .u8 2] 5)).grownBy w' (some b) := by
  subst hc hv
  have hb : Below w.heap.size w (w.alloc (.cells #[.int .u8 1, .int .u8 2] 5)) := (Below.refl _ w).alloc (Nat.le_refl _) _
  have hcode : putCode (fun _ => false) (15 : Int) ([1, 2] : List UInt8).length = 0 := put_two.2
  exact (PutOK_any b 0 15 (fun _ => false) (fun _ => 0) (fun _ => True) _ [1, 2] _ (h.below hb h.lt) (by omega) (slR_lit w 5 (fun _ => True) [1, 2] #[.int .u8 1, .int .u8 2] 2 rfl rfl (by simp) (fun _ _ => trivial)) (hT.below hb) (by omega) (by omega) (by simp) hcode).mono
    fun e w' h => ⟨h.1, put_two_ok h.2.1, h.2.2⟩
set_option maxHeartbeats 1000000 in
set_option maxRecDepth 100000 in
theorem alive4_any (w : World) (hT : Deb w) :
    Calls Tryd.prog 13 #[] w fun e w' => e = .returned (.bool true) ∧ Below w.heap.size w w' := by
  have HT := Lib.hid hT
  clear hT
  go_enter Tryd.func13, Tryd.ntmps13
  have HPW := Lib.hid put15
  have HWR := Lib.hid (fun (b : Nat) (W : World) (hi : ImgC W b (fun _ => false) (fun _ => 0) 0) (hT : Deb W) => Write_any [] (some ⟨b, 0, none⟩) W (.inr ⟨b, 0, _, _, rfl, hi, (runs_none _).symm⟩) hT (by simp))
  have HDP := Lib.hid (fun (b : Nat) (W : World) (hi : ImgC W b putTwo.1 putTwo.2 2) (hT : Deb W) => Dump_any [(15, [1, 2])] (some ⟨b, 0, none⟩) W (.inr ⟨b, 2, _, _, rfl, hi, runs_two.symm⟩) hT (by simp))
  rw [text_none] at HWR
  rw [dump_two] at HDP
  generalize putTwo = P2 at *
  go_wp2_with (first
    | (go_at_call 28; refine (HPW.out _ _ _ rfl HI1.out (HT.out.below HB1.out) _ rfl).mono ?_; rintro e w2 ⟨rfl, hi, hg⟩; have HI2 := Lib.hid hi; have HB2 : Hid (Below w.heap.size w w2) := (HB1.out.alloc HB1.out.size _).grown hg (Nat.le_trans HB1.out.size (by simp)) (fun k e => by injection e with e; omega); clear hi hg)
    | (go_at_call 18; refine (HWR.out _ _ HI1.out (HT.out.below (HB2.out.trans (HB1.out.mono HB2.out.size)))).mono ?_; rintro e w4 ⟨rfl, hb⟩; have HB4 := Lib.hid ((HB2.out.trans (HB1.out.mono HB2.out.size)).trans (hb.mono (Nat.le_trans HB2.out.size HB1.out.size))); have HI4 := Lib.hid ((HI2.out.below HB1.out HI2.out.lt).below hb (Nat.lt_of_lt_of_le HI2.out.lt HB1.out.size)); clear hb)
    | (go_at_call 15; refine (HDP.out _ _ HI4.out (HT.out.below HB4.out)).mono ?_; rintro e w5 ⟨rfl, hb⟩; have HB5 := Lib.hid (HB4.out.trans (hb.mono HB4.out.size)); clear hb)
    | (go_at_call 26; refine (New_any _).mono ?_; (try clear HI1); (try clear HB1); rintro e w1 ⟨rfl, hi, hb⟩; have HI1 := Lib.hid hi; have HB1 := Lib.hid hb; clear hi hb))
  go_ret
  exact ⟨rfl, HB5.out⟩
end Go.Proofs.YtcfjcoockklkeaaDoor
