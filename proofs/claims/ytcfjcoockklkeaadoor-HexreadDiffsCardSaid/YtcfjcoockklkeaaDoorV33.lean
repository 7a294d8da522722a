/-
  Image.Get at an image that may be nil; hexread.Diff$1. Conditions: none.
-/
import Derived.Test.YtcfjcoockklkeaaDoorV32
import Derived.Test.YtcfjcoockklkeaaDoorV3
namespace Go.Proofs.YtcfjcoockklkeaaDoor
open Go.RowKit

/-- the image of nil -/
def nilI : ImgS := (fun _ => false, fun _ => 0)
/-- an image, or nil -/
def ImgN (w : World) (mo : Option Addr) (S : ImgS) : Prop := (mo = none ∧ S = nilI) ∨ ∃ b n, mo = some ⟨b, 0, none⟩ ∧ ImgC w b S.1 S.2 n
theorem ImgN.below {w w' : World} {mo : Option Addr} {S : ImgS} (h : ImgN w mo S) (hb : Below w.heap.size w w') : ImgN w' mo S := by
  rcases h with h | ⟨b, n, h1, h2⟩
  · exact .inl h
  · exact .inr ⟨b, n, h1, h2.below hb h2.lt⟩
theorem runs_nilI : runsOf nilI.1 nilI.2 = [] := runs_none _
theorem ImgN.imgV {w : World} {mo : Option Addr} {S : ImgS} (h : ImgN w mo S) : ImgV w (.pointer mo) (runsOf S.1 S.2) := by
  rcases h with ⟨rfl, rfl⟩ | ⟨b, n, rfl, h2⟩
  · exact .inl ⟨rfl, runs_nilI⟩
  · exact .inr ⟨b, n, _, _, rfl, h2, rfl⟩
theorem get_any (mo : Option Addr) (S : ImgS) (a : Nat) (w : World) (h : ImgN w mo S) (ha : a < 65536) :
    Calls Tryd.prog 81 #[.pointer mo, .int .i64 a] w fun e w' => e = .returned (.tuple #[.int .u8 (if S.1 a = true then ((S.2 a).toNat : Int) else 0), .bool (S.1 a)]) ∧ w' = w := by
  rcases h with ⟨rfl, rfl⟩ | ⟨b, n, rfl, h2⟩
  · have hai : (0 : Int) ≤ a := by omega
    clear ha
    go_enter Tryd.func81, Tryd.ntmps81
    go_wp2
    exact bodyPost_ret (v := .tuple #[.int .u8 0, .bool false]) (by simp [results, Tryd.results81, go_sem]) rfl ⟨rfl, rfl⟩
  · exact imgGet_any b n a S.1 S.2 w h2 ha

/-- the addresses of the cells that a round tells -/
def selF (T : ImgS) (both : Bool) (L : List CellV) : List Int := (L.filter (difT T both)).map fun c => (c.addr : Int)
theorem selF_app (T : ImgS) (both : Bool) (L M : List CellV) : selF T both (L ++ M) = selF T both L ++ selF T both M := by
  unfold selF
  rw [List.filter_append, List.map_append]
theorem selF_len (T : ImgS) (both : Bool) (L : List CellV) : (selF T both L).length ≤ L.length := by
  unfold selF
  rw [List.length_map]
  exact List.length_filter_le _ _
theorem selF_yes {T : ImgS} {both : Bool} {c : CellV} (h : difT T both c = true) : selF T both [c] = [(c.addr : Int)] := by
  unfold selF
  simp [h]
theorem selF_no {T : ImgS} {both : Bool} {c : CellV} (h : difT T both c = false) : selF T both [c] = [] := by
  unfold selF
  simp [h]
theorem cellsF_take {l : List UInt8} {a k : Nat} (h : k < l.length) : cellsF a (l.take (k + 1)) = cellsF a (l.take k) ++ [⟨a + k, l[k]⟩] := by
  rw [List.take_succ_eq_append_getElem h, cellsF_app, List.length_take, Nat.min_eq_left (Nat.le_of_lt h)]
  rfl
/-- what hexread.Diff collects -/
structure DifI (w0 w1 : World) (bO : Nat) (ys : List Int) (w : World) : Prop where
  out : ∃ ov, Blk w bO 67 #[ov] ∧ Own intR w w0.heap.size 3 NoB ov ys
  below : Below w0.heap.size w0 w
  keep : Keep (TyB w1 [79, 5]) w1 w
theorem DifI.later {w0 w1 w w' : World} {bO : Nat} {ys : List Int} (h : DifI w0 w1 bO ys w) (hb : Below w.heap.size w w') : DifI w0 w1 bO ys w' := by
  obtain ⟨ov, h1, h2⟩ := h.out
  exact ⟨⟨ov, h1.below hb h1.lt, h2.stayS hb⟩, h.below.trans (hb.mono h.below.size), fun k hk => (hb.block k (heap_lt hk.lt (h.keep k hk))).trans (h.keep k hk)⟩
theorem difI_app {w0 w1 w : World} {bO : Nat} {ys : List Int} (h : DifI w0 w1 bO ys w) (hB : w0.heap.size ≤ bO) (hys : ys.length ≤ 1000000) (n : Int) :
    ∃ ov a5 c5 w3, Blk w bO 67 #[ov] ∧ (Builtin.append_ #[67, 67] 67 #[ov, .slice (some ⟨w.heap.size, 0, none⟩) 1 1]).run Tryd.prog (w.alloc (.cells #[.int .i64 n] 3)) = .ok (.slice a5 (ys.length + 1) c5) w3 ∧ Blk w3 bO 67 #[ov] ∧
      DifI w0 w1 bO (ys ++ [n]) (w3.setCell ⟨bO, 0, none⟩ (.slice a5 (ys.length + 1) c5)) ∧ ∀ g cs, Blk w g 79 cs → Blk (w3.setCell ⟨bO, 0, none⟩ (.slice a5 (ys.length + 1) c5)) g 79 cs := by
  obtain ⟨ov, h1, h2⟩ := h.out
  obtain ⟨a5, c5, w3, hrun, hk, hrest⟩ := acc_app (P := Tryd.prog) elInt (by decide) n #[.int .i64 n] rfl h1 h2 h.below (by omega) (by omega) (Below.refl _ _)
  obtain ⟨g1, g2, g3⟩ := hrest hB
  have hne : ∀ (k : Nat) (cs : Array Value) (t : TypeId), w.heap[k]? = some (Obj.cells cs t (0, 0)) → t ≠ 67 → k ≠ bO := fun k cs t hkk ht e => by
    have hk2 : w.heap[bO]? = some (.cells #[ov] 67 (0, 0)) := h1
    rw [← e, hkk] at hk2
    injection hk2 with hk2
    injection hk2 with _ hk2
    exact ht hk2
  have hst : ∀ (k : Nat) (cs : Array Value) (t : TypeId), w.heap[k]? = some (Obj.cells cs t (0, 0)) → t ≠ 67 → t ≠ 3 → (w3.setCell ⟨bO, 0, none⟩ (.slice a5 (ys.length + 1) c5)).heap[k]? = some (Obj.cells cs t (0, 0)) := fun k cs t hk ht ht2 =>
    g3 k _ hk (hne k cs t hk ht) (fun cs2 fz e => by injection e with _ e; exact ht2 e)
  refine ⟨ov, a5, c5, w3, h1, hrun, hk, ⟨g1, g2, fun k hk => ?_⟩, fun g cs hg => hst g cs _ hg (by decide) (by decide)⟩
  obtain ⟨cs, t, ht, hc⟩ := hk
  have hw : w.heap[k]? = some (.cells cs t (0, 0)) := (h.keep k ⟨cs, t, ht, hc⟩).trans hc
  refine (hst k cs t hw ?_ ?_).trans hc.symm
  · simp only [List.mem_cons, List.mem_nil_iff, or_false] at ht
    rcases ht with rfl | rfl <;> decide
  · simp only [List.mem_cons, List.mem_nil_iff, or_false] at ht
    rcases ht with rfl | rfl <;> decide
set_option maxHeartbeats 4000000 in
set_option maxRecDepth 100000 in
theorem Diff1_any (w0 w1 : World) (bO : Nat) (mo : Option Addr) (T : ImgS) (a : Nat) (sa : Option Addr) (l : List UInt8) (sc : Nat) (both : Bool) (ys : List Int) (w : World)
    (hs : SlR byteR w1 (TyB w1 [79, 5]) (.slice sa l.length sc) l) (hT : ImgN w0 mo T) (hl : a + l.length ≤ 65536) (h : DifI w0 w1 bO ys w) (hB : w0.heap.size ≤ bO) (hys : ys.length ≤ 200000) :
    Calls Tryd.prog 80 #[.agg #[.int .i64 a, .slice sa l.length sc], .pointer mo, .bool both, .pointer (some ⟨bO, 0, none⟩)] w fun e w' => e = .returned (.tuple #[]) ∧ DifI w0 w1 bO (ys ++ selF T both (cellsF a l)) w' := by
  have hal := (Below.refl w.heap.size w).alloc (Nat.le_refl _) (.cells #[.int .i64 (a : Int), .slice sa l.length sc] 79)
  have HI0 := Lib.hid (h.later hal)
  have HK0 := Lib.hid (Blk.new w 79 #[.int .i64 (a : Int), .slice sa l.length sc])
  have HS := Lib.hid hs
  have HT := Lib.hid hT
  have hl1 : (l.length : Int) ≤ 65536 := by omega
  have HBO := Lib.hid hB
  clear hal h hs hT hB
  obtain ⟨bR, hbR⟩ : ∃ bR, bR = w.heap.size := ⟨_, rfl⟩
  rw [← hbR] at HK0
  go_enter Tryd.func80, Tryd.ntmps80
  obtain ⟨z0, z1, _, _⟩ := HK0.out.two
  rw [hbR] at z0 z1
  go_wp2
  rw [← hbR] at *
  clear z0 z1
  go_loopw [14] (fun i wr => ∃ k : Nat, k ≤ l.length ∧ i = .int .i64 k ∧ DifI w0 w1 bO (ys ++ selF T both (cellsF a (l.take k))) wr ∧ Blk wr bR 79 #[.int .i64 (a : Int), .slice sa l.length sc]) (fun i _ => l.length - (intOf i).toNat)
  case atStart => exact ⟨0, Nat.zero_le _, rfl, by rw [List.take_zero]; show DifI _ _ _ (ys ++ []) _; rw [List.append_nil]; exact HI0.out, HK0.out⟩
  case round =>
    clear HI0 HK0
    obtain ⟨k, hk, rfl, hi, hkr⟩ := hrel
    have HI := Lib.hid hi
    have HKR := Lib.hid hkr
    clear hi hkr
    obtain ⟨z0, z1, _, _⟩ := HKR.out.two
    by_cases hlt : k < l.length
    · obtain ⟨aa, ac, ev, _, _, g⟩ := (HS.out.keep HI.out.keep).byte
      obtain ⟨b1, o1, ea, _, d0⟩ := g k l[k] (List.getElem?_eq_getElem hlt)
      obtain rfl : sa = aa := by injection ev
      subst ea
      clear ev g
      have HTK := Lib.hid (cellsF_take (a := a) hlt)
      have HG := Lib.hid (get_any mo T (a + k) wr (HT.out.below HI.out.below) (by omega))
      rw [Int.natCast_add] at HG
      have hsum : (a : Int) + k ≤ 65535 := by omega
      have hsum0 : (0 : Int) ≤ (a : Int) + k := by omega
      have hlen : (ys ++ selF T both (cellsF a (l.take k))).length ≤ 1000000 := by
        have h1 := selF_len T both (cellsF a (l.take k))
        rw [cellsF_len, List.length_take] at h1
        rw [List.length_append]
        omega
      obtain ⟨ov, a5, c5, w3, p1, hrun, p3, hi5, hb5⟩ := difI_app HI.out HBO.out hlen ((a : Int) + k)
      have HRUN := Lib.hid hrun
      have HI5 := Lib.hid hi5
      have HB5 := Lib.hid (hb5 _ _ HKR.out)
      have q0 := p1.cell 0
      have r0 := p3.cell 0
      have r1 := p3.free 0
      have HD : Hid (difT T both ⟨a + k, l[k]⟩ = (!T.1 (a + k) || (both && l[k] != T.2 (a + k)))) := Lib.hid rfl
      have HCA : Hid (∀ b, difT T both ⟨a + k, l[k]⟩ = b → ys ++ selF T both (cellsF a (l.take (k + 1))) = (ys ++ selF T both (cellsF a (l.take k))) ++ (if b = true then [(a : Int) + k] else [])) := fun b hb => by
        rw [HTK.out, selF_app, List.append_assoc]
        cases b with
        | true => rw [selF_yes hb]; rfl
        | false => rw [selF_no hb]; rfl
      clear hrun hi5 hb5 p1 p3 HTK
      generalize ys ++ selF T both (cellsF a (l.take k)) = zs at *
      generalize T.1 (a + k) = ok at *
      generalize T.2 (a + k) = y at *
      generalize l[k] = x at *
      cases ok
      · rw [if_neg Bool.false_ne_true] at HG
        have HR : Hid (ys ++ selF T both (cellsF a (l.take (k + 1))) = zs ++ [(a : Int) + k]) := HCA.out true (by rw [HD.out]; rfl)
        clear HCA HD
        go_wp2_with (first
          | (go_at_call 81; refine HG.out.mono ?_; rintro e w4 ⟨rfl, rfl⟩)
          | (at_builtin; refine wpList_run rfl (.tmp 38) (.tmp 43) 67 rfl _ _ HRUN.out ?_))
        go_roundw
        case rel => exact ⟨k + 1, by omega, by go_num, by rw [HR.out]; exact HI5.out, HB5.out⟩
        case measure => simp [intOf]; omega
      · rw [if_pos rfl] at HG
        cases both
        · have HR : Hid (ys ++ selF T false (cellsF a (l.take (k + 1))) = zs) := Lib.hid ((HCA.out false (by rw [HD.out]; rfl)).trans (List.append_nil _))
          clear HCA HD
          go_wp2_with (go_at_call 81; refine HG.out.mono ?_; rintro e w4 ⟨rfl, rfl⟩)
          go_roundw
          case rel => exact ⟨k + 1, by omega, by go_num, by rw [HR.out]; exact HI.out, HKR.out⟩
          case measure => simp [intOf]; omega
        · by_cases hxy : x = y
          · have HR : Hid (ys ++ selF T true (cellsF a (l.take (k + 1))) = zs) := Lib.hid ((HCA.out false (by rw [HD.out, hxy]; simp)).trans (List.append_nil _))
            have hb : ((x.toNat : Int) != (y.toNat : Int)) = false := by rw [hxy]; simp
            clear HCA HD hxy
            go_wp2_with (go_at_call 81; refine HG.out.mono ?_; rintro e w4 ⟨rfl, rfl⟩)
            go_roundw
            case rel => exact ⟨k + 1, by omega, by go_num, by rw [HR.out]; exact HI.out, HKR.out⟩
            case measure => simp [intOf]; omega
          · have HR : Hid (ys ++ selF T true (cellsF a (l.take (k + 1))) = zs ++ [(a : Int) + k]) := HCA.out true (by rw [HD.out]; simp [hxy])
            have hb : ((x.toNat : Int) != (y.toNat : Int)) = true := by rw [bne_iff_ne]; intro e; exact hxy (UInt8.toNat_inj.1 (by omega))
            clear HCA HD hxy
            go_wp2_with (first
              | (go_at_call 81; refine HG.out.mono ?_; rintro e w4 ⟨rfl, rfl⟩)
              | (at_builtin; refine wpList_run rfl (.tmp 38) (.tmp 43) 67 rfl _ _ HRUN.out ?_))
            go_roundw
            case rel => exact ⟨k + 1, by omega, by go_num, by rw [HR.out]; exact HI5.out, HB5.out⟩
            case measure => simp [intOf]; omega
    · obtain rfl : k = l.length := by omega
      have HF : Hid (DifI w0 w1 bO (ys ++ selF T both (cellsF a l)) wr) := by have := HI.out; rwa [List.take_length] at this
      go_wp2
      go_end0
      exact ⟨rfl, HF.out⟩
end Go.Proofs.YtcfjcoockklkeaaDoor
