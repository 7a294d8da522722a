/-
  Law of chapter 13, ItemsInverse. Conditions: the library's table as its initialiser lays it; sizes.
-/
import Derived.Test.YtmpmciccgempeaaGreatDoorN3
import Derived.Test.YtmpmciccgempeaaGreatDoorBI1
import Derived.Test.YtmpmciccgempeaaGreatDoorBE3
import Derived.Test.YtmpmciccgempeaaGreatDoorBW1
import Derived.Test.YtmpmciccgempeaaGreatDoorBH1
import Derived.Test.YtmpmciccgempeaaGreatDoorBA17
import Derived.Test.YtmpmciccgempeaaGreatDoorBA14
import Derived.Test.YtmpmciccgempeaaGreatDoorBA12
import Derived.Test.YtmpmciccgempeaaGreatDoorBA6
import Derived.Test.YtmpmciccgempeaaGreatDoorBC1
import Derived.Test.YtmpmciccgempeaaGreatDoorBA5
import Derived.Test.YtmpmciccgempeaaGreatDoorBA1
import Derived.Test.YtmpmciccgempeaaGreatDoorBR1
import Derived.Test.YtmpmciccgempeaaGreatDoorChecked
import Derived.Test.YtmpmciccgempeaaGreatDoorBA4
import Derived.Test.YtmpmciccgempeaaGreatDoorShelf
import Derived.Test.YtmpmciccgempeaaGreatDoorBA2
import Derived.Test.YtmpmciccgempeaaGreatDoorBE1
import Derived.Test.YtmpmciccgempeaaGreatDoorBA3
import Derived.Test.YtmpmciccgempeaaGreatDoorBA9
import Derived.Test.YtmpmciccgempeaaGreatDoorBE2
import Derived.Test.YtmpmciccgempeaaGreatDoorBA7
import Derived.Test.YtmpmciccgempeaaGreatDoorBA8
import Derived.Test.YtmpmciccgempeaaGreatDoorBA11
import Derived.Test.YtmpmciccgempeaaGreatDoorBA10
import Derived.Test.YtmpmciccgempeaaGreatDoorBA13
import Derived.Test.YtmpmciccgempeaaGreatDoorBA16
import Derived.Test.YtmpmciccgempeaaGreatDoorBA15
import Derived.Test.YtmpmciccgempeaaGreatDoorBV1
import Derived.Test.YtmpmciccgempeaaGreatDoorShelfT
import Derived.Test.YtmpmciccgempeaaGreatDoorBJ1
import Derived.Test.YtmpmciccgempeaaGreatDoorBS1
import Derived.Test.YtmpmciccgempeaaGreatDoorBC2
import Derived.Test.YtmpmciccgempeaaGreatDoorBU1
import Derived.Test.YtmpmciccgempeaaGreatDoorBH2
import Derived.Test.YtmpmciccgempeaaGreatDoorBC4
import Derived.Test.YtmpmciccgempeaaGreatDoorBC3
namespace Go.Proofs.YtmpmciccgempeaaGreatDoor
open Go.RowKit Go.Shelf Go.Sort

theorem insEq_self (x : Ins) : fG x x = true := by simp [fG]
set_option maxHeartbeats 8000000 in
set_option maxRecDepth 100000 in
theorem ItemsInverse_law (l : List Ins) (p : aB) (v : Value) (w : World) (h : SlR rP w p v l) (hT : Spc w) (hf : ∀ x ∈ l, ∀ z ∈ x.args, cN z.n) :
    Calls Tryz.prog 7 #[v] w fun e w' => e = .returned (.bool true) ∧ RowKit.Below w.heap.size w w' := by
  have HAL := aA (fun W (hb : RowKit.Below w.heap.size w W) => alive13_any W (hT.below hb))
  have HS := aA h
  have HTT := aA hT
  have HFF := aA hf
  obtain ⟨a, c, rfl, _, _, _⟩ := h.ins
  clear h hT hf
  by_cases h12 : 12 < l.length
  · have h12' : (12 : Int) < (l.length : Int) := by omega
    go_enter Tryz.func7, Tryz.ntmps7
    go_wp2_with (go_at_call 37; refine (HAL.out _ (Below.refl _ _)).mono ?_; rintro e w1 ⟨rfl, hb⟩; have H1 := aA hb; clear hb)
    go_ret
    exact ⟨rfl, H1.out⟩
  have h12' : ¬ (12 : Int) < (l.length : Int) := by omega
  have HL := aA h12
  clear h12
  go_enter Tryz.func7, Tryz.ntmps7
  go_wp2
  go_loopw [4, 18] (fun _ i wr => ∃ k : Nat, k ≤ l.length ∧ i = .int .i64 k ∧ (∀ x ∈ l.take k, x.op.size ≤ 100 ∧ x.args.length ≤ 20) ∧ RowKit.Below w.heap.size w wr) (fun _ i _ => l.length - (intOf i).toNat)
  case atStart => exact ⟨0, Nat.zero_le _, rfl, (fun x hx => by simp at hx), Below.refl _ _⟩
  case round =>
    obtain ⟨k, hk, rfl, hm, hb⟩ := hrel
    have HM := aA hm
    have HB := aA hb
    clear hm hb
    by_cases hlt : k < l.length
    · obtain ⟨a2, c2, e2, _, _, hg⟩ := (HS.out.below HB.out).ins
      injection e2 with e2 e3 e4
      clear e3
      subst e2 e4
      obtain ⟨b1, o1, va, rfl, _, d0, d1, hso⟩ := hg k l[k] (List.getElem?_eq_getElem hlt)
      have HD := aA (List.take_succ_eq_append_getElem hlt)
      obtain ⟨ea, ec, rfl⟩ : ∃ a c, va = .slice a l[k].args.length c := by obtain ⟨a, c, e, _⟩ := hso; exact ⟨a, c, e⟩
      clear hg hso
      generalize l[k] = x at *
      have HI := aA (HB.out.alloc HB.out.size (.cells #[.string x.op, .slice ea x.args.length ec] 24))
      by_cases h1 : (100 : Int) < (x.op.size : Int)
      · go_wp2_with (go_at_call 37; refine (HAL.out _ HI.out).mono ?_; rintro e w2 ⟨rfl, hb⟩; have H2 := aA (HI.out.trans (hb.mono HI.out.size)); clear hb)
        go_ret
        exact ⟨rfl, H2.out⟩
      by_cases h2 : (20 : Int) < (x.args.length : Int)
      · go_wp2_with (go_at_call 37; refine (HAL.out _ HI.out).mono ?_; rintro e w2 ⟨rfl, hb⟩; have H2 := aA (HI.out.trans (hb.mono HI.out.size)); clear hb)
        go_ret
        exact ⟨rfl, H2.out⟩
      go_wp2
      go_roundw
      case rel => exact ⟨k + 1, by omega, by go_num, (fun y hy => by
        rw [HD.out] at hy
        rcases List.mem_append.1 hy with hy | hy
        · exact HM.out y hy
        · rw [List.mem_singleton.1 hy]; exact ⟨by omega, by omega⟩), HI.out⟩
      case measure => simp [intOf]; omega
    · obtain rfl : k = l.length := by omega
      have hm9 : ∀ x ∈ l, CV x := fun x hx => ⟨(HM.out x (by rw [List.take_length]; exact hx)).1, (HM.out x (by rw [List.take_length]; exact hx)).2, HFF.out x hx⟩
      have HA := aA (fun W (hb : RowKit.Below w.heap.size w W) => AllE_any p (.slice a l.length c) l W (HS.out.below hb) (HTT.out.below hb) hm9 (by have := HL.out; omega))
      have HMI := aA hm9
      clear hm9 hlt
      unfold AllP at HA
      cases hst : lF l 0 with
      | some kc =>
        obtain ⟨k9, c9⟩ := kc
        rw [hst] at HA
        have hc9 := stop_code hst
        have hc8 : (c9 != 0) = true := by rw [bne_iff_ne]; exact hc9
        clear hst
        go_wp2_with (first
          | (go_at_call 38; refine (HA.out _ HB.out).mono ?_; rintro e w1 ⟨rfl, hb⟩; have H1 := aA (HB.out.trans (hb.mono HB.out.size)); clear hb)
          | (go_at_call 37; refine (HAL.out _ H1.out).mono ?_; rintro e w3 ⟨rfl, hb⟩; have H3 := aA (H1.out.trans (hb.mono H1.out.size)); clear hb))
        go_ret
        exact ⟨rfl, H3.out⟩
      | none =>
        rw [hst] at HA
        have hall := stop_all hst
        have hie := items_enc hall
        have hwy := ways_inv hie
        have hfl := ZR l
        clear hst
        have HDE := aA (fun q a c W (hb : RowKit.Below w.heap.size w W) h => a0A q a c (l.map nZ).flatten W (HTT.out.below hb) h (by have := HL.out; omega))
        have HSP := aA (fun q a c W (hb : RowKit.Below w.heap.size w W) h => Split_any q a c (l.map nZ).flatten W (HTT.out.below hb) h (by have := HL.out; omega))
        rw [hie] at HDE
        rw [hwy] at HSP
        have HCO := aA (fun q v W h => Code_any q v (l.map invI) W h (by rw [List.length_map]; have := HL.out; omega) (fun x hx => by
          obtain ⟨y, hy, rfl⟩ := List.mem_map.1 hx
          have h1 := mB y
          have h2 := (HMI.out y hy).n
          show (aE y).args.length ≤ 1000
          omega))
        have HCN := aA (fun q v W h => Count_any q 1 v (l.map invI) W h (by rw [List.length_map]; have := HL.out; omega))
        rw [code_inv] at HCO
        rw [cnt_inv] at HCN
        clear hall hie hwy hfl
        generalize (l.map nZ).flatten = T at *
        unfold QV at HDE
        go_upto_region 14 with (first
          | (go_at_call 38; refine (HA.out _ HB.out).mono ?_; rintro e w1 ⟨⟨v1, rfl, ho⟩, hb⟩; obtain ⟨xa, xc, rfl⟩ := ho.form; have HX := aA (Own.slR (q := fun _ => True) ho (fun _ h => h.elim) (fun _ _ => trivial)); have H1 := aA (HB.out.trans (hb.mono HB.out.size)); clear hb ho)
          | (go_at_call 39; (with_reducible refine (HDE.out _ _ _ _ H1.out HX.out).mono ?_); rintro e w2 ⟨⟨v2, rfl, ho⟩, hb⟩; obtain ⟨ia, ic, rfl⟩ := ho.form; rw [List.length_map] at ho ⊢; have HI2 := aA (ho.slR.mono (q := fun _ => True) (fun _ _ => trivial)); have HX2 := aA (HX.out.below hb); have H2 := aA (H1.out.trans (hb.mono H1.out.size)); clear hb ho)
          | (go_at_call 40; (with_reducible refine (HCO.out _ _ _ HI2.out).mono ?_); rintro e w3 ⟨⟨v3, rfl, ho⟩, hb⟩; obtain ⟨ca, cc, rfl⟩ := ho.form; rw [List.length_map] at ho ⊢; have HC3 := aA (ho.slR.mono (q := fun _ => True) (fun _ _ => trivial)); have HI3 := aA (HI2.out.below hb); have HX3 := aA (HX2.out.below hb); have H3 := aA (H2.out.trans (hb.mono H2.out.size)); clear hb ho))
        go_wp2_with (first
          | (go_at_call 41; (with_reducible refine (HCN.out _ _ _ HI3.out).mono ?_); rintro e w4 ⟨rfl, hb⟩; have HC4 := aA (HC3.out.below hb); have HI4 := aA (HI3.out.below hb); have HX4 := aA (HX3.out.below hb); have H4 := aA (H3.out.trans (hb.mono H3.out.size)); clear hb)
          | (go_at_call 42; (with_reducible refine (HSP.out _ _ _ _ H4.out HX4.out).mono ?_); rintro e w5 ⟨rfl, hb⟩; have HC5 := aA (HC4.out.below hb); have HI5 := aA (HI4.out.below hb); have H5 := aA (H4.out.trans (hb.mono H4.out.size)); clear hb))
        go_loopw [10, 11, 78] (fun _ _ i wr => ∃ k : Nat, k ≤ l.length ∧ i = .int .i64 k ∧ RowKit.Below w5.heap.size w5 wr) (fun _ _ i _ => l.length - (intOf i).toNat)
        case atStart => exact ⟨0, Nat.zero_le _, rfl, Below.refl _ _⟩
        case round =>
          obtain ⟨k, hk, rfl, hb⟩ := hrel
          have HBB := aA (H5.out.trans (hb.mono H5.out.size))
          have HB5 := aA hb
          clear hb
          by_cases hlt : k < l.length
          · obtain ⟨a2, c2, e2, _, _, hg⟩ := (HS.out.below HBB.out).ins
            injection e2 with e2 e3 e4
            clear e3
            subst e2 e4
            obtain ⟨b1, o1, va, rfl, _, d0, d1, hso⟩ := hg k l[k] (List.getElem?_eq_getElem hlt)
            obtain ⟨ea, ec, rfl⟩ : ∃ a c, va = .slice a l[k].args.length c := by obtain ⟨a, c, e, _⟩ := hso; exact ⟨a, c, e⟩
            obtain ⟨a3, c3, e3, _, _, hg3⟩ := (HC5.out.below HB5.out).ins
            injection e3 with e3 e4 e5
            clear e4
            subst e3 e5
            obtain ⟨bC, oC, vc, rfl, _, p0, p1, hsc⟩ := hg3 k (aE l[k]) (by rw [List.getElem?_map, List.getElem?_eq_getElem hlt]; rfl)
            obtain ⟨ya, yc, rfl⟩ : ∃ a c, vc = .slice a (aE l[k]).args.length c := by obtain ⟨a, c, e, _⟩ := hsc; exact ⟨a, c, e⟩
            obtain ⟨a4, c4, e4, _, _, hg4⟩ := (HI5.out.below HB5.out).it
            injection e4 with e4 e5 e6
            clear e5
            subst e4 e6
            obtain ⟨bI, oI, _, _, _, _, rfl, _, _, _, _, _, q4, _, _⟩ := hg4 k (invI l[k]) (by rw [List.getElem?_map, List.getElem?_eq_getElem hlt]; rfl)
            have q4 : wr.cell? ⟨bI, oI + k * 5 + 4, none⟩ = some (.bool false) := q4
            rw [show (aE l[k]).op = l[k].op from rfl] at p0
            have hml := HMI.out l[k] (List.getElem_mem hlt)
            have HOF := aA (fun q v W hs => jS q (l[k]'hlt) v W hs (by have := hml.n; omega) hml.f)
            have HSM := aA (fun q r v1 v2 W h1 h2 => nB q r (aE (l[k]'hlt)) (aE (l[k]'hlt)) v1 v2 W h1 h2)
            rw [insEq_self] at HSM
            rw [show (aE l[k]).op = l[k].op from rfl] at HSM
            clear hg hg3 hg4 hml
            generalize (aE l[k]).args = C at *
            generalize l[k] = x at *
            have HI := aA (HB5.out.alloc HB5.out.size (.cells #[.string x.op, .slice ea x.args.length ec] 24))
            have HID := aA HI.out.drew
            have HXD := aA ((hso.alloc (.cells #[.string x.op, .slice ea x.args.length ec] 24)).below (below_drew _))
            have HCD := aA ((hsc.alloc (.cells #[.string x.op, .slice ea x.args.length ec] 24)).below (below_drew _))
            obtain ⟨t0, t1⟩ := (Blk.new wr 24 #[.string x.op, .slice ea x.args.length ec]).pair
            have hbC := World.block_lt_of_cell? _ _ p0
            have hbI := World.block_lt_of_cell? _ _ q4
            go_upto_region 19 with fail
            obtain ⟨W7, hW7⟩ : ∃ W : World, W = wr.alloc (.cells #[.string x.op, .slice ea x.args.length ec] 24) := ⟨_, rfl⟩
            have p0 : W7.cell? ⟨bC, oC + k * 2, none⟩ = some (.string x.op) := by rw [hW7, World.cell?_alloc_lt _ _ _ hbC]; exact p0
            have p1 : W7.cell? ⟨bC, oC + k * 2 + 1, none⟩ = some (.slice ya C.length yc) := by rw [hW7, World.cell?_alloc_lt _ _ _ (World.block_lt_of_cell? _ _ p1)]; exact p1
            have q4 : W7.cell? ⟨bI, oI + k * 5 + 4, none⟩ = some (.bool false) := by rw [hW7, World.cell?_alloc_lt _ _ _ hbI]; exact q4
            rw [← hW7] at HI HID HXD HCD t0 t1 ⊢
            clear hW7 d0 d1 hbC hbI hso hsc
            generalize wr.heap.size = b8 at *
            go_region_held3 (fun w' => w'.cell? ⟨bC, oC + k * 2, none⟩ = some (.string x.op) ∧ w'.cell? ⟨bC, oC + k * 2 + 1, none⟩ = some (.slice ya C.length yc) ∧ w'.cell? ⟨b8, 0, none⟩ = some (.string x.op) ∧ w'.cell? ⟨b8, 1, none⟩ = some (.slice ea x.args.length ec) ∧ w'.cell? ⟨bI, oI + k * 5 + 4, none⟩ = some (.bool false)) (go_keep)
              (first | (go_at_call 31; (with_reducible refine (HOF.out _ _ _ HXD.out).mono ?_); rintro e w8 ⟨v8, rfl, ho8, hb⟩; have r8 := ho8.slR.mono (q := fun _ => True) (fun _ _ => trivial); clear ho8; obtain ⟨vo, vq, rfl⟩ : ∃ a c, v8 = .slice a C.length c := (by obtain ⟨a, c, e, _⟩ := r8; exact ⟨a, c, e⟩); have HV8 := aA r8; have HCE := aA (HCD.out.below hb); have HIE := aA (HID.out.trans (hb.mono HID.out.size)); have p0 := (hb.cell (p := ⟨bC, oC + k * 2, none⟩) (World.block_lt_of_cell? _ _ p0)).trans p0; have p1 := (hb.cell (p := ⟨bC, oC + k * 2 + 1, none⟩) (World.block_lt_of_cell? _ _ p1)).trans p1; have t0 := (hb.cell (p := ⟨b8, 0, none⟩) (World.block_lt_of_cell? _ _ t0)).trans t0; have t1 := (hb.cell (p := ⟨b8, 1, none⟩) (World.block_lt_of_cell? _ _ t1)).trans t1; have q4 := (hb.cell (p := ⟨bI, oI + k * 5 + 4, none⟩) (World.block_lt_of_cell? _ _ q4)).trans q4; clear hb r8)
                     | (go_at_call 27; (with_reducible refine (HSM.out _ _ _ _ _ HCE.out HV8.out).mono ?_); rintro e w9 ⟨rfl, hb⟩; have HIF := aA (HIE.out.trans (hb.mono HIE.out.size)); have p0 := (hb.cell (p := ⟨bC, oC + k * 2, none⟩) (World.block_lt_of_cell? _ _ p0)).trans p0; have p1 := (hb.cell (p := ⟨bC, oC + k * 2 + 1, none⟩) (World.block_lt_of_cell? _ _ p1)).trans p1; have t0 := (hb.cell (p := ⟨b8, 0, none⟩) (World.block_lt_of_cell? _ _ t0)).trans t0; have t1 := (hb.cell (p := ⟨b8, 1, none⟩) (World.block_lt_of_cell? _ _ t1)).trans t1; have q4 := (hb.cell (p := ⟨bI, oI + k * 5 + 4, none⟩) (World.block_lt_of_cell? _ _ q4)).trans q4; clear hb))
            go_wp2
            go_roundw
            case rel => exact ⟨k + 1, by omega, by go_num, HIF.out⟩
            case measure => simp [intOf]; omega
          · go_wp2_with (go_at_call 37; refine (HAL.out _ HBB.out).mono ?_; rintro e w7 ⟨rfl, hb⟩; have HB7 := aA (HBB.out.trans (hb.mono HBB.out.size)); clear hb)
            go_ret
            exact ⟨rfl, HB7.out⟩
end Go.Proofs.YtmpmciccgempeaaGreatDoor
