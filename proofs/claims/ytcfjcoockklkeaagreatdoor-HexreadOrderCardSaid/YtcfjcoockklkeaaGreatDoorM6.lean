/-
  Texts merged: W21 W22 W23 W25 W26 W27 W28 W29 V5 V6 
-/
import Derived.Test.YtcfjcoockklkeaaGreatDoorM5
/-
  breadboardlaw04.HexwriteDumps. Conditions: the addresses fit their type; the library's table as its initialiser lays it.
-/
namespace Go.Proofs.YtcfjcoockklkeaaGreatDoor
open Go.RowKit

theorem sep_count : ∀ {R : List (Nat × List UInt8)} {lo : Nat}, Sep lo R → R = [] ∨ R.length + lo ≤ 65536
  | [], _, _ => .inl rfl
  | (a, l) :: R, lo, h => by
    obtain ⟨h1, h2, h3, h4⟩ := h
    right
    have hp := List.length_pos_iff.2 h2
    rcases sep_count h4 with rfl | h5
    · simp; omega
    · simp; omega
theorem runs_len (d : Nat → Bool) (v : Nat → UInt8) : (runsOf d v).length ≤ 65536 := by
  rcases sep_count (runs_sep d v) with h | h
  · rw [h]; simp
  · omega
theorem cells_low {d : Nat → Bool} {v : Nat → UInt8} : ∀ c ∈ cellsOf d v, c.addr ≤ 65535 := fun c hc => by
  have := segC_mem _ _ hc
  omega
theorem Both.imgV {w0 w : World} {b n : Nat} {cv : Value} {S : ImgS} (h : Both w0 w b cv S n) : ImgV w (.pointer (some ⟨b, 0, none⟩)) (runsOf S.1 S.2) := .inr ⟨b, n, _, _, rfl, h.img, rfl⟩
theorem Both.later {w0 w w' : World} {b n : Nat} {cv : Value} {S : ImgS} (h : Both w0 w b cv S n) (hb : Below w.heap.size w w') : Both w0 w' b cv S n :=
  ⟨h.img.below hb h.img.lt, h.cells.below hb (fun _ hk => hk), h.at_, h.below.trans (hb.mono h.below.size)⟩
end Go.Proofs.YtcfjcoockklkeaaGreatDoor

/-
  breadboardref02.Same, breadboardlaw04.HexwriteSame. Conditions: the addresses fit their type; the library's table as its initialiser lays it.
-/
namespace Go.Proofs.YtcfjcoockklkeaaGreatDoor
open Go.RowKit

deriving instance DecidableEq for CellV
def celEq (x y : CellV) : Bool := decide (x = y)
theorem celEq_iff {x y : CellV} : celEq x y = true ↔ x = y := by simp [celEq]
theorem celEq_no {x y : CellV} : celEq x y = false ↔ x ≠ y := by simp [celEq]
theorem celEq_is (x y : CellV) : celEq x y = (decide ((x.addr : Int) = y.addr) && decide ((x.byte.toNat : Int) = y.byte.toNat)) := by
  obtain ⟨a, b⟩ := x
  obtain ⟨c, d⟩ := y
  unfold celEq
  rw [Bool.eq_iff_iff]
  simp only [decide_eq_true_eq, Bool.and_eq_true, CellV.mk.injEq]
  constructor
  · rintro ⟨rfl, rfl⟩; simp
  · rintro ⟨h1, h2⟩
    exact ⟨by omega, UInt8.toNat_inj.1 (by omega)⟩
theorem below_drewN (B : Nat) (w : World) (n : Nat) : Below B w (w.drewN n) := ⟨rfl, rfl, rfl, Nat.le_refl _, fun _ _ => rfl⟩
/-- '!=' on two cells. -/
theorem run_neqCel (x y : CellV) (w : World) : (binOp .neq 111 (.agg #[.int .i64 x.addr, .int .u8 x.byte.toNat]) (.agg #[.int .i64 y.addr, .int .u8 y.byte.toNat])).run Tryz.prog w = .ok (.bool (!celEq x y)) w := by
  have hS : Tryz.prog.underlying 111 = some (.struct (Tryz.prog.fieldsOf 111)) := by kernel_rfl
  have hp : Tryz.prog.stoodInHeld 111 = false := by kernel_rfl
  rw [run_neq_struct, show (10000 : Nat) = 9999 + 1 from rfl, run_equalIn_agg w 9999 111 _ _ hS hp, celEq_is]
  simp only [Program.fieldsOf, Tryz.underlying111]
  generalize (x.addr : Int) = a
  generalize (y.addr : Int) = b
  generalize (x.byte.toNat : Int) = c
  generalize (y.byte.toNat : Int) = d
  go_simp
  by_cases h1 : a = b <;> by_cases h2 : c = d <;> simp [h1, h2]
theorem take_succ_eq {α : Type} {l1 l2 : List α} {k : Nat} (h1 : k < l1.length) (h2 : k < l2.length) (ht : l1.take k = l2.take k) (he : l1[k] = l2[k]) : l1.take (k + 1) = l2.take (k + 1) := by
  rw [List.take_succ_eq_append_getElem h1, List.take_succ_eq_append_getElem h2, ht, he]
theorem bytes_eq (a b : List UInt8) : ((⟨a.toArray⟩ : ByteArray).toList == (⟨b.toArray⟩ : ByteArray).toList) = decide (a = b) := by
  rw [ByteArray.toList_eq, ByteArray.toList_eq, Bool.eq_iff_iff]
  simp
theorem text_same (S T : ImgS) : decide (textOf 16 (runsOf S.1 S.2) = textOf 16 (runsOf T.1 T.2)) = decide (cellsOf S.1 S.2 = cellsOf T.1 T.2) := by
  rw [decide_eq_decide, ← same_runs]
  constructor
  · intro h
    have := text_inj (runs_sep _ _) (runs_sep _ _) h
    rw [runs_cells, runs_cells] at this
    exact same_runs.2 this
  · intro h; rw [h]
theorem dump_same (S T : ImgS) : decide (dumpOf (runsOf S.1 S.2) = dumpOf (runsOf T.1 T.2)) = decide (cellsOf S.1 S.2 = cellsOf T.1 T.2) := by
  rw [decide_eq_decide, ← same_runs]
  constructor
  · intro h
    have := dump_inj (runs_sep _ _) (runs_sep _ _) h
    rw [runs_cells, runs_cells] at this
    exact same_runs.2 this
  · intro h; rw [h]
theorem Both.writes {w0 w : World} {b n : Nat} {cv : Value} {S : ImgS} (h : Both w0 w b cv S n) (hT : Deb w) :
    Calls Tryz.prog 27 #[.pointer (some ⟨b, 0, none⟩)] w fun e w' => e = .returned (.string ⟨(textOf 16 (runsOf S.1 S.2)).toArray⟩) ∧ Below w.heap.size w w' := Write_any _ _ w h.imgV hT (runs_len _ _)
end Go.Proofs.YtcfjcoockklkeaaGreatDoor

/-
  breadboardlaw04.HexwriteJoins. Conditions: sizes; the library's table as its initialiser lays it.
-/
namespace Go.Proofs.YtcfjcoockklkeaaGreatDoor
open Go.RowKit

theorem joinS_succ {L : List ByteArray} {k : Nat} (h : k < L.length) : joinS (L.take (k + 1)) = joinS (L.take k) ++ (L[k].data.toList ++ [10]) := by
  unfold joinS
  rw [List.take_succ_eq_append_getElem h, List.map_append, joinL_app]
  congr 1
  simp [joinL]
theorem joinS_le (L : List ByteArray) (k : Nat) : (joinS (L.take k)).length ≤ (joinS L).length := by
  have : joinS L = joinS (L.take k) ++ joinS (L.drop k) := by
    unfold joinS
    rw [← joinL_app, ← List.map_append, List.take_append_drop]
  rw [this, List.length_append]; omega
theorem joinS_mem {L : List ByteArray} {k : Nat} (h : k < L.length) : L[k].size ≤ (joinS L).length := by
  have h1 := joinS_le L (k + 1)
  rw [joinS_succ h, List.length_append, List.length_append] at h1
  have e : L[k].data.toList.length = L[k].size := by simp
  omega
theorem write_none_any (w : World) (hT : Deb w) : Calls Tryz.prog 27 #[.pointer none] w fun e w' => e = .returned (.string ⟨#[58, 48, 48, 48, 48, 48, 48, 48, 49, 70, 70, 10]⟩) ∧ Below w.heap.size w w' := by
  have := Write_any [] none w (.inl ⟨rfl, rfl⟩) hT (by simp)
  rw [text_none] at this
  exact this
set_option maxHeartbeats 1000000 in
theorem Join_big (p : Blocks) (v : Value) (L : List ByteArray) (w : World) (h : SlR strR w p v L) (hn : L.length ≤ 2000000) (hl : (joinS L).length ≤ 1000000000) :
    Calls Tryz.prog 51 #[v] w fun e w' => e = .returned (.string ⟨(joinS L).toArray⟩) ∧ Below w.heap.size w w' := by
  obtain ⟨a, c, rfl, hc1, hc2, g⟩ := h.str
  cases L with
  | nil =>
    go_enter Tryz.func51, Tryz.ntmps51
    go_wp2
    go_ret
    exact ⟨rfl, Below.refl _ _⟩
  | cons s0 L =>
    obtain ⟨b, o, rfl, _, hc0⟩ := g 0 s0 rfl
    have hblt : b < w.heap.size := World.block_lt_of_cell? _ _ hc0
    have hjl : (Lib.join ((s0 :: L).map (·.data.toList)) [10]).length + 1 = (joinS (s0 :: L)).length := by
      rw [joinS, ← join_is _ (by simp), List.length_append]; rfl
    have HJ := Lib.hid (Tryz.strings_Join b o c (s0 :: L) ⟨#[10]⟩ w (fun j x hx => by obtain ⟨b', o', e, _, hc⟩ := g j x hx; injection e with e; injection e with e1 e2; subst e1 e2; exact hc) hblt (by omega) hc1 (by show (Lib.join _ [10]).length ≤ _; omega))
    have HE : Hid (⟨(Lib.join ((s0 :: L).map (·.data.toList)) [10]).toArray⟩ ++ ⟨#[10]⟩ = (⟨(joinS (s0 :: L)).toArray⟩ : ByteArray)) := by
      refine ba_of ?_
      rw [ba_app, joinS, ← join_is _ (by simp)]
    have hne : decide (((s0 :: L).length : Int) = 0) = false := by simp; omega
    have hln : ((s0 :: L).length : Int) ≤ 2000000 := by omega
    have hl1 : (1 : Int) ≤ ((s0 :: L).length : Int) := by simp; omega
    have hsz : Hid ((⟨(Lib.join ((s0 :: L).map (·.data.toList)) [10]).toArray⟩ : ByteArray).size ≤ 1000000000) := by show (Lib.join _ [10]).toArray.size ≤ _; simp only [List.size_toArray]; omega
    clear g h hc0 hjl hc1 hc2 hn hl
    generalize s0 :: L = M at *
    generalize hS : (⟨(Lib.join (M.map (·.data.toList)) [10]).toArray⟩ : ByteArray) = S at *
    have HS := Lib.hid hS
    clear hS
    have hs9 := hsz.out
    go_enter Tryz.func51, Tryz.ntmps51
    go_wp2_with (go_at_call 18; refine HJ.out.mono ?_; rintro e w' ⟨rfl, hb⟩; have HB := Lib.hid hb; clear hb)
    go_ret
    exact ⟨ret_str HE.out, HB.out⟩
end Go.Proofs.YtcfjcoockklkeaaGreatDoor

/-
  breadboardref03.bytes, Print. Conditions: a record in its ranges.
-/
namespace Go.Proofs.YtcfjcoockklkeaaGreatDoor
open Go.RowKit

theorem four_low (t a : Nat) (n : Nat) (ht : t ≤ 255) (ha : a ≤ 65535) (hn : n ≤ 255) : (#[Value.int .u8 n, .int .u8 ((a : Int) / 256), .int .u8 ((a : Int) % 256), .int .u8 t] : Array Value).toList = [lowB n, lowB (a / 256 : Nat), lowB a, lowB t].flatMap (fun b => [.int .u8 b.toNat]) := by
  have e1 := lowB_is n
  have e2 := lowB_is (a / 256 : Nat)
  have e3 := lowB_is a
  have e4 := lowB_is t
  simp only [List.flatMap_cons, List.flatMap_nil, List.append_nil, List.cons_append, List.nil_append, e1, e2, e3, e4]
  rw [show (n : Int) % 256 = n by omega, show ((a / 256 : Nat) : Int) % 256 = (a : Int) / 256 by omega, show (t : Int) % 256 = t by omega]
set_option maxHeartbeats 1000000 in
set_option maxRecDepth 100000 in
theorem bytes03_any (t a : Nat) (p : Blocks) (v : Value) (l : List UInt8) (w : World) (h : SlR byteR w p v l) (ht : t ≤ 255) (ha : a ≤ 65535) (hl : l.length ≤ 255) :
    Calls Tryz.prog 86 #[.agg #[.int .i64 t, .int .i64 a, v]] w fun e w' => ∃ v', e = .returned v' ∧ Own byteR w' w.heap.size 5 NoB v' (recB t a l) ∧ Below w.heap.size w w' := by
  obtain ⟨sa, c, rfl, _⟩ := h.byte
  have HSL := Lib.hid h
  have HL := Lib.hid hl
  have HF := Lib.hid (four_low t a l.length ht ha hl)
  have ht0 : (0 : Int) ≤ (t : Int) := by omega
  have ht1 : (t : Int) ≤ 255 := by omega
  have ha0 : (0 : Int) ≤ (a : Int) := by omega
  have ha1 : (a : Int) ≤ 65535 := by omega
  have hl1 : (l.length : Int) ≤ 255 := by omega
  clear h ht ha hl
  go_enter Tryz.func86, Tryz.ntmps86
  have HLT : Hid (Own byteR ((w.alloc (.cells #[.int .i64 t, .int .i64 a, .slice sa l.length c] 57)).alloc (.cells #[.int .u8 l.length, .int .u8 ((a : Int) / 256), .int .u8 ((a : Int) % 256), .int .u8 t] 5)) (w.heap.size + 1) 5 NoB (.slice (some ⟨w.heap.size + 1, 0, none⟩) 4 4) [lowB l.length, lowB (a / 256 : Nat), lowB a, lowB t]) := by
    have : Own byteR _ _ 5 NoB _ _ := Own.lit (w.alloc (.cells #[.int .i64 t, .int .i64 a, .slice sa l.length c] 57)) 5 [lowB l.length, lowB (a / 256 : Nat), lowB a, lowB t] #[.int .u8 l.length, .int .u8 ((a : Int) / 256), .int .u8 ((a : Int) % 256), .int .u8 t] 4 rfl HF.out (by simp)
    rw [World.size_alloc] at this
    exact this
  have HB : Hid (Below w.heap.size w ((w.alloc (.cells #[.int .i64 t, .int .i64 a, .slice sa l.length c] 57)).alloc (.cells #[.int .u8 l.length, .int .u8 ((a : Int) / 256), .int .u8 ((a : Int) % 256), .int .u8 t] 5))) := ((Below.refl _ w).alloc (Nat.le_refl _) _).alloc (by simp) _
  have HX : Hid (SlR byteR ((w.alloc (.cells #[.int .i64 t, .int .i64 a, .slice sa l.length c] 57)).alloc (.cells #[.int .u8 l.length, .int .u8 ((a : Int) / 256), .int .u8 ((a : Int) % 256), .int .u8 t] 5)) (fun k => p k ∧ k < w.heap.size) (.slice sa l.length c) l) := HSL.out.old.below HB.out
  have HQ : Hid (∀ k, p k ∧ k < w.heap.size → some k ≠ Value.ownBlock (.slice (some ⟨w.heap.size + 1, 0, none⟩) 4 4)) := fun k hk e => by simp [Value.ownBlock] at e; omega
  have HN : Hid (([lowB l.length, lowB (a / 256 : Nat), lowB a, lowB t].length + l.length) * 1 ≤ 140737488355328) := by show (4 + _) * 1 ≤ _; have := HL.out; omega
  have HN2 : Hid ([lowB l.length, lowB (a / 256 : Nat), lowB a, lowB t].length + l.length ≤ 9223372036854775807) := by show 4 + _ ≤ _; have := HL.out; omega
  go_wp2_with (at_builtin; refine wpList_append_R _ rfl (.tmp 18) (.tmp 20) 55 rfl (w.heap.size + 1) 5 1 elByte NoB _ _ _ [lowB l.length, lowB (a / 256 : Nat), lowB a, lowB t] l rfl rfl HLT.out HX.out (fun _ h => False.elim h) HQ.out HN.out HN2.out (by simp) ?_; intro v' w' hap; have HAP := Lib.hid hap; clear hap)
  obtain ⟨ho, hg, _⟩ := HAP.out
  go_ret
  exact ⟨_, rfl, (ho.flat NoB).base (by omega), HB.out.grown hg HB.out.size (fun k hk => by cases hk; exact Nat.le_succ _)⟩
end Go.Proofs.YtcfjcoockklkeaaGreatDoor

/-
  breadboardref03.Print. Conditions: a record in its ranges.
-/
namespace Go.Proofs.YtcfjcoockklkeaaGreatDoor
open Go.RowKit

set_option maxHeartbeats 2000000 in
set_option maxRecDepth 100000 in
theorem Print03_any (t a : Nat) (p : Blocks) (v : Value) (l : List UInt8) (w : World) (h : SlR byteR w p v l) (ht : t ≤ 255) (ha : a ≤ 65535) (hl : l.length ≤ 255) :
    Calls Tryz.prog 56 #[.agg #[.int .i64 t, .int .i64 a, v]] w fun e w' => e = .returned (.tuple #[.string ⟨(recLine t a l).toArray⟩, .bool true]) ∧ Below w.heap.size w w' := by
  obtain ⟨sa, c, rfl, _⟩ := h.byte
  have hr : rightB t a l.length = true := by unfold rightB; simp; omega
  have HR := Lib.hid (fun W => Right03_any t a sa l.length c W)
  rw [hr] at HR
  have HBY := Lib.hid (fun (W : World) (hb : Below w.heap.size w W) => bytes03_any t a _ _ l W (h.old.below hb) ht ha hl)
  have HB0 : Hid (Below w.heap.size w (w.alloc (.cells #[.int .i64 t, .int .i64 a, .slice sa l.length c] 57))) := (Below.refl _ w).alloc (Nat.le_refl _) _
  have HF : Hid (recLine t a l = 58 :: (recB t a l ++ [sum03 (recB t a l)]).flatMap byteTxt) := Lib.hid rfl
  have hrl : (recB t a l).length ≤ 300 := by unfold recB; simp only [List.length_cons]; omega
  generalize recLine t a l = T at *
  have ht0 : (0 : Int) ≤ (t : Int) := by omega
  have ht1 : (t : Int) ≤ 255 := by omega
  have ha0 : (0 : Int) ≤ (a : Int) := by omega
  have ha1 : (a : Int) ≤ 65535 := by omega
  have hl1 : (l.length : Int) ≤ 255 := by omega
  clear h ht ha hl hr
  generalize recB t a l = R at *
  have hr1 : (R.length : Int) ≤ 300 := by omega
  have HC1 : Hid ((R.length + 1) * 1 ≤ 140737488355328) := by show _ ≤ _; omega
  have HC2 : Hid (R.length + 1 ≤ 9223372036854775807) := by show _ ≤ _; omega
  have HML : Hid ((R ++ [sum03 R]).length = R.length + 1) := by show _ = _; simp
  have HRL := Lib.hid hrl
  clear hrl
  go_enter Tryz.func56, Tryz.ntmps56
  go_upto_region 6 with (first
    | (go_at_call 85; refine (HR.out _).mono ?_; rintro e w1 ⟨rfl, hb⟩; have HB1 := Lib.hid (HB0.out.trans (hb.mono HB0.out.size)); have hbl := hb.block w.heap.size (by simp); have d0 : w1.cell? ⟨w.heap.size, 0, none⟩ = some (.int .i64 t) := (World.cell?_of_block (w := w.alloc (.cells #[.int .i64 t, .int .i64 a, .slice sa l.length c] 57)) hbl).trans (by go_simp); have d1 : w1.cell? ⟨w.heap.size, 1, none⟩ = some (.int .i64 a) := (World.cell?_of_block (w := w.alloc (.cells #[.int .i64 t, .int .i64 a, .slice sa l.length c] 57)) hbl).trans (by go_simp); have d2 : w1.cell? ⟨w.heap.size, 2, none⟩ = some (.slice sa l.length c) := (World.cell?_of_block (w := w.alloc (.cells #[.int .i64 t, .int .i64 a, .slice sa l.length c] 57)) hbl).trans (by go_simp); clear hb hbl)
    | (go_at_call 86; refine (HBY.out _ HB1.out).mono ?_; rintro e w2 ⟨v2, rfl, ho, hb⟩; have HO2 := Lib.hid ho; have HB2 := Lib.hid (HB1.out.trans (hb.mono HB1.out.size)); have HS2 : Hid (w1.heap.size ≤ w2.heap.size) := hb.size; obtain ⟨a2, c2, rfl⟩ := ho.form; clear ho hb)
    | (go_at_call 50; refine (Sum03_any (fun k => w1.heap.size ≤ k) _ R _ (HO2.out.slR (fun _ h => h.elim) (fun _ h => h))).mono ?_; rintro e w3 ⟨rfl, rfl⟩)
    | (at_builtin; refine wpList_push rfl (.tmp 12) (.tmp 15) 55 rfl w1.heap.size 5 1 elByte _ R (sum03 R) _ rfl rfl HO2.out rfl HC1.out HC2.out HS2.out ?_; intro a6 c6 w6 hp; have HP := Lib.hid hp; clear hp))
  have HB6 : Hid (Below w.heap.size w w6) := HB2.out.grown HP.out.2 HB2.out.size (fun j hj => Nat.le_trans HB1.out.size (HO2.out.lt j hj).1)
  have HSM : Hid (SlR byteR w6 (fun k => w1.heap.size ≤ k) (.slice a6 (R.length + 1) c6) (R ++ [sum03 R])) := HP.out.1.slR (fun _ h => h.elim) (fun _ h => h)
  clear HP HO2 HC1 HC2 hr1
  generalize R ++ [sum03 R] = M at *
  have hml : M.length ≤ 301 := by have := HML.out; have := HRL.out; omega
  generalize R.length + 1 = n at *
  obtain rfl := HML.out
  clear HML HRL
  obtain ⟨aa, cc, hv, _, _, g⟩ := HSM.out.byte
  obtain ⟨rfl, _, rfl⟩ : a6 = aa ∧ M.length = M.length ∧ c6 = cc := by injection hv with h1 h2 h3; exact ⟨h1, h2, h3⟩
  have G := Lib.hid g
  clear g hv HSM
  have hml1 : (M.length : Int) ≤ 301 := by omega
  go_wp2
  go_loop [5, 6] (fun x i => ∃ (k : Nat) (s : ByteArray), k ≤ M.length ∧ x = .string s ∧ i = .int .i64 k ∧ s.data.toList = 58 :: (M.take k).flatMap byteTxt) (fun _ i => M.length - (intOf i).toNat)
  case atStart => exact ⟨0, ⟨#[58]⟩, Nat.zero_le _, rfl, rfl, rfl⟩
  case round =>
    obtain ⟨k, s, hk, rfl, rfl, hs⟩ := hrel
    have HS := Lib.hid hs
    have hsz : s.size ≤ 1000 := by
      have := congrArg List.length hs
      rw [List.length_cons, flat_len, List.length_take] at this
      have e : s.data.toList.length = s.size := by simp
      omega
    clear hs
    by_cases hlt : k < M.length
    · obtain ⟨b1, o1, rfl, _, e0⟩ := G.out k M[k] (List.getElem?_eq_getElem hlt)
      have HTK := Lib.hid (List.take_succ_eq_append_getElem hlt)
      have HH2 := Lib.hid (fun W => hex1_2 M[k] W)
      generalize M[k] = x at *
      have hx := x.toNat_lt
      have HN : Hid ((s ++ ⟨(byteTxt x).toArray⟩ : ByteArray).data.toList = 58 :: (M.take (k + 1)).flatMap byteTxt) := by
        show _ = _
        rw [ba_app, HS.out, HTK.out, List.flatMap_append]
        simp
      have hz2 : (⟨(byteTxt x).toArray⟩ : ByteArray).size ≤ 10 := by show (byteTxt _).toArray.size ≤ 10; simp [byteTxt_len]
      generalize (⟨(byteTxt x).toArray⟩ : ByteArray) = s2 at *
      go_wp2_with (go_at_call 87; refine (HH2.out _).mono ?_; rintro e w' ⟨rfl, rfl⟩)
      go_round
      case rel => exact ⟨k + 1, _, by omega, rfl, by go_num, HN.out⟩
      case measure => simp [intOf]; omega
    · obtain rfl : k = M.length := by omega
      have hse := HS.out
      rw [List.take_length] at hse
      obtain rfl := ba_of hse
      go_wp2
      go_ret2
      exact ⟨by rw [HF.out]; rfl, HB6.out⟩
end Go.Proofs.YtcfjcoockklkeaaGreatDoor

/-
  breadboardref03.Split. Conditions: the size and the address in their ranges.
-/
namespace Go.Proofs.YtcfjcoockklkeaaGreatDoor
open Go.RowKit

def yR : Rep YRec := Rep.flat 3 (fun x => [.int .i64 x.t, .int .i64 x.a, .slice x.sa x.l.length x.sc]) (fun _ => rfl) (fun _ u hu => by simp at hu; rcases hu with rfl | rfl | rfl <;> rfl)
theorem elY : ElT Tryz.prog 112 57 yR.size 40 := ElT.mk' (z := .agg #[.int .i64 0, .int .i64 0, .slice none 0 0]) Tryz.underlying112 (by kernel_rfl) rfl (by decide)
theorem splitL_end {n : Nat} (hn : 0 < n) {k a : Nat} {l : List UInt8} (h : l.length ≤ k * n) : (splitL n a l).take k = splitL n a l := by
  refine List.take_of_length_le ?_
  rcases Nat.lt_or_ge k (splitL n a l).length with h2 | h2
  · have h1 := List.getElem?_eq_getElem h2
    rw [splitL_none hn k a l h] at h1
    cases h1
  · exact h2
theorem byte_part {w : World} {q : Blocks} {b o c : Nat} {l : List UInt8} (h : SlR byteR w q (.slice (some ⟨b, o, none⟩) l.length c) l) (i n : Nat) (hi : i ≤ l.length) : SlR byteR w q (.slice (some ⟨b, o + i, none⟩) ((l.drop i).take n).length (c - i)) ((l.drop i).take n) := by
  obtain ⟨a', c', e, h1, h2, h3⟩ := h
  injection e with e1 e2 e3
  subst e1 e3
  refine ⟨_, _, rfl, by rw [List.length_take, List.length_drop]; omega, by omega, fun j x hx => ?_⟩
  have hj := (List.getElem?_eq_some_iff.1 hx).1
  rw [List.length_take, List.length_drop] at hj
  rw [List.getElem?_take, if_pos (by omega), List.getElem?_drop] at hx
  obtain ⟨b', o', cs, e, hp, hlt, hcs, hr⟩ := h3 (i + j) x hx
  injection e with e
  injection e with e4 e5
  subst e4 e5
  refine ⟨_, _, cs, rfl, hp, hlt, ?_, hr⟩
  rw [show byteR.size = 1 from rfl] at hcs ⊢
  rw [show o + i + j * 1 = o + (i + j) * 1 by omega]
  exact hcs
/-- the first records of a run -/
structure SpY (w : World) (q : Blocks) (ys : List YRec) (rs : List (Nat × List UInt8)) : Prop where
  spec : ys.map (fun y => (y.a, y.l)) = rs
  data : ∀ y ∈ ys, y.t = 0 ∧ SlR byteR w q (.slice y.sa y.l.length y.sc) y.l
theorem SpY.snoc {w : World} {q : Blocks} {ys : List YRec} {rs : List (Nat × List UInt8)} (h : SpY w q ys rs) (y : YRec) (ht : y.t = 0) (hs : SlR byteR w q (.slice y.sa y.l.length y.sc) y.l) : SpY w q (ys ++ [y]) (rs ++ [(y.a, y.l)]) := by
  refine ⟨by rw [List.map_append, h.spec]; rfl, fun z hz => ?_⟩
  rcases List.mem_append.1 hz with hz | hz
  · exact h.data z hz
  · simp at hz
    subst hz
    exact ⟨ht, hs⟩
theorem SpY.below {w w' : World} {q : Blocks} {ys : List YRec} {rs : List (Nat × List UInt8)} (h : SpY w q ys rs) (hb : Below w.heap.size w w') : SpY w' q ys rs := ⟨h.spec, fun y hy => ⟨(h.data y hy).1, ((h.data y hy).2.old.below hb).mono fun _ hk => hk.1⟩⟩
set_option maxHeartbeats 2000000 in
set_option maxRecDepth 100000 in
theorem Split03_any (a n : Nat) (q : Blocks) (v : Value) (l : List UInt8) (w : World) (h : SlR byteR w q v l) (hn : 1 ≤ n) (hn2 : n ≤ 255) (ha : a ≤ 65535) (hl : a + l.length ≤ 65536) :
    Calls Tryz.prog 55 #[.int .i64 a, .int .i64 n, v] w fun e w' => ∃ v' ys, e = .returned v' ∧ Own yR w' w.heap.size 57 NoB v' ys ∧ SpY w q ys (splitL n a l) ∧ Below w.heap.size w w' := by
  obtain ⟨sa, c, rfl, hc1, hc2, g⟩ := h.byte
  have HSL := Lib.hid h
  have G := Lib.hid g
  have HLL := Lib.hid hl
  have hn0 : (1 : Int) ≤ (n : Int) := by omega
  have hn1 : (n : Int) ≤ 255 := by omega
  have ha0 : (0 : Int) ≤ (a : Int) := by omega
  have ha1 : (a : Int) ≤ 65535 := by omega
  have hl1 : (l.length : Int) ≤ 65536 := by omega
  have HC := Lib.hid hc1
  have hd1 : decide ((n : Int) < 1) = false := by simp; omega
  have hd2 : decide ((255 : Int) < (n : Int)) = false := by simp; omega
  have hd3 : decide ((a : Int) < 0) = false := by simp
  have hd4 : decide ((65535 : Int) < (a : Int)) = false := by simp; omega
  have hd5 : decide ((65536 : Int) - (a : Int) < (l.length : Int)) = false := by simp; omega
  clear h g hl hc1 hc2
  go_enter Tryz.func55, Tryz.ntmps55
  go_wp2
  go_loopw [7, 8] (fun v i wr => ∃ (k : Nat) (ys : List YRec), k * n ≤ l.length + n ∧ ys.length ≤ k ∧ k ≤ 70000 ∧ i = .int .i64 (k * n : Nat) ∧ Own yR wr w.heap.size 57 NoB v ys ∧ SpY w q ys ((splitL n a l).take k) ∧ Below w.heap.size w wr) (fun _ i _ => l.length + 600 - (intOf i).toNat)
  case atStart => exact ⟨0, [], by omega, Nat.le_refl _, by omega, by simp, Own.nil _ _ _ _ _, ⟨rfl, fun _ h => by cases h⟩, Below.refl _ _⟩
  case round =>
    obtain ⟨k, ys, hk, hky, hk7, rfl, ho, hs, hb⟩ := hrel
    have HS := Lib.hid hs
    have HO := Lib.hid ho
    have HB := Lib.hid hb
    obtain ⟨oa, oc, rfl⟩ := ho.form
    clear hs ho hb
    by_cases hlt : k * n < l.length
    · have HM := Lib.hid (splitL_more (a := a) hn hlt)
      have HSU := Lib.hid (show (k + 1) * n = k * n + n from Nat.succ_mul k n)
      have hkk : k ≤ k * n := Nat.le_mul_of_pos_right k hn
      generalize k * n = i at *
      obtain ⟨b1, o1, rfl, _, _⟩ := G.out i l[i] (List.getElem?_eq_getElem hlt)
      have HP := Lib.hid (byte_part HSL.out i n (Nat.le_of_lt hlt))
      obtain ⟨j, hj⟩ : ∃ j : Nat, j = min (i + n) l.length := ⟨_, rfl⟩
      have hjl : ((l.drop i).take n).length = j - i := by rw [List.length_take, List.length_drop]; omega
      have hmin : min ((i : Int) + (n : Int)) (l.length : Int) = (j : Int) := by omega
      have hij : (i : Int) ≤ (j : Int) := by omega
      have hjc : (j : Int) ≤ (l.length : Int) := by omega
      have hi0 : (0 : Int) ≤ (i : Int) := by omega
      have hi1 : (i : Int) ≤ 65536 := by omega
      have HCS : Hid ((#[.int .i64 0, .int .i64 ((a : Int) + (i : Int)), .slice (some ⟨b1, o1 + i, none⟩) (j - i) (c - i)] : Array Value) = ([.int .i64 ((0 : Nat) : Int), .int .i64 ((a + i : Nat) : Int), .slice (some ⟨b1, o1 + i, none⟩) ((l.drop i).take n).length (c - i)] : List Value).toArray) := by
        show _ = _
        rw [hjl]
        simp
      have hcut : ∀ W, (Instr.sliceAt 55 (.slice (some ⟨b1, o1, none⟩) l.length c) (some (.int .i64 (i : Nat))) (some (.int .i64 (j : Nat))) none).run Tryz.prog W = .ok (.slice (some ⟨b1, o1 + i, none⟩) (j - i) (c - i)) W := fun W => by
        have := HC.out
        rw [run_sliceAt_slice _ _ _ _ _ _ (by kernel_rfl), run_slice_lh W _ (some ⟨b1, o1, none⟩) l.length c (by kernel_rfl) .i64 .i64 (i : Int) (j : Int) (by omega) (by omega) (by omega)]
        go_simp
        omega
      have HNX := Lib.hid (HS.out.snoc ⟨0, a + i, (l.drop i).take n, some ⟨b1, o1 + i, none⟩, c - i⟩ rfl HP.out)
      have HC1 : Hid ((ys.length + 1) * 40 ≤ 140737488355328) := by show _ ≤ _; omega
      have HC2 : Hid (ys.length + 1 ≤ 9223372036854775807) := by show _ ≤ _; omega
      have HJ := Lib.hid hj
      clear hj hjl HP
      go_wp2_with (at_builtin; refine wpList_push rfl (.tmp 37) (.tmp 51) 112 rfl w.heap.size 57 40 elY _ ys ⟨0, a + i, (l.drop i).take n, some ⟨b1, o1 + i, none⟩, c - i⟩ _ rfl rfl HO.out HCS.out HC1.out HC2.out HB.out.size ?_; intro a' c' w' hp; have HPU := Lib.hid hp; clear hp)
      go_roundw
      case rel => exact ⟨k + 1, _, by have := HSU.out; omega, by simp; omega, by omega, by rw [HSU.out]; go_num, HPU.out.1, by rw [HM.out]; exact HNX.out, HB.out.grown HPU.out.2 HB.out.size (fun m hm => (HO.out.lt m hm).1)⟩
      case measure => simp [intOf]; omega
    · have HE := HS.out
      rw [splitL_end hn (Nat.le_of_not_lt hlt)] at HE
      generalize k * n = i at *
      have hi1 : (i : Int) ≤ 66000 := by omega
      go_wp2
      go_ret
      exact ⟨_, ys, rfl, HO.out, HE, HB.out⟩
end Go.Proofs.YtcfjcoockklkeaaGreatDoor

/-
  breadboardref02.Runs: what stands in memory. Conditions: none.
-/
namespace Go.Proofs.YtcfjcoockklkeaaGreatDoor
open Go.RowKit

/-- a run as it lies in a row: the address and the slice -/
structure Raw where
  a : Nat
  sa : Option Addr
  n : Nat
  c : Nat
def Raw.sl (r : Raw) : Value := .slice r.sa r.n r.c
def rawR : Rep Raw := Rep.flat 2 (fun r => [.int .i64 r.a, .slice r.sa r.n r.c]) (fun _ => rfl) (fun _ u hu => by simp at hu; rcases hu with rfl | rfl <;> rfl)
theorem elRaw : ElT Tryz.prog 38 69 rawR.size 32 := ElT.mk' (z := .agg #[.int .i64 0, .slice none 0 0]) Tryz.underlying38 (by kernel_rfl) rfl (by decide)
section
variable {α : Type} {n : Nat} {enc : α → List Value} {h0 : ∀ x, (enc x).length = n} {h1 : ∀ x, ∀ u ∈ enc x, u.oneCell' = true}
theorem els_flat {w : World} {p : Blocks} : ∀ {xs : List α} {cs : List Value}, Els (Rep.flat n enc h0 h1) w p cs xs → cs = xs.flatMap enc
  | [], _, h => h
  | x :: xs, _, ⟨c1, c2, e, hr, he⟩ => by
    have hr : c1 = enc x := hr
    rw [e, hr, els_flat he, List.flatMap_cons]
theorem els_of_flat {w : World} {p : Blocks} : ∀ (xs : List α), Els (Rep.flat n enc h0 h1) w p (xs.flatMap enc) xs
  | [] => rfl
  | x :: xs => ⟨enc x, xs.flatMap enc, List.flatMap_cons, rfl, els_of_flat xs⟩
end
theorem raw_len (xs : List Raw) : (xs.flatMap fun r => [Value.int .i64 r.a, .slice r.sa r.n r.c]).length = xs.length * 2 := by
  induction xs with
  | nil => rfl
  | cons x xs ih => rw [List.flatMap_cons, List.length_append, ih]; simp; omega
theorem raw_set {w : World} {B g c : Nat} {e : TypeId} {xs : List Raw} {x : Raw} (h : Own rawR w B e NoB (.slice (some ⟨g, 0, none⟩) (xs ++ [x]).length c) (xs ++ [x])) (sa : Option Addr) (n cc : Nat) :
    Own rawR (w.setCell ⟨g, xs.length * 2 + 1, none⟩ (.slice sa n cc)) B e NoB (.slice (some ⟨g, 0, none⟩) (xs ++ [(⟨x.a, sa, n, cc⟩ : Raw)]).length c) (xs ++ [⟨x.a, sa, n, cc⟩]) := by
  obtain ⟨cs, hrow, hels⟩ := h
  have hcs := els_flat hels
  have hset : cs.set (xs.length * 2 + 1) (.slice sa n cc) = (xs ++ [(⟨x.a, sa, n, cc⟩ : Raw)]).flatMap fun r => [Value.int .i64 r.a, .slice r.sa r.n r.c] := by
    rw [hcs, List.flatMap_append, List.flatMap_append, List.set_append, raw_len, if_neg (by omega)]
    simp
  refine ⟨cs.set (xs.length * 2 + 1) (.slice sa n cc), ⟨?_, ?_⟩, ?_⟩
  · rw [List.length_set, hrow.1]; simp
  · rcases hrow.2 with ⟨hv, _⟩ | ⟨g', cap, cur, hv, hb, hg, hnc, hcm, hsz, ht⟩
    · cases hv
    · injection hv with e1 e2 e3
      injection e1 with e1
      injection e1 with e1
      subst e1 e3
      refine .inr ⟨g, c, cur.setIfInBounds (xs.length * 2 + 1) (.slice sa n cc), rfl, hb, heap_setCell_same w g _ cur e _ hg, by simpa using hnc, hcm, by simpa using hsz, ?_⟩
      rw [Array.toList_setIfInBounds, List.take_set, show (xs ++ [(⟨x.a, sa, n, cc⟩ : Raw)]).length = (xs ++ [x]).length by simp, ht]
  · rw [hset]
    exact els_of_flat _
/-- the runs so far, none to be lengthened -/
def RnC (w : World) (B : Nat) (v : Value) (rs : List (Nat × List UInt8)) (raws : List Raw) : Prop :=
  Own rawR w B 69 NoB v raws ∧ raws.length = rs.length ∧ ∀ (i : Nat) (r : Raw) (x : Nat × List UInt8), raws[i]? = some r → rs[i]? = some x → r.a = x.1 ∧ SlR byteR w (fun g => B ≤ g ∧ v.ownBlock ≠ some g) r.sl x.2
/-- the runs so far, the last to be lengthened -/
def RnO (w : World) (B : Nat) (v : Value) (prs : List (Nat × List UInt8)) (a : Nat) (bl : List UInt8) (pre : List Raw) (z : Raw) : Prop :=
  Own rawR w B 69 NoB v (pre ++ [z]) ∧ pre.length = prs.length ∧ z.a = a ∧ Own byteR w B 5 NoB z.sl bl ∧ (∀ g, z.sl.ownBlock = some g → v.ownBlock ≠ some g) ∧
    ∀ (i : Nat) (r : Raw) (x : Nat × List UInt8), pre[i]? = some r → prs[i]? = some x → r.a = x.1 ∧ SlR byteR w (fun g => B ≤ g ∧ v.ownBlock ≠ some g ∧ z.sl.ownBlock ≠ some g) r.sl x.2
theorem RnC.nil (w : World) (B : Nat) : RnC w B (.slice none 0 0) [] [] := ⟨Own.nil _ _ _ _ _, rfl, fun i r x hr => by simp at hr⟩
theorem RnO.close {w : World} {B : Nat} {v : Value} {prs : List (Nat × List UInt8)} {a : Nat} {bl : List UInt8} {pre : List Raw} {z : Raw} (h : RnO w B v prs a bl pre z) : RnC w B v (prs ++ [(a, bl)]) (pre ++ [z]) := by
  obtain ⟨h1, h2, h3, h4, h5, h6⟩ := h
  refine ⟨h1, by simp [h2], fun i r x hr hx => ?_⟩
  rcases Nat.lt_or_ge i pre.length with hi | hi
  · rw [List.getElem?_append_left hi] at hr
    rw [List.getElem?_append_left (by omega)] at hx
    obtain ⟨g1, g2⟩ := h6 i r x hr hx
    exact ⟨g1, g2.mono fun _ hk => ⟨hk.1, hk.2.1⟩⟩
  · rw [List.getElem?_append_right hi] at hr
    rw [List.getElem?_append_right (by omega)] at hx
    have hi0 : i - pre.length = 0 := by have := (List.getElem?_eq_some_iff.1 hr).1; simp at this; omega
    rw [hi0] at hr
    rw [← h2, hi0] at hx
    simp at hr hx
    subst hr hx
    exact ⟨h3, h4.slO (fun _ h => h.elim) (fun k hk => ⟨(h4.lt k hk).1, h5 k hk⟩)⟩
theorem RnC.more {w w' : World} {B : Nat} {v v' : Value} {rs : List (Nat × List UInt8)} {raws : List Raw} (h : RnC w B v rs raws) (x : Nat) (hp : PushedA rawR w B 69 v.ownBlock (raws ++ [⟨x, none, 0, 0⟩]) v' w') : RnO w' B v' rs x [] raws ⟨x, none, 0, 0⟩ := by
  obtain ⟨h1, h2, h3⟩ := h
  obtain ⟨p1, p2, p3⟩ := hp
  refine ⟨p1, h2, rfl, Own.nil _ _ _ _ _, (fun g hg => by cases hg), fun i r y hr hy => ?_⟩
  obtain ⟨g1, g2⟩ := h3 i r y hr hy
  refine ⟨g1, (g2.old.keep (Keep.grown p2 fun k hk => ⟨hk.2, fun e => hk.1.2 e.symm⟩)).mono fun k hk => ⟨hk.1.1, ?_, (fun e => by cases e)⟩⟩
  rcases p3 with e | ⟨q, e, hq⟩
  · rw [e]; exact hk.1.2
  · rw [e]; intro e2; injection e2 with e2; have := hk.2; omega
theorem RnO.grow {w w' : World} {B g c : Nat} {prs : List (Nat × List UInt8)} {a : Nat} {bl : List UInt8} {pre : List Raw} {z : Raw} {b : UInt8} {sa : Option Addr} {n cc : Nat} (h : RnO w B (.slice (some ⟨g, 0, none⟩) (pre ++ [z]).length c) prs a bl pre z)
    (ho : Own byteR w' B 5 NoB (.slice sa n cc) (bl ++ [b])) (hg : w.grownBy w' z.sl.ownBlock) (hat : Value.ownBlock (.slice sa n cc) = z.sl.ownBlock ∨ ∃ q, Value.ownBlock (.slice sa n cc) = some q ∧ w.heap.size ≤ q) :
    RnO (w'.setCell ⟨g, pre.length * 2 + 1, none⟩ (.slice sa n cc)) B (.slice (some ⟨g, 0, none⟩) (pre ++ [(⟨z.a, sa, n, cc⟩ : Raw)]).length c) prs a (bl ++ [b]) pre ⟨z.a, sa, n, cc⟩ := by
  obtain ⟨h1, h2, h3, h4, h5, h6⟩ := h
  have hgl := h1.lt g rfl
  have hgz : z.sl.ownBlock ≠ some g := fun e => h5 g e rfl
  have hnew : ∀ k, Value.ownBlock (.slice sa n cc) = some k → k ≠ g := fun k e e2 => by
    subst e2
    rcases hat with e3 | ⟨q, e3, hq⟩
    · rw [e3] at e; exact hgz e
    · rw [e3] at e; injection e with e; omega
  have h1' : Own rawR w' B 69 NoB (.slice (some ⟨g, 0, none⟩) (pre ++ [z]).length c) (pre ++ [z]) := h1.keep fun k hk => by
    rcases hk with hk | hk
    · exact hk.elim
    · injection hk with hk
      subst hk
      exact hg.block _ hgl.2 (fun e => hgz e.symm)
  refine ⟨raw_set h1' sa n cc, h2, h3, ho.keep (Keep.setCell (fun k hk => by rcases hk with hk | hk; exact hk.elim; exact hnew k hk) _), fun k hk e => ?_, fun i r x hr hx => ?_⟩
  · injection e with e
    exact hnew k hk e.symm
  · obtain ⟨g1, g2⟩ := h6 i r x hr hx
    have hk1 : SlR byteR w' (fun k => (B ≤ k ∧ Value.ownBlock (.slice (some ⟨g, 0, none⟩) (pre ++ [z]).length c) ≠ some k ∧ z.sl.ownBlock ≠ some k) ∧ k < w.heap.size) r.sl x.2 := g2.old.keep (Keep.grown hg fun k hk => ⟨hk.2, fun e => hk.1.2.2 e.symm⟩)
    refine ⟨g1, (hk1.keep (Keep.setCell (fun k hk => fun e => hk.1.2.1 (by rw [e]; rfl)) _)).mono fun k hk => ⟨hk.1.1, hk.1.2.1, ?_⟩⟩
    show Value.ownBlock (.slice sa n cc) ≠ some k
    rcases hat with e3 | ⟨q, e3, hq⟩
    · rw [e3]; exact hk.1.2.2
    · rw [e3]; intro e; injection e with e; have := hk.2; omega
end Go.Proofs.YtcfjcoockklkeaaGreatDoor

/-
  breadboardref02.Runs. Conditions: sizes, addresses.
-/
namespace Go.Proofs.YtcfjcoockklkeaaGreatDoor
open Go.RowKit

def rst (m : List CellV) (k : Nat) : List (Nat × List UInt8) × Option Nat := (m.take k).foldl rstep ([], none)
theorem rst_succ {m : List CellV} {k : Nat} (hk : k < m.length) : rst m (k + 1) = rstep (rst m k) m[k] := by
  unfold rst
  rw [List.take_succ_eq_append_getElem hk, List.foldl_append]
  rfl
theorem rst_prev {m : List CellV} {k : Nat} (hk : k < m.length) : (rst m (k + 1)).2 = some (m[k].addr + 1) := by rw [rst_succ hk]; rfl
theorem rst_first {m : List CellV} (h : 0 < m.length) : rst m 1 = ([] ++ [(m[0].addr, [] ++ [m[0].byte])], some (m[0].addr + 1)) := by
  rw [rst_succ h]
  simp [rst, rstep]
theorem rst_new {m : List CellV} {k : Nat} {rs : List (Nat × List UInt8)} (hk : k + 1 < m.length) (hr : (rst m (k + 1)).1 = rs) (h : ¬ (m[k+1].addr : Int) = (m[k].addr : Int) + 1) : (rst m (k + 1 + 1)).1 = rs ++ [(m[k+1].addr, [] ++ [m[k+1].byte])] := by
  have hp := rst_prev (show k < m.length by omega)
  rw [rst_succ hk]
  unfold rstep
  rw [if_neg (by rw [hp]; intro e; injection e with e; omega), hr]
  rfl
theorem rst_more {m : List CellV} {k a : Nat} {prs : List (Nat × List UInt8)} {bl : List UInt8} (hk : k + 1 < m.length) (hr : (rst m (k + 1)).1 = prs ++ [(a, bl)]) (h : (m[k+1].addr : Int) = (m[k].addr : Int) + 1) : (rst m (k + 1 + 1)).1 = prs ++ [(a, bl ++ [m[k+1].byte])] := by
  have hp := rst_prev (show k < m.length by omega)
  rw [rst_succ hk]
  unfold rstep
  rw [if_pos (by rw [hp, show m[k].addr + 1 = m[k+1].addr by omega]), hr, addLast_snoc]
theorem own_some {α : Type} {R : Rep α} {w : World} {B : Nat} {e : TypeId} {p : Blocks} {v : Value} {xs : List α} (h : Own R w B e p v xs) (h0 : xs ≠ []) : ∃ g c, v = .slice (some ⟨g, 0, none⟩) xs.length c := by
  obtain ⟨cs, hrow, _⟩ := h
  rcases hrow.2 with ⟨_, hn⟩ | ⟨g, cap, cur, hv, _⟩
  · exact absurd (List.length_eq_zero_iff.1 hn) h0
  · exact ⟨g, cap, hv⟩
theorem RnC.same {w w' : World} {B : Nat} {v : Value} {rs : List (Nat × List UInt8)} {raws : List Raw} (h : RnC w B v rs raws) (hs : ∀ k : Nat, w'.heap[k]? = w.heap[k]?) : RnC w' B v rs raws :=
  ⟨h.1.keep fun k _ => hs k, h.2.1, fun i r x hr hx => ⟨(h.2.2 i r x hr hx).1, (h.2.2 i r x hr hx).2.keep fun k _ => hs k⟩⟩
theorem RnO.same {w w' : World} {B : Nat} {v : Value} {prs : List (Nat × List UInt8)} {a : Nat} {bl : List UInt8} {pre : List Raw} {z : Raw} (h : RnO w B v prs a bl pre z) (hs : ∀ k : Nat, w'.heap[k]? = w.heap[k]?) : RnO w' B v prs a bl pre z := by
  obtain ⟨h1, h2, h3, h4, h5, h6⟩ := h
  exact ⟨h1.keep fun k _ => hs k, h2, h3, h4.keep fun k _ => hs k, h5, fun i r x hr hx => ⟨(h6 i r x hr hx).1, (h6 i r x hr hx).2.keep fun k _ => hs k⟩⟩
/-- the last run's slice as the row holds it -/
theorem RnO.cell {w : World} {B g c : Nat} {N : Nat} {prs : List (Nat × List UInt8)} {a : Nat} {bl : List UInt8} {pre : List Raw} {z : Raw} (h : RnO w B (.slice (some ⟨g, 0, none⟩) N c) prs a bl pre z) :
    w.cell? ⟨g, pre.length * 2 + 1, none⟩ = some (.slice z.sa z.n z.c) ∧ w.frozen? ⟨g, pre.length * 2 + 1, none⟩ = false := by
  have h1 := h.1
  obtain ⟨cs, hrow, hels⟩ := h1
  have hcs := els_flat hels
  have hget : cs[pre.length * 2 + 1]? = some (.slice z.sa z.n z.c) := by
    rw [hcs, List.flatMap_append, List.getElem?_append_right (by rw [raw_len]; omega), raw_len]
    simp
  rcases hrow.2 with ⟨hv, _⟩ | ⟨g', cap, cur, hv, hb, hg, hnc, hcm, hsz, ht⟩
  · cases hv
  · injection hv with e1 e2 e3
    injection e1 with e1
    injection e1 with e1
    subst e1
    constructor
    · unfold World.cell?
      rw [hg]
      rw [← ht] at hget
      have hi := (List.getElem?_eq_some_iff.1 hget).1
      rw [List.length_take] at hi
      rw [List.getElem?_take, if_pos (by omega)] at hget
      simpa using hget
    · unfold World.frozen?
      rw [hg]
      simp
theorem at_grown {w w' : World} {row : Option Nat} (hg : w.grownBy w' row) {g : Nat} (hl : g < w.heap.size) (hn : some g ≠ row) (o : Nat) : w'.cell? ⟨g, o, none⟩ = w.cell? ⟨g, o, none⟩ ∧ w'.frozen? ⟨g, o, none⟩ = w.frozen? ⟨g, o, none⟩ := by
  have hb := hg.block g hl hn
  constructor
  · unfold World.cell?; rw [hb]
  · unfold World.frozen?; rw [hb]
/-- one byte more at the last run: what the append asks and gives -/
theorem RnO.ask {w0 w : World} {v : Value} {prs : List (Nat × List UInt8)} {a : Nat} {bl : List UInt8} {pre : List Raw} {z : Raw} (h : RnO w w0.heap.size v prs a bl pre z) (y : UInt8) :
    Own byteR (w.alloc (.cells #[.int .u8 y.toNat] 5)).drew w0.heap.size 5 NoB z.sl bl ∧ SlR byteR (w.alloc (.cells #[.int .u8 y.toNat] 5)).drew (fun k => w.heap.size ≤ k) (.slice (some ⟨w.heap.size, 0, none⟩) 1 1) [y] ∧ ∀ k, w.heap.size ≤ k → some k ≠ z.sl.ownBlock := by
  obtain ⟨_, _, _, h4, _, _⟩ := h
  refine ⟨(h4.keep (Keep.of_below ((Below.refl _ w).alloc (Nat.le_refl _) _) (fun k hk => by rcases hk with hk | hk; exact hk.elim; exact (h4.lt k hk).2))).keep (Keep.drew _), (slR_lit w 5 _ [y] _ 1 rfl (by simp) (by simp) (fun _ h => h)).drew, fun k hk e => ?_⟩
  have := (h4.lt k e.symm).2
  omega
theorem grown_lit {w w' : World} {y : UInt8} {row : Option Nat} (h : (w.alloc (.cells #[.int .u8 y.toNat] 5)).drew.grownBy w' row) : w.grownBy w' row := grown_step (World.grownBy_alloc w _ _) ⟨h.os, h.tape, h.output, h.size, h.block⟩
set_option maxHeartbeats 2000000 in
set_option maxRecDepth 100000 in
theorem Runs02_any (p : Blocks) (v : Value) (m : List CellV) (w : World) (h : SlR cellR w p v m) (hm : m.length ≤ 100000) (hA : ∀ c ∈ m, c.addr ≤ 65535) :
    Calls Tryz.prog 29 #[v] w fun e w' => ∃ v' raws, e = .returned v' ∧ RnC w' w.heap.size v' (runs02 m) raws ∧ Below w.heap.size w w' := by
  obtain ⟨ca, cc, rfl, _, _, g⟩ := h.cel
  have G := Lib.hid g
  have HA := Lib.hid hA
  have HM := Lib.hid hm
  have hm1 : (m.length : Int) ≤ 100000 := by omega
  clear h g hA
  go_enter Tryz.func29, Tryz.ntmps29
  go_wp2
  go_loopw [3, 4] (fun v i wr => ∃ k : Nat, k ≤ m.length ∧ i = .int .i64 k ∧ Below w.heap.size w wr ∧ ((k = 0 ∧ v = .slice none 0 0) ∨ ∃ (j : Nat) (prs : List (Nat × List UInt8)) (a : Nat) (bl : List UInt8) (pre : List Raw) (z : Raw), k = j + 1 ∧ (rst m k).1 = prs ++ [(a, bl)] ∧ pre.length < k ∧ bl.length ≤ k ∧ RnO wr w.heap.size v prs a bl pre z)) (fun _ i _ => m.length - (intOf i).toNat)
  case atStart => exact ⟨0, Nat.zero_le _, rfl, Below.refl _ _, .inl ⟨rfl, rfl⟩⟩
  case round =>
    obtain ⟨k, hk, rfl, hb, hcase⟩ := hrel
    have HB := Lib.hid hb
    clear hb
    by_cases hlt : k < m.length
    · have hk9 : (k : Int) ≤ 100000 := by omega
      have hk0 : (0 : Int) ≤ (k : Int) := by omega
      obtain ⟨b1, o1, rfl, _, d1, d2⟩ := G.out k m[k] (List.getElem?_eq_getElem hlt)
      have e1 := (HB.out.cell (World.block_lt_of_cell? _ _ d1)).trans d1
      have e2 := (HB.out.cell (World.block_lt_of_cell? _ _ d2)).trans d2
      have hx0 : m[k].addr ≤ 65535 := HA.out _ (List.getElem_mem hlt)
      rcases hcase with ⟨rfl, rfl⟩ | ⟨j, prs, a, bl, pre, z, rfl, hr, hpl, hbl, hro⟩
      · rw [show ((0 : Nat) : Int) = 0 from rfl]
        obtain ⟨rs, hrs⟩ : ∃ rs : List (Nat × List UInt8), rs = [] := ⟨_, rfl⟩
        have HMO0 : Hid ((rst m (0 + 1)).1 = rs ++ [(m[0].addr, [] ++ [m[0].byte])]) := by show _ = _; rw [hrs, rst_first hlt]
        have HRC0 : Hid (RnC wr w.heap.size (.slice none 0 0) [] []) := RnC.nil _ _
        have HLB1 : Hid (b1 < w.heap.size) := World.block_lt_of_cell? _ _ d1
        simp only [Nat.zero_mul, Nat.add_zero] at e1 e2
        clear d1 d2 hk9 hk0
        generalize m[0].addr = x at *
        generalize m[0].byte = y at *
        have hx1 : (x : Int) ≤ 65535 := by omega
        clear hx0
        obtain ⟨raws, hraws⟩ : ∃ raws : List Raw, raws = [] := ⟨_, rfl⟩
        rw [← hraws, ← hrs] at HRC0
        have HPL : Hid (raws.length < 1) := by show _ < _; rw [hraws]; exact Nat.one_pos
        clear hraws hrs
        have hm0 : (0 : Int) < (m.length : Int) := by omega
        go_wp2
        go_quiet (fail)
        have HRC : Hid (RnC (wr.drewN nq) w.heap.size (.slice none 0 0) rs raws) := HRC0.out.same (fun _ => rfl)
        have HBR : Hid (Below w.heap.size w (wr.drewN nq)) := HB.out.trans (below_drewN _ _ _)
        replace e1 : (wr.drewN nq).cell? ⟨b1, o1, none⟩ = some (.int .i64 x) := e1
        replace e2 : (wr.drewN nq).cell? ⟨b1, o1 + 1, none⟩ = some (.int .u8 y.toNat) := e2
        clear HRC0 HB
        generalize wr.drewN nq = wz at *
        have HC1 : Hid ((raws.length + 1) * 32 ≤ 140737488355328) := by show _ ≤ _; have := HPL.out; have := HM.out; omega
        have HC2 : Hid (raws.length + 1 ≤ 9223372036854775807) := by show _ ≤ _; have := HPL.out; have := HM.out; omega
        have HCS : Hid ((#[.int .i64 (x : Int), .slice none 0 0] : Array Value) = ([.int .i64 ((x : Nat) : Int), .slice none 0 0] : List Value).toArray) := Lib.hid rfl
        have hp9 : (raws.length : Int) ≤ 100000 := by have := HPL.out; have := HM.out; omega
        have hp0 : (0 : Int) ≤ (raws.length : Int) := by omega
        go_upto_region 7 with (at_builtin; refine wpList_pushA rfl (.tmp 29) (.tmp 36) 38 rfl w.heap.size 69 32 elRaw _ raws ⟨x, none, 0, 0⟩ _ rfl rfl HRC.out.1 HCS.out HC1.out HC2.out HBR.out.size ?_; intro a6 c6 w6 hp; have HP := Lib.hid hp; clear hp)
        have HRQ0 := Lib.hid (HRC.out.more x HP.out)
        obtain ⟨gb, c0, hv6⟩ := own_some HP.out.1 (by simp)
        obtain ⟨rfl, rfl⟩ : a6 = some ⟨gb, 0, none⟩ ∧ c6 = c0 := by injection hv6 with h1 h2 h3; exact ⟨h1, h3⟩
        clear hv6
        obtain ⟨gc, rfl⟩ : ∃ gc, gc = c6 := ⟨_, rfl⟩
        obtain ⟨pre, rfl⟩ : ∃ pre, pre = raws := ⟨_, rfl⟩
        obtain ⟨prs, rfl⟩ : ∃ prs, prs = rs := ⟨_, rfl⟩
        obtain ⟨a, hae⟩ : ∃ a, a = x := ⟨_, rfl⟩
        obtain ⟨bl, hbl⟩ : ∃ bl : List UInt8, bl = [] := ⟨_, rfl⟩
        obtain ⟨z, hz⟩ : ∃ z : Raw, z = ⟨x, none, 0, 0⟩ := ⟨_, rfl⟩
        have HRQ : Hid (RnO w6 w.heap.size (.slice (some ⟨gb, 0, none⟩) (pre.length + 1) gc) prs a bl pre z) := by show RnO _ _ _ _ _ _ _ _; rw [hae, hbl, hz]; exact HRQ0.out
        have HMO : Hid ((rst m (0 + 1)).1 = prs ++ [(a, bl ++ [y])]) := by show _ = _; rw [hae, hbl]; exact HMO0.out
        have HBL : Hid (bl.length ≤ 0) := by show _ ≤ _; rw [hbl]; exact Nat.zero_le _
        have HBQ : Hid (Below w.heap.size w w6) := HBR.out.grown HP.out.2.1 HBR.out.size (fun k hk => (HRC.out.1.lt k hk).1)
        have e4 := (at_grown HP.out.2.1 (Nat.lt_of_lt_of_le HLB1.out HBR.out.size) (fun e => Nat.lt_irrefl _ (Nat.lt_of_lt_of_le HLB1.out (HRC.out.1.lt _ e.symm).1)) (o1 + 1)).1.trans e2
        have HS2 := Lib.hid HRQ.out.cell.2
        have e5 := HRQ.out.cell.1
        clear e1 e2 hae hbl hz HRQ0 HMO0 HRC HP HC1 HC2 HCS HBR
        obtain ⟨wq, rfl⟩ : ∃ wq, wq = w6 := ⟨_, rfl⟩
        have HQG : Hid (∀ (w8 : World) (sa : Option Addr) (n cc : Nat), Own byteR w8 w.heap.size 5 NoB (.slice sa n cc) (bl ++ [y]) → wq.grownBy w8 z.sl.ownBlock → (Value.ownBlock (.slice sa n cc) = z.sl.ownBlock ∨ Value.ownBlock (.slice sa n cc) = some (wq.alloc (.cells #[.int .u8 y.toNat] 5)).drew.heap.size) → RnO (w8.setCell ⟨gb, pre.length * 2 + 1, none⟩ (.slice sa n cc)) w.heap.size (.slice (some ⟨gb, 0, none⟩) (pre.length + 1) gc) prs a (bl ++ [y]) pre ⟨z.a, sa, n, cc⟩ ∧ Below w.heap.size w (w8.setCell ⟨gb, pre.length * 2 + 1, none⟩ (.slice sa n cc))) := fun w8 sa n cc ho hg hat => by
          have hq : RnO wq w.heap.size (.slice (some ⟨gb, 0, none⟩) (pre ++ [z]).length gc) prs a bl pre z := by rw [List.length_append, List.length_singleton]; exact HRQ.out
          have hgb := (HRQ.out.1.lt gb rfl).1
          have := RnO.grow hq ho hg (hat.imp id (fun e => ⟨_, e, by show _ ≤ (wq.alloc _).heap.size; rw [World.size_alloc]; omega⟩))
          rw [List.length_append, List.length_singleton] at this
          have hb := HBQ.out.grown hg HBQ.out.size (fun k hk => (HRQ.out.2.2.2.1.lt k hk).1)
          exact ⟨this, hb.setCell hgb _⟩
        generalize hnp : pre.length = np at *
        have HNP := Lib.hid hnp
        clear hnp
        go_upto_region 8 with fail
        have HASK := Lib.hid (HRQ.out.ask y)
        have hi0 : (0 : Int) ≤ (0 : Int) := by omega
        have hi1 : (0 : Int) < (m.length : Int) := by omega
        have hi2 : (0 : Int).toNat = 0 := rfl
        have hn1 : (np : Int) < (np : Int) + 1 := by omega
        have HN1 : Hid ((bl.length + ([y] : List UInt8).length) * 1 ≤ 140737488355328) := by show (_ + 1) * 1 ≤ _; have := HBL.out; have := HM.out; omega
        have HN2 : Hid (bl.length + ([y] : List UInt8).length ≤ 9223372036854775807) := by show _ + 1 ≤ _; have := HBL.out; have := HM.out; omega
        have HZ : Hid (z.sl.ownBlock ≠ some gb) := fun e => HRQ.out.2.2.2.2.1 gb e rfl
        have HGB : Hid (w.heap.size ≤ gb ∧ gb < wq.heap.size) := HRQ.out.1.lt gb rfl
        have HZL : Hid (∀ k, z.sl.ownBlock = some k → w.heap.size ≤ k) := fun k e => (HRQ.out.2.2.2.1.lt k e).1
        have e6 := HS2.out
        have HBS : Hid (w.heap.size ≤ (wq.alloc (.cells #[.int .u8 y.toNat] 5)).drew.heap.size) := by show _ ≤ (wq.alloc _).heap.size; rw [World.size_alloc]; have := HBQ.out.size; omega
        have ha1 := at_grown (World.grownBy_alloc wq (.cells #[.int .u8 y.toNat] 5) none) HGB.out.2 (by simp) (np * 2 + 1)
        have ha2 := (at_grown (World.grownBy_alloc wq (.cells #[.int .u8 y.toNat] 5) none) (Nat.lt_of_lt_of_le HLB1.out HBQ.out.size) (by simp) (o1 + 1)).1
        have HKA : Hid ((wq.alloc (.cells #[.int .u8 y.toNat] 5)).cell? ⟨gb, np * 2 + 1, none⟩ = some (.slice z.sa z.n z.c) ∧ (wq.alloc (.cells #[.int .u8 y.toNat] 5)).frozen? ⟨gb, np * 2 + 1, none⟩ = false ∧ (wq.alloc (.cells #[.int .u8 y.toNat] 5)).cell? ⟨b1, o1 + 1, none⟩ = some (.int .u8 y.toNat)) := ⟨ha1.1.trans e5, ha1.2.trans HS2.out, ha2.trans e4⟩
        clear ha1 ha2
        obtain ⟨q1, q2, q3⟩ := HKA.out
        go_region_law (first
          | ((refine step_append_R (o := ⟨some 54, _, _, _, _, _⟩) _ rfl (.tmp 47) (.tmp 53) 55 rfl w.heap.size 5 1 elByte NoB (fun k => wq.heap.size ≤ k) z.sl (.slice (some ⟨wq.heap.size, 0, none⟩) 1 1) bl [y] rfl rfl HASK.out.1 HASK.out.2.1 (fun _ h => h.elim) HASK.out.2.2 HN1.out HN2.out HBS.out ?_; intro v8 w8 hap; have HO8 : Hid (Own byteR w8 w.heap.size 5 NoB v8 (bl ++ [y])) := hap.1.flat NoB; have HG8 := Lib.hid (grown_lit hap.2.1); have HA8 := Lib.hid hap.2.2; obtain ⟨a8, c8, hv8⟩ := hap.1.form; rw [List.length_append, List.length_singleton] at hv8; subst hv8; have h81 := at_grown HG8.out HGB.out.2 (fun e => HZ.out e.symm) (np * 2 + 1); have h82 := (at_grown HG8.out (Nat.lt_of_lt_of_le HLB1.out HBQ.out.size) (fun e => absurd (HZL.out _ e.symm) (Nat.not_le.2 HLB1.out)) (o1 + 1)).1; have HK8 : Hid (w8.cell? ⟨gb, np * 2 + 1, none⟩ = some (.slice z.sa z.n z.c) ∧ w8.frozen? ⟨gb, np * 2 + 1, none⟩ = false ∧ w8.cell? ⟨b1, o1 + 1, none⟩ = some (.int .u8 y.toNat)) := ⟨h81.1.trans e5, h81.2.trans HS2.out, h82.trans e4⟩; obtain ⟨k8, k9, _⟩ := HK8.out; clear hap h81 h82 HK8)))
        all_goals
          obtain ⟨hro8, hb8⟩ := HQG.out w8 a8 (bl.length + 1) c8 HO8.out HG8.out HA8.out
          have HRO8 := Lib.hid hro8
          have HB8 := Lib.hid hb8
          clear hro8 hb8
          go_wp2
          go_roundw
        all_goals first
          | (exact ⟨1, by omega, by go_num, HB8.out, .inr ⟨0, prs, a, bl ++ [y], pre, ⟨z.a, a8, bl.length + 1, c8⟩, rfl, HMO.out, by have := HPL.out; have := HNP.out; omega, by rw [List.length_append, List.length_singleton]; have := HBL.out; omega, HRO8.out⟩⟩)
          | (simp [intOf]; omega)
      · obtain ⟨b2, o2, e, _, f1, _⟩ := G.out j m[j] (List.getElem?_eq_getElem (by omega))
        obtain ⟨rfl, rfl⟩ : b1 = b2 ∧ o1 = o2 := by injection e with e; injection e with h1 h2; exact ⟨h1, h2⟩
        have e3 := (HB.out.cell (World.block_lt_of_cell? _ _ f1)).trans f1
        have hz0 : m[j].addr ≤ 65535 := HA.out _ (List.getElem_mem (by omega))
        have HR := Lib.hid hr
        have HRO := Lib.hid hro
        have hj9 : (j : Int) ≤ 100000 := by omega
        have hj0 : (0 : Int) ≤ (j : Int) := by omega
        obtain ⟨gb, gc, hv⟩ := own_some hro.1 (by simp)
        rw [List.length_append, List.length_singleton] at hv
        subst hv
        have HPL := Lib.hid hpl
        have HBL := Lib.hid hbl
        have hp9 : (pre.length : Int) ≤ 100000 := by omega
        have hp0 : (0 : Int) ≤ (pre.length : Int) := by omega
        rw [show ((j + 1 : Nat) : Int) = (j : Int) + 1 by omega]
        have HLB1 : Hid (b1 < w.heap.size) := World.block_lt_of_cell? _ _ d1
        clear e d1 d2 f1 hr hro hpl hbl hk9 hk0
        by_cases hn : (m[j+1].addr : Int) = (m[j].addr : Int) + 1
        · have HMO := Lib.hid (rst_more hlt HR.out hn)
          have hd1 : (m[j+1].addr : Int) = (m[j].addr : Int) + 1 := hn
          have hd0 : ((j : Int) + 1 == 0) = false := by rw [beq_eq_false_iff_ne]; omega
          generalize m[j+1].addr = x at *
          generalize m[j].addr = x0 at *
          generalize m[j+1].byte = y at *
          have hx1 : (x : Int) ≤ 65535 := by omega
          have hx2 : (x0 : Int) ≤ 65535 := by omega
          clear hn hx0 hz0
          go_wp2
          go_quiet (fail)
          have HRQ : Hid (RnO (wr.drewN nq) w.heap.size (.slice (some ⟨gb, 0, none⟩) (pre.length + 1) gc) prs a bl pre z) := HRO.out.same (fun _ => rfl)
          have HBQ : Hid (Below w.heap.size w (wr.drewN nq)) := HB.out.trans (below_drewN _ _ _)
          have e4 : (wr.drewN nq).cell? ⟨b1, o1 + (j + 1) * 2 + 1, none⟩ = some (.int .u8 y.toNat) := e2
          have HS2 := Lib.hid HRQ.out.cell.2
          have e5 := HRQ.out.cell.1
          clear e1 e2 e3 HRO HB hd1 hd0 hx1 hx2
          generalize wr.drewN nq = wq at *
          have HQG : Hid (∀ (w8 : World) (sa : Option Addr) (n cc : Nat), Own byteR w8 w.heap.size 5 NoB (.slice sa n cc) (bl ++ [y]) → wq.grownBy w8 z.sl.ownBlock → (Value.ownBlock (.slice sa n cc) = z.sl.ownBlock ∨ Value.ownBlock (.slice sa n cc) = some (wq.alloc (.cells #[.int .u8 y.toNat] 5)).drew.heap.size) → RnO (w8.setCell ⟨gb, pre.length * 2 + 1, none⟩ (.slice sa n cc)) w.heap.size (.slice (some ⟨gb, 0, none⟩) (pre.length + 1) gc) prs a (bl ++ [y]) pre ⟨z.a, sa, n, cc⟩ ∧ Below w.heap.size w (w8.setCell ⟨gb, pre.length * 2 + 1, none⟩ (.slice sa n cc))) := fun w8 sa n cc ho hg hat => by
            have hq : RnO wq w.heap.size (.slice (some ⟨gb, 0, none⟩) (pre ++ [z]).length gc) prs a bl pre z := by rw [List.length_append, List.length_singleton]; exact HRQ.out
            have hgb := (HRQ.out.1.lt gb rfl).1
            have := RnO.grow hq ho hg (hat.imp id (fun e => ⟨_, e, by show _ ≤ (wq.alloc _).heap.size; rw [World.size_alloc]; omega⟩))
            rw [List.length_append, List.length_singleton] at this
            have hb := HBQ.out.grown hg HBQ.out.size (fun k hk => (HRQ.out.2.2.2.1.lt k hk).1)
            exact ⟨this, hb.setCell hgb _⟩
          generalize hnp : pre.length = np at *
          have HNP := Lib.hid hnp
          clear hnp
          go_upto_region 8 with fail
          have HASK := Lib.hid (HRQ.out.ask y)
          have hi0 : (0 : Int) ≤ (j : Int) + 1 := by omega
          have hi1 : (j : Int) + 1 < (m.length : Int) := by omega
          have hi2 : ((j : Int) + 1).toNat = j + 1 := by omega
          have hn1 : (np : Int) < (np : Int) + 1 := by omega
          have HN1 : Hid ((bl.length + ([y] : List UInt8).length) * 1 ≤ 140737488355328) := by show (_ + 1) * 1 ≤ _; have := HBL.out; have := HM.out; omega
          have HN2 : Hid (bl.length + ([y] : List UInt8).length ≤ 9223372036854775807) := by show _ + 1 ≤ _; have := HBL.out; have := HM.out; omega
          have HZ : Hid (z.sl.ownBlock ≠ some gb) := fun e => HRQ.out.2.2.2.2.1 gb e rfl
          have HGB : Hid (w.heap.size ≤ gb ∧ gb < wq.heap.size) := HRQ.out.1.lt gb rfl
          have HZL : Hid (∀ k, z.sl.ownBlock = some k → w.heap.size ≤ k) := fun k e => (HRQ.out.2.2.2.1.lt k e).1
          have e6 := HS2.out
          have HBS : Hid (w.heap.size ≤ (wq.alloc (.cells #[.int .u8 y.toNat] 5)).drew.heap.size) := by show _ ≤ (wq.alloc _).heap.size; rw [World.size_alloc]; have := HBQ.out.size; omega
          have ha1 := at_grown (World.grownBy_alloc wq (.cells #[.int .u8 y.toNat] 5) none) HGB.out.2 (by simp) (np * 2 + 1)
          have ha2 := (at_grown (World.grownBy_alloc wq (.cells #[.int .u8 y.toNat] 5) none) (Nat.lt_of_lt_of_le HLB1.out HBQ.out.size) (by simp) (o1 + (j + 1) * 2 + 1)).1
          have HKA : Hid ((wq.alloc (.cells #[.int .u8 y.toNat] 5)).cell? ⟨gb, np * 2 + 1, none⟩ = some (.slice z.sa z.n z.c) ∧ (wq.alloc (.cells #[.int .u8 y.toNat] 5)).frozen? ⟨gb, np * 2 + 1, none⟩ = false ∧ (wq.alloc (.cells #[.int .u8 y.toNat] 5)).cell? ⟨b1, o1 + (j + 1) * 2 + 1, none⟩ = some (.int .u8 y.toNat)) := ⟨ha1.1.trans e5, ha1.2.trans HS2.out, ha2.trans e4⟩
          clear ha1 ha2
          obtain ⟨q1, q2, q3⟩ := HKA.out
          go_region_law (first
            | ((refine step_append_R (o := ⟨some 54, _, _, _, _, _⟩) _ rfl (.tmp 47) (.tmp 53) 55 rfl w.heap.size 5 1 elByte NoB (fun k => wq.heap.size ≤ k) z.sl (.slice (some ⟨wq.heap.size, 0, none⟩) 1 1) bl [y] rfl rfl HASK.out.1 HASK.out.2.1 (fun _ h => h.elim) HASK.out.2.2 HN1.out HN2.out HBS.out ?_; intro v8 w8 hap; have HO8 : Hid (Own byteR w8 w.heap.size 5 NoB v8 (bl ++ [y])) := hap.1.flat NoB; have HG8 := Lib.hid (grown_lit hap.2.1); have HA8 := Lib.hid hap.2.2; obtain ⟨a8, c8, hv8⟩ := hap.1.form; rw [List.length_append, List.length_singleton] at hv8; subst hv8; have h81 := at_grown HG8.out HGB.out.2 (fun e => HZ.out e.symm) (np * 2 + 1); have h82 := (at_grown HG8.out (Nat.lt_of_lt_of_le HLB1.out HBQ.out.size) (fun e => absurd (HZL.out _ e.symm) (Nat.not_le.2 HLB1.out)) (o1 + (j + 1) * 2 + 1)).1; have HK8 : Hid (w8.cell? ⟨gb, np * 2 + 1, none⟩ = some (.slice z.sa z.n z.c) ∧ w8.frozen? ⟨gb, np * 2 + 1, none⟩ = false ∧ w8.cell? ⟨b1, o1 + (j + 1) * 2 + 1, none⟩ = some (.int .u8 y.toNat)) := ⟨h81.1.trans e5, h81.2.trans HS2.out, h82.trans e4⟩; obtain ⟨k8, k9, _⟩ := HK8.out; clear hap h81 h82 HK8)))
          all_goals
            obtain ⟨hro8, hb8⟩ := HQG.out w8 a8 (bl.length + 1) c8 HO8.out HG8.out HA8.out
            have HRO8 := Lib.hid hro8
            have HB8 := Lib.hid hb8
            clear hro8 hb8
            go_wp2
            go_roundw
          all_goals first
            | (exact ⟨j + 1 + 1, by omega, by go_num, HB8.out, .inr ⟨j + 1, prs, a, bl ++ [y], pre, ⟨z.a, a8, bl.length + 1, c8⟩, rfl, HMO.out, by have := HPL.out; have := HNP.out; omega, by rw [List.length_append, List.length_singleton]; have := HBL.out; omega, HRO8.out⟩⟩)
            | (simp [intOf]; omega)
        · have HMO0 := Lib.hid (rst_new hlt HR.out hn)
          have hd0 : ((j : Int) + 1 == 0) = false := by rw [beq_eq_false_iff_ne]; omega
          generalize m[j+1].addr = x at *
          generalize m[j].addr = x0 at *
          generalize m[j+1].byte = y at *
          have hd2 : ((x : Int) == (x0 : Int) + 1) = false := by rw [beq_eq_false_iff_ne]; exact hn
          have hd3 : ((x : Int) != (x0 : Int) + 1) = true := by rw [bne_iff_ne]; exact hn
          have hx1 : (x : Int) ≤ 65535 := by omega
          have hx2 : (x0 : Int) ≤ 65535 := by omega
          have HRC0 := Lib.hid HRO.out.close
          obtain ⟨raws, hraws⟩ : ∃ raws : List Raw, raws = pre ++ [z] := ⟨_, rfl⟩
          obtain ⟨rs, hrs⟩ : ∃ rs : List (Nat × List UInt8), rs = prs ++ [(a, bl)] := ⟨_, rfl⟩
          rw [← hraws, ← hrs] at HRC0
          rw [← hrs] at HMO0
          have HPL2 : Hid (raws.length < j + 1 + 1 ∧ raws.length = pre.length + 1) := by show _ ∧ _; rw [hraws]; have := HPL.out; simp; omega
          clear hx0 hz0 hraws hrs HPL HBL HR HRO
          generalize pre.length + 1 = lv at *
          have HPL := Lib.hid HPL2.out.1
          clear HPL2 hp9 hp0
          go_wp2
          go_quiet (fail)
          have HRC : Hid (RnC (wr.drewN nq) w.heap.size (.slice (some ⟨gb, 0, none⟩) lv gc) rs raws) := HRC0.out.same (fun _ => rfl)
          have HBR : Hid (Below w.heap.size w (wr.drewN nq)) := HB.out.trans (below_drewN _ _ _)
          replace e1 : (wr.drewN nq).cell? ⟨b1, o1 + (j + 1) * 2, none⟩ = some (.int .i64 x) := e1
          replace e2 : (wr.drewN nq).cell? ⟨b1, o1 + (j + 1) * 2 + 1, none⟩ = some (.int .u8 y.toNat) := e2
          clear e3 hd0 hd2 hd3 hn HRC0 HB
          generalize wr.drewN nq = wz at *
          have HC1 : Hid ((raws.length + 1) * 32 ≤ 140737488355328) := by show _ ≤ _; have := HPL.out; have := HM.out; omega
          have HC2 : Hid (raws.length + 1 ≤ 9223372036854775807) := by show _ ≤ _; have := HPL.out; have := HM.out; omega
          have HCS : Hid ((#[.int .i64 (x : Int), .slice none 0 0] : Array Value) = ([.int .i64 ((x : Nat) : Int), .slice none 0 0] : List Value).toArray) := Lib.hid rfl
          have hp9 : (raws.length : Int) ≤ 100000 := by have := HPL.out; have := HM.out; omega
          have hp0 : (0 : Int) ≤ (raws.length : Int) := by omega
          go_upto_region 7 with (at_builtin; refine wpList_pushA rfl (.tmp 29) (.tmp 36) 38 rfl w.heap.size 69 32 elRaw _ raws ⟨x, none, 0, 0⟩ _ rfl rfl HRC.out.1 HCS.out HC1.out HC2.out HBR.out.size ?_; intro a6 c6 w6 hp; have HP := Lib.hid hp; clear hp)
          have HRQ0 := Lib.hid (HRC.out.more x HP.out)
          obtain ⟨gb, c0, hv6⟩ := own_some HP.out.1 (by simp)
          obtain ⟨rfl, rfl⟩ : a6 = some ⟨gb, 0, none⟩ ∧ c6 = c0 := by injection hv6 with h1 h2 h3; exact ⟨h1, h3⟩
          clear hv6
          obtain ⟨gc, rfl⟩ : ∃ gc, gc = c6 := ⟨_, rfl⟩
          obtain ⟨pre, rfl⟩ : ∃ pre, pre = raws := ⟨_, rfl⟩
          obtain ⟨prs, rfl⟩ : ∃ prs, prs = rs := ⟨_, rfl⟩
          obtain ⟨a, hae⟩ : ∃ a, a = x := ⟨_, rfl⟩
          obtain ⟨bl, hbl⟩ : ∃ bl : List UInt8, bl = [] := ⟨_, rfl⟩
          obtain ⟨z, hz⟩ : ∃ z : Raw, z = ⟨x, none, 0, 0⟩ := ⟨_, rfl⟩
          have HRQ : Hid (RnO w6 w.heap.size (.slice (some ⟨gb, 0, none⟩) (pre.length + 1) gc) prs a bl pre z) := by show RnO _ _ _ _ _ _ _ _; rw [hae, hbl, hz]; exact HRQ0.out
          have HMO : Hid ((rst m (j + 1 + 1)).1 = prs ++ [(a, bl ++ [y])]) := by show _ = _; rw [hae, hbl]; exact HMO0.out
          have HBL : Hid (bl.length ≤ j + 1) := by show _ ≤ _; rw [hbl]; exact Nat.zero_le _
          have HBQ : Hid (Below w.heap.size w w6) := HBR.out.grown HP.out.2.1 HBR.out.size (fun k hk => (HRC.out.1.lt k hk).1)
          have e4 := (at_grown HP.out.2.1 (Nat.lt_of_lt_of_le HLB1.out HBR.out.size) (fun e => Nat.lt_irrefl _ (Nat.lt_of_lt_of_le HLB1.out (HRC.out.1.lt _ e.symm).1)) (o1 + (j + 1) * 2 + 1)).1.trans e2
          have HS2 := Lib.hid HRQ.out.cell.2
          have e5 := HRQ.out.cell.1
          clear e1 e2 hae hbl hz HRQ0 HMO0 HRC HP HC1 HC2 HCS HBR
          obtain ⟨wq, rfl⟩ : ∃ wq, wq = w6 := ⟨_, rfl⟩
          have HQG : Hid (∀ (w8 : World) (sa : Option Addr) (n cc : Nat), Own byteR w8 w.heap.size 5 NoB (.slice sa n cc) (bl ++ [y]) → wq.grownBy w8 z.sl.ownBlock → (Value.ownBlock (.slice sa n cc) = z.sl.ownBlock ∨ Value.ownBlock (.slice sa n cc) = some (wq.alloc (.cells #[.int .u8 y.toNat] 5)).drew.heap.size) → RnO (w8.setCell ⟨gb, pre.length * 2 + 1, none⟩ (.slice sa n cc)) w.heap.size (.slice (some ⟨gb, 0, none⟩) (pre.length + 1) gc) prs a (bl ++ [y]) pre ⟨z.a, sa, n, cc⟩ ∧ Below w.heap.size w (w8.setCell ⟨gb, pre.length * 2 + 1, none⟩ (.slice sa n cc))) := fun w8 sa n cc ho hg hat => by
            have hq : RnO wq w.heap.size (.slice (some ⟨gb, 0, none⟩) (pre ++ [z]).length gc) prs a bl pre z := by rw [List.length_append, List.length_singleton]; exact HRQ.out
            have hgb := (HRQ.out.1.lt gb rfl).1
            have := RnO.grow hq ho hg (hat.imp id (fun e => ⟨_, e, by show _ ≤ (wq.alloc _).heap.size; rw [World.size_alloc]; omega⟩))
            rw [List.length_append, List.length_singleton] at this
            have hb := HBQ.out.grown hg HBQ.out.size (fun k hk => (HRQ.out.2.2.2.1.lt k hk).1)
            exact ⟨this, hb.setCell hgb _⟩
          generalize hnp : pre.length = np at *
          have HNP := Lib.hid hnp
          clear hnp
          go_upto_region 8 with fail
          have HASK := Lib.hid (HRQ.out.ask y)
          have hi0 : (0 : Int) ≤ (j : Int) + 1 := by omega
          have hi1 : (j : Int) + 1 < (m.length : Int) := by omega
          have hi2 : ((j : Int) + 1).toNat = j + 1 := by omega
          have hn1 : (np : Int) < (np : Int) + 1 := by omega
          have HN1 : Hid ((bl.length + ([y] : List UInt8).length) * 1 ≤ 140737488355328) := by show (_ + 1) * 1 ≤ _; have := HBL.out; have := HM.out; omega
          have HN2 : Hid (bl.length + ([y] : List UInt8).length ≤ 9223372036854775807) := by show _ + 1 ≤ _; have := HBL.out; have := HM.out; omega
          have HZ : Hid (z.sl.ownBlock ≠ some gb) := fun e => HRQ.out.2.2.2.2.1 gb e rfl
          have HGB : Hid (w.heap.size ≤ gb ∧ gb < wq.heap.size) := HRQ.out.1.lt gb rfl
          have HZL : Hid (∀ k, z.sl.ownBlock = some k → w.heap.size ≤ k) := fun k e => (HRQ.out.2.2.2.1.lt k e).1
          have e6 := HS2.out
          have HBS : Hid (w.heap.size ≤ (wq.alloc (.cells #[.int .u8 y.toNat] 5)).drew.heap.size) := by show _ ≤ (wq.alloc _).heap.size; rw [World.size_alloc]; have := HBQ.out.size; omega
          have ha1 := at_grown (World.grownBy_alloc wq (.cells #[.int .u8 y.toNat] 5) none) HGB.out.2 (by simp) (np * 2 + 1)
          have ha2 := (at_grown (World.grownBy_alloc wq (.cells #[.int .u8 y.toNat] 5) none) (Nat.lt_of_lt_of_le HLB1.out HBQ.out.size) (by simp) (o1 + (j + 1) * 2 + 1)).1
          have HKA : Hid ((wq.alloc (.cells #[.int .u8 y.toNat] 5)).cell? ⟨gb, np * 2 + 1, none⟩ = some (.slice z.sa z.n z.c) ∧ (wq.alloc (.cells #[.int .u8 y.toNat] 5)).frozen? ⟨gb, np * 2 + 1, none⟩ = false ∧ (wq.alloc (.cells #[.int .u8 y.toNat] 5)).cell? ⟨b1, o1 + (j + 1) * 2 + 1, none⟩ = some (.int .u8 y.toNat)) := ⟨ha1.1.trans e5, ha1.2.trans HS2.out, ha2.trans e4⟩
          clear ha1 ha2
          obtain ⟨q1, q2, q3⟩ := HKA.out
          go_region_law (first
            | ((refine step_append_R (o := ⟨some 54, _, _, _, _, _⟩) _ rfl (.tmp 47) (.tmp 53) 55 rfl w.heap.size 5 1 elByte NoB (fun k => wq.heap.size ≤ k) z.sl (.slice (some ⟨wq.heap.size, 0, none⟩) 1 1) bl [y] rfl rfl HASK.out.1 HASK.out.2.1 (fun _ h => h.elim) HASK.out.2.2 HN1.out HN2.out HBS.out ?_; intro v8 w8 hap; have HO8 : Hid (Own byteR w8 w.heap.size 5 NoB v8 (bl ++ [y])) := hap.1.flat NoB; have HG8 := Lib.hid (grown_lit hap.2.1); have HA8 := Lib.hid hap.2.2; obtain ⟨a8, c8, hv8⟩ := hap.1.form; rw [List.length_append, List.length_singleton] at hv8; subst hv8; have h81 := at_grown HG8.out HGB.out.2 (fun e => HZ.out e.symm) (np * 2 + 1); have h82 := (at_grown HG8.out (Nat.lt_of_lt_of_le HLB1.out HBQ.out.size) (fun e => absurd (HZL.out _ e.symm) (Nat.not_le.2 HLB1.out)) (o1 + (j + 1) * 2 + 1)).1; have HK8 : Hid (w8.cell? ⟨gb, np * 2 + 1, none⟩ = some (.slice z.sa z.n z.c) ∧ w8.frozen? ⟨gb, np * 2 + 1, none⟩ = false ∧ w8.cell? ⟨b1, o1 + (j + 1) * 2 + 1, none⟩ = some (.int .u8 y.toNat)) := ⟨h81.1.trans e5, h81.2.trans HS2.out, h82.trans e4⟩; obtain ⟨k8, k9, _⟩ := HK8.out; clear hap h81 h82 HK8)))
          all_goals
            obtain ⟨hro8, hb8⟩ := HQG.out w8 a8 (bl.length + 1) c8 HO8.out HG8.out HA8.out
            have HRO8 := Lib.hid hro8
            have HB8 := Lib.hid hb8
            clear hro8 hb8
            go_wp2
            go_roundw
          all_goals first
            | (exact ⟨j + 1 + 1, by omega, by go_num, HB8.out, .inr ⟨j + 1, prs, a, bl ++ [y], pre, ⟨z.a, a8, bl.length + 1, c8⟩, rfl, HMO.out, by have := HPL.out; have := HNP.out; omega, by rw [List.length_append, List.length_singleton]; have := HBL.out; omega, HRO8.out⟩⟩)
            | (simp [intOf]; omega)
    · obtain rfl : k = m.length := by omega
      rcases hcase with ⟨h0, rfl⟩ | ⟨j, prs, a, bl, pre, z, hj, hr, hpl, hbl, hro⟩
      · have hm0 : m = [] := List.length_eq_zero_iff.1 h0
        have HC : Hid (RnC wr w.heap.size (.slice none 0 0) (runs02 m) []) := by rw [hm0]; exact RnC.nil _ _
        go_wp2
        go_ret
        exact ⟨_, _, rfl, HC.out, HB.out⟩
      · obtain ⟨gb, gc, hv⟩ := own_some hro.1 (by simp)
        subst hv
        have HC : Hid (RnC wr w.heap.size (.slice (some ⟨gb, 0, none⟩) (pre ++ [z]).length gc) (runs02 m) (pre ++ [z])) := by
          have e : runs02 m = prs ++ [(a, bl)] := by
            rw [← hr]
            unfold rst runs02
            rw [List.take_length]
          rw [e]
          exact hro.close
        clear hr hro hj
        go_wp2
        go_ret
        exact ⟨_, _, rfl, HC.out, HB.out⟩
end Go.Proofs.YtcfjcoockklkeaaGreatDoor

/-
  breadboardref04.Sized, Write. Conditions: the runs are apart.
-/
namespace Go.Proofs.YtcfjcoockklkeaaGreatDoor
open Go.RowKit

theorem SlR.flat {α : Type} {n : Nat} {enc : α → List Value} {h0 : ∀ x, (enc x).length = n} {h1 : ∀ x, ∀ u ∈ enc x, u.oneCell' = true} {w : World} {p : Blocks} {v : Value} {xs : List α} (h : SlR (Rep.flat n enc h0 h1) w p v xs) :
    ∃ a cap, v = .slice a xs.length cap ∧ xs.length ≤ cap ∧ cap ≤ 9223372036854775807 ∧ ∀ i x, xs[i]? = some x → ∃ b o, a = some ⟨b, o, none⟩ ∧ p b ∧ Cells w b (o + i * n) (enc x) := by
  obtain ⟨a, cap, e, h1, h2, h3⟩ := h
  refine ⟨a, cap, e, h1, by simpa [maxLen] using h2, fun i x hx => ?_⟩
  obtain ⟨b, o, cs, ea, hb, hbs, hc, hr⟩ := h3 i x hx
  have hr : cs = enc x := hr
  subst hr
  exact ⟨b, o, ea, hb, hc⟩
/-- a run as it lies in memory -/
theorem RnC.at {w : World} {B : Nat} {v : Value} {rs : List (Nat × List UInt8)} {raws : List Raw} (h : RnC w B v rs raws) : ∃ a c, v = .slice a rs.length c ∧ ∀ (k : Nat) (r : Nat × List UInt8), rs[k]? = some r →
    ∃ g o sa sc, a = some ⟨g, o, none⟩ ∧ g < w.heap.size ∧ w.cell? ⟨g, o + k * 2, none⟩ = some (.int .i64 r.1) ∧ w.cell? ⟨g, o + k * 2 + 1, none⟩ = some (.slice sa r.2.length sc) ∧ SlR byteR w (fun g => B ≤ g) (.slice sa r.2.length sc) r.2 := by
  obtain ⟨h1, h2, h3⟩ := h
  obtain ⟨a, c, e, _, _, g⟩ := (h1.slR (q := fun _ => True) (fun _ h => h.elim) (fun _ _ => trivial)).flat
  refine ⟨a, c, by rw [e, h2], fun k r hk => ?_⟩
  have hl : k < raws.length := by rw [h2]; exact (List.getElem?_eq_some_iff.1 hk).1
  obtain ⟨b, o, rfl, _, hc⟩ := g k raws[k] (List.getElem?_eq_getElem hl)
  obtain ⟨e1, e2⟩ := h3 k raws[k] r (List.getElem?_eq_getElem hl) hk
  have d0 := hc 0 _ rfl
  have d1 := hc 1 _ rfl
  obtain ⟨sa, sc, e3, _⟩ := e2.byte
  rw [e1] at d0
  have d1' : w.cell? ⟨b, o + k * 2 + 1, none⟩ = some (raws[k].sl) := d1
  rw [e3] at d1'
  exact ⟨b, o, sa, sc, rfl, World.block_lt_of_cell? _ _ d0, d0, d1', (by rw [← e3]; exact e2.mono fun _ hk => hk.1)⟩
/-- the lines of records -/
def txtP (L : List (Nat × List UInt8)) : List UInt8 := joinL (L.map fun r => recLine 0 r.1 r.2)
theorem txtP_app (L M : List (Nat × List UInt8)) : txtP (L ++ M) = txtP L ++ txtP M := by unfold txtP; rw [List.map_append, joinL_app]
theorem txtP_snoc (L : List (Nat × List UInt8)) (r : Nat × List UInt8) : txtP (L ++ [r]) = txtP L ++ recLine 0 r.1 r.2 ++ [10] := by
  rw [txtP_app]
  simp [txtP, joinL]
theorem textOf_is (n : Nat) (R : List (Nat × List UInt8)) : textOf n R = txtP (recs n R) ++ (endLine ++ [10]) := by
  unfold textOf linesOf txtP
  rw [joinL_app]
  simp [joinL]
theorem recLine_len (t a : Nat) (l : List UInt8) : (recLine t a l).length = 2 * l.length + 11 := by
  unfold recLine recB
  simp only [List.length_cons, flat_len, List.length_append, List.length_nil]
  omega
theorem recs_app (n : Nat) (R S : List (Nat × List UInt8)) : recs n (R ++ S) = recs n R ++ recs n S := by unfold recs; rw [List.flatMap_append]
/-- how far the writer is: k runs, and j records of the next one -/
def wrt (n : Nat) (R : List (Nat × List UInt8)) (k j : Nat) : List (Nat × List UInt8) := recs n (R.take k) ++ (match R[k]? with | none => [] | some r => (splitL n r.1 r.2).take j)
theorem wrt_zero (n : Nat) (R : List (Nat × List UInt8)) (k : Nat) : wrt n R k 0 = recs n (R.take k) := by
  unfold wrt
  cases R[k]? <;> simp
theorem wrt_next {n : Nat} {R : List (Nat × List UInt8)} {k : Nat} {r : Nat × List UInt8} (h : R[k]? = some r) {j : Nat} (hj : (splitL n r.1 r.2).length ≤ j) : wrt n R k j = wrt n R (k + 1) 0 := by
  have hk := (List.getElem?_eq_some_iff.1 h).1
  have e : R[k] = r := by rw [List.getElem?_eq_getElem hk] at h; injection h
  rw [wrt_zero, List.take_succ_eq_append_getElem hk, recs_app, e]
  unfold wrt
  rw [h]
  simp [recs, List.take_of_length_le hj]
theorem wrt_more {n : Nat} {R : List (Nat × List UInt8)} {k : Nat} {r : Nat × List UInt8} (h : R[k]? = some r) {j : Nat} {x : Nat × List UInt8} (hj : (splitL n r.1 r.2)[j]? = some x) : wrt n R k (j + 1) = wrt n R k j ++ [x] := by
  unfold wrt
  rw [h]
  show _ ++ List.take (j + 1) _ = (_ ++ List.take j _) ++ _
  rw [List.take_add_one, hj, ← List.append_assoc]; rfl
theorem wrt_pre (n : Nat) (R : List (Nat × List UInt8)) (k j : Nat) : ∃ M, recs n R = wrt n R k j ++ M := by
  rcases Nat.lt_or_ge k R.length with h | h
  · refine ⟨(splitL n R[k].1 R[k].2).drop j ++ recs n (R.drop (k + 1)), ?_⟩
    have e : wrt n R k j = recs n (R.take k) ++ (splitL n R[k].1 R[k].2).take j := by unfold wrt; rw [List.getElem?_eq_getElem h]
    rw [e]
    conv => lhs; rw [← List.take_append_drop k R, List.drop_eq_getElem_cons h, recs_app]
    rw [List.append_assoc]
    congr 1
    rw [← List.append_assoc, List.take_append_drop]
    rfl
  · refine ⟨[], ?_⟩
    unfold wrt
    rw [List.getElem?_eq_none h, List.take_of_length_le h]
    simp
theorem wrt_len {n : Nat} {R : List (Nat × List UInt8)} (hn : 1 ≤ n) (hn2 : n ≤ 255) (hS : Sep 0 R) (k j : Nat) : (txtP (wrt n R k j)).length ≤ 1000000000 := by
  obtain ⟨M, hM⟩ := wrt_pre n R k j
  have h := (textOf_len n R hn hn2 hS).1
  rw [textOf_is, hM, txtP_app] at h
  simp only [List.length_append] at h
  omega
set_option maxHeartbeats 4000000 in
set_option maxRecDepth 100000 in
theorem Sized04_yes (n : Nat) (p : Blocks) (v : Value) (m : List CellV) (R : List (Nat × List UInt8)) (w : World) (h : SlR cellR w p v m) (hm : m.length ≤ 100000) (hA : ∀ c ∈ m, c.addr ≤ 65535) (hR : runs02 m = R) (hS : Sep 0 R) (hRl : R.length ≤ 65536) (hn : 1 ≤ n) (hn2 : n ≤ 255) :
    Calls Tryz.prog 32 #[.int .i64 n, v] w fun e w' => e = .returned (.tuple #[.string ⟨(textOf n R).toArray⟩, .bool true]) ∧ Below w.heap.size w w' := by
  have HRN := Lib.hid (Runs02_any p v m w h hm hA)
  rw [hR] at HRN
  have HSEP := Lib.hid (sep_le hS)
  have HWL := Lib.hid (fun k j => wrt_len hn hn2 hS k j)
  have hn0 : (1 : Int) ≤ (n : Int) := by omega
  have hn1 : (n : Int) ≤ 255 := by omega
  have hrl : (R.length : Int) ≤ 65536 := by omega
  have HN1 := Lib.hid hn
  have HN2 := Lib.hid hn2
  clear h hm hA hR hS hRl hn hn2
  go_enter Tryz.func32, Tryz.ntmps32
  go_wp2_with (go_at_call 29; refine HRN.out.mono ?_; rintro e w1 ⟨v1, raws, rfl, hrn, hb⟩; have HC := Lib.hid hrn; have HB1 := Lib.hid hb; clear hb)
  obtain ⟨ra, rc, rfl, g⟩ := hrn.at
  have G := Lib.hid g
  clear g hrn
  go_loopw [6, 8] (fun s i wr => ∃ (k : Nat) (t : ByteArray), k ≤ R.length ∧ i = .int .i64 k ∧ s = .string t ∧ t.data.toList = txtP (wrt n R k 0) ∧ Below w1.heap.size w1 wr) (fun _ i _ => R.length - (intOf i).toNat)
  case atStart => exact ⟨0, ⟨#[]⟩, Nat.zero_le _, rfl, rfl, by rw [wrt_zero]; rfl, Below.refl _ _⟩
  case round =>
    obtain ⟨k, t, hk, rfl, rfl, ht, hb⟩ := hrel
    obtain ⟨wo, rfl⟩ : ∃ wo : World, wo = wr := ⟨_, rfl⟩
    have HT := Lib.hid ht
    have HB := Lib.hid hb
    clear ht hb
    by_cases hlt : k < R.length
    · obtain ⟨g, o, sa, sc, rfl, hg, d0, d1, hsl⟩ := G.out k R[k] (List.getElem?_eq_getElem hlt)
      have HRK : Hid (R[k]? = some R[k]) := List.getElem?_eq_getElem hlt
      have hse := HSEP.out R[k] (List.getElem_mem hlt)
      have e0 := (HB.out.cell (p := ⟨g, o + k * 2, none⟩) hg).trans d0
      have e1 := (HB.out.cell (p := ⟨g, o + k * 2 + 1, none⟩) hg).trans d1
      have HSL : Hid (SlR byteR wo.drew (fun g => w.heap.size ≤ g ∧ g < w1.heap.size) (.slice sa R[k].2.length sc) R[k].2) := (hsl.old.below HB.out).drew
      clear d0 d1 hsl
      generalize R[k] = r at *
      obtain ⟨ra, rl⟩ := r
      have hp := List.length_pos_iff.2 hse.2
      have hse1 : ra + rl.length ≤ 65536 := hse.1
      have HSP := Lib.hid (Split03_any ra n _ _ rl _ HSL.out HN1.out HN2.out (by have : 0 < rl.length := hp; omega) hse1)
      have HBD : Hid (Below w1.heap.size w1 wo.drew) := HB.out.drew
      have hra : (ra : Int) ≤ 65535 := by have : 0 < rl.length := hp; omega
      have hrl2 : (rl.length : Int) ≤ 65536 := by omega
      have HGL := Lib.hid hg
      have HSE1 := Lib.hid hse1
      have e0' : wo.cell? ⟨g, o + k * 2, none⟩ = some (.int .i64 (ra : Int)) := e0
      have e1' : wo.cell? ⟨g, o + k * 2 + 1, none⟩ = some (.slice sa rl.length sc) := e1
      clear hse hse1 hp e0 e1
      go_upto_region 8 with fail
      go_region_held3 (fun w' => w'.cell? ⟨g, o + k * 2, none⟩ = some (.int .i64 (ra : Int)) ∧ w'.cell? ⟨g, o + k * 2 + 1, none⟩ = some (.slice sa rl.length sc)) (go_keep)
        (first
          | (go_at_call 55; refine HSP.out.mono ?_; rintro e w2 ⟨v2, ys, rfl, ho, hsp, hb2⟩; have HO := Lib.hid ho; have HY := Lib.hid hsp; have HB2 := Lib.hid (HBD.out.trans (hb2.mono HBD.out.size)); have HB2D : Hid (wo.drew.heap.size ≤ w2.heap.size ∧ Below wo.drew.heap.size wo.drew w2) := ⟨hb2.size, hb2⟩; obtain ⟨hc, hf⟩ := bcell hb2; have hz : g < wo.drew.heap.size := Nat.lt_of_lt_of_le HGL.out HBD.out.size; have q0 := (hc g (o + k * 2) hz).trans e0'; have q1 := (hc g (o + k * 2 + 1) hz).trans e1'; obtain ⟨ya, yc, rfl⟩ := ho.form; clear ho hsp hb2 hc hf hz))
      have HYC := Lib.hid (HO.out.slR (q := fun _ => True) (fun _ h => h.elim) (fun _ _ => trivial)).flat
      have HW2 : Hid (wo.drew.heap.size ≤ w2.heap.size ∧ Below wo.drew.heap.size wo.drew w2) := HB2D.out
      have hyl : ys.length ≤ 65536 := by
        have h1 := congrArg List.length HY.out.spec
        rw [List.length_map] at h1
        have h2 := splitL_le (by have := HN1.out; omega) ra rl (n := n)
        have h3 := HSE1.out
        omega
      have hyl1 : (ys.length : Int) ≤ 65536 := by omega
      clear q0 q1 e0' e1' hra hrl2
      go_wp2
      go_loopw [6, 10] (fun s i wr => ∃ (j : Nat) (t2 : ByteArray), j ≤ ys.length ∧ i = .int .i64 j ∧ s = .string t2 ∧ t2.data.toList = txtP (wrt n R k j) ∧ Below w2.heap.size w2 wr) (fun _ i _ => ys.length - (intOf i).toNat)
      case atStart => exact ⟨0, t, Nat.zero_le _, rfl, rfl, HT.out, Below.refl _ _⟩
      case round =>
        obtain ⟨j, t2, hj, rfl, rfl, ht, hb⟩ := hrel
        have HT2 := Lib.hid ht
        have HB3 := Lib.hid hb
        clear ht hb
        have ht9 : t2.size ≤ 1000000000 := by
          have h1 := HWL.out k j
          rw [← HT2.out] at h1
          simpa using h1
        by_cases hjl : j < ys.length
        · obtain ⟨a5, c5, ev, _, _, gg⟩ := HYC.out
          obtain ⟨b5, o5, ea, _, hcs⟩ := gg j ys[j] (List.getElem?_eq_getElem hjl)
          obtain rfl : ya = a5 := by injection ev
          subst ea
          have hy := HY.out.data ys[j] (List.getElem_mem hjl)
          have hsp : (splitL n ra rl)[j]? = some (ys[j].a, ys[j].l) := by
            rw [← HY.out.spec, List.getElem?_map, List.getElem?_eq_getElem hjl]; rfl
          have hmem := splitL_mem (by have := HN1.out; omega) rl.length ra rl (Nat.le_refl _) _ (List.mem_of_getElem? hsp) (n := n)
          have HMORE := Lib.hid (wrt_more HRK.out hsp)
          have z0 := hcs 0 _ rfl
          have z1 := hcs 1 _ rfl
          have z2 := hcs 2 _ rfl
          have hb5 := World.block_lt_of_cell? _ _ z0
          have f0 := (HB3.out.cell (p := ⟨b5, o5 + j * 3, none⟩) hb5).trans z0
          have f1 := (HB3.out.cell (p := ⟨b5, o5 + j * 3 + 1, none⟩) hb5).trans z1
          have f2 := (HB3.out.cell (p := ⟨b5, o5 + j * 3 + 2, none⟩) hb5).trans z2
          clear z0 z1 z2 hcs gg ev hsp
          generalize ys[j] = y at *
          obtain ⟨yt, ya5, yl, ysa, ysc⟩ := y
          obtain ⟨hy1, hy2⟩ := hy
          have hm2 : yl.length ≤ n := hmem.2.1
          have hm3 : ra ≤ ya5 := hmem.2.2.1
          have hm4 : ya5 + yl.length ≤ ra + rl.length := hmem.2.2.2
          have hm1 : 0 < yl.length := List.length_pos_iff.2 hmem.1
          have hyt : yt = 0 := hy1
          have HPR := Lib.hid (Print03_any yt ya5 _ _ yl wr ((hy2.old.below HW2.out.2).old.below HB3.out) (by omega) (by have := HSE1.out; omega) (by have := HN2.out; omega))
          have hsz : (⟨(recLine yt ya5 yl).toArray⟩ : ByteArray).size ≤ 1000 := by
            show (recLine yt ya5 yl).toArray.size ≤ 1000
            rw [List.size_toArray, recLine_len]
            have := HN2.out
            omega
          have HNT : Hid ((t2 ++ ⟨(recLine yt ya5 yl).toArray⟩ ++ ⟨#[10]⟩ : ByteArray).data.toList = txtP (wrt n R k (j + 1))) := by
            show _ = _
            rw [ba_app, ba_app, HT2.out, HMORE.out, txtP_snoc, hyt]
          clear hy1 hy2 hm1 hm2 hm3 hm4 hmem hyt HMORE
          generalize (⟨(recLine yt ya5 yl).toArray⟩ : ByteArray) = ln at *
          go_wp2_with (go_at_call 56; refine HPR.out.mono ?_; rintro e w7 ⟨rfl, hb⟩; have HB7 := Lib.hid hb; clear hb)
          go_roundw
          case rel => exact ⟨j + 1, _, by omega, by go_num, rfl, HNT.out, HB3.out.trans (HB7.out.mono HB3.out.size)⟩
          case measure => simp [intOf]; omega
        · have HN : Hid (t2.data.toList = txtP (wrt n R (k + 1) 0)) := by
            show _ = _
            rw [HT2.out, wrt_next HRK.out]
            have h1 := congrArg List.length HY.out.spec
            rw [List.length_map] at h1
            show (splitL n ra rl).length ≤ j
            omega
          go_wp2
          go_roundw
          case rel => exact ⟨k + 1, t2, by omega, by go_num, rfl, HN.out, HB2.out.trans (HB3.out.mono HB2.out.size)⟩
          case measure => simp [intOf]; omega
    · obtain rfl : k = R.length := by omega
      have HE : Hid (t ++ ⟨#[58, 48, 48, 48, 48, 48, 48, 48, 49, 70, 70, 10]⟩ = (⟨(textOf n R).toArray⟩ : ByteArray)) := by
        refine ba_of ?_
        rw [ba_app, HT.out, wrt_zero, List.take_length, textOf_is]
        rfl
      have ht9 : t.size ≤ 1000000000 := by
        have h1 := HWL.out R.length 0
        rw [← HT.out] at h1
        simpa using h1
      go_wp2
      go_ret2
      exact ⟨by rw [← HE.out]; rfl, HB1.out.trans (HB.out.mono HB1.out.size)⟩
theorem Sized04_no (n : Int) (v : Value) (w : World) (hn : ¬ (1 ≤ n ∧ n ≤ 255)) :
    Calls Tryz.prog 32 #[.int .i64 n, v] w fun e w' => e = .returned (.tuple #[.string ⟨#[]⟩, .bool false]) ∧ w = w' := by
  rcases (by omega : n < 1 ∨ (1 ≤ n ∧ 255 < n)) with h | ⟨h, h'⟩
  all_goals
    clear hn
    go_enter Tryz.func32, Tryz.ntmps32
    go_wp2
    go_ret2
    exact ⟨rfl, rfl⟩
theorem Write04_any (p : Blocks) (v : Value) (m : List CellV) (R : List (Nat × List UInt8)) (w : World) (h : SlR cellR w p v m) (hm : m.length ≤ 100000) (hA : ∀ c ∈ m, c.addr ≤ 65535) (hR : runs02 m = R) (hS : Sep 0 R) (hRl : R.length ≤ 65536) :
    Calls Tryz.prog 12 #[v] w fun e w' => e = .returned (.string ⟨(textOf 16 R).toArray⟩) ∧ Below w.heap.size w w' := by
  have HS := Lib.hid (Sized04_yes 16 p v m R w h hm hA hR hS hRl (by omega) (by omega))
  clear h hm hA hR hS hRl
  go_enter Tryz.func12, Tryz.ntmps12
  go_wp2_with (go_at_call 32; refine HS.out.mono ?_; rintro e w1 ⟨rfl, hb⟩; have HB := Lib.hid hb; clear hb)
  go_ret
  exact ⟨rfl, HB.out⟩
end Go.Proofs.YtcfjcoockklkeaaGreatDoor

/-
  breadboardlaw04.HexwriteWrites. Conditions: the addresses fit their type; the library's table as its initialiser lays it.
-/
namespace Go.Proofs.YtcfjcoockklkeaaGreatDoor
open Go.RowKit

theorem Both.sized04 {w0 w : World} {b n : Nat} {cv : Value} {S : ImgS} (h : Both w0 w b cv S n) (z : Nat) (h1 : 1 ≤ z) (h2 : z ≤ 255) :
    Calls Tryz.prog 32 #[.int .i64 z, cv] w fun e w' => e = .returned (.tuple #[.string ⟨(textOf z (runsOf S.1 S.2)).toArray⟩, .bool true]) ∧ Below w.heap.size w w' :=
  Sized04_yes z _ cv _ _ w h.cells.sl (Nat.le_trans (cellsOf_len _ _) (by omega)) cells_low (runs02_of _ _) (runs_sep _ _) (runs_len _ _) h1 h2
theorem Both.write04 {w0 w : World} {b n : Nat} {cv : Value} {S : ImgS} (h : Both w0 w b cv S n) :
    Calls Tryz.prog 12 #[cv] w fun e w' => e = .returned (.string ⟨(textOf 16 (runsOf S.1 S.2)).toArray⟩) ∧ Below w.heap.size w w' :=
  Write04_any _ cv _ _ w h.cells.sl (Nat.le_trans (cellsOf_len _ _) (by omega)) cells_low (runs02_of _ _) (runs_sep _ _) (runs_len _ _)
theorem count_lines (R : List (Nat × List UInt8)) (w : World) :
    Calls Tryz.prog 60 #[.string ⟨(textOf 16 R).toArray⟩, .string ⟨#[10]⟩] w fun e w' => e = .returned (.int .i64 (linesOf 16 R).length) ∧ w = w' :=
  (Tryz.strings_Count_one _ 10 w).mono fun e w' ⟨h1, h2⟩ => ⟨by rw [h1]; exact ret_int (congrArg _ (textOf_count 16 R)), h2.symm⟩
end Go.Proofs.YtcfjcoockklkeaaGreatDoor
