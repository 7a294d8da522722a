/-
  hexwrite.Dump's closure. Conditions: the address in its range.
-/
import Derived.Test.YtcfjcoockklkeaaDoorW11
namespace Go.Proofs.YtcfjcoockklkeaaDoor
open Go.RowKit

/-- strings collected in a variable of the call's own -/
structure StrI (w0 : World) (bO : Nat) (L : List ByteArray) (w : World) : Prop where
  out : ∃ ov, Blk w bO 33 #[ov] ∧ Own strR w w0.heap.size 9 NoB ov L
  below : Below w0.heap.size w0 w
theorem StrI.later {w0 : World} {bO : Nat} {L : List ByteArray} {w w' : World} (h : StrI w0 bO L w) (hb : Below w.heap.size w w') : StrI w0 bO L w' := by
  obtain ⟨⟨ov, h1, h2⟩, h4⟩ := h
  exact ⟨⟨ov, h1.below hb h1.lt, h2.stayS hb⟩, h4.trans (hb.mono h4.size)⟩
theorem str_app {w0 W w2 : World} {bO : Nat} {ov : Value} {L : List ByteArray} (s : ByteArray) (hko : Blk W bO 33 #[ov]) (hov : Own strR W w0.heap.size 9 NoB ov L) (hbw : Below w0.heap.size w0 W) (hxl : L.length ≤ 100000) (hb : Below W.heap.size W w2) :
    ∃ a5 c5 w3, (Builtin.append_ #[33, 33] 33 #[ov, .slice (some ⟨w2.heap.size, 0, none⟩) 1 1]).run Tryd.prog (w2.alloc (.cells #[.string s] 9)) = .ok (.slice a5 (L.length + 1) c5) w3 ∧ Blk w3 bO 33 #[ov] ∧
      (w0.heap.size ≤ bO → Tk notStr W (w3.setCell ⟨bO, 0, none⟩ (.slice a5 (L.length + 1) c5)) ∧ StrI w0 bO (L ++ [s]) (w3.setCell ⟨bO, 0, none⟩ (.slice a5 (L.length + 1) c5))) := by
  have hov2 := hov.stayS hb
  have hB : w0.heap.size ≤ w2.heap.size := Nat.le_trans hbw.size hb.size
  obtain ⟨a5, c5, w3, hrun, hp, hg, _⟩ := Own.pushedA (P := Tryd.prog) (t := 33) (ty := 33) (x := s) elStr hov2 #[.string s] rfl (by omega) (by omega) hB
  have hsame : ∀ k o, W.heap[k]? = some o → ov.ownBlock ≠ some k → w3.heap[k]? = some o := fun k o hk hne => by
    have hlt : k < W.heap.size := (Array.getElem?_eq_some_iff.1 hk).1
    exact (hg.block k (Nat.lt_of_lt_of_le hlt hb.size) (fun e => hne e.symm)).trans ((hb.block k hlt).trans hk)
  have hnr : ov.ownBlock ≠ some bO := fun e => by
    obtain ⟨cs2, h2⟩ := hov.rowT e
    have hk : W.heap[bO]? = some (.cells #[ov] 33 (0, 0)) := hko
    rw [hk] at h2
    injection h2 with h2
    injection h2 with _ h2
    exact absurd h2 (by decide)
  have hk3 : Blk w3 bO 33 #[ov] := hsame _ _ hko hnr
  refine ⟨a5, c5, w3, hrun, hk3, fun hBO => ?_⟩
  have hset : ∀ k o, w3.heap[k]? = some o → k ≠ bO → (w3.setCell ⟨bO, 0, none⟩ (.slice a5 (L.length + 1) c5)).heap[k]? = some o := fun k o hk h1 => (Below.heap_setCell _ _ _ _ h1).trans hk
  refine ⟨fun k o hns hk _ => hset k o (hsame k o hk (fun e => ?_)) (fun e => ?_), ⟨_, hk3.set 0 _, ?_⟩, (hbw.trans (hb.mono hbw.size) |>.grown hg hB (fun k hk => (hov.lt k hk).1)).setCell (p := ⟨bO, 0, none⟩) hBO _⟩
  · obtain ⟨cs2, h2⟩ := hov.rowT e
    rw [hk] at h2; injection h2 with h2
    exact (hns _ _ _ h2).1 rfl
  · subst e
    have h2 : W.heap[k]? = some (.cells #[ov] 33 (0, 0)) := hko
    rw [hk] at h2; injection h2 with h2
    exact (hns _ _ _ h2).2 rfl
  · refine hp.keep (fun k hk => ?_)
    rcases hk with hk | hk
    · exact hk.elim
    · refine Below.heap_setCell _ _ _ _ (fun e => ?_)
      obtain ⟨cs2, h2⟩ := hp.rowT hk
      subst e
      have hk : w3.heap[k]? = some (.cells #[ov] 33 (0, 0)) := hk3
      rw [hk] at h2
      injection h2 with h2
      injection h2 with _ h2
      exact absurd h2 (by decide)
theorem wpList_run {P : Program} {ops : Array Oper} {rest : List Oper} {o : Oper} {a : Act} {Q : Exit → Act → World → Prop} {w : World} (hgd : o.guard = none) (s x : Operand) (t : TypeId)
    (ho : o.op = .call { callee := .builtin .append, args := #[s, x], argTypes := #[t, t] }) (v' : Value) (w' : World) (hrun : (Builtin.append_ #[t, t] o.type #[a.eval s, a.eval x]).run P w = .ok v' w') (h : wpList P ops Q rest (a.put o.dst v') w') :
    wpList P ops Q (o :: rest) a w := by
  refine wpList_plain hgd fun K hK => ?_
  unfold Oper.wp execOp
  simp only [ho, resolve, invoke, builtin, Sem.run_bind, Sem.run_pure, Result.andThen_ok, List.map_toArray, List.map_cons, List.map_nil, hrun]
  exact hK _ _ h
def dumpB (a : Nat) (l : List UInt8) : ByteArray := ⟨(dumpLine a l).toArray⟩
theorem hex4 (a : Nat) (ha : a ≤ 65535) (w : World) : Calls Tryd.prog 46 #[.int .i64 a, .int .i64 4] w fun e w' => e = .returned (.string ⟨(hexs a 4).toArray⟩) ∧ Below w.heap.size w w' := Hex_any a 4 w (by omega) (by omega)
set_option maxHeartbeats 2000000 in
set_option maxRecDepth 100000 in
theorem Dump1_any (a : Nat) (p : Blocks) (v : Value) (l : List UInt8) (w0 : World) (bO : Nat) (L : List ByteArray) (w : World) (h : SlR byteR w p v l) (ha : a ≤ 65535) (hl : l.length ≤ 1000) (hS : StrI w0 bO L w) (hL : L.length ≤ 100000) (hB : w0.heap.size ≤ bO) :
    Calls Tryd.prog 45 #[.int .i64 a, v, .pointer (some ⟨bO, 0, none⟩)] w fun e w' => e = .returned (.tuple #[]) ∧ Tk notStr w w' ∧ StrI w0 bO (L ++ [dumpB a l]) w' := by
  obtain ⟨sa, c, rfl, _⟩ := h.byte
  have HSL := Lib.hid h
  have HX := Lib.hid (fun W => hex4 a ha W)
  have HS := Lib.hid hS
  have hl1 : (l.length : Int) ≤ 1000 := by omega
  have HL := Lib.hid hL
  clear h hS ha hl hL
  go_enter Tryd.func45, Tryd.ntmps45
  have HE0 : Hid ((⟨(hexs a 4).toArray⟩ ++ ⟨#[58]⟩ : ByteArray).data.toList = hexs a 4 ++ 58 :: (l.take 0).flatMap (fun b => 32 :: byteTxt b)) := by
    show _ = _
    rw [ba_app]
    rfl
  have hsz4 : (⟨(hexs a 4).toArray⟩ : ByteArray).size ≤ 10 := by show (hexs a 4).toArray.size ≤ 10; simp [hexs_len]
  generalize (⟨(hexs a 4).toArray⟩ : ByteArray) = s4 at *
  go_wp2_with (go_at_call 46; refine (HX.out _).mono ?_; rintro e w1 ⟨rfl, hb⟩; have HB := Lib.hid hb; clear hb)
  go_loopw [5, 13] (fun z i wr => ∃ (k : Nat) (s : ByteArray), k ≤ l.length ∧ z = .string s ∧ i = .int .i64 k ∧ s.data.toList = hexs a 4 ++ 58 :: (l.take k).flatMap (fun b => 32 :: byteTxt b) ∧ Below w.heap.size w wr) (fun _ i _ => l.length - (intOf i).toNat)
  case atStart => exact ⟨0, _, Nat.zero_le _, rfl, rfl, HE0.out, HB.out⟩
  case round =>
    obtain ⟨k, s, hk, rfl, rfl, hs, hb⟩ := hrel
    have HSS := Lib.hid hs
    have HBW := Lib.hid hb
    have hlen : s.size ≤ 5000 := by
      have := congrArg List.length hs
      have hfl : ∀ m : List UInt8, (m.flatMap (fun b => 32 :: byteTxt b)).length = 3 * m.length := fun m => by
        induction m with
        | nil => rfl
        | cons x m ih => rw [List.flatMap_cons, List.length_append, ih, List.length_cons, List.length_cons, byteTxt_len]; omega
      rw [List.length_append, List.length_cons, hexs_len, hfl, List.length_take] at this
      have e : s.data.toList.length = s.size := by simp
      omega
    clear hs hb
    by_cases hlt : k < l.length
    · obtain ⟨ad, cd, hv, _, _, g⟩ := (HSL.out.old.below HBW.out).byte
      obtain ⟨rfl, _, rfl⟩ : sa = ad ∧ l.length = l.length ∧ c = cd := by injection hv with h1 h2 h3; exact ⟨h1, h2, h3⟩
      obtain ⟨b1, o1, rfl, _, hcell⟩ := g k l[k] (List.getElem?_eq_getElem hlt)
      have HTK := Lib.hid (List.take_succ_eq_append_getElem hlt)
      clear g hv
      generalize l[k] = x at *
      have hx := x.toNat_lt
      have HX2 := Lib.hid (hexTxt x)
      have HNS : Hid ((s ++ (⟨#[32]⟩ ++ ⟨(byteTxt x).toArray⟩) : ByteArray).data.toList = hexs a 4 ++ 58 :: (l.take (k + 1)).flatMap (fun b => 32 :: byteTxt b)) := by
        show _ = _
        rw [ba_app, ba_app, HSS.out, HTK.out, List.flatMap_append]
        simp
      have hsz2 : (⟨(byteTxt x).toArray⟩ : ByteArray).size ≤ 10 := by show (byteTxt x).toArray.size ≤ 10; simp [byteTxt_len]
      generalize (⟨(byteTxt x).toArray⟩ : ByteArray) = s2 at *
      go_wp2_with (go_at_call 46; refine (HX2.out _).mono ?_; rintro e w7 ⟨rfl, hb⟩; have HBX := Lib.hid hb; clear hb)
      go_roundw
      case rel => exact ⟨k + 1, _, by omega, rfl, by go_num, HNS.out, HBW.out.trans (HBX.out.mono HBW.out.size)⟩
      case measure => simp [intOf]; omega
    · obtain rfl : k = l.length := by omega
      have hse := HSS.out
      rw [List.take_length] at hse
      obtain rfl := ba_of hse
      obtain ⟨ov, hko, hov⟩ := HS.out.out
      obtain ⟨a5, c5, w3, hrun, hk3, hrest⟩ := str_app (dumpB a l) hko hov HS.out.below HL.out HBW.out
      have HRUN := Lib.hid hrun
      have HREST := Lib.hid hrest
      have d0 := (hko.below HBW.out hko.lt).cell 0
      have d1 := hk3.cell 0
      have g1 := hk3.free 0
      clear hse hko hov hrun hk3 hrest
      change Code.wp _ _ _ _ _ at ⊢
      go_wp2_with (at_builtin; refine wpList_run rfl (.tmp 24) (.tmp 26) 33 rfl _ _ HRUN.out ?_)
      go_end0
      exact ⟨rfl, HREST.out hB⟩
end Go.Proofs.YtcfjcoockklkeaaDoor
