/-
  table.At, whole. Conditions: the library's table as its initialiser lays it.
-/
import Derived.Test.YtlepicdjnbbndaaGreatDoorT31
import Derived.Test.YtlepicdjnbbndaaGreatDoorTH
import Derived.Test.YtlepicdjnbbndaaGreatDoorSA
/-
  table.At, whole. Conditions: the library's table as its initialiser lays it.
-/
namespace Go.Proofs.YtlepicdjnbbndaaGreatDoor
open Go.RowKit Go.Shelf Go.Sort

def chkF (L : List (List UInt8)) (op : Nat) : Bool :=
  match lookF op L with
  | none => true
  | some t => match ruleF t with
    | none => false
    | some r => match argsF r.bits op r.args with
      | none => false
      | some (os, ex) => decide (t.length ≤ 1000) && (t.all (fun b => decide (b.toNat < 128)) && (decide (r.bits.length ≤ 8) && (r.args.all (fun a => decide (a.length ≤ 1000)) && (decide (r.args.length ≤ 8) && (decide (os.length ≤ 100) && (((upper ⟨r.op.toArray⟩).data.toList == r.op) && (decide (r.op.length ≤ 1000) && decide (ex.length ≤ 1000))))))))
structure Fnd (L : List (List UInt8)) (op : Nat) (t : List UInt8) (r : RuleV) (os : List Opd) (ex : List UInt8) : Prop where
  hl : lookF op L = some t
  hr : ruleF t = some r
  ha : argsF r.bits op r.args = some (os, ex)
  ok : okT t r
  hn : os.length ≤ 100
  hup : upper ⟨r.op.toArray⟩ = ⟨r.op.toArray⟩
  his : r.op.length ≤ 1000
  hex : ex.length ≤ 1000
theorem chk_spec {L : List (List UInt8)} {op : Nat} (h : chkF L op = true) : lookF op L = none ∨ ∃ t r os ex, Fnd L op t r os ex := by
  unfold chkF at h
  split at h
  · rename_i hl
    exact .inl hl
  · rename_i t hl
    split at h
    · cases h
    · rename_i r hr
      split at h
      · cases h
      · rename_i os ex ha
        simp only [Bool.and_eq_true, decide_eq_true_eq, List.all_eq_true, beq_iff_eq] at h
        obtain ⟨h1, h2, h3, h4, h5, h6, h7, h8, h9⟩ := h
        exact .inr ⟨t, r, os, ex, hl, hr, ha, ⟨h1, h2, h3, h4, h5⟩, h6, by apply ByteArray.ext; apply Array.ext'; rw [h7], h8, h9⟩
theorem chk_main : ∀ x : Fin 256, chkF mainL x.val = true := by decide +kernel
theorem chk_cb : ∀ x : Fin 256, chkF (splitC cbB.data.toList) x.val = true := by decide +kernel
theorem chk_ed : ∀ x : Fin 256, chkF (splitC edB.data.toList) x.val = true := by decide +kernel
/-- what table.At hands back -/
def AtP (w : World) (x : Option EntV) (k : Int) (e : Ending) (w' : World) : Prop :=
  (match x with | some x => ∃ v, e = .returned (.tuple #[entVal x v, .int .i64 k]) ∧ OpdOwn w' (fun b => w.heap.size ≤ b) v x.args | none => e = .returned (.tuple #[ent0, .int .i64 k])) ∧ Below w.heap.size w w'
/-- an entry of Main for an index register -/
def ixF (page : Int) (x : EntV) : Option EntV :=
  if 0 ≤ posO ⟨4, 2, 0⟩ 0 x.args ∧ x.iop ≠ [74, 80] then some ⟨page, x.op, x.iop, x.args.set (posO ⟨4, 2, 0⟩ 0 x.args).toNat ⟨5, page + 2, 0⟩, 100 :: x.ex, x.al⟩
  else if x.op = 235 ∨ xany (page + 2) x.args = false then none else some ⟨page, x.op, x.iop, xmap (page + 2) x.args, x.ex, x.al⟩
def atF (page : Int) (op : Nat) : Option EntV × Int :=
  if page = 0 then (match findF 0 mainL op with | some x => (some x, 1) | none => (none, 2))
  else if page = 1 then (match findF 1 (splitC cbB.data.toList) op with | some x => (some x, 1) | none => (none, 0))
  else if page = 2 then (match findF 2 (splitC edB.data.toList) op with | some x => (some x, 1) | none => (none, 3))
  else if page = 3 ∨ page = 4 then (if op = 203 then (none, 2) else match (findF page mainL op).bind (ixF page) with | some x => (some x, 1) | none => (none, 0))
  else if page = 5 ∨ page = 6 then (match findF page (splitC cbB.data.toList) (op / 8 * 8 + 6) with | some x => (some (bothF page op ⟨[], x.iop, [], x.al⟩ x.args), 1) | none => (none, 0))
  else (none, 0)
theorem Fnd.find {L : List (List UInt8)} {op : Nat} {t : List UInt8} {r : RuleV} {os : List Opd} {ex : List UInt8} (h : Fnd L op t r os ex) (pg : Int) : findF pg L op = some ⟨pg, op, r.op, os, ex, r.alias⟩ := by
  unfold findF; rw [h.hl, Option.bind_some, h.hr, Option.bind_some, h.ha]; rfl
theorem findF_none {L : List (List UInt8)} {op : Nat} (h : lookF op L = none) (pg : Int) : findF pg L op = none := by unfold findF; rw [h]; rfl
theorem chk_both : ∀ x : Fin 256, (match findF 5 (splitC cbB.data.toList) (x.val / 8 * 8 + 6) with | some y => decide (0 < y.args.length) | none => false) = true := by decide +kernel
theorem both_found {op : Nat} (hop : op < 256) : ∃ t r os ex, Fnd (splitC cbB.data.toList) (op / 8 * 8 + 6) t r os ex ∧ 0 < os.length := by
  have h5 := chk_both ⟨op, hop⟩
  dsimp only at h5
  rcases chk_spec (chk_cb ⟨op / 8 * 8 + 6, by omega⟩) with h | ⟨t, r, os, ex, h⟩
  · rw [findF_none h] at h5
    cases h5
  · rw [h.find] at h5
    exact ⟨t, r, os, ex, h, of_decide_eq_true h5⟩
theorem posO_neg {x : Opd} : ∀ {l : List Opd} {j : Nat}, posO x j l = -1 ∨ (j : Int) ≤ posO x j l
  | [], _ => .inl rfl
  | y :: r, j => by
    rw [posO]
    split
    · exact .inr (Int.le_refl _)
    · rcases posO_neg (x := x) (l := r) (j := j + 1) with h | h
      · exact .inl h
      · exact .inr (by omega)
/-- what a function that looks for an entry hands back -/
def FindP (W : World) (o : Option EntV) (e : Ending) (w' : World) : Prop :=
  ∃ (p q : Int) (i s : ByteArray) (a : Option Addr) (n c : Nat) (f : Bool), e = .returned (.tuple #[.agg #[.int .i64 p, .int .u8 q, .string i, .slice a n c, .string s, .bool f], .bool o.isSome]) ∧
    (∀ x, o = some x → p = x.pg ∧ q = x.op ∧ i = ⟨x.iop.toArray⟩ ∧ s = ⟨x.ex.toArray⟩ ∧ f = x.al ∧ n = x.args.length ∧ OpdOwn w' (fun b => W.heap.size ≤ b) (.slice a n c) x.args) ∧ Below W.heap.size W w'
theorem findP_none {W : World} {e : Ending} {w' : World} (h : e = .returned (.tuple #[ent0, .bool false]) ∧ Below W.heap.size W w') : FindP W none e w' :=
  ⟨0, 0, ⟨#[]⟩, ⟨#[]⟩, none, 0, 0, false, h.1, fun _ h => (by cases h), h.2⟩
theorem findP_some {W : World} {x : EntV} {v : Value} {e : Ending} {w' : World} (h : e = .returned (.tuple #[entVal x v, .bool true]) ∧ OpdOwn w' (fun b => W.heap.size ≤ b) v x.args ∧ Below W.heap.size W w') : FindP W (some x) e w' := by
  obtain ⟨h1, h2, h3⟩ := h
  obtain ⟨a, c, rfl⟩ := h2.form
  exact ⟨_, _, _, _, a, x.args.length, c, _, h1, fun y hy => (by cases hy; exact ⟨rfl, rfl, rfl, rfl, rfl, rfl, h2⟩), h3⟩
theorem find_any (pg : Int) (B : ByteArray) (hs : B.size ≤ 1000000) (op : Nat) (hop : op < 256) (hc : chkF (splitC B.data.toList) op = true) (W : World) (hT : Spc W) : Calls Tryz.prog 45 #[.int .i64 pg, .string B, .int .u8 op] W (FindP W (findF pg (splitC B.data.toList) op)) := by
  rcases chk_spec hc with h | ⟨t, r, os, ex, h⟩
  · rw [findF_none h]
    exact (tfind_none pg B op W hop hs h).mono fun e w' h => findP_none h
  · rw [h.find]
    exact (find_some pg B op t r os ex W hop hs h.hl h.hr h.ha h.ok hT).mono fun e w' ⟨v, h1, h2, h3⟩ => findP_some ⟨h1, h2.opdOwn (fun j hj => (h2.lt j hj).1), h3⟩
/-- an entry of Main that indexed may be handed -/
structure OkIx (x : EntV) : Prop where
  op : x.op < 256
  hn : x.args.length ≤ 100
  hup : upper ⟨x.iop.toArray⟩ = ⟨x.iop.toArray⟩
  his : x.iop.length ≤ 1000
  hex : x.ex.length ≤ 1000
theorem findF_ok {pg : Int} {op : Nat} (hop : op < 256) {x : EntV} (h : findF pg mainL op = some x) : OkIx x := by
  rcases chk_spec (chk_main ⟨op, hop⟩) with h2 | ⟨t, r, os, ex, h2⟩
  · rw [findF_none h2] at h; cases h
  · rw [h2.find] at h; cases h
    exact ⟨hop, h2.hn, h2.hup, h2.his, h2.hex⟩
theorem indexed_any (page : Int) (hpg : page = 3 ∨ page = 4) (x : EntV) (hx : OkIx x) (p : Blocks) (v : Value) (W : World) (h : SlR opdR W p v x.args) : Calls Tryz.prog 46 #[entVal x v, .int .i64 page] W (FindP W (ixF page x)) := by
  have hn : x.args.length ≤ 1000 := Nat.le_trans hx.hn (by decide)
  by_cases hm : 0 ≤ posO ⟨4, 2, 0⟩ 0 x.args ∧ x.iop ≠ [74, 80]
  · have e : ixF page x = some ⟨page, x.op, x.iop, x.args.set (posO ⟨4, 2, 0⟩ 0 x.args).toNat ⟨5, page + 2, 0⟩, 100 :: x.ex, x.al⟩ := if_pos hm
    rw [e]
    exact (indexed_mem x p v page (posO ⟨4, 2, 0⟩ 0 x.args).toNat W h hpg (by omega) hn hm.2 hx.hup hx.his hx.hex).mono fun e w' ⟨v', h1, h2, h3⟩ => findP_some ⟨h1, h2, h3⟩
  have hm' : posO ⟨4, 2, 0⟩ 0 x.args = -1 ∨ (0 ≤ posO ⟨4, 2, 0⟩ 0 x.args ∧ x.iop = [74, 80]) := by
    rcases posO_neg (x := ⟨4, 2, 0⟩) (l := x.args) (j := 0) with hp | hp
    · exact .inl hp
    · exact .inr ⟨hp, Decidable.byContradiction fun hj => hm ⟨hp, hj⟩⟩
  have e : ixF page x = if x.op = 235 ∨ xany (page + 2) x.args = false then none else some ⟨page, x.op, x.iop, xmap (page + 2) x.args, x.ex, x.al⟩ := if_neg hm
  rw [e]
  refine (indexed_loop page hpg x p v W h hm' hx.op hn hx.hup hx.his hx.hex).mono fun e w' ⟨v', h1, h2, h3⟩ => ?_
  by_cases h235 : x.op = 235
  · rw [if_pos (.inl h235)]
    rw [if_pos h235] at h1
    exact findP_none ⟨h1, h3⟩
  rw [if_neg h235] at h1
  cases hxa : xany (page + 2) x.args
  · rw [if_pos (.inr rfl)]
    rw [hxa] at h1
    obtain ⟨a, c, rfl⟩ := h2.form
    exact ⟨_, _, _, _, a, _, c, _, h1, fun _ h => (by cases h), h3⟩
  · rw [if_neg (fun e => e.elim h235 (fun e => by cases e))]
    rw [hxa] at h1
    exact findP_some ⟨h1, h2, h3⟩
theorem bothP (page : Int) (hpg : page = 5 ∨ page = 6) (op : Nat) (hop : op < 256) (W : World) (hT : Spc W) : ∃ x, (atF page op) = (some x, 1) ∧ Calls Tryz.prog 47 #[.int .i64 page, .int .u8 op] W fun e w' => ∃ v', e = .returned (entVal x v') ∧ OpdOwn w' (fun b => W.heap.size ≤ b) v' x.args ∧ Below W.heap.size W w' := by
  obtain ⟨t, r, os, ex, h, hos⟩ := both_found hop
  refine ⟨bothF page op r os, ?_, (both_any page hpg op t r os ex W hop h.hl h.hr h.ha h.ok hos h.hn hT).mono fun e w' ⟨v, h1, h2, h3⟩ => ⟨v, h1, h2.opdOwn (fun j hj => (h2.lt j hj).1), h3⟩⟩
  unfold atF
  rw [if_neg (by omega), if_neg (by omega), if_neg (by omega), if_neg (by omega), if_pos hpg, h.find]
  rfl
theorem Fr.put6 {w0 W : World} {L : List (Nat × TypeId × Array Value)} {b : Nat} {z0 z1 z2 z3 z4 z5 : Value} (h : Fr w0 ((b, 27, #[z0, z1, z2, z3, z4, z5]) :: L) W) (hb : w0.heap.size ≤ b) (hn : ∀ x ∈ L, x.1 ≠ b) (a0 a1 a2 a3 a4 a5 : Value) : Fr w0 ((b, 27, #[a0, a1, a2, a3, a4, a5]) :: L) (set6 W b a0 a1 a2 a3 a4 a5) :=
  ⟨set6_below h.below hb _ _ _ _ _ _, fun y hy => by
    rcases List.mem_cons.1 hy with rfl | hy
    · exact entry6 (h.blk 0 rfl) _ _ _ _ _ _
    · exact (set6_far _ _ _ _ _ _ _ _ _ (hn y hy)).trans (h.at' y (List.mem_cons_of_mem _ hy))⟩
/-- what At holds behind its switch -/
def AtM (w : World) (r : Option EntV × Int) (s7 s8 : Value) (wx : World) : Prop := ∃ (o : Option EntV) (k p q : Int) (i s : ByteArray) (a : Option Addr) (n c : Nat) (f : Bool), s7 = .bool o.isSome ∧ s8 = .int .i64 k ∧
  Fr w [(w.heap.size + 1, 27, #[.int .i64 p, .int .u8 q, .string i, .slice a n c, .string s, .bool f]), (w.heap.size, 27, #[.int .i64 0, .int .u8 0, .string ⟨#[]⟩, .slice none 0 0, .string ⟨#[]⟩, .bool false])] wx ∧ (∀ x, o = some x → p = x.pg ∧ q = x.op ∧ i = ⟨x.iop.toArray⟩ ∧ s = ⟨x.ex.toArray⟩ ∧ f = x.al ∧ n = x.args.length ∧ OpdOwn wx (fun b => w.heap.size + 2 ≤ b) (.slice a n c) x.args) ∧ r = (match o with | some x => (some x, 1) | none => (none, k))
set_option maxHeartbeats 16000000 in
set_option maxRecDepth 100000 in
theorem At_any (page : Int) (op : Nat) (hop : op < 256) (w : World) (hT : Spc w) : Calls Tryz.prog 13 #[.int .i64 page, .int .u8 op] w (AtP w (atF page op).1 (atF page op).2) := by
  have H0 := Lib.hid (((Fr.start w).new 27 #[.int .i64 0, .int .u8 0, .string ⟨#[]⟩, .slice none 0 0, .string ⟨#[]⟩, .bool false]).new' 27 #[.int .i64 0, .int .u8 0, .string ⟨#[]⟩, .slice none 0 0, .string ⟨#[]⟩, .bool false] (b := w.heap.size + 1) (by rw [World.size_alloc]))
  have HS0 : Hid ((((w.alloc (.cells #[.int .i64 0, .int .u8 0, .string ⟨#[]⟩, .slice none 0 0, .string ⟨#[]⟩, .bool false] 27)).alloc (.cells #[.int .i64 0, .int .u8 0, .string ⟨#[]⟩, .slice none 0 0, .string ⟨#[]⟩, .bool false] 27))).heap.size = w.heap.size + 2) := by show _ = _; rw [World.size_alloc, World.size_alloc]
  have HT := Lib.hid hT
  clear hT
  go_enter Tryz.func13, Tryz.ntmps13
  go_upto_region 2 with fail
  iterate 7 (first | go_values | go_skip | go_guarded | go_step | go_upon | go_back)
  go_cut [7, 8] (fun s7 s8 wx => AtM w (atF page op) s7 s8 wx)
  case first =>
    by_cases hlow : page = 0 ∨ page = 1 ∨ page = 2
    · obtain ⟨B, k, hs, hc, hat, hsel⟩ : ∃ (B : ByteArray) (k : Int), B.size ≤ 1000000 ∧ chkF (splitC B.data.toList) op = true ∧ atF page op = (match findF page (splitC B.data.toList) op with | some x => (some x, 1) | none => (none, k)) ∧ (page = 0 ∧ B = mainB ∧ k = 2 ∨ page = 1 ∧ B = cbB ∧ k = 0 ∨ page = 2 ∧ B = edB ∧ k = 3) := by
        rcases hlow with rfl | rfl | rfl
        · exact ⟨mainB, 2, by decide +kernel, chk_main ⟨op, hop⟩, by unfold atF; rw [if_pos rfl]; rfl, .inl ⟨rfl, rfl, rfl⟩⟩
        · exact ⟨cbB, 0, by decide +kernel, chk_cb ⟨op, hop⟩, by unfold atF; rw [if_neg (by decide), if_pos rfl], .inr (.inl ⟨rfl, rfl, rfl⟩)⟩
        · exact ⟨edB, 3, by decide +kernel, chk_ed ⟨op, hop⟩, by unfold atF; rw [if_neg (by decide), if_neg (by decide), if_pos rfl], .inr (.inr ⟨rfl, rfl, rfl⟩)⟩
      have HFI := Lib.hid (fun W hT => find_any page B hs op hop hc W hT)
      have HAT := Lib.hid hat
      clear hs hc hat hlow
      generalize findF page (splitC B.data.toList) op = o at *
      rcases hsel with ⟨rfl, rfl, rfl⟩ | ⟨rfl, rfl, rfl⟩ | ⟨rfl, rfl, rfl⟩
      all_goals
        go_wp2_with (go_at_call 45; refine (HFI.out _ (HT.out.below H0.out.below)).mono ?_; rintro e w2 ⟨p, q, i, s, a, n, c, f, rfl, hx, hb⟩; have HX := Lib.hid hx; have H2 := Lib.hid (H0.out.next hb); clear hx hb; have e0 := (H2.out.blk 0 rfl).cell 0; have e1 := (H2.out.blk 0 rfl).cell 1; have e2 := (H2.out.blk 0 rfl).cell 2; have e3 := (H2.out.blk 0 rfl).cell 3; have e4 := (H2.out.blk 0 rfl).cell 4; have e5 := (H2.out.blk 0 rfl).cell 5; have z0 := (H2.out.blk 0 rfl).free 0; have z1 := (H2.out.blk 0 rfl).free 1; have z2 := (H2.out.blk 0 rfl).free 2; have z3 := (H2.out.blk 0 rfl).free 3; have z4 := (H2.out.blk 0 rfl).free 4; have z5 := (H2.out.blk 0 rfl).free 5)
        go_meet
        case rel =>
          refine ⟨o, _, p, q, i, s, a, n, c, f, rfl, rfl, H2.out.put6 (Nat.le_succ _) (by simp) _ _ _ _ _ _, fun x hx => ?_, HAT.out⟩
          obtain ⟨g1, g2, g3, g4, g5, g6, g7⟩ := HX.out x hx
          exact ⟨g1, g2, g3, g4, g5, g6, (g7.mono (fun b hb => by rw [HS0.out] at hb; exact hb)).keep (fun j hj => set6_far _ _ _ _ _ _ _ _ j (by have hj : w.heap.size + 2 ≤ j := hj; omega))⟩
    by_cases h34 : page = 3 ∨ page = 4
    · by_cases hcb : op = 203
      · subst hcb
        have HAT : Hid (atF page 203 = (none, 2)) := by
          show _ = _
          unfold atF; rw [if_neg (by omega), if_neg (by omega), if_neg (by omega), if_pos h34, if_pos rfl]
        clear hlow
        rcases h34 with rfl | rfl
        all_goals
          go_wp2
          exact bodyPost_ret (results_row_tmp rfl _ _ w.heap.size 27 #[.int .i64 0, .int .u8 0, .string ⟨#[]⟩, .slice none 0 0, .string ⟨#[]⟩, .bool false] (0, 0) _ rfl (H0.out.blk 1 rfl) Tryz.underlying27 rfl (by kernel_rfl)) rfl (by rw [HAT.out]; exact ⟨rfl, H0.out.below⟩)
      have HAT : Hid (atF page op = (match (findF page mainL op).bind (ixF page) with | some x => (some x, 1) | none => (none, 0))) := by
        show _ = _
        unfold atF; rw [if_neg (by omega), if_neg (by omega), if_neg (by omega), if_pos h34, if_neg hcb]
      have hne : ((op : Int) == 203) = false := by rw [beq_eq_false_iff_ne]; omega
      have HFI : Hid (∀ W, Spc W → Calls Tryz.prog 45 #[.int .i64 page, .string mainB, .int .u8 op] W (FindP W (findF page mainL op))) := fun W hT => find_any page mainB mainB_size op hop (chk_main ⟨op, hop⟩) W hT
      have HOK := Lib.hid (fun x => findF_ok (pg := page) hop (x := x))
      have HIX := Lib.hid (fun x hx p v W h => indexed_any page h34 x hx p v W h)
      clear hlow hcb
      generalize findF page mainL op = o at *
      rcases o with _ | x
      · clear HOK HIX
        rcases h34 with rfl | rfl
        all_goals
          go_wp2_with (go_at_call 45; refine (HFI.out _ (HT.out.below H0.out.below)).mono ?_; rintro e w2 ⟨p, q, i, s, a, n, c, f, rfl, hx, hb⟩; have HX := Lib.hid hx; have H2 := Lib.hid (H0.out.next hb); clear hx hb; have e0 := (H2.out.blk 0 rfl).cell 0; have e1 := (H2.out.blk 0 rfl).cell 1; have e2 := (H2.out.blk 0 rfl).cell 2; have e3 := (H2.out.blk 0 rfl).cell 3; have e4 := (H2.out.blk 0 rfl).cell 4; have e5 := (H2.out.blk 0 rfl).cell 5; have z0 := (H2.out.blk 0 rfl).free 0; have z1 := (H2.out.blk 0 rfl).free 1; have z2 := (H2.out.blk 0 rfl).free 2; have z3 := (H2.out.blk 0 rfl).free 3; have z4 := (H2.out.blk 0 rfl).free 4; have z5 := (H2.out.blk 0 rfl).free 5)
          go_meet
          case rel => exact ⟨none, _, p, q, i, s, a, n, c, f, rfl, rfl, H2.out.put6 (Nat.le_succ _) (by simp) _ _ _ _ _ _, fun x hx => (by cases hx), HAT.out⟩
      · have HOX := Lib.hid (HOK.out x rfl)
        have HIY := Lib.hid (HIX.out x HOX.out)
        clear HOK HIX HOX
        unfold entVal at HIY
        rw [Option.bind_some] at HAT
        generalize ixF page x = o at *
        obtain ⟨xp, xo, xi, xl, xs, xf⟩ := x
        dsimp only at *
        rcases h34 with rfl | rfl
        all_goals
          go_upto_region 17 with (go_at_call 45; refine (HFI.out _ (HT.out.below H0.out.below)).mono ?_; rintro e w2 ⟨p, q, i, s, a, n, c, f, rfl, hx, hb⟩; have HX := Lib.hid hx; have H2 := Lib.hid (H0.out.next hb); clear hx hb; have e0 := (H2.out.blk 0 rfl).cell 0; have e1 := (H2.out.blk 0 rfl).cell 1; have e2 := (H2.out.blk 0 rfl).cell 2; have e3 := (H2.out.blk 0 rfl).cell 3; have e4 := (H2.out.blk 0 rfl).cell 4; have e5 := (H2.out.blk 0 rfl).cell 5; have z0 := (H2.out.blk 0 rfl).free 0; have z1 := (H2.out.blk 0 rfl).free 1; have z2 := (H2.out.blk 0 rfl).free 2; have z3 := (H2.out.blk 0 rfl).free 3; have z4 := (H2.out.blk 0 rfl).free 4; have z5 := (H2.out.blk 0 rfl).free 5; obtain ⟨g1, g2, g3, g4, g5, g6, h7⟩ := HX.out _ rfl; clear HX; subst p q i s f n; have H3 := Lib.hid (H2.out.put6 (Nat.le_succ _) (by simp) (.int .i64 xp) (.int .u8 xo) (.string ⟨xi.toArray⟩) (.slice a xl.length c) (.string ⟨xs.toArray⟩) (.bool xf)); have HO3 := Lib.hid ((h7.mono (r := fun b => w.heap.size + 2 ≤ b) (fun b hb => by rw [HS0.out] at hb; exact hb)).keep (fun j hj => set6_far w2 (w.heap.size + 1) (.int .i64 xp) (.int .u8 xo) (.string ⟨xi.toArray⟩) (.slice a xl.length c) (.string ⟨xs.toArray⟩) (.bool xf) j (by have hj : w.heap.size + 2 ≤ j := hj; omega))); clear h7)
          have hsw : w.heap.size + 2 ≤ w2.heap.size := (H2.out.blk 0 rfl).lt
          have HS6 : Hid ((set6 w2 (w.heap.size + 1) (.int .i64 xp) (.int .u8 xo) (.string ⟨xi.toArray⟩) (.slice a xl.length c) (.string ⟨xs.toArray⟩) (.bool xf)).heap.size = w2.heap.size) := set6_size _ _ _ _ _ _ _ _
          clear H2
          go_wp2_with (go_at_call 46; refine (HIY.out _ _ _ HO3.out.slR).mono ?_; rintro e w3 ⟨p, q, i, s, a1, n, c1, f, rfl, hx, hb⟩; have HX := Lib.hid hx; have H4 := Lib.hid (H3.out.next hb); clear hx hb e0 e1 e2 e3 e4 e5 z0 z1 z2 z3 z4 z5; have e0 := (H4.out.blk 0 rfl).cell 0; have e1 := (H4.out.blk 0 rfl).cell 1; have e2 := (H4.out.blk 0 rfl).cell 2; have e3 := (H4.out.blk 0 rfl).cell 3; have e4 := (H4.out.blk 0 rfl).cell 4; have e5 := (H4.out.blk 0 rfl).cell 5; have z0 := (H4.out.blk 0 rfl).free 0; have z1 := (H4.out.blk 0 rfl).free 1; have z2 := (H4.out.blk 0 rfl).free 2; have z3 := (H4.out.blk 0 rfl).free 3; have z4 := (H4.out.blk 0 rfl).free 4; have z5 := (H4.out.blk 0 rfl).free 5)
          go_meet
          case rel =>
            refine ⟨o, _, p, q, i, s, a1, n, c1, f, rfl, rfl, H4.out.put6 (Nat.le_succ _) (by simp) _ _ _ _ _ _, fun x hx => ?_, HAT.out⟩
            obtain ⟨g1, g2, g3, g4, g5, g6, g7⟩ := HX.out x hx
            exact ⟨g1, g2, g3, g4, g5, g6, (g7.mono (r := fun b => w.heap.size + 2 ≤ b) (fun b hb => by have hb : (set6 w2 (w.heap.size + 1) (.int .i64 xp) (.int .u8 xo) (.string ⟨xi.toArray⟩) (.slice a xl.length c) (.string ⟨xs.toArray⟩) (.bool xf)).heap.size ≤ b := hb; rw [HS6.out] at hb; omega)).keep (fun j hj => set6_far _ _ _ _ _ _ _ _ j (by have hj : w.heap.size + 2 ≤ j := hj; omega))⟩
    by_cases h56 : page = 5 ∨ page = 6
    · obtain ⟨x, hat, hbo⟩ := bothP page h56 op hop _ (HT.out.below H0.out.below)
      have HAT := Lib.hid hat
      have HBO := Lib.hid hbo
      clear hat hbo hlow h34
      unfold entVal at HBO
      obtain ⟨xp, xo, xi, xl, xs, xf⟩ := x
      dsimp only at *
      rcases h56 with rfl | rfl
      all_goals
        go_wp2_with (go_at_call 47; refine HBO.out.mono ?_; rintro e w2 ⟨v, rfl, ho, hb⟩; obtain ⟨va, vc, rfl⟩ := ho.form; have H2 := Lib.hid (H0.out.next hb); have HO := Lib.hid (ho.mono (r := fun b => w.heap.size + 2 ≤ b) (fun b hb => by rw [HS0.out] at hb; exact hb)); clear ho hb; have r0 := (H2.out.blk 1 rfl).cell 0; have r1 := (H2.out.blk 1 rfl).cell 1; have r2 := (H2.out.blk 1 rfl).cell 2; have r3 := (H2.out.blk 1 rfl).cell 3; have r4 := (H2.out.blk 1 rfl).cell 4; have r5 := (H2.out.blk 1 rfl).cell 5; have y0 := (H2.out.blk 1 rfl).free 0; have y1 := (H2.out.blk 1 rfl).free 1; have y2 := (H2.out.blk 1 rfl).free 2; have y3 := (H2.out.blk 1 rfl).free 3; have y4 := (H2.out.blk 1 rfl).free 4; have y5 := (H2.out.blk 1 rfl).free 5)
        exact bodyPost_ret (results_row_tmp rfl _ _ w.heap.size 27 #[.int .i64 xp, .int .u8 xo, .string ⟨xi.toArray⟩, .slice va xl.length vc, .string ⟨xs.toArray⟩, .bool xf] (0, 0) _ rfl (entry6 (H2.out.blk 1 rfl) _ _ _ _ _ _) Tryz.underlying27 rfl (by kernel_rfl)) rfl (by rw [HAT.out]; exact ⟨⟨_, rfl, (HO.out.keep (fun j hj => set6_far _ _ _ _ _ _ _ _ j (by have hj : w.heap.size + 2 ≤ j := hj; omega))).mono (fun j hj => by have hj : w.heap.size + 2 ≤ j := hj; omega)⟩, set6_below H2.out.below (Nat.le_refl _) _ _ _ _ _ _⟩)
    have HAT : Hid (atF page op = (none, 0)) := by
      show _ = _
      unfold atF; rw [if_neg (by omega), if_neg (by omega), if_neg (by omega), if_neg h34, if_neg h56]
    have b0 : (page == 0) = false := by rw [beq_eq_false_iff_ne]; omega
    have b1 : (page == 1) = false := by rw [beq_eq_false_iff_ne]; omega
    have b2 : (page == 2) = false := by rw [beq_eq_false_iff_ne]; omega
    have b3 : (page == 3) = false := by rw [beq_eq_false_iff_ne]; omega
    have b4 : (page == 4) = false := by rw [beq_eq_false_iff_ne]; omega
    have b5 : (page == 5) = false := by rw [beq_eq_false_iff_ne]; omega
    have b6 : (page == 6) = false := by rw [beq_eq_false_iff_ne]; omega
    clear hlow h34 h56
    go_wp2
    go_meet
    case rel => exact ⟨none, 0, _, _, _, _, _, _, _, _, rfl, rfl, H0.out, fun x hx => (by cases hx), HAT.out⟩
  case rest =>
    obtain ⟨o, k, p, q, i, s, a, n, c, f, rfl, rfl, hf, hx, hat⟩ := hcut
    have H2 := Lib.hid hf
    have HX := Lib.hid hx
    have HAT := Lib.hid hat
    clear hf hx hat H0
    have r0 := (H2.out.blk 1 rfl).cell 0; have r1 := (H2.out.blk 1 rfl).cell 1; have r2 := (H2.out.blk 1 rfl).cell 2; have r3 := (H2.out.blk 1 rfl).cell 3; have r4 := (H2.out.blk 1 rfl).cell 4; have r5 := (H2.out.blk 1 rfl).cell 5; have y0 := (H2.out.blk 1 rfl).free 0; have y1 := (H2.out.blk 1 rfl).free 1; have y2 := (H2.out.blk 1 rfl).free 2; have y3 := (H2.out.blk 1 rfl).free 3; have y4 := (H2.out.blk 1 rfl).free 4; have y5 := (H2.out.blk 1 rfl).free 5
    cases o with
    | none =>
      go_wp2
      exact bodyPost_ret (results_row_tmp rfl _ _ w.heap.size 27 #[.int .i64 0, .int .u8 0, .string ⟨#[]⟩, .slice none 0 0, .string ⟨#[]⟩, .bool false] (0, 0) _ rfl (entry6 (H2.out.blk 1 rfl) _ _ _ _ _ _) Tryz.underlying27 rfl (by kernel_rfl)) rfl (by rw [HAT.out]; exact ⟨rfl, set6_below H2.out.below (Nat.le_refl _) _ _ _ _ _ _⟩)
    | some x =>
      obtain ⟨rfl, rfl, rfl, rfl, rfl, rfl, h7⟩ := HX.out x rfl
      have HO := Lib.hid h7
      clear h7 HX
      have e0 := (H2.out.blk 0 rfl).cell 0; have e1 := (H2.out.blk 0 rfl).cell 1; have e2 := (H2.out.blk 0 rfl).cell 2; have e3 := (H2.out.blk 0 rfl).cell 3; have e4 := (H2.out.blk 0 rfl).cell 4; have e5 := (H2.out.blk 0 rfl).cell 5
      go_wp2
      exact bodyPost_ret (results_row_tmp rfl _ _ w.heap.size 27 #[.int .i64 x.pg, .int .u8 x.op, .string ⟨x.iop.toArray⟩, .slice a x.args.length c, .string ⟨x.ex.toArray⟩, .bool x.al] (0, 0) _ rfl (entry6 (H2.out.blk 1 rfl) _ _ _ _ _ _) Tryz.underlying27 rfl (by kernel_rfl)) rfl (by rw [HAT.out]; exact ⟨⟨_, rfl, (HO.out.keep (fun j hj => set6_far _ _ _ _ _ _ _ _ j (by have hj : w.heap.size + 2 ≤ j := hj; omega))).mono (fun j hj => by have hj : w.heap.size + 2 ≤ j := hj; omega)⟩, set6_below H2.out.below (Nat.le_refl _) _ _ _ _ _ _⟩)
end Go.Proofs.YtlepicdjnbbndaaGreatDoor

/-
  The kinds that table.At hands back. Conditions: none.
-/
namespace Go.Proofs.YtlepicdjnbbndaaGreatDoor
open Go.RowKit Go.Shelf Go.Sort

/-- an entry comes with the kind 1, no entry with another -/
def atKind (r : Option EntV × Int) : Prop := (∀ x, r.1 = some x → r.2 = 1) ∧ (r.1 = none → r.2 = 0 ∨ r.2 = 2 ∨ r.2 = 3)
theorem atKind_some (x : EntV) : atKind (some x, 1) := ⟨fun _ _ => rfl, fun h => by cases h⟩
theorem atKind_none {k : Int} (h : k = 0 ∨ k = 2 ∨ k = 3) : atKind (none, k) := ⟨fun _ h => (by cases h), fun _ => h⟩
theorem atKind_match (o : Option EntV) {k : Int} (h : k = 0 ∨ k = 2 ∨ k = 3) : atKind (match o with | some x => (some x, 1) | none => (none, k)) := by
  cases o with
  | none => exact atKind_none h
  | some x => exact atKind_some x
theorem atF_kind (p : Int) (op : Nat) : atKind (atF p op) := by
  unfold atF
  by_cases h0 : p = 0
  · rw [if_pos h0]; exact atKind_match _ (by decide)
  rw [if_neg h0]
  by_cases h1 : p = 1
  · rw [if_pos h1]; exact atKind_match _ (by decide)
  rw [if_neg h1]
  by_cases h2 : p = 2
  · rw [if_pos h2]; exact atKind_match _ (by decide)
  rw [if_neg h2]
  by_cases h3 : p = 3 ∨ p = 4
  · rw [if_pos h3]
    by_cases hc : op = 203
    · rw [if_pos hc]; exact atKind_none (by decide)
    · rw [if_neg hc]; exact atKind_match _ (by decide)
  rw [if_neg h3]
  by_cases h5 : p = 5 ∨ p = 6
  · rw [if_pos h5]
    cases findF p (splitC cbB.data.toList) (op / 8 * 8 + 6) with
    | none => exact atKind_none (by decide)
    | some x => exact atKind_some _
  rw [if_neg h5]
  exact atKind_none (by decide)
theorem at7E (w : World) (hT : Spc w) :
    Calls Tryz.prog 13 #[.int .i64 3, .int .u8 126] w fun e w' => ∃ v', e = .returned (.tuple #[.agg #[.int .i64 3, .int .u8 126, .string ⟨#[76, 68]⟩, v', .string ⟨#[100]⟩, .bool false], .int .i64 1]) ∧ OpdOwn w' (fun b => w.heap.size ≤ b) v' [⟨1, 7, 0⟩, ⟨5, 5, 0⟩] ∧ Below w.heap.size w w' := by
  have h := At_any 3 126 (by decide) w hT
  have e : atF 3 126 = (some ⟨3, 126, [76, 68], [⟨1, 7, 0⟩, ⟨5, 5, 0⟩], [100], false⟩, 1) := by kernel_rfl
  rw [e] at h
  exact h.mono fun e w' ⟨⟨v, h1, h2⟩, h3⟩ => ⟨v, h1, h2, h3⟩
end Go.Proofs.YtlepicdjnbbndaaGreatDoor
