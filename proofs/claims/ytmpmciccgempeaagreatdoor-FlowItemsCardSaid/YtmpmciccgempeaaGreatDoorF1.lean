/-
  flow.of and flow.legal: the operand of a kind; the canonical form of a legal instruction. Conditions: the library's table as its initialiser lays it; a short instruction.
-/
import Derived.Test.YtmpmciccgempeaaGreatDoorBA17
import Derived.Test.YtmpmciccgempeaaGreatDoorBQ1
import Derived.Test.YtmpmciccgempeaaGreatDoorBB8
import Derived.Test.YtmpmciccgempeaaGreatDoorBA14
import Derived.Test.YtmpmciccgempeaaGreatDoorBA12
import Derived.Test.YtmpmciccgempeaaGreatDoorBA6
import Derived.Test.YtmpmciccgempeaaGreatDoorBC1
import Derived.Test.YtmpmciccgempeaaGreatDoorBA5
import Derived.Test.YtmpmciccgempeaaGreatDoorBB1
import Derived.Test.YtmpmciccgempeaaGreatDoorBA1
import Derived.Test.YtmpmciccgempeaaGreatDoorBD1
import Derived.Test.YtmpmciccgempeaaGreatDoorBR1
import Derived.Test.YtmpmciccgempeaaGreatDoorChecked
import Derived.Test.YtmpmciccgempeaaGreatDoorBA4
import Derived.Test.YtmpmciccgempeaaGreatDoorShelf
import Derived.Test.YtmpmciccgempeaaGreatDoorBA2
import Derived.Test.YtmpmciccgempeaaGreatDoorBA3
import Derived.Test.YtmpmciccgempeaaGreatDoorBB2
import Derived.Test.YtmpmciccgempeaaGreatDoorBA9
import Derived.Test.YtmpmciccgempeaaGreatDoorBA7
import Derived.Test.YtmpmciccgempeaaGreatDoorBA8
import Derived.Test.YtmpmciccgempeaaGreatDoorBT1
import Derived.Test.YtmpmciccgempeaaGreatDoorBF1
import Derived.Test.YtmpmciccgempeaaGreatDoorBB3
import Derived.Test.YtmpmciccgempeaaGreatDoorBA11
import Derived.Test.YtmpmciccgempeaaGreatDoorBA10
import Derived.Test.YtmpmciccgempeaaGreatDoorBB4
import Derived.Test.YtmpmciccgempeaaGreatDoorBB6
import Derived.Test.YtmpmciccgempeaaGreatDoorBB5
import Derived.Test.YtmpmciccgempeaaGreatDoorBA13
import Derived.Test.YtmpmciccgempeaaGreatDoorBB7
import Derived.Test.YtmpmciccgempeaaGreatDoorBA16
import Derived.Test.YtmpmciccgempeaaGreatDoorBA15
import Derived.Test.YtmpmciccgempeaaGreatDoorBV1
namespace Go.Proofs.YtmpmciccgempeaaGreatDoor
open Go.RowKit Go.Shelf Go.Sort

/-- the first operand of a kind -/
def ofK (l : List Opd) (k : Int) : Option Opd := l.find? fun o => o.kind == k
def OfV (r : Option Opd) : Value := .tuple #[.agg #[.int .i64 (r.getD ⟨0, 0, 0⟩).kind, .int .i64 (r.getD ⟨0, 0, 0⟩).reg, .int .i64 (r.getD ⟨0, 0, 0⟩).n], .bool r.isSome]
/-- the canonical form of a legal instruction; none of others -/
def legC (x : Ins) : Ins := if tI x = true then aE x else ⟨⟨#[]⟩, []⟩
theorem slR_ins1 {w : World} {b : Nat} {v : Value} {q : aB} {x : Ins} {t : TypeId} (hB : Blk w b t #[.string x.op, v]) (h : SlR aM w q v x.args) : SlR rP w (fun _ => True) (.slice (some ⟨b, 0, none⟩) 1 1) [x] := by
  refine ⟨_, 1, rfl, Nat.le_refl _, by decide, fun i y hy => ?_⟩
  match i, hy with
  | 0, hy =>
    obtain rfl := Option.some.inj hy
    refine ⟨b, 0, [.string x.op, v], rfl, trivial, hB.lt, fun j u hu => ?_, v, rfl, h.mono fun _ _ => trivial⟩
    match j, hu with
    | 0, hu => obtain rfl := Option.some.inj hu; exact hB.cell 0
    | 1, hu => obtain rfl := Option.some.inj hu; exact hB.cell 1
  | i + 1, hy => cases hy
set_option maxHeartbeats 2000000 in
theorem of1_any (k : Int) (b : Nat) (o : Opd) (w : World) (h : w.cell? ⟨b, 0, none⟩ = some (.int .i64 k)) :
    Calls Tryz.prog 125 #[.agg #[.int .i64 o.kind, .int .i64 o.reg, .int .i64 o.n], .pointer (some ⟨b, 0, none⟩)] w fun e w' => e = .returned (.bool (o.kind == k)) ∧ Below w.heap.size w w' := by
  obtain ⟨o1, o2, o3⟩ := o
  dsimp only
  have HF := aA ((Fr.start w).new 90 #[.int .i64 o1, .int .i64 o2, .int .i64 o3])
  have hc := (HF.out.below.cell (p := ⟨b, 0, none⟩) (World.block_lt_of_cell? _ _ h)).trans h
  obtain ⟨W, hW⟩ : ∃ W : World, W = w.alloc (.cells #[.int .i64 o1, .int .i64 o2, .int .i64 o3] 90) := ⟨_, rfl⟩
  rw [← hW] at HF hc
  go_enter Tryz.func125, Tryz.ntmps125
  go_upto_region 1 with fail
  rw [← hW]
  clear hW h
  obtain ⟨c0, c1, c2⟩ := (HF.out.blk 0 rfl).three
  go_wp2
  go_ret
  exact ⟨rfl, HF.out.below⟩
def IdxQ (r : Option Opd) (l : List Opd) (e : Ending) : Prop := match r with | some o => ∃ j : Nat, e = .returned (.int .i64 j) ∧ l[j]? = some o | none => e = .returned (.int .i64 (-1))
set_option maxHeartbeats 4000000 in
set_option maxRecDepth 100000 in
theorem idxK_any (k : Int) (b : Nat) (p : aB) (v : Value) (l : List Opd) (w : World) (h : SlR aM w p v l) (hk : w.cell? ⟨b, 0, none⟩ = some (.int .i64 k)) :
    Calls Tryz.prog 124 #[v, .func (.func 125) #[] #[.pointer (some ⟨b, 0, none⟩)]] w fun e w' => IdxQ (ofK l k) l e ∧ Below w.heap.size w w' := by
  have HC := aA (fun o W (hb : RowKit.Below w.heap.size w W) => of1_any k b o W ((hb.cell (p := ⟨b, 0, none⟩) (World.block_lt_of_cell? _ _ hk)).trans hk))
  have HS := aA h
  obtain ⟨a, c, rfl, hl1, hl2, _⟩ := h.opd
  have hl : (l.length : Int) ≤ 9223372036854775807 := by omega
  clear h hk hl1 hl2
  go_enter Tryz.func124, Tryz.ntmps124
  go_wp2
  go_loopw [5, 8] (fun _ i wr => ∃ j : Nat, j ≤ l.length ∧ i = .int .i64 j ∧ ofK l k = ofK (l.drop j) k ∧ Below w.heap.size w wr) (fun _ i _ => l.length - (intOf i).toNat)
  case atStart => exact ⟨0, Nat.zero_le _, rfl, rfl, Below.refl _ _⟩
  case round =>
    obtain ⟨j, hj, rfl, ht, hb⟩ := hrel
    have HT := aA ht
    have HB := aA hb
    clear ht hb
    by_cases hlt : j < l.length
    · obtain ⟨a2, c2, e2, _, _, hg⟩ := (HS.out.below HB.out).opd
      injection e2 with e2 e3 e4
      clear e3
      subst e2 e4
      obtain ⟨b1, o1, rfl, _, d0, d1, d2⟩ := hg j l[j] (List.getElem?_eq_getElem hlt)
      have HD : Hid (ofK (l.drop j) k = if (l[j].kind == k) = true then some l[j] else ofK (l.drop (j + 1)) k) := aA (by
        rw [List.drop_eq_getElem_cons hlt]
        unfold ofK
        rw [List.find?_cons]
        cases (l[j].kind == k) <;> rfl)
      have HG := aA (List.getElem?_eq_getElem hlt)
      have HV := aA (HC.out l[j] _ HB.out)
      clear hg
      generalize l[j] = x at *
      obtain ⟨x1, x2, x3⟩ := x
      dsimp only at *
      cases hvx : (x1 == k)
      all_goals
        rw [hvx] at HV HD
        clear hvx
      · go_wp2_with (go_at_call 125; refine HV.out.mono ?_; rintro e w2 ⟨rfl, hb⟩; have HB2 := aA (HB.out.trans (hb.mono HB.out.size)); clear hb)
        go_roundw
        case rel => exact ⟨j + 1, by omega, by go_num, by rw [HT.out, HD.out]; rfl, HB2.out⟩
        case measure => simp [intOf]; omega
      · go_wp2_with (go_at_call 125; refine HV.out.mono ?_; rintro e w2 ⟨rfl, hb⟩; have HB2 := aA (HB.out.trans (hb.mono HB.out.size)); clear hb)
        go_ret
        rw [HT.out, HD.out, if_pos (by trivial)]
        exact ⟨(by unfold IdxQ; exact ⟨j, rfl, HG.out⟩), HB2.out⟩
    · go_wp2
      go_ret
      rw [HT.out, List.drop_of_length_le (by omega)]
      exact ⟨(by unfold IdxQ; rfl), HB.out⟩
set_option maxHeartbeats 4000000 in
set_option maxRecDepth 100000 in
theorem ofK_any (x : Ins) (k : Int) (p : aB) (v : Value) (w : World) (h : SlR aM w p v x.args) :
    Calls Tryz.prog 68 #[.agg #[.string x.op, v], .int .i64 k] w fun e w' => e = .returned (OfV (ofK x.args k)) ∧ Below w.heap.size w w' := by
  obtain ⟨op, l⟩ := x
  dsimp only at *
  obtain ⟨a, c, rfl⟩ : ∃ a c, v = .slice a l.length c := by obtain ⟨a, c, e, _⟩ := h; exact ⟨a, c, e⟩
  have hlm : (l.length : Int) ≤ 9223372036854775807 := by obtain ⟨_, _, e, h1, h2, _⟩ := h.opd; injection e with _ e2 e3; omega
  have HF0 := aA ((((Fr.start w).new 24 #[.string op, .slice a l.length c]).new' 3 #[.int .i64 k] (World.size_alloc _ _)).new' 90 #[.int .i64 0, .int .i64 0, .int .i64 0] (b := w.heap.size + 1 + 1) (by rw [World.size_alloc, World.size_alloc]))
  have HS := aA (fun W (hb : RowKit.Below w.heap.size w W) => h.below hb)
  have hmf : ∀ (fn : Fn) (first cap : Array Value) (w : World), (Instr.makeFunc fn first cap).run Tryz.prog w = .ok (.func fn first cap) w := fun _ _ _ _ => rfl
  clear h
  obtain ⟨W0, hW0⟩ : ∃ W : World, W = ((w.alloc (.cells #[.string op, .slice a l.length c] 24)).alloc (.cells #[.int .i64 k] 3)).alloc (.cells #[.int .i64 0, .int .i64 0, .int .i64 0] 90) := ⟨_, rfl⟩
  rw [← hW0] at HF0
  have HI := aA (idxK_any k (w.heap.size + 1) p _ l W0 (HS.out _ HF0.out.below) (HF0.out.blk 1 rfl).one.1)
  go_enter Tryz.func68, Tryz.ntmps68
  go_upto_region 1 with fail
  rw [← hW0]
  clear hW0
  obtain ⟨e0, e1⟩ := (HF0.out.blk 2 rfl).pair
  cases ho : ofK l k with
  | none =>
    rw [ho] at HI
    have HK9 := aA ho
    clear ho
    go_upto_region 3 with (go_at_call 124; refine HI.out.mono ?_; rintro e w1 ⟨rfl, hb⟩; have HF1 := aA (HF0.out.next hb); clear hb)
    obtain ⟨q0, q1, q2, y0, y1, y2⟩ := (HF1.out.blk 0 rfl).three
    have HF2 := aA (HF1.out.set3 (by omega) (fun y hy => by simp at hy; rcases hy with rfl | rfl <;> (show _ ≠ _; dsimp only; omega)) (.int .i64 0) (.int .i64 0) (.int .i64 0))
    go_wp2
    exact bodyPost_ret (aH rfl _ _ (w.heap.size + 1 + 1) 90 #[.int .i64 0, .int .i64 0, .int .i64 0] (0, 0) _ rfl (HF2.out.blk 0 rfl) Tryz.underlying90 rfl (by kernel_rfl)) rfl ⟨by rw [HK9.out]; rfl, HF2.out.below⟩
  | some o =>
    rw [ho] at HI
    have HK9 := aA ho
    clear ho
    obtain ⟨o1, o2, o3⟩ := o
    go_upto_region 2 with (go_at_call 124; refine HI.out.mono ?_; rintro e w1 ⟨⟨j, rfl, hj⟩, hb⟩; have HF1 := aA (HF0.out.next hb); clear hb)
    obtain ⟨e0, e1⟩ := (HF1.out.blk 2 rfl).pair
    obtain ⟨a2, c2, e2, _, _, hg⟩ := (HS.out _ HF1.out.below).opd
    injection e2 with e2 e3 e4
    clear e3
    subst e2 e4
    obtain ⟨b1, q1, rfl, _, d0, d1, d2⟩ := hg j _ hj
    have hjl : j < l.length := (List.getElem?_eq_some_iff.1 hj).1
    clear hg hj
    dsimp only at d0 d1 d2
    obtain ⟨q0, q1, q2, y0, y1, y2⟩ := (HF1.out.blk 0 rfl).three
    have HF2 := aA (HF1.out.set3 (by omega) (fun y hy => by simp at hy; rcases hy with rfl | rfl <;> (show _ ≠ _; dsimp only; omega)) (.int .i64 o1) (.int .i64 o2) (.int .i64 o3))
    go_wp2
    exact bodyPost_ret (aH rfl _ _ (w.heap.size + 1 + 1) 90 #[.int .i64 o1, .int .i64 o2, .int .i64 o3] (0, 0) _ rfl (HF2.out.blk 0 rfl) Tryz.underlying90 rfl (by kernel_rfl)) rfl ⟨by rw [HK9.out]; rfl, HF2.out.below⟩
set_option maxHeartbeats 4000000 in
set_option maxRecDepth 100000 in
theorem legal_any (x : Ins) (m : CV x) (p : aB) (v : Value) (w : World) (h : SlR aM w p v x.args) (hT : Spc w) :
    Calls Tryz.prog 67 #[.agg #[.string x.op, v]] w fun e w' => (∃ a c, e = .returned (.agg #[.string (legC x).op, .slice a (legC x).args.length c]) ∧ SlR aM w' (fun _ => True) (.slice a (legC x).args.length c) (legC x).args) ∧ Below w.heap.size w w' := by
  have HL := aA (fun q v W h (hb : RowKit.Below w.heap.size w W) => Legal_any q v [x] W h (hT.below hb) (fun y hy => by rw [List.mem_singleton.1 hy]; exact m))
  have HO := aA (fun W (hb : RowKit.Below w.heap.size w W) => EB p x v W (h.below hb) (hT.below hb) (by have := m.n; omega) m.f)
  have hls : [x].all tI = tI x := by simp
  rw [hls] at HL
  have HG : Hid (legC x = if tI x = true then aE x else ⟨⟨#[]⟩, []⟩) := aA rfl
  obtain ⟨a, c, rfl⟩ : ∃ a c, v = .slice a x.args.length c := by obtain ⟨a, c, e, _⟩ := h; exact ⟨a, c, e⟩
  have HF0 := aA (((Fr.start w).new 24 #[.string x.op, .slice a x.args.length c]).new' 24 #[.string ⟨#[]⟩, .slice none 0 0] (World.size_alloc _ _))
  have HS := aA (fun W (hb : RowKit.Below w.heap.size w W) => h.below hb)
  rw [show aE x = ⟨x.op, (aE x).args⟩ from rfl] at HG
  generalize (aE x).args = C at *
  generalize tI x = B at *
  generalize legC x = G at *
  obtain ⟨W0, hW0⟩ : ∃ W : World, W = (w.alloc (.cells #[.string x.op, .slice a x.args.length c] 24)).alloc (.cells #[.string ⟨#[]⟩, .slice none 0 0] 24) := ⟨_, rfl⟩
  rw [← hW0] at HF0
  clear h hT m hls
  go_enter Tryz.func67, Tryz.ntmps67
  go_upto_region 1 with fail
  rw [← hW0]
  clear hW0
  obtain ⟨e0, e1⟩ := (HF0.out.blk 1 rfl).pair
  cases B
  · obtain rfl := HG.out
    go_wp2_with (go_at_call 96; refine (HL.out _ _ _ (slR_ins1 (Blk.new W0 24 _) ((HS.out _ HF0.out.below).alloc _)) (HF0.out.alloc _).below).mono ?_; rintro e w1 ⟨rfl, hb⟩; have HF1 := aA ((HF0.out.alloc (.cells #[.string x.op, .slice a x.args.length c] 24)).next hb); obtain ⟨q0, q1, y0, y1⟩ := (HF1.out.blk 0 rfl).two; clear hb)
    have HF2 := aA ((HF1.out.set (by omega) (fun y hy => by simp at hy; rcases hy with rfl; (show _ ≠ _; dsimp only; omega)) 0 (.string ⟨#[]⟩)).set (by omega) (fun y hy => by simp at hy; rcases hy with rfl; (show _ ≠ _; dsimp only; omega)) 1 (.slice none 0 0))
    exact bodyPost_ret (mM rfl rfl (HF2.out.blk 0 rfl)) rfl ⟨⟨none, 0, rfl, SlR.nil _ _ _⟩, HF2.out.below⟩
  · obtain rfl := HG.out
    go_wp2_with (first
      | (go_at_call 96; refine (HL.out _ _ _ (slR_ins1 (Blk.new W0 24 _) ((HS.out _ HF0.out.below).alloc _)) (HF0.out.alloc _).below).mono ?_; rintro e w1 ⟨rfl, hb⟩; have HF1 := aA ((HF0.out.alloc (.cells #[.string x.op, .slice a x.args.length c] 24)).next hb); clear hb e0 e1; obtain ⟨e0, e1⟩ := (HF1.out.blk 1 rfl).pair)
      | (go_at_call 97; (with_reducible refine (HO.out _ HF1.out.below).mono ?_); rintro e w2 ⟨v2, rfl, ho, hb⟩; have h2 := ho.slR.mono (q := fun _ => True) (fun _ _ => trivial); obtain ⟨va, vc, rfl⟩ := ho.form; have HO2 := aA ho; have HF2 := aA (HF1.out.next hb); obtain ⟨q0, q1, y0, y1⟩ := (HF2.out.blk 0 rfl).two; clear hb ho h2))
    have HF3 := aA ((HF2.out.set (by omega) (fun y hy => by simp at hy; rcases hy with rfl; (show _ ≠ _; dsimp only; omega)) 0 (.string x.op)).set (by omega) (fun y hy => by simp at hy; rcases hy with rfl; (show _ ≠ _; dsimp only; omega)) 1 (.slice va C.length vc))
    have hlt : w.heap.size + 1 < w1.heap.size := (HF1.out.blk 0 rfl).lt
    exact bodyPost_ret (mM rfl rfl (HF3.out.blk 0 rfl)) rfl ⟨⟨va, vc, rfl, (((HO2.out.far (p := ⟨w.heap.size + 1, 0, none⟩) (fun k hk => by dsimp only; omega) _).far (p := ⟨w.heap.size + 1, 1, none⟩) (fun k hk => by dsimp only; omega) _).slR.mono (fun _ _ => trivial))⟩, HF3.out.below⟩
end Go.Proofs.YtmpmciccgempeaaGreatDoor
