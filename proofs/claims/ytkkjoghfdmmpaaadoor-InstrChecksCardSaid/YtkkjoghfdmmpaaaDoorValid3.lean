/-
  THE KINDS OF OPERANDS: operand.find.
-/
import Derived.Test.YtkkjoghfdmmpaaaDoorValid2
import Derived.Laws.EntriesVeiled
namespace Go.Proofs.YtkkjoghfdmmpaaaDoor
open Go.RowKit

theorem results_row_tmp {P : Program} {fn : Func} {p u : Tmp} {ty : TypeId} (h : fn.results = #[.cell p ty, .tmp u]) (tmps : Array Value) (w : World) (g : Nat) (t : TypeId) (cs : Array Value) (fr : Nat × Nat) (d : TypeDesc)
    (hp : tmps.getD p undef = .pointer (some ⟨g, 0, none⟩)) (hg : w.heap[g]? = some (.cells cs t fr))
    (hu : P.underlying ty = some d) (hd : (match d with | .struct _ | .array _ _ => true | _ => false) = true) (hi : (P.info? ty).map (·.size) = some cs.size) :
    (results fn tmps).run P w = .ok (.tuple #[.agg cs, tmps.getD u undef]) w := by
  have hp' : tmps[p]?.getD undef = .pointer (some ⟨g, 0, none⟩) := by simpa using hp
  simp [results, h, hp', asAddr, run_loadVar_row w g t ty cs fr d hg hu hd hi]
theorem results_row_tmp2 {P : Program} {fn : Func} {p u v : Tmp} {ty : TypeId} (h : fn.results = #[.cell p ty, .tmp u, .tmp v]) (tmps : Array Value) (w : World) (g : Nat) (t : TypeId) (cs : Array Value) (fr : Nat × Nat) (d : TypeDesc)
    (hp : tmps.getD p undef = .pointer (some ⟨g, 0, none⟩)) (hg : w.heap[g]? = some (.cells cs t fr))
    (hu : P.underlying ty = some d) (hd : (match d with | .struct _ | .array _ _ => true | _ => false) = true) (hi : (P.info? ty).map (·.size) = some cs.size) :
    (results fn tmps).run P w = .ok (.tuple #[.agg cs, tmps.getD u undef, tmps.getD v undef]) w := by
  have hp' : tmps[p]?.getD undef = .pointer (some ⟨g, 0, none⟩) := by simpa using hp
  simp [results, h, hp', asAddr, run_loadVar_row w g t ty cs fr d hg hu hd hi]

/-- the names of a kind's registers, the range of its number, its form -/
structure KindD where
  names : List ByteArray
  lo : Int
  hi : Int
  form : FuncId
def KindD.nm (d : KindD) (i : Nat) : ByteArray := (d.names[i]?).getD ⟨#[]⟩
def KindD.val (d : KindD) : Value := .agg #[.string (d.nm 0), .string (d.nm 1), .string (d.nm 2), .string (d.nm 3), .string (d.nm 4), .string (d.nm 5), .string (d.nm 6), .string (d.nm 7), .string (d.nm 8), .int .i64 d.lo, .int .i64 d.hi, .func (.func d.form) #[] #[]]
def kindNil : Value := .agg #[.string ⟨#[]⟩, .string ⟨#[]⟩, .string ⟨#[]⟩, .string ⟨#[]⟩, .string ⟨#[]⟩, .string ⟨#[]⟩, .string ⟨#[]⟩, .string ⟨#[]⟩, .string ⟨#[]⟩, .int .i64 0, .int .i64 0, .nilFunc]
def kindOk (k : Int) : Bool := k == 1 || k == 2 || k == 3 || k == 4 || k == 5 || k == 6 || k == 7 || k == 8 || k == 9 || k == 10
def kindD (k : Int) : KindD :=
  if k == 1 then ⟨[⟨#[66]⟩, ⟨#[67]⟩, ⟨#[68]⟩, ⟨#[69]⟩, ⟨#[72]⟩, ⟨#[76]⟩, ⟨#[]⟩, ⟨#[65]⟩, ⟨#[]⟩], 0, 0, 159⟩ else if k == 2 then ⟨[⟨#[73, 88, 72]⟩, ⟨#[73, 88, 76]⟩, ⟨#[73, 89, 72]⟩, ⟨#[73, 89, 76]⟩, ⟨#[]⟩, ⟨#[]⟩, ⟨#[]⟩, ⟨#[]⟩, ⟨#[]⟩], 0, 0, 159⟩ else if k == 3 then ⟨[⟨#[66, 67]⟩, ⟨#[68, 69]⟩, ⟨#[72, 76]⟩, ⟨#[83, 80]⟩, ⟨#[65, 70]⟩, ⟨#[73, 88]⟩, ⟨#[73, 89]⟩, ⟨#[65, 70, 39]⟩, ⟨#[]⟩], 0, 0, 159⟩ else if k == 4 then ⟨[⟨#[66, 67]⟩, ⟨#[68, 69]⟩, ⟨#[72, 76]⟩, ⟨#[83, 80]⟩, ⟨#[]⟩, ⟨#[73, 88]⟩, ⟨#[73, 89]⟩, ⟨#[]⟩, ⟨#[67]⟩], 0, 0, 160⟩ else if k == 5 then ⟨[⟨#[]⟩, ⟨#[]⟩, ⟨#[]⟩, ⟨#[]⟩, ⟨#[]⟩, ⟨#[73, 88]⟩, ⟨#[73, 89]⟩, ⟨#[]⟩, ⟨#[]⟩], -128, 127, 161⟩ else if k == 6 then ⟨[⟨#[42]⟩, ⟨#[]⟩, ⟨#[]⟩, ⟨#[]⟩, ⟨#[]⟩, ⟨#[]⟩, ⟨#[]⟩, ⟨#[]⟩, ⟨#[]⟩], -32768, 65535, 163⟩ else if k == 7 then ⟨[⟨#[42]⟩, ⟨#[]⟩, ⟨#[]⟩, ⟨#[]⟩, ⟨#[]⟩, ⟨#[]⟩, ⟨#[]⟩, ⟨#[]⟩, ⟨#[]⟩], 0, 65535, 165⟩ else if k == 8 then ⟨[⟨#[78, 90]⟩, ⟨#[90]⟩, ⟨#[78, 67]⟩, ⟨#[67]⟩, ⟨#[80, 79]⟩, ⟨#[80, 69]⟩, ⟨#[80]⟩, ⟨#[77]⟩, ⟨#[]⟩], 0, 0, 159⟩ else if k == 9 then ⟨[⟨#[73]⟩, ⟨#[82]⟩, ⟨#[]⟩, ⟨#[]⟩, ⟨#[]⟩, ⟨#[]⟩, ⟨#[]⟩, ⟨#[]⟩, ⟨#[]⟩], 0, 0, 159⟩ else if k == 10 then ⟨[⟨#[42]⟩, ⟨#[]⟩, ⟨#[]⟩, ⟨#[]⟩, ⟨#[]⟩, ⟨#[]⟩, ⟨#[]⟩, ⟨#[]⟩, ⟨#[]⟩], -128, 127, 166⟩ else ⟨[], 0, 0, 0⟩
set_option maxHeartbeats 2000000 in
theorem find_1 (w : World) : Calls Tryd.prog 146 #[.int .i64 1] w fun e w' => e = .returned (.tuple #[(kindD 1).val, .bool true]) ∧ Below w.heap.size w w' := by
  go_enter Tryd.func146, Tryd.ntmps146
  go_wp2
  refine bodyPost_ret (results_row_tmp rfl _ _ w.heap.size 167 #[.string ⟨#[66]⟩, .string ⟨#[67]⟩, .string ⟨#[68]⟩, .string ⟨#[69]⟩, .string ⟨#[72]⟩, .string ⟨#[76]⟩, .string ⟨#[]⟩, .string ⟨#[65]⟩, .string ⟨#[]⟩, .int .i64 (0), .int .i64 (0), .func (.func 159) #[] #[]] (0, 0) _ rfl (Blk.new w _ _) Tryd.underlying167 rfl (by kernel_rfl)) rfl ⟨rfl, ?_⟩
  exact (Below.refl _ _).alloc (Nat.le_refl _) _
set_option maxHeartbeats 2000000 in
theorem find_2 (w : World) : Calls Tryd.prog 146 #[.int .i64 2] w fun e w' => e = .returned (.tuple #[(kindD 2).val, .bool true]) ∧ Below w.heap.size w w' := by
  go_enter Tryd.func146, Tryd.ntmps146
  go_wp2
  refine bodyPost_ret (results_row_tmp rfl _ _ w.heap.size 167 #[.string ⟨#[73, 88, 72]⟩, .string ⟨#[73, 88, 76]⟩, .string ⟨#[73, 89, 72]⟩, .string ⟨#[73, 89, 76]⟩, .string ⟨#[]⟩, .string ⟨#[]⟩, .string ⟨#[]⟩, .string ⟨#[]⟩, .string ⟨#[]⟩, .int .i64 (0), .int .i64 (0), .func (.func 159) #[] #[]] (0, 0) _ rfl (Blk.new w _ _) Tryd.underlying167 rfl (by kernel_rfl)) rfl ⟨rfl, ?_⟩
  exact (Below.refl _ _).alloc (Nat.le_refl _) _
set_option maxHeartbeats 2000000 in
theorem find_3 (w : World) : Calls Tryd.prog 146 #[.int .i64 3] w fun e w' => e = .returned (.tuple #[(kindD 3).val, .bool true]) ∧ Below w.heap.size w w' := by
  go_enter Tryd.func146, Tryd.ntmps146
  go_wp2
  refine bodyPost_ret (results_row_tmp rfl _ _ w.heap.size 167 #[.string ⟨#[66, 67]⟩, .string ⟨#[68, 69]⟩, .string ⟨#[72, 76]⟩, .string ⟨#[83, 80]⟩, .string ⟨#[65, 70]⟩, .string ⟨#[73, 88]⟩, .string ⟨#[73, 89]⟩, .string ⟨#[65, 70, 39]⟩, .string ⟨#[]⟩, .int .i64 (0), .int .i64 (0), .func (.func 159) #[] #[]] (0, 0) _ rfl (Blk.new w _ _) Tryd.underlying167 rfl (by kernel_rfl)) rfl ⟨rfl, ?_⟩
  exact (Below.refl _ _).alloc (Nat.le_refl _) _
set_option maxHeartbeats 2000000 in
theorem find_4 (w : World) : Calls Tryd.prog 146 #[.int .i64 4] w fun e w' => e = .returned (.tuple #[(kindD 4).val, .bool true]) ∧ Below w.heap.size w w' := by
  go_enter Tryd.func146, Tryd.ntmps146
  go_wp2
  refine bodyPost_ret (results_row_tmp rfl _ _ w.heap.size 167 #[.string ⟨#[66, 67]⟩, .string ⟨#[68, 69]⟩, .string ⟨#[72, 76]⟩, .string ⟨#[83, 80]⟩, .string ⟨#[]⟩, .string ⟨#[73, 88]⟩, .string ⟨#[73, 89]⟩, .string ⟨#[]⟩, .string ⟨#[67]⟩, .int .i64 (0), .int .i64 (0), .func (.func 160) #[] #[]] (0, 0) _ rfl (Blk.new w _ _) Tryd.underlying167 rfl (by kernel_rfl)) rfl ⟨rfl, ?_⟩
  exact (Below.refl _ _).alloc (Nat.le_refl _) _
set_option maxHeartbeats 2000000 in
theorem find_5 (w : World) : Calls Tryd.prog 146 #[.int .i64 5] w fun e w' => e = .returned (.tuple #[(kindD 5).val, .bool true]) ∧ Below w.heap.size w w' := by
  go_enter Tryd.func146, Tryd.ntmps146
  go_wp2
  refine bodyPost_ret (results_row_tmp rfl _ _ w.heap.size 167 #[.string ⟨#[]⟩, .string ⟨#[]⟩, .string ⟨#[]⟩, .string ⟨#[]⟩, .string ⟨#[]⟩, .string ⟨#[73, 88]⟩, .string ⟨#[73, 89]⟩, .string ⟨#[]⟩, .string ⟨#[]⟩, .int .i64 (-128), .int .i64 (127), .func (.func 161) #[] #[]] (0, 0) _ rfl (Blk.new w _ _) Tryd.underlying167 rfl (by kernel_rfl)) rfl ⟨rfl, ?_⟩
  exact (Below.refl _ _).alloc (Nat.le_refl _) _
set_option maxHeartbeats 2000000 in
theorem find_6 (w : World) : Calls Tryd.prog 146 #[.int .i64 6] w fun e w' => e = .returned (.tuple #[(kindD 6).val, .bool true]) ∧ Below w.heap.size w w' := by
  go_enter Tryd.func146, Tryd.ntmps146
  go_wp2
  refine bodyPost_ret (results_row_tmp rfl _ _ w.heap.size 167 #[.string ⟨#[42]⟩, .string ⟨#[]⟩, .string ⟨#[]⟩, .string ⟨#[]⟩, .string ⟨#[]⟩, .string ⟨#[]⟩, .string ⟨#[]⟩, .string ⟨#[]⟩, .string ⟨#[]⟩, .int .i64 (-32768), .int .i64 (65535), .func (.func 163) #[] #[]] (0, 0) _ rfl (Blk.new w _ _) Tryd.underlying167 rfl (by kernel_rfl)) rfl ⟨rfl, ?_⟩
  exact (Below.refl _ _).alloc (Nat.le_refl _) _
set_option maxHeartbeats 2000000 in
theorem find_7 (w : World) : Calls Tryd.prog 146 #[.int .i64 7] w fun e w' => e = .returned (.tuple #[(kindD 7).val, .bool true]) ∧ Below w.heap.size w w' := by
  go_enter Tryd.func146, Tryd.ntmps146
  go_wp2
  refine bodyPost_ret (results_row_tmp rfl _ _ w.heap.size 167 #[.string ⟨#[42]⟩, .string ⟨#[]⟩, .string ⟨#[]⟩, .string ⟨#[]⟩, .string ⟨#[]⟩, .string ⟨#[]⟩, .string ⟨#[]⟩, .string ⟨#[]⟩, .string ⟨#[]⟩, .int .i64 (0), .int .i64 (65535), .func (.func 165) #[] #[]] (0, 0) _ rfl (Blk.new w _ _) Tryd.underlying167 rfl (by kernel_rfl)) rfl ⟨rfl, ?_⟩
  exact (Below.refl _ _).alloc (Nat.le_refl _) _
set_option maxHeartbeats 2000000 in
theorem find_8 (w : World) : Calls Tryd.prog 146 #[.int .i64 8] w fun e w' => e = .returned (.tuple #[(kindD 8).val, .bool true]) ∧ Below w.heap.size w w' := by
  go_enter Tryd.func146, Tryd.ntmps146
  go_wp2
  refine bodyPost_ret (results_row_tmp rfl _ _ w.heap.size 167 #[.string ⟨#[78, 90]⟩, .string ⟨#[90]⟩, .string ⟨#[78, 67]⟩, .string ⟨#[67]⟩, .string ⟨#[80, 79]⟩, .string ⟨#[80, 69]⟩, .string ⟨#[80]⟩, .string ⟨#[77]⟩, .string ⟨#[]⟩, .int .i64 (0), .int .i64 (0), .func (.func 159) #[] #[]] (0, 0) _ rfl (Blk.new w _ _) Tryd.underlying167 rfl (by kernel_rfl)) rfl ⟨rfl, ?_⟩
  exact (Below.refl _ _).alloc (Nat.le_refl _) _
set_option maxHeartbeats 2000000 in
theorem find_9 (w : World) : Calls Tryd.prog 146 #[.int .i64 9] w fun e w' => e = .returned (.tuple #[(kindD 9).val, .bool true]) ∧ Below w.heap.size w w' := by
  go_enter Tryd.func146, Tryd.ntmps146
  go_wp2
  refine bodyPost_ret (results_row_tmp rfl _ _ w.heap.size 167 #[.string ⟨#[73]⟩, .string ⟨#[82]⟩, .string ⟨#[]⟩, .string ⟨#[]⟩, .string ⟨#[]⟩, .string ⟨#[]⟩, .string ⟨#[]⟩, .string ⟨#[]⟩, .string ⟨#[]⟩, .int .i64 (0), .int .i64 (0), .func (.func 159) #[] #[]] (0, 0) _ rfl (Blk.new w _ _) Tryd.underlying167 rfl (by kernel_rfl)) rfl ⟨rfl, ?_⟩
  exact (Below.refl _ _).alloc (Nat.le_refl _) _
set_option maxHeartbeats 2000000 in
theorem find_10 (w : World) : Calls Tryd.prog 146 #[.int .i64 10] w fun e w' => e = .returned (.tuple #[(kindD 10).val, .bool true]) ∧ Below w.heap.size w w' := by
  go_enter Tryd.func146, Tryd.ntmps146
  go_wp2
  refine bodyPost_ret (results_row_tmp rfl _ _ w.heap.size 167 #[.string ⟨#[42]⟩, .string ⟨#[]⟩, .string ⟨#[]⟩, .string ⟨#[]⟩, .string ⟨#[]⟩, .string ⟨#[]⟩, .string ⟨#[]⟩, .string ⟨#[]⟩, .string ⟨#[]⟩, .int .i64 (-128), .int .i64 (127), .func (.func 166) #[] #[]] (0, 0) _ rfl (Blk.new w _ _) Tryd.underlying167 rfl (by kernel_rfl)) rfl ⟨rfl, ?_⟩
  exact (Below.refl _ _).alloc (Nat.le_refl _) _
set_option maxHeartbeats 2000000 in
theorem find_none (k : Int) (h1 : (k == 1) = false) (h2 : (k == 2) = false) (h3 : (k == 3) = false) (h4 : (k == 4) = false) (h5 : (k == 5) = false) (h6 : (k == 6) = false) (h7 : (k == 7) = false) (h8 : (k == 8) = false) (h9 : (k == 9) = false) (h10 : (k == 10) = false) (w : World) : Calls Tryd.prog 146 #[.int .i64 k] w fun e w' => e = .returned (.tuple #[kindNil, .bool false]) ∧ Below w.heap.size w w' := by
  go_enter Tryd.func146, Tryd.ntmps146
  go_wp2
  refine bodyPost_ret (results_row_tmp rfl _ _ w.heap.size 167 #[.string ⟨#[]⟩, .string ⟨#[]⟩, .string ⟨#[]⟩, .string ⟨#[]⟩, .string ⟨#[]⟩, .string ⟨#[]⟩, .string ⟨#[]⟩, .string ⟨#[]⟩, .string ⟨#[]⟩, .int .i64 0, .int .i64 0, .nilFunc] (0, 0) _ rfl (Blk.new w _ _) Tryd.underlying167 rfl (by kernel_rfl)) rfl ⟨rfl, ?_⟩
  exact (Below.refl _ _).alloc (Nat.le_refl _) _
theorem find_ok (k : Int) (hk : kindOk k = true) (w : World) : Calls Tryd.prog 146 #[.int .i64 k] w fun e w' => e = .returned (.tuple #[(kindD k).val, .bool true]) ∧ Below w.heap.size w w' := by
  by_cases h1 : k = 1
  · subst h1; exact find_1 w
  by_cases h2 : k = 2
  · subst h2; exact find_2 w
  by_cases h3 : k = 3
  · subst h3; exact find_3 w
  by_cases h4 : k = 4
  · subst h4; exact find_4 w
  by_cases h5 : k = 5
  · subst h5; exact find_5 w
  by_cases h6 : k = 6
  · subst h6; exact find_6 w
  by_cases h7 : k = 7
  · subst h7; exact find_7 w
  by_cases h8 : k = 8
  · subst h8; exact find_8 w
  by_cases h9 : k = 9
  · subst h9; exact find_9 w
  by_cases h10 : k = 10
  · subst h10; exact find_10 w
  simp [kindOk, h1, h2, h3, h4, h5, h6, h7, h8, h9, h10] at hk
theorem find_no (k : Int) (hk : kindOk k = false) (w : World) : Calls Tryd.prog 146 #[.int .i64 k] w fun e w' => e = .returned (.tuple #[kindNil, .bool false]) ∧ Below w.heap.size w w' := by
  simp only [kindOk, Bool.or_eq_false_iff] at hk
  obtain ⟨⟨⟨⟨⟨⟨⟨⟨⟨h1, h2⟩, h3⟩, h4⟩, h5⟩, h6⟩, h7⟩, h8⟩, h9⟩, h10⟩ := hk
  exact find_none k h1 h2 h3 h4 h5 h6 h7 h8 h9 h10 w
end Go.Proofs.YtkkjoghfdmmpaaaDoor
