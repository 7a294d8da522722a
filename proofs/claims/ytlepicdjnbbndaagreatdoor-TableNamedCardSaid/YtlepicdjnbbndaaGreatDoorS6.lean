/-
  The reference's instruction of an opcode without prefix. Conditions: the opcode is a byte.
-/
import Derived.Test.YtlepicdjnbbndaaGreatDoorS5
namespace Go.Proofs.YtlepicdjnbbndaaGreatDoor
open Go.RowKit Go.Shelf Go.Sort

/-- the instruction of an opcode without prefix -/
def mainF (op : Int) : ByteArray × List Opd × ByteArray :=
  if op / 64 = 0 then lowF (op / 8 % 8) (op % 8) else
  if op / 64 = 1 then (if op / 8 % 8 = 6 ∧ op % 8 = 6 then (⟨#[72, 65, 76, 84]⟩, [], ⟨#[]⟩) else (⟨#[76, 68]⟩, [rF (op / 8 % 8), rF (op % 8)], ⟨#[]⟩)) else
  if op / 64 = 2 then ((aluF (op / 8 % 8)).1, (if (aluF (op / 8 % 8)).2 then [accO, rF (op % 8)] else [rF (op % 8)]), ⟨#[]⟩) else highF (op / 8 % 8) (op % 8)
set_option maxHeartbeats 4000000 in
set_option maxRecDepth 100000 in
theorem main_0 (op y z : Int) (_h0 : 0 ≤ op) (_h8 : op < 256) (_hy : op / 8 % 8 = y) (_hz : op % 8 = z) (_hy0 : 0 ≤ y) (_hy8 : y < 8) (_hz0 : 0 ≤ z) (_hz8 : z < 8) (hx : op / 64 = 0) (w : World) : Calls Tryz.prog 49 #[.int .u8 op] w (InsE w (lowF y z).1 (lowF y z).2.1 (lowF y z).2.2) := by
  have H := Lib.hid ((Fr.start w).new' 25 #[.string ⟨#[]⟩, .slice none 0 0] rfl)
  have HL := Lib.hid (fun W => low_any y z _hy0 _hy8 _hz0 _hz8 W)
  generalize (lowF y z).1 = s at *
  generalize (lowF y z).2.1 = l at *
  generalize (lowF y z).2.2 = ex at *
  go_enter Tryz.func49, Tryz.ntmps49
  go_wp2_with (go_at_call 96; refine (HL.out _).mono ?_; rintro e w' ⟨v, rfl, ho, hb⟩; obtain ⟨va, vc, rfl⟩ := ho.form; have HO := Lib.hid (ho.mono (r := fun k => w.heap.size < k) (fun k hk => Nat.lt_of_lt_of_le (H.out.blk 0 rfl).lt hk)); have H := Lib.hid (H.out.next hb); obtain ⟨e0, e1, d0, d1⟩ := (H.out.blk 0 rfl).two; clear ho hb)
  obtain ⟨h1, h2⟩ := put_ins (x := .string s) (y := .slice va l.length vc) H.out.below HO.out (fun k hk => hk) (Nat.le_refl _)
  exact bodyPost_ret (insE_end rfl rfl (((H.out.blk 0 rfl).set 0 _).set 1 _)) rfl ⟨_, rfl, h1, h2⟩
set_option maxHeartbeats 4000000 in
set_option maxRecDepth 100000 in
theorem main_3 (op y z : Int) (_h0 : 0 ≤ op) (_h8 : op < 256) (_hy : op / 8 % 8 = y) (_hz : op % 8 = z) (_hy0 : 0 ≤ y) (_hy8 : y < 8) (_hz0 : 0 ≤ z) (_hz8 : z < 8) (hx : op / 64 = 3) (w : World) : Calls Tryz.prog 49 #[.int .u8 op] w (InsE w (highF y z).1 (highF y z).2.1 (highF y z).2.2) := by
  have H := Lib.hid ((Fr.start w).new' 25 #[.string ⟨#[]⟩, .slice none 0 0] rfl)
  have HL := Lib.hid (fun W => high_any y z _hy0 _hy8 _hz0 _hz8 W)
  generalize (highF y z).1 = s at *
  generalize (highF y z).2.1 = l at *
  generalize (highF y z).2.2 = ex at *
  go_enter Tryz.func49, Tryz.ntmps49
  go_wp2_with (go_at_call 100; refine (HL.out _).mono ?_; rintro e w' ⟨v, rfl, ho, hb⟩; obtain ⟨va, vc, rfl⟩ := ho.form; have HO := Lib.hid (ho.mono (r := fun k => w.heap.size < k) (fun k hk => Nat.lt_of_lt_of_le (H.out.blk 0 rfl).lt hk)); have H := Lib.hid (H.out.next hb); obtain ⟨e0, e1, d0, d1⟩ := (H.out.blk 0 rfl).two; clear ho hb)
  obtain ⟨h1, h2⟩ := put_ins (x := .string s) (y := .slice va l.length vc) H.out.below HO.out (fun k hk => hk) (Nat.le_refl _)
  exact bodyPost_ret (insE_end rfl rfl (((H.out.blk 0 rfl).set 0 _).set 1 _)) rfl ⟨_, rfl, h1, h2⟩
set_option maxHeartbeats 4000000 in
set_option maxRecDepth 100000 in
theorem main_1h (op y z : Int) (_h0 : 0 ≤ op) (_h8 : op < 256) (_hy : op / 8 % 8 = y) (_hz : op % 8 = z) (_hy0 : 0 ≤ y) (_hy8 : y < 8) (_hz0 : 0 ≤ z) (_hz8 : z < 8) (hx : op / 64 = 1) (h6 : y = 6) (h7 : z = 6) (w : World) : Calls Tryz.prog 49 #[.int .u8 op] w (InsE w ⟨#[72, 65, 76, 84]⟩ [] ⟨#[]⟩) := by
  have H := Lib.hid ((Fr.start w).new' 25 #[.string ⟨#[]⟩, .slice none 0 0] rfl)
  subst h6
  subst h7
  go_enter Tryz.func49, Tryz.ntmps49
  go_wp2_with (go_at_call 97; refine (frI H (ins9_any _ none 0 0 _ (opdOwn_none _ (fun k => w.heap.size < k)))).mono ?_; rintro e w' ⟨rfl, HO, H⟩; obtain ⟨e0, e1, d0, d1⟩ := (H.out.blk 0 rfl).two)
  obtain ⟨h1, h2⟩ := put_ins (x := .string ⟨#[72, 65, 76, 84]⟩) (y := .slice none 0 0) H.out.below HO.out (fun k hk => hk) (Nat.le_refl _)
  exact bodyPost_ret (insE_end rfl rfl (((H.out.blk 0 rfl).set 0 _).set 1 _)) rfl ⟨_, rfl, h1, h2⟩
set_option maxHeartbeats 4000000 in
set_option maxRecDepth 100000 in
theorem main_1a (op y z : Int) (_h0 : 0 ≤ op) (_h8 : op < 256) (_hy : op / 8 % 8 = y) (_hz : op % 8 = z) (_hy0 : 0 ≤ y) (_hy8 : y < 8) (_hz0 : 0 ≤ z) (_hz8 : z < 8) (hx : op / 64 = 1) (h6 : ¬ y = 6) (w : World) : Calls Tryz.prog 49 #[.int .u8 op] w (InsE w ⟨#[76, 68]⟩ [rF y, rF z] ⟨#[]⟩) := by
  have H := Lib.hid ((Fr.start w).new' 25 #[.string ⟨#[]⟩, .slice none 0 0] rfl)
  go_enter Tryz.func49, Tryz.ntmps49
  go_wp2_with (first
    | (go_at_call 51; refine (frO H (r_any _ _)).mono ?_; rintro e w' ⟨rfl, H⟩)
    | (go_at_call 98; refine (frL H 0 rfl (two_any _ _ _)).mono ?_; rintro e w' ⟨va, vc, rfl, HO, H⟩)
    | (go_at_call 97; refine (frI H (ins9_any _ _ _ _ _ HO.out)).mono ?_; rintro e w' ⟨rfl, HO, H⟩; obtain ⟨e0, e1, d0, d1⟩ := (H.out.blk 0 rfl).two))
  obtain ⟨h1, h2⟩ := put_ins (x := .string ⟨#[76, 68]⟩) (y := .slice va 2 vc) H.out.below HO.out (fun k hk => hk) (Nat.le_refl _)
  exact bodyPost_ret (insE_end rfl rfl (((H.out.blk 0 rfl).set 0 _).set 1 _)) rfl ⟨_, rfl, h1, h2⟩
set_option maxHeartbeats 4000000 in
set_option maxRecDepth 100000 in
theorem main_1b (op y z : Int) (_h0 : 0 ≤ op) (_h8 : op < 256) (_hy : op / 8 % 8 = y) (_hz : op % 8 = z) (_hy0 : 0 ≤ y) (_hy8 : y < 8) (_hz0 : 0 ≤ z) (_hz8 : z < 8) (hx : op / 64 = 1) (h6 : y = 6) (h7 : ¬ z = 6) (w : World) : Calls Tryz.prog 49 #[.int .u8 op] w (InsE w ⟨#[76, 68]⟩ [rF y, rF z] ⟨#[]⟩) := by
  have H := Lib.hid ((Fr.start w).new' 25 #[.string ⟨#[]⟩, .slice none 0 0] rfl)
  subst h6
  go_enter Tryz.func49, Tryz.ntmps49
  go_wp2_with (first
    | (go_at_call 51; refine (frO H (r_any _ _)).mono ?_; rintro e w' ⟨rfl, H⟩)
    | (go_at_call 98; refine (frL H 0 rfl (two_any _ _ _)).mono ?_; rintro e w' ⟨va, vc, rfl, HO, H⟩)
    | (go_at_call 97; refine (frI H (ins9_any _ _ _ _ _ HO.out)).mono ?_; rintro e w' ⟨rfl, HO, H⟩; obtain ⟨e0, e1, d0, d1⟩ := (H.out.blk 0 rfl).two))
  obtain ⟨h1, h2⟩ := put_ins (x := .string ⟨#[76, 68]⟩) (y := .slice va 2 vc) H.out.below HO.out (fun k hk => hk) (Nat.le_refl _)
  exact bodyPost_ret (insE_end rfl rfl (((H.out.blk 0 rfl).set 0 _).set 1 _)) rfl ⟨_, rfl, h1, h2⟩
set_option maxHeartbeats 4000000 in
set_option maxRecDepth 100000 in
theorem main_2 (op y z : Int) (_h0 : 0 ≤ op) (_h8 : op < 256) (_hy : op / 8 % 8 = y) (_hz : op % 8 = z) (_hy0 : 0 ≤ y) (_hy8 : y < 8) (_hz0 : 0 ≤ z) (_hz8 : z < 8) (hx : op / 64 = 2) (w : World) : Calls Tryz.prog 49 #[.int .u8 op] w (InsE w (aluF y).1 (if (aluF y).2 then [accO, rF z] else [rF z]) ⟨#[]⟩) := by
  have H := Lib.hid ((Fr.start w).new' 25 #[.string ⟨#[]⟩, .slice none 0 0] rfl)
  have HL := Lib.hid (fun W => alu_any y (rF z) W _hy0 _hy8)
  generalize (if (aluF y).2 then [accO, rF z] else [rF z]) = l at *
  generalize (aluF y).1 = s at *
  go_enter Tryz.func49, Tryz.ntmps49
  go_wp2_with (first
    | (go_at_call 51; refine (frO H (r_any _ _)).mono ?_; rintro e w' ⟨rfl, H⟩)
    | (go_at_call 99; refine (HL.out _).mono ?_; rintro e w' ⟨v, rfl, ho, hb⟩; obtain ⟨va, vc, rfl⟩ := ho.form; have HO := Lib.hid (ho.mono (r := fun k => w.heap.size < k) (fun k hk => Nat.lt_of_lt_of_le (H.out.blk 0 rfl).lt hk)); have H := Lib.hid (H.out.next hb); obtain ⟨e0, e1, d0, d1⟩ := (H.out.blk 0 rfl).two; clear ho hb))
  obtain ⟨h1, h2⟩ := put_ins (x := .string s) (y := .slice va l.length vc) H.out.below HO.out (fun k hk => hk) (Nat.le_refl _)
  exact bodyPost_ret (insE_end rfl rfl (((H.out.blk 0 rfl).set 0 _).set 1 _)) rfl ⟨_, rfl, h1, h2⟩
theorem main9_any (op : Int) (h0 : 0 ≤ op) (h8 : op < 256) (w : World) : Calls Tryz.prog 49 #[.int .u8 op] w (InsE w (mainF op).1 (mainF op).2.1 (mainF op).2.2) := by
  have hx : op / 64 = 0 ∨ op / 64 = 1 ∨ op / 64 = 2 ∨ op / 64 = 3 := by omega
  rcases hx with hx | hx | hx | hx
  · have e : mainF op = lowF (op / 8 % 8) (op % 8) := by unfold mainF; rw [if_pos hx]
    rw [e]
    exact main_0 op _ _ h0 h8 rfl rfl (by omega) (by omega) (by omega) (by omega) hx w
  · by_cases h6 : op / 8 % 8 = 6
    · by_cases h7 : op % 8 = 6
      · have e : mainF op = (⟨#[72, 65, 76, 84]⟩, [], ⟨#[]⟩) := by unfold mainF; rw [if_neg (show ¬ (op / 64 = 0) by omega), if_pos hx, if_pos ⟨h6, h7⟩]
        rw [e]
        exact main_1h op _ _ h0 h8 rfl rfl (by omega) (by omega) (by omega) (by omega) hx h6 h7 w
      · have e : mainF op = (⟨#[76, 68]⟩, [rF (op / 8 % 8), rF (op % 8)], ⟨#[]⟩) := by unfold mainF; rw [if_neg (show ¬ (op / 64 = 0) by omega), if_pos hx, if_neg (fun h => h7 h.2)]
        rw [e]
        exact main_1b op _ _ h0 h8 rfl rfl (by omega) (by omega) (by omega) (by omega) hx h6 h7 w
    · have e : mainF op = (⟨#[76, 68]⟩, [rF (op / 8 % 8), rF (op % 8)], ⟨#[]⟩) := by unfold mainF; rw [if_neg (show ¬ (op / 64 = 0) by omega), if_pos hx, if_neg (fun h => h6 h.1)]
      rw [e]
      exact main_1a op _ _ h0 h8 rfl rfl (by omega) (by omega) (by omega) (by omega) hx h6 w
  · have e : mainF op = ((aluF (op / 8 % 8)).1, (if (aluF (op / 8 % 8)).2 then [accO, rF (op % 8)] else [rF (op % 8)]), ⟨#[]⟩) := by unfold mainF; rw [if_neg (show ¬ (op / 64 = 0) by omega), if_neg (show ¬ (op / 64 = 1) by omega), if_pos hx]
    rw [e]
    exact main_2 op _ _ h0 h8 rfl rfl (by omega) (by omega) (by omega) (by omega) hx w
  · have e : mainF op = highF (op / 8 % 8) (op % 8) := by unfold mainF; rw [if_neg (show ¬ (op / 64 = 0) by omega), if_neg (show ¬ (op / 64 = 1) by omega), if_neg (show ¬ (op / 64 = 2) by omega)]
    rw [e]
    exact main_3 op _ _ h0 h8 rfl rfl (by omega) (by omega) (by omega) (by omega) hx w
end Go.Proofs.YtlepicdjnbbndaaGreatDoor
