/-
  The reference's instructions of x = 0 and x = 3, joined. Conditions: the bits.
-/
import Derived.Test.YtlepicdjnbbndaaGreatDoorS4b
import Derived.Test.YtlepicdjnbbndaaGreatDoorS4c
namespace Go.Proofs.YtlepicdjnbbndaaGreatDoor
open Go.RowKit Go.Shelf Go.Sort

def lowF (y z : Int) : ByteArray × List Opd × ByteArray :=
  if z = 0 then (if y = 0 then (⟨#[78, 79, 80]⟩, [], ⟨#[]⟩) else (if y = 1 then (⟨#[69, 88]⟩, [rpF 3 4, rpF 3 7], ⟨#[]⟩) else (if y = 2 then (⟨#[68, 74, 78, 90]⟩, [relO], ⟨#[101]⟩) else (if y = 3 then (⟨#[74, 82]⟩, [relO], ⟨#[101]⟩) else (⟨#[74, 82]⟩, [ccO (y - 4), relO], ⟨#[101]⟩))))) else
  if z = 1 then (if y % 2 = 0 then (⟨#[76, 68]⟩, [rpF (y / 2) 3, immO 0], ⟨#[119]⟩) else (⟨#[65, 68, 68]⟩, [rpF 2 3, rpF (y / 2) 3], ⟨#[]⟩)) else
  if z = 2 then (if y % 2 = 0 then (if y < 4 then (⟨#[76, 68]⟩, [indO (y / 2), accO], ⟨#[]⟩) else (if y < 6 then (⟨#[76, 68]⟩, [memO, rpF 2 3], ⟨#[119]⟩) else (⟨#[76, 68]⟩, [memO, accO], ⟨#[119]⟩))) else (if y < 4 then (⟨#[76, 68]⟩, [accO, indO (y / 2)], ⟨#[]⟩) else (if y < 6 then (⟨#[76, 68]⟩, [rpF 2 3, memO], ⟨#[119]⟩) else (⟨#[76, 68]⟩, [accO, memO], ⟨#[119]⟩)))) else
  if z = 3 then (if y % 2 = 0 then (⟨#[73, 78, 67]⟩, [rpF (y / 2) 3], ⟨#[]⟩) else (⟨#[68, 69, 67]⟩, [rpF (y / 2) 3], ⟨#[]⟩)) else
  if z = 4 then (⟨#[73, 78, 67]⟩, [rF y], ⟨#[]⟩) else
  if z = 5 then (⟨#[68, 69, 67]⟩, [rF y], ⟨#[]⟩) else
  if z = 6 then (⟨#[76, 68]⟩, [rF y, immO 0], ⟨#[110]⟩) else
  (if y = 0 then (⟨#[82, 76, 67, 65]⟩, [], ⟨#[]⟩) else (if y = 1 then (⟨#[82, 82, 67, 65]⟩, [], ⟨#[]⟩) else (if y = 2 then (⟨#[82, 76, 65]⟩, [], ⟨#[]⟩) else (if y = 3 then (⟨#[82, 82, 65]⟩, [], ⟨#[]⟩) else (if y = 4 then (⟨#[68, 65, 65]⟩, [], ⟨#[]⟩) else (if y = 5 then (⟨#[67, 80, 76]⟩, [], ⟨#[]⟩) else (if y = 6 then (⟨#[83, 67, 70]⟩, [], ⟨#[]⟩) else (⟨#[67, 67, 70]⟩, [], ⟨#[]⟩))))))))
set_option maxRecDepth 100000 in
theorem low_any (y z : Int) (hy0 : 0 ≤ y) (hy8 : y < 8) (hz0 : 0 ≤ z) (hz8 : z < 8) (w : World) : Calls Tryz.prog 96 #[.int .i64 y, .int .i64 z] w (InsE w (lowF y z).1 (lowF y z).2.1 (lowF y z).2.2) := by
  have hz : z = 0 ∨ z = 1 ∨ z = 2 ∨ z = 3 ∨ z = 4 ∨ z = 5 ∨ z = 6 ∨ z = 7 := by omega
  rcases hz with rfl | rfl | rfl | rfl | rfl | rfl | rfl | rfl
  · skip
    by_cases h0 : y = 0
    · subst h0
      have e : lowF 0 0 = (⟨#[78, 79, 80]⟩, [], ⟨#[]⟩) := by unfold lowF; rw [if_pos (show ((0 : Int) = 0) by omega), if_pos (show ((0 : Int) = 0) by omega)]
      rw [e]
      exact low_0_0 w
    · skip
      by_cases h1 : y = 1
      · subst h1
        have e : lowF 1 0 = (⟨#[69, 88]⟩, [rpF 3 4, rpF 3 7], ⟨#[]⟩) := by unfold lowF; rw [if_pos (show ((0 : Int) = 0) by omega), if_neg (show ¬ ((1 : Int) = 0) by omega), if_pos (show ((1 : Int) = 1) by omega)]
        rw [e]
        exact low_0_1 w
      · skip
        by_cases h2 : y = 2
        · subst h2
          have e : lowF 2 0 = (⟨#[68, 74, 78, 90]⟩, [relO], ⟨#[101]⟩) := by unfold lowF; rw [if_pos (show ((0 : Int) = 0) by omega), if_neg (show ¬ ((2 : Int) = 0) by omega), if_neg (show ¬ ((2 : Int) = 1) by omega), if_pos (show ((2 : Int) = 2) by omega)]
          rw [e]
          exact low_0_2 w
        · skip
          by_cases h3 : y = 3
          · subst h3
            have e : lowF 3 0 = (⟨#[74, 82]⟩, [relO], ⟨#[101]⟩) := by unfold lowF; rw [if_pos (show ((0 : Int) = 0) by omega), if_neg (show ¬ ((3 : Int) = 0) by omega), if_neg (show ¬ ((3 : Int) = 1) by omega), if_neg (show ¬ ((3 : Int) = 2) by omega), if_pos (show ((3 : Int) = 3) by omega)]
            rw [e]
            exact low_0_3 w
          · skip
            have e : lowF y 0 = (⟨#[74, 82]⟩, [ccO (y - 4), relO], ⟨#[101]⟩) := by unfold lowF; rw [if_pos (show ((0 : Int) = 0) by omega), if_neg (show ¬ (y = 0) by omega), if_neg (show ¬ (y = 1) by omega), if_neg (show ¬ (y = 2) by omega), if_neg (show ¬ (y = 3) by omega)]
            rw [e]
            exact low_0_4 y (by omega) (by omega) w
  · skip
    by_cases h0 : y % 2 = 0
    · skip
      have e : lowF y 1 = (⟨#[76, 68]⟩, [rpF (y / 2) 3, immO 0], ⟨#[119]⟩) := by unfold lowF; rw [if_neg (show ¬ ((1 : Int) = 0) by omega), if_pos (show ((1 : Int) = 1) by omega), if_pos (show (y % 2 = 0) by omega)]
      rw [e]
      exact low_1_0 y (by omega) (by omega) (by omega) w
    · skip
      have e : lowF y 1 = (⟨#[65, 68, 68]⟩, [rpF 2 3, rpF (y / 2) 3], ⟨#[]⟩) := by unfold lowF; rw [if_neg (show ¬ ((1 : Int) = 0) by omega), if_pos (show ((1 : Int) = 1) by omega), if_neg (show ¬ (y % 2 = 0) by omega)]
      rw [e]
      exact low_1_1 y (by omega) (by omega) (by omega) w
  · skip
    by_cases h0 : y % 2 = 0
    · skip
      by_cases h1 : y < 4
      · skip
        have e : lowF y 2 = (⟨#[76, 68]⟩, [indO (y / 2), accO], ⟨#[]⟩) := by unfold lowF; rw [if_neg (show ¬ ((2 : Int) = 0) by omega), if_neg (show ¬ ((2 : Int) = 1) by omega), if_pos (show ((2 : Int) = 2) by omega), if_pos (show (y % 2 = 0) by omega), if_pos (show (y < 4) by omega)]
        rw [e]
        exact low_2_0a y (by omega) (by omega) (by omega) w
      · skip
        by_cases h2 : y < 6
        · skip
          have e : lowF y 2 = (⟨#[76, 68]⟩, [memO, rpF 2 3], ⟨#[119]⟩) := by unfold lowF; rw [if_neg (show ¬ ((2 : Int) = 0) by omega), if_neg (show ¬ ((2 : Int) = 1) by omega), if_pos (show ((2 : Int) = 2) by omega), if_pos (show (y % 2 = 0) by omega), if_neg (show ¬ (y < 4) by omega), if_pos (show (y < 6) by omega)]
          rw [e]
          exact low_2_0b y (by omega) (by omega) (by omega) w
        · skip
          have e : lowF y 2 = (⟨#[76, 68]⟩, [memO, accO], ⟨#[119]⟩) := by unfold lowF; rw [if_neg (show ¬ ((2 : Int) = 0) by omega), if_neg (show ¬ ((2 : Int) = 1) by omega), if_pos (show ((2 : Int) = 2) by omega), if_pos (show (y % 2 = 0) by omega), if_neg (show ¬ (y < 4) by omega), if_neg (show ¬ (y < 6) by omega)]
          rw [e]
          exact low_2_0c y (by omega) (by omega) (by omega) w
    · skip
      by_cases h1 : y < 4
      · skip
        have e : lowF y 2 = (⟨#[76, 68]⟩, [accO, indO (y / 2)], ⟨#[]⟩) := by unfold lowF; rw [if_neg (show ¬ ((2 : Int) = 0) by omega), if_neg (show ¬ ((2 : Int) = 1) by omega), if_pos (show ((2 : Int) = 2) by omega), if_neg (show ¬ (y % 2 = 0) by omega), if_pos (show (y < 4) by omega)]
        rw [e]
        exact low_2_1a y (by omega) (by omega) (by omega) w
      · skip
        by_cases h2 : y < 6
        · skip
          have e : lowF y 2 = (⟨#[76, 68]⟩, [rpF 2 3, memO], ⟨#[119]⟩) := by unfold lowF; rw [if_neg (show ¬ ((2 : Int) = 0) by omega), if_neg (show ¬ ((2 : Int) = 1) by omega), if_pos (show ((2 : Int) = 2) by omega), if_neg (show ¬ (y % 2 = 0) by omega), if_neg (show ¬ (y < 4) by omega), if_pos (show (y < 6) by omega)]
          rw [e]
          exact low_2_1b y (by omega) (by omega) (by omega) w
        · skip
          have e : lowF y 2 = (⟨#[76, 68]⟩, [accO, memO], ⟨#[119]⟩) := by unfold lowF; rw [if_neg (show ¬ ((2 : Int) = 0) by omega), if_neg (show ¬ ((2 : Int) = 1) by omega), if_pos (show ((2 : Int) = 2) by omega), if_neg (show ¬ (y % 2 = 0) by omega), if_neg (show ¬ (y < 4) by omega), if_neg (show ¬ (y < 6) by omega)]
          rw [e]
          exact low_2_1c y (by omega) (by omega) (by omega) w
  · skip
    by_cases h0 : y % 2 = 0
    · skip
      have e : lowF y 3 = (⟨#[73, 78, 67]⟩, [rpF (y / 2) 3], ⟨#[]⟩) := by unfold lowF; rw [if_neg (show ¬ ((3 : Int) = 0) by omega), if_neg (show ¬ ((3 : Int) = 1) by omega), if_neg (show ¬ ((3 : Int) = 2) by omega), if_pos (show ((3 : Int) = 3) by omega), if_pos (show (y % 2 = 0) by omega)]
      rw [e]
      exact low_3_0 y (by omega) (by omega) (by omega) w
    · skip
      have e : lowF y 3 = (⟨#[68, 69, 67]⟩, [rpF (y / 2) 3], ⟨#[]⟩) := by unfold lowF; rw [if_neg (show ¬ ((3 : Int) = 0) by omega), if_neg (show ¬ ((3 : Int) = 1) by omega), if_neg (show ¬ ((3 : Int) = 2) by omega), if_pos (show ((3 : Int) = 3) by omega), if_neg (show ¬ (y % 2 = 0) by omega)]
      rw [e]
      exact low_3_1 y (by omega) (by omega) (by omega) w
  · skip
    have e : lowF y 4 = (⟨#[73, 78, 67]⟩, [rF y], ⟨#[]⟩) := by unfold lowF; rw [if_neg (show ¬ ((4 : Int) = 0) by omega), if_neg (show ¬ ((4 : Int) = 1) by omega), if_neg (show ¬ ((4 : Int) = 2) by omega), if_neg (show ¬ ((4 : Int) = 3) by omega), if_pos (show ((4 : Int) = 4) by omega)]
    rw [e]
    exact low_4 y (by omega) (by omega) w
  · skip
    have e : lowF y 5 = (⟨#[68, 69, 67]⟩, [rF y], ⟨#[]⟩) := by unfold lowF; rw [if_neg (show ¬ ((5 : Int) = 0) by omega), if_neg (show ¬ ((5 : Int) = 1) by omega), if_neg (show ¬ ((5 : Int) = 2) by omega), if_neg (show ¬ ((5 : Int) = 3) by omega), if_neg (show ¬ ((5 : Int) = 4) by omega), if_pos (show ((5 : Int) = 5) by omega)]
    rw [e]
    exact low_5 y (by omega) (by omega) w
  · skip
    have e : lowF y 6 = (⟨#[76, 68]⟩, [rF y, immO 0], ⟨#[110]⟩) := by unfold lowF; rw [if_neg (show ¬ ((6 : Int) = 0) by omega), if_neg (show ¬ ((6 : Int) = 1) by omega), if_neg (show ¬ ((6 : Int) = 2) by omega), if_neg (show ¬ ((6 : Int) = 3) by omega), if_neg (show ¬ ((6 : Int) = 4) by omega), if_neg (show ¬ ((6 : Int) = 5) by omega), if_pos (show ((6 : Int) = 6) by omega)]
    rw [e]
    exact low_6 y (by omega) (by omega) w
  · skip
    by_cases h0 : y = 0
    · subst h0
      have e : lowF 0 7 = (⟨#[82, 76, 67, 65]⟩, [], ⟨#[]⟩) := by unfold lowF; rw [if_neg (show ¬ ((7 : Int) = 0) by omega), if_neg (show ¬ ((7 : Int) = 1) by omega), if_neg (show ¬ ((7 : Int) = 2) by omega), if_neg (show ¬ ((7 : Int) = 3) by omega), if_neg (show ¬ ((7 : Int) = 4) by omega), if_neg (show ¬ ((7 : Int) = 5) by omega), if_neg (show ¬ ((7 : Int) = 6) by omega), if_pos (show ((0 : Int) = 0) by omega)]
      rw [e]
      exact low_7_0 w
    · skip
      by_cases h1 : y = 1
      · subst h1
        have e : lowF 1 7 = (⟨#[82, 82, 67, 65]⟩, [], ⟨#[]⟩) := by unfold lowF; rw [if_neg (show ¬ ((7 : Int) = 0) by omega), if_neg (show ¬ ((7 : Int) = 1) by omega), if_neg (show ¬ ((7 : Int) = 2) by omega), if_neg (show ¬ ((7 : Int) = 3) by omega), if_neg (show ¬ ((7 : Int) = 4) by omega), if_neg (show ¬ ((7 : Int) = 5) by omega), if_neg (show ¬ ((7 : Int) = 6) by omega), if_neg (show ¬ ((1 : Int) = 0) by omega), if_pos (show ((1 : Int) = 1) by omega)]
        rw [e]
        exact low_7_1 w
      · skip
        by_cases h2 : y = 2
        · subst h2
          have e : lowF 2 7 = (⟨#[82, 76, 65]⟩, [], ⟨#[]⟩) := by unfold lowF; rw [if_neg (show ¬ ((7 : Int) = 0) by omega), if_neg (show ¬ ((7 : Int) = 1) by omega), if_neg (show ¬ ((7 : Int) = 2) by omega), if_neg (show ¬ ((7 : Int) = 3) by omega), if_neg (show ¬ ((7 : Int) = 4) by omega), if_neg (show ¬ ((7 : Int) = 5) by omega), if_neg (show ¬ ((7 : Int) = 6) by omega), if_neg (show ¬ ((2 : Int) = 0) by omega), if_neg (show ¬ ((2 : Int) = 1) by omega), if_pos (show ((2 : Int) = 2) by omega)]
          rw [e]
          exact low_7_2 w
        · skip
          by_cases h3 : y = 3
          · subst h3
            have e : lowF 3 7 = (⟨#[82, 82, 65]⟩, [], ⟨#[]⟩) := by unfold lowF; rw [if_neg (show ¬ ((7 : Int) = 0) by omega), if_neg (show ¬ ((7 : Int) = 1) by omega), if_neg (show ¬ ((7 : Int) = 2) by omega), if_neg (show ¬ ((7 : Int) = 3) by omega), if_neg (show ¬ ((7 : Int) = 4) by omega), if_neg (show ¬ ((7 : Int) = 5) by omega), if_neg (show ¬ ((7 : Int) = 6) by omega), if_neg (show ¬ ((3 : Int) = 0) by omega), if_neg (show ¬ ((3 : Int) = 1) by omega), if_neg (show ¬ ((3 : Int) = 2) by omega), if_pos (show ((3 : Int) = 3) by omega)]
            rw [e]
            exact low_7_3 w
          · skip
            by_cases h4 : y = 4
            · subst h4
              have e : lowF 4 7 = (⟨#[68, 65, 65]⟩, [], ⟨#[]⟩) := by unfold lowF; rw [if_neg (show ¬ ((7 : Int) = 0) by omega), if_neg (show ¬ ((7 : Int) = 1) by omega), if_neg (show ¬ ((7 : Int) = 2) by omega), if_neg (show ¬ ((7 : Int) = 3) by omega), if_neg (show ¬ ((7 : Int) = 4) by omega), if_neg (show ¬ ((7 : Int) = 5) by omega), if_neg (show ¬ ((7 : Int) = 6) by omega), if_neg (show ¬ ((4 : Int) = 0) by omega), if_neg (show ¬ ((4 : Int) = 1) by omega), if_neg (show ¬ ((4 : Int) = 2) by omega), if_neg (show ¬ ((4 : Int) = 3) by omega), if_pos (show ((4 : Int) = 4) by omega)]
              rw [e]
              exact low_7_4 w
            · skip
              by_cases h5 : y = 5
              · subst h5
                have e : lowF 5 7 = (⟨#[67, 80, 76]⟩, [], ⟨#[]⟩) := by unfold lowF; rw [if_neg (show ¬ ((7 : Int) = 0) by omega), if_neg (show ¬ ((7 : Int) = 1) by omega), if_neg (show ¬ ((7 : Int) = 2) by omega), if_neg (show ¬ ((7 : Int) = 3) by omega), if_neg (show ¬ ((7 : Int) = 4) by omega), if_neg (show ¬ ((7 : Int) = 5) by omega), if_neg (show ¬ ((7 : Int) = 6) by omega), if_neg (show ¬ ((5 : Int) = 0) by omega), if_neg (show ¬ ((5 : Int) = 1) by omega), if_neg (show ¬ ((5 : Int) = 2) by omega), if_neg (show ¬ ((5 : Int) = 3) by omega), if_neg (show ¬ ((5 : Int) = 4) by omega), if_pos (show ((5 : Int) = 5) by omega)]
                rw [e]
                exact low_7_5 w
              · skip
                by_cases h6 : y = 6
                · subst h6
                  have e : lowF 6 7 = (⟨#[83, 67, 70]⟩, [], ⟨#[]⟩) := by unfold lowF; rw [if_neg (show ¬ ((7 : Int) = 0) by omega), if_neg (show ¬ ((7 : Int) = 1) by omega), if_neg (show ¬ ((7 : Int) = 2) by omega), if_neg (show ¬ ((7 : Int) = 3) by omega), if_neg (show ¬ ((7 : Int) = 4) by omega), if_neg (show ¬ ((7 : Int) = 5) by omega), if_neg (show ¬ ((7 : Int) = 6) by omega), if_neg (show ¬ ((6 : Int) = 0) by omega), if_neg (show ¬ ((6 : Int) = 1) by omega), if_neg (show ¬ ((6 : Int) = 2) by omega), if_neg (show ¬ ((6 : Int) = 3) by omega), if_neg (show ¬ ((6 : Int) = 4) by omega), if_neg (show ¬ ((6 : Int) = 5) by omega), if_pos (show ((6 : Int) = 6) by omega)]
                  rw [e]
                  exact low_7_6 w
                · skip
                  obtain rfl : y = 7 := by omega
                  have e : lowF 7 7 = (⟨#[67, 67, 70]⟩, [], ⟨#[]⟩) := by unfold lowF; rw [if_neg (show ¬ ((7 : Int) = 0) by omega), if_neg (show ¬ ((7 : Int) = 1) by omega), if_neg (show ¬ ((7 : Int) = 2) by omega), if_neg (show ¬ ((7 : Int) = 3) by omega), if_neg (show ¬ ((7 : Int) = 4) by omega), if_neg (show ¬ ((7 : Int) = 5) by omega), if_neg (show ¬ ((7 : Int) = 6) by omega), if_neg (show ¬ ((7 : Int) = 0) by omega), if_neg (show ¬ ((7 : Int) = 1) by omega), if_neg (show ¬ ((7 : Int) = 2) by omega), if_neg (show ¬ ((7 : Int) = 3) by omega), if_neg (show ¬ ((7 : Int) = 4) by omega), if_neg (show ¬ ((7 : Int) = 5) by omega), if_neg (show ¬ ((7 : Int) = 6) by omega)]
                  rw [e]
                  exact low_7_7 w
def highF (y z : Int) : ByteArray × List Opd × ByteArray :=
  if z = 0 then (⟨#[82, 69, 84]⟩, [ccO y], ⟨#[]⟩) else
  if z = 1 then (if y % 2 = 0 then (⟨#[80, 79, 80]⟩, [rpF (y / 2) 4], ⟨#[]⟩) else (if y = 1 then (⟨#[82, 69, 84]⟩, [], ⟨#[]⟩) else (if y = 3 then (⟨#[69, 88, 88]⟩, [], ⟨#[]⟩) else (if y = 5 then (⟨#[74, 80]⟩, [indO 2], ⟨#[]⟩) else (⟨#[76, 68]⟩, [rpF 3 3, rpF 2 3], ⟨#[]⟩))))) else
  if z = 2 then (⟨#[74, 80]⟩, [ccO y, immO 0], ⟨#[119]⟩) else
  if z = 3 then (if y = 0 then (⟨#[74, 80]⟩, [immO 0], ⟨#[119]⟩) else (if y = 1 then (⟨#[]⟩, [], ⟨#[]⟩) else (if y = 2 then (⟨#[79, 85, 84]⟩, [memO, accO], ⟨#[110]⟩) else (if y = 3 then (⟨#[73, 78]⟩, [accO, memO], ⟨#[110]⟩) else (if y = 4 then (⟨#[69, 88]⟩, [indO 3, rpF 2 3], ⟨#[]⟩) else (if y = 5 then (⟨#[69, 88]⟩, [rpF 1 3, rpF 2 3], ⟨#[]⟩) else (if y = 6 then (⟨#[68, 73]⟩, [], ⟨#[]⟩) else (⟨#[69, 73]⟩, [], ⟨#[]⟩)))))))) else
  if z = 4 then (⟨#[67, 65, 76, 76]⟩, [ccO y, immO 0], ⟨#[119]⟩) else
  if z = 5 then (if y % 2 = 0 then (⟨#[80, 85, 83, 72]⟩, [rpF (y / 2) 4], ⟨#[]⟩) else (if y = 1 then (⟨#[67, 65, 76, 76]⟩, [immO 0], ⟨#[119]⟩) else (⟨#[]⟩, [], ⟨#[]⟩))) else
  if z = 6 then ((aluF y).1, (if (aluF y).2 then [accO, immO 0] else [immO 0]), ⟨#[110]⟩) else
  (⟨#[82, 83, 84]⟩, [immO (8 * y)], ⟨#[]⟩)
set_option maxRecDepth 100000 in
theorem high_any (y z : Int) (hy0 : 0 ≤ y) (hy8 : y < 8) (hz0 : 0 ≤ z) (hz8 : z < 8) (w : World) : Calls Tryz.prog 100 #[.int .i64 y, .int .i64 z] w (InsE w (highF y z).1 (highF y z).2.1 (highF y z).2.2) := by
  have hz : z = 0 ∨ z = 1 ∨ z = 2 ∨ z = 3 ∨ z = 4 ∨ z = 5 ∨ z = 6 ∨ z = 7 := by omega
  rcases hz with rfl | rfl | rfl | rfl | rfl | rfl | rfl | rfl
  · skip
    have e : highF y 0 = (⟨#[82, 69, 84]⟩, [ccO y], ⟨#[]⟩) := by unfold highF; rw [if_pos (show ((0 : Int) = 0) by omega)]
    rw [e]
    exact high_0 y (by omega) (by omega) w
  · skip
    by_cases h0 : y % 2 = 0
    · skip
      have e : highF y 1 = (⟨#[80, 79, 80]⟩, [rpF (y / 2) 4], ⟨#[]⟩) := by unfold highF; rw [if_neg (show ¬ ((1 : Int) = 0) by omega), if_pos (show ((1 : Int) = 1) by omega), if_pos (show (y % 2 = 0) by omega)]
      rw [e]
      exact high_1_0 y (by omega) (by omega) (by omega) w
    · skip
      by_cases h1 : y = 1
      · subst h1
        have e : highF 1 1 = (⟨#[82, 69, 84]⟩, [], ⟨#[]⟩) := by unfold highF; rw [if_neg (show ¬ ((1 : Int) = 0) by omega), if_pos (show ((1 : Int) = 1) by omega), if_neg (show ¬ ((1 : Int) % 2 = 0) by omega), if_pos (show ((1 : Int) = 1) by omega)]
        rw [e]
        exact high_1_1 w
      · skip
        by_cases h2 : y = 3
        · subst h2
          have e : highF 3 1 = (⟨#[69, 88, 88]⟩, [], ⟨#[]⟩) := by unfold highF; rw [if_neg (show ¬ ((1 : Int) = 0) by omega), if_pos (show ((1 : Int) = 1) by omega), if_neg (show ¬ ((3 : Int) % 2 = 0) by omega), if_neg (show ¬ ((3 : Int) = 1) by omega), if_pos (show ((3 : Int) = 3) by omega)]
          rw [e]
          exact high_1_3 w
        · skip
          by_cases h3 : y = 5
          · subst h3
            have e : highF 5 1 = (⟨#[74, 80]⟩, [indO 2], ⟨#[]⟩) := by unfold highF; rw [if_neg (show ¬ ((1 : Int) = 0) by omega), if_pos (show ((1 : Int) = 1) by omega), if_neg (show ¬ ((5 : Int) % 2 = 0) by omega), if_neg (show ¬ ((5 : Int) = 1) by omega), if_neg (show ¬ ((5 : Int) = 3) by omega), if_pos (show ((5 : Int) = 5) by omega)]
            rw [e]
            exact high_1_5 w
          · skip
            obtain rfl : y = 7 := by omega
            have e : highF 7 1 = (⟨#[76, 68]⟩, [rpF 3 3, rpF 2 3], ⟨#[]⟩) := by unfold highF; rw [if_neg (show ¬ ((1 : Int) = 0) by omega), if_pos (show ((1 : Int) = 1) by omega), if_neg (show ¬ ((7 : Int) % 2 = 0) by omega), if_neg (show ¬ ((7 : Int) = 1) by omega), if_neg (show ¬ ((7 : Int) = 3) by omega), if_neg (show ¬ ((7 : Int) = 5) by omega)]
            rw [e]
            exact high_1_7 w
  · skip
    have e : highF y 2 = (⟨#[74, 80]⟩, [ccO y, immO 0], ⟨#[119]⟩) := by unfold highF; rw [if_neg (show ¬ ((2 : Int) = 0) by omega), if_neg (show ¬ ((2 : Int) = 1) by omega), if_pos (show ((2 : Int) = 2) by omega)]
    rw [e]
    exact high_2 y (by omega) (by omega) w
  · skip
    by_cases h0 : y = 0
    · subst h0
      have e : highF 0 3 = (⟨#[74, 80]⟩, [immO 0], ⟨#[119]⟩) := by unfold highF; rw [if_neg (show ¬ ((3 : Int) = 0) by omega), if_neg (show ¬ ((3 : Int) = 1) by omega), if_neg (show ¬ ((3 : Int) = 2) by omega), if_pos (show ((3 : Int) = 3) by omega), if_pos (show ((0 : Int) = 0) by omega)]
      rw [e]
      exact high_3_0 w
    · skip
      by_cases h1 : y = 1
      · subst h1
        have e : highF 1 3 = (⟨#[]⟩, [], ⟨#[]⟩) := by unfold highF; rw [if_neg (show ¬ ((3 : Int) = 0) by omega), if_neg (show ¬ ((3 : Int) = 1) by omega), if_neg (show ¬ ((3 : Int) = 2) by omega), if_pos (show ((3 : Int) = 3) by omega), if_neg (show ¬ ((1 : Int) = 0) by omega), if_pos (show ((1 : Int) = 1) by omega)]
        rw [e]
        exact high_3_1 w
      · skip
        by_cases h2 : y = 2
        · subst h2
          have e : highF 2 3 = (⟨#[79, 85, 84]⟩, [memO, accO], ⟨#[110]⟩) := by unfold highF; rw [if_neg (show ¬ ((3 : Int) = 0) by omega), if_neg (show ¬ ((3 : Int) = 1) by omega), if_neg (show ¬ ((3 : Int) = 2) by omega), if_pos (show ((3 : Int) = 3) by omega), if_neg (show ¬ ((2 : Int) = 0) by omega), if_neg (show ¬ ((2 : Int) = 1) by omega), if_pos (show ((2 : Int) = 2) by omega)]
          rw [e]
          exact high_3_2 w
        · skip
          by_cases h3 : y = 3
          · subst h3
            have e : highF 3 3 = (⟨#[73, 78]⟩, [accO, memO], ⟨#[110]⟩) := by unfold highF; rw [if_neg (show ¬ ((3 : Int) = 0) by omega), if_neg (show ¬ ((3 : Int) = 1) by omega), if_neg (show ¬ ((3 : Int) = 2) by omega), if_pos (show ((3 : Int) = 3) by omega), if_neg (show ¬ ((3 : Int) = 0) by omega), if_neg (show ¬ ((3 : Int) = 1) by omega), if_neg (show ¬ ((3 : Int) = 2) by omega), if_pos (show ((3 : Int) = 3) by omega)]
            rw [e]
            exact high_3_3 w
          · skip
            by_cases h4 : y = 4
            · subst h4
              have e : highF 4 3 = (⟨#[69, 88]⟩, [indO 3, rpF 2 3], ⟨#[]⟩) := by unfold highF; rw [if_neg (show ¬ ((3 : Int) = 0) by omega), if_neg (show ¬ ((3 : Int) = 1) by omega), if_neg (show ¬ ((3 : Int) = 2) by omega), if_pos (show ((3 : Int) = 3) by omega), if_neg (show ¬ ((4 : Int) = 0) by omega), if_neg (show ¬ ((4 : Int) = 1) by omega), if_neg (show ¬ ((4 : Int) = 2) by omega), if_neg (show ¬ ((4 : Int) = 3) by omega), if_pos (show ((4 : Int) = 4) by omega)]
              rw [e]
              exact high_3_4 w
            · skip
              by_cases h5 : y = 5
              · subst h5
                have e : highF 5 3 = (⟨#[69, 88]⟩, [rpF 1 3, rpF 2 3], ⟨#[]⟩) := by unfold highF; rw [if_neg (show ¬ ((3 : Int) = 0) by omega), if_neg (show ¬ ((3 : Int) = 1) by omega), if_neg (show ¬ ((3 : Int) = 2) by omega), if_pos (show ((3 : Int) = 3) by omega), if_neg (show ¬ ((5 : Int) = 0) by omega), if_neg (show ¬ ((5 : Int) = 1) by omega), if_neg (show ¬ ((5 : Int) = 2) by omega), if_neg (show ¬ ((5 : Int) = 3) by omega), if_neg (show ¬ ((5 : Int) = 4) by omega), if_pos (show ((5 : Int) = 5) by omega)]
                rw [e]
                exact high_3_5 w
              · skip
                by_cases h6 : y = 6
                · subst h6
                  have e : highF 6 3 = (⟨#[68, 73]⟩, [], ⟨#[]⟩) := by unfold highF; rw [if_neg (show ¬ ((3 : Int) = 0) by omega), if_neg (show ¬ ((3 : Int) = 1) by omega), if_neg (show ¬ ((3 : Int) = 2) by omega), if_pos (show ((3 : Int) = 3) by omega), if_neg (show ¬ ((6 : Int) = 0) by omega), if_neg (show ¬ ((6 : Int) = 1) by omega), if_neg (show ¬ ((6 : Int) = 2) by omega), if_neg (show ¬ ((6 : Int) = 3) by omega), if_neg (show ¬ ((6 : Int) = 4) by omega), if_neg (show ¬ ((6 : Int) = 5) by omega), if_pos (show ((6 : Int) = 6) by omega)]
                  rw [e]
                  exact high_3_6 w
                · skip
                  obtain rfl : y = 7 := by omega
                  have e : highF 7 3 = (⟨#[69, 73]⟩, [], ⟨#[]⟩) := by unfold highF; rw [if_neg (show ¬ ((3 : Int) = 0) by omega), if_neg (show ¬ ((3 : Int) = 1) by omega), if_neg (show ¬ ((3 : Int) = 2) by omega), if_pos (show ((3 : Int) = 3) by omega), if_neg (show ¬ ((7 : Int) = 0) by omega), if_neg (show ¬ ((7 : Int) = 1) by omega), if_neg (show ¬ ((7 : Int) = 2) by omega), if_neg (show ¬ ((7 : Int) = 3) by omega), if_neg (show ¬ ((7 : Int) = 4) by omega), if_neg (show ¬ ((7 : Int) = 5) by omega), if_neg (show ¬ ((7 : Int) = 6) by omega)]
                  rw [e]
                  exact high_3_7 w
  · skip
    have e : highF y 4 = (⟨#[67, 65, 76, 76]⟩, [ccO y, immO 0], ⟨#[119]⟩) := by unfold highF; rw [if_neg (show ¬ ((4 : Int) = 0) by omega), if_neg (show ¬ ((4 : Int) = 1) by omega), if_neg (show ¬ ((4 : Int) = 2) by omega), if_neg (show ¬ ((4 : Int) = 3) by omega), if_pos (show ((4 : Int) = 4) by omega)]
    rw [e]
    exact high_4 y (by omega) (by omega) w
  · skip
    by_cases h0 : y % 2 = 0
    · skip
      have e : highF y 5 = (⟨#[80, 85, 83, 72]⟩, [rpF (y / 2) 4], ⟨#[]⟩) := by unfold highF; rw [if_neg (show ¬ ((5 : Int) = 0) by omega), if_neg (show ¬ ((5 : Int) = 1) by omega), if_neg (show ¬ ((5 : Int) = 2) by omega), if_neg (show ¬ ((5 : Int) = 3) by omega), if_neg (show ¬ ((5 : Int) = 4) by omega), if_pos (show ((5 : Int) = 5) by omega), if_pos (show (y % 2 = 0) by omega)]
      rw [e]
      exact high_5_0 y (by omega) (by omega) (by omega) w
    · skip
      by_cases h1 : y = 1
      · subst h1
        have e : highF 1 5 = (⟨#[67, 65, 76, 76]⟩, [immO 0], ⟨#[119]⟩) := by unfold highF; rw [if_neg (show ¬ ((5 : Int) = 0) by omega), if_neg (show ¬ ((5 : Int) = 1) by omega), if_neg (show ¬ ((5 : Int) = 2) by omega), if_neg (show ¬ ((5 : Int) = 3) by omega), if_neg (show ¬ ((5 : Int) = 4) by omega), if_pos (show ((5 : Int) = 5) by omega), if_neg (show ¬ ((1 : Int) % 2 = 0) by omega), if_pos (show ((1 : Int) = 1) by omega)]
        rw [e]
        exact high_5_1 w
      · skip
        have e : highF y 5 = (⟨#[]⟩, [], ⟨#[]⟩) := by unfold highF; rw [if_neg (show ¬ ((5 : Int) = 0) by omega), if_neg (show ¬ ((5 : Int) = 1) by omega), if_neg (show ¬ ((5 : Int) = 2) by omega), if_neg (show ¬ ((5 : Int) = 3) by omega), if_neg (show ¬ ((5 : Int) = 4) by omega), if_pos (show ((5 : Int) = 5) by omega), if_neg (show ¬ (y % 2 = 0) by omega), if_neg (show ¬ (y = 1) by omega)]
        rw [e]
        exact high_5_x y (by omega) (by omega) (by omega) (by omega) w
  · skip
    have e : highF y 6 = ((aluF y).1, (if (aluF y).2 then [accO, immO 0] else [immO 0]), ⟨#[110]⟩) := by unfold highF; rw [if_neg (show ¬ ((6 : Int) = 0) by omega), if_neg (show ¬ ((6 : Int) = 1) by omega), if_neg (show ¬ ((6 : Int) = 2) by omega), if_neg (show ¬ ((6 : Int) = 3) by omega), if_neg (show ¬ ((6 : Int) = 4) by omega), if_neg (show ¬ ((6 : Int) = 5) by omega), if_pos (show ((6 : Int) = 6) by omega)]
    rw [e]
    exact high_6 y (by omega) (by omega) w
  · skip
    have e : highF y 7 = (⟨#[82, 83, 84]⟩, [immO (8 * y)], ⟨#[]⟩) := by unfold highF; rw [if_neg (show ¬ ((7 : Int) = 0) by omega), if_neg (show ¬ ((7 : Int) = 1) by omega), if_neg (show ¬ ((7 : Int) = 2) by omega), if_neg (show ¬ ((7 : Int) = 3) by omega), if_neg (show ¬ ((7 : Int) = 4) by omega), if_neg (show ¬ ((7 : Int) = 5) by omega), if_neg (show ¬ ((7 : Int) = 6) by omega)]
    rw [e]
    exact high_7 y (by omega) (by omega) w
end Go.Proofs.YtlepicdjnbbndaaGreatDoor
