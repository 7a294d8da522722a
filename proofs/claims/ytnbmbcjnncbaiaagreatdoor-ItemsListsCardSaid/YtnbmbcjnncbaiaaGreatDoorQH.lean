/-
  The reference's Main. Conditions: none.
-/
import Derived.Test.YtnbmbcjnncbaiaaGreatDoorPH
import Derived.Test.YtnbmbcjnncbaiaaGreatDoorSX
namespace Go.Proofs.YtnbmbcjnncbaiaaGreatDoor
set_option maxHeartbeats 4000000
set_option maxRecDepth 100000
open Go.RowKit Go.Shelf Go.Sort
def lowF (y z:Int):ByteArray × List Opd × ByteArray:=
 if z=0 then (if y=0 then (⟨#[78,79,80]⟩,[],⟨#[]⟩) else (if y=1 then (⟨#[69,88]⟩,[rpF 3 4,rpF 3 7],⟨#[]⟩) else (if y=2 then (⟨#[68,74,78,90]⟩,[relO],⟨#[101]⟩) else (if y=3 then (⟨#[74,82]⟩,[relO],⟨#[101]⟩) else (⟨#[74,82]⟩,[ccO (y - 4),relO],⟨#[101]⟩))))) else
 if z=1 then (if y % 2=0 then (⟨#[76,68]⟩,[rpF (y / 2) 3,immO 0],⟨#[119]⟩) else (⟨#[65,68,68]⟩,[rpF 2 3,rpF (y / 2) 3],⟨#[]⟩)) else
 if z=2 then (if y % 2=0 then (if y < 4 then (⟨#[76,68]⟩,[indO (y / 2),accO],⟨#[]⟩) else (if y < 6 then (⟨#[76,68]⟩,[memO,rpF 2 3],⟨#[119]⟩) else (⟨#[76,68]⟩,[memO,accO],⟨#[119]⟩))) else (if y < 4 then (⟨#[76,68]⟩,[accO,indO (y / 2)],⟨#[]⟩) else (if y < 6 then (⟨#[76,68]⟩,[rpF 2 3,memO],⟨#[119]⟩) else (⟨#[76,68]⟩,[accO,memO],⟨#[119]⟩)))) else
 if z=3 then (if y % 2=0 then (⟨#[73,78,67]⟩,[rpF (y / 2) 3],⟨#[]⟩) else (⟨#[68,69,67]⟩,[rpF (y / 2) 3],⟨#[]⟩)) else
 if z=4 then (⟨#[73,78,67]⟩,[rF y],⟨#[]⟩) else
 if z=5 then (⟨#[68,69,67]⟩,[rF y],⟨#[]⟩) else
 if z=6 then (⟨#[76,68]⟩,[rF y,immO 0],⟨#[110]⟩) else
 (if y=0 then (⟨#[82,76,67,65]⟩,[],⟨#[]⟩) else (if y=1 then (⟨#[82,82,67,65]⟩,[],⟨#[]⟩) else (if y=2 then (⟨#[82,76,65]⟩,[],⟨#[]⟩) else (if y=3 then (⟨#[82,82,65]⟩,[],⟨#[]⟩) else (if y=4 then (⟨#[68,65,65]⟩,[],⟨#[]⟩) else (if y=5 then (⟨#[67,80,76]⟩,[],⟨#[]⟩) else (if y=6 then (⟨#[83,67,70]⟩,[],⟨#[]⟩) else (⟨#[67,67,70]⟩,[],⟨#[]⟩))))))))
theorem low_any (y z:Int) (hy0:0≤y) (hy8:y < 8) (hz0:0≤z) (hz8:z < 8) (w:World):Calls Tryz.prog 113 #[.int .i64 y,.int .i64 z] w (InsE w (lowF y z).1 (lowF y z).2.1 (lowF y z).2.2):=by
 have hz:z=0∨z=1∨z=2∨z=3∨z=4∨z=5∨z=6∨z=7:=by omega
 rcases hz with rfl | rfl | rfl | rfl | rfl | rfl | rfl | rfl
 ·skip
  by_cases h0:y=0
  ·subst h0
   have e:lowF 0 0=(⟨#[78,79,80]⟩,[],⟨#[]⟩):=by unfold lowF;rw [if_pos (show ((0:Int)=0) by omega),if_pos (show ((0:Int)=0) by omega)]
   rw [e]
   exact low_0_0 w
  ·skip
   by_cases h1:y=1
   ·subst h1
    have e:lowF 1 0=(⟨#[69,88]⟩,[rpF 3 4,rpF 3 7],⟨#[]⟩):=by unfold lowF;rw [if_pos (show ((0:Int)=0) by omega),if_neg (show ¬((1:Int)=0) by omega),if_pos (show ((1:Int)=1) by omega)]
    rw [e]
    exact low_0_1 w
   ·skip
    by_cases h2:y=2
    ·subst h2
     have e:lowF 2 0=(⟨#[68,74,78,90]⟩,[relO],⟨#[101]⟩):=by unfold lowF;rw [if_pos (show ((0:Int)=0) by omega),if_neg (show ¬((2:Int)=0) by omega),if_neg (show ¬((2:Int)=1) by omega),if_pos (show ((2:Int)=2) by omega)]
     rw [e]
     exact low_0_2 w
    ·skip
     by_cases h3:y=3
     ·subst h3
      have e:lowF 3 0=(⟨#[74,82]⟩,[relO],⟨#[101]⟩):=by unfold lowF;rw [if_pos (show ((0:Int)=0) by omega),if_neg (show ¬((3:Int)=0) by omega),if_neg (show ¬((3:Int)=1) by omega),if_neg (show ¬((3:Int)=2) by omega),if_pos (show ((3:Int)=3) by omega)]
      rw [e]
      exact low_0_3 w
     ·skip
      have e:lowF y 0=(⟨#[74,82]⟩,[ccO (y - 4),relO],⟨#[101]⟩):=by unfold lowF;rw [if_pos (show ((0:Int)=0) by omega),if_neg (show ¬(y=0) by omega),if_neg (show ¬(y=1) by omega),if_neg (show ¬(y=2) by omega),if_neg (show ¬(y=3) by omega)]
      rw [e]
      exact low_0_4 y (by omega) (by omega) w
 ·skip
  by_cases h0:y % 2=0
  ·skip
   have e:lowF y 1=(⟨#[76,68]⟩,[rpF (y / 2) 3,immO 0],⟨#[119]⟩):=by unfold lowF;rw [if_neg (show ¬((1:Int)=0) by omega),if_pos (show ((1:Int)=1) by omega),if_pos (show (y % 2=0) by omega)]
   rw [e]
   exact low_1_0 y (by omega) (by omega) (by omega) w
  ·skip
   have e:lowF y 1=(⟨#[65,68,68]⟩,[rpF 2 3,rpF (y / 2) 3],⟨#[]⟩):=by unfold lowF;rw [if_neg (show ¬((1:Int)=0) by omega),if_pos (show ((1:Int)=1) by omega),if_neg (show ¬(y % 2=0) by omega)]
   rw [e]
   exact low_1_1 y (by omega) (by omega) (by omega) w
 ·skip
  by_cases h0:y % 2=0
  ·skip
   by_cases h1:y < 4
   ·skip
    have e:lowF y 2=(⟨#[76,68]⟩,[indO (y / 2),accO],⟨#[]⟩):=by unfold lowF;rw [if_neg (show ¬((2:Int)=0) by omega),if_neg (show ¬((2:Int)=1) by omega),if_pos (show ((2:Int)=2) by omega),if_pos (show (y % 2=0) by omega),if_pos (show (y < 4) by omega)]
    rw [e]
    exact low_2_0a y (by omega) (by omega) (by omega) w
   ·skip
    by_cases h2:y < 6
    ·skip
     have e:lowF y 2=(⟨#[76,68]⟩,[memO,rpF 2 3],⟨#[119]⟩):=by unfold lowF;rw [if_neg (show ¬((2:Int)=0) by omega),if_neg (show ¬((2:Int)=1) by omega),if_pos (show ((2:Int)=2) by omega),if_pos (show (y % 2=0) by omega),if_neg (show ¬(y < 4) by omega),if_pos (show (y < 6) by omega)]
     rw [e]
     exact low_2_0b y (by omega) (by omega) (by omega) w
    ·skip
     have e:lowF y 2=(⟨#[76,68]⟩,[memO,accO],⟨#[119]⟩):=by unfold lowF;rw [if_neg (show ¬((2:Int)=0) by omega),if_neg (show ¬((2:Int)=1) by omega),if_pos (show ((2:Int)=2) by omega),if_pos (show (y % 2=0) by omega),if_neg (show ¬(y < 4) by omega),if_neg (show ¬(y < 6) by omega)]
     rw [e]
     exact low_2_0c y (by omega) (by omega) (by omega) w
  ·skip
   by_cases h1:y < 4
   ·skip
    have e:lowF y 2=(⟨#[76,68]⟩,[accO,indO (y / 2)],⟨#[]⟩):=by unfold lowF;rw [if_neg (show ¬((2:Int)=0) by omega),if_neg (show ¬((2:Int)=1) by omega),if_pos (show ((2:Int)=2) by omega),if_neg (show ¬(y % 2=0) by omega),if_pos (show (y < 4) by omega)]
    rw [e]
    exact low_2_1a y (by omega) (by omega) (by omega) w
   ·skip
    by_cases h2:y < 6
    ·skip
     have e:lowF y 2=(⟨#[76,68]⟩,[rpF 2 3,memO],⟨#[119]⟩):=by unfold lowF;rw [if_neg (show ¬((2:Int)=0) by omega),if_neg (show ¬((2:Int)=1) by omega),if_pos (show ((2:Int)=2) by omega),if_neg (show ¬(y % 2=0) by omega),if_neg (show ¬(y < 4) by omega),if_pos (show (y < 6) by omega)]
     rw [e]
     exact low_2_1b y (by omega) (by omega) (by omega) w
    ·skip
     have e:lowF y 2=(⟨#[76,68]⟩,[accO,memO],⟨#[119]⟩):=by unfold lowF;rw [if_neg (show ¬((2:Int)=0) by omega),if_neg (show ¬((2:Int)=1) by omega),if_pos (show ((2:Int)=2) by omega),if_neg (show ¬(y % 2=0) by omega),if_neg (show ¬(y < 4) by omega),if_neg (show ¬(y < 6) by omega)]
     rw [e]
     exact low_2_1c y (by omega) (by omega) (by omega) w
 ·skip
  by_cases h0:y % 2=0
  ·skip
   have e:lowF y 3=(⟨#[73,78,67]⟩,[rpF (y / 2) 3],⟨#[]⟩):=by unfold lowF;rw [if_neg (show ¬((3:Int)=0) by omega),if_neg (show ¬((3:Int)=1) by omega),if_neg (show ¬((3:Int)=2) by omega),if_pos (show ((3:Int)=3) by omega),if_pos (show (y % 2=0) by omega)]
   rw [e]
   exact low_3_0 y (by omega) (by omega) (by omega) w
  ·skip
   have e:lowF y 3=(⟨#[68,69,67]⟩,[rpF (y / 2) 3],⟨#[]⟩):=by unfold lowF;rw [if_neg (show ¬((3:Int)=0) by omega),if_neg (show ¬((3:Int)=1) by omega),if_neg (show ¬((3:Int)=2) by omega),if_pos (show ((3:Int)=3) by omega),if_neg (show ¬(y % 2=0) by omega)]
   rw [e]
   exact low_3_1 y (by omega) (by omega) (by omega) w
 ·skip
  have e:lowF y 4=(⟨#[73,78,67]⟩,[rF y],⟨#[]⟩):=by unfold lowF;rw [if_neg (show ¬((4:Int)=0) by omega),if_neg (show ¬((4:Int)=1) by omega),if_neg (show ¬((4:Int)=2) by omega),if_neg (show ¬((4:Int)=3) by omega),if_pos (show ((4:Int)=4) by omega)]
  rw [e]
  exact low_4 y (by omega) (by omega) w
 ·skip
  have e:lowF y 5=(⟨#[68,69,67]⟩,[rF y],⟨#[]⟩):=by unfold lowF;rw [if_neg (show ¬((5:Int)=0) by omega),if_neg (show ¬((5:Int)=1) by omega),if_neg (show ¬((5:Int)=2) by omega),if_neg (show ¬((5:Int)=3) by omega),if_neg (show ¬((5:Int)=4) by omega),if_pos (show ((5:Int)=5) by omega)]
  rw [e]
  exact low_5 y (by omega) (by omega) w
 ·skip
  have e:lowF y 6=(⟨#[76,68]⟩,[rF y,immO 0],⟨#[110]⟩):=by unfold lowF;rw [if_neg (show ¬((6:Int)=0) by omega),if_neg (show ¬((6:Int)=1) by omega),if_neg (show ¬((6:Int)=2) by omega),if_neg (show ¬((6:Int)=3) by omega),if_neg (show ¬((6:Int)=4) by omega),if_neg (show ¬((6:Int)=5) by omega),if_pos (show ((6:Int)=6) by omega)]
  rw [e]
  exact low_6 y (by omega) (by omega) w
 ·skip
  by_cases h0:y=0
  ·subst h0
   have e:lowF 0 7=(⟨#[82,76,67,65]⟩,[],⟨#[]⟩):=by unfold lowF;rw [if_neg (show ¬((7:Int)=0) by omega),if_neg (show ¬((7:Int)=1) by omega),if_neg (show ¬((7:Int)=2) by omega),if_neg (show ¬((7:Int)=3) by omega),if_neg (show ¬((7:Int)=4) by omega),if_neg (show ¬((7:Int)=5) by omega),if_neg (show ¬((7:Int)=6) by omega),if_pos (show ((0:Int)=0) by omega)]
   rw [e]
   exact low_7_0 w
  ·skip
   by_cases h1:y=1
   ·subst h1
    have e:lowF 1 7=(⟨#[82,82,67,65]⟩,[],⟨#[]⟩):=by unfold lowF;rw [if_neg (show ¬((7:Int)=0) by omega),if_neg (show ¬((7:Int)=1) by omega),if_neg (show ¬((7:Int)=2) by omega),if_neg (show ¬((7:Int)=3) by omega),if_neg (show ¬((7:Int)=4) by omega),if_neg (show ¬((7:Int)=5) by omega),if_neg (show ¬((7:Int)=6) by omega),if_neg (show ¬((1:Int)=0) by omega),if_pos (show ((1:Int)=1) by omega)]
    rw [e]
    exact low_7_1 w
   ·skip
    by_cases h2:y=2
    ·subst h2
     have e:lowF 2 7=(⟨#[82,76,65]⟩,[],⟨#[]⟩):=by unfold lowF;rw [if_neg (show ¬((7:Int)=0) by omega),if_neg (show ¬((7:Int)=1) by omega),if_neg (show ¬((7:Int)=2) by omega),if_neg (show ¬((7:Int)=3) by omega),if_neg (show ¬((7:Int)=4) by omega),if_neg (show ¬((7:Int)=5) by omega),if_neg (show ¬((7:Int)=6) by omega),if_neg (show ¬((2:Int)=0) by omega),if_neg (show ¬((2:Int)=1) by omega),if_pos (show ((2:Int)=2) by omega)]
     rw [e]
     exact low_7_2 w
    ·skip
     by_cases h3:y=3
     ·subst h3
      have e:lowF 3 7=(⟨#[82,82,65]⟩,[],⟨#[]⟩):=by unfold lowF;rw [if_neg (show ¬((7:Int)=0) by omega),if_neg (show ¬((7:Int)=1) by omega),if_neg (show ¬((7:Int)=2) by omega),if_neg (show ¬((7:Int)=3) by omega),if_neg (show ¬((7:Int)=4) by omega),if_neg (show ¬((7:Int)=5) by omega),if_neg (show ¬((7:Int)=6) by omega),if_neg (show ¬((3:Int)=0) by omega),if_neg (show ¬((3:Int)=1) by omega),if_neg (show ¬((3:Int)=2) by omega),if_pos (show ((3:Int)=3) by omega)]
      rw [e]
      exact low_7_3 w
     ·skip
      by_cases h4:y=4
      ·subst h4
       have e:lowF 4 7=(⟨#[68,65,65]⟩,[],⟨#[]⟩):=by unfold lowF;rw [if_neg (show ¬((7:Int)=0) by omega),if_neg (show ¬((7:Int)=1) by omega),if_neg (show ¬((7:Int)=2) by omega),if_neg (show ¬((7:Int)=3) by omega),if_neg (show ¬((7:Int)=4) by omega),if_neg (show ¬((7:Int)=5) by omega),if_neg (show ¬((7:Int)=6) by omega),if_neg (show ¬((4:Int)=0) by omega),if_neg (show ¬((4:Int)=1) by omega),if_neg (show ¬((4:Int)=2) by omega),if_neg (show ¬((4:Int)=3) by omega),if_pos (show ((4:Int)=4) by omega)]
       rw [e]
       exact low_7_4 w
      ·skip
       by_cases h5:y=5
       ·subst h5
        have e:lowF 5 7=(⟨#[67,80,76]⟩,[],⟨#[]⟩):=by unfold lowF;rw [if_neg (show ¬((7:Int)=0) by omega),if_neg (show ¬((7:Int)=1) by omega),if_neg (show ¬((7:Int)=2) by omega),if_neg (show ¬((7:Int)=3) by omega),if_neg (show ¬((7:Int)=4) by omega),if_neg (show ¬((7:Int)=5) by omega),if_neg (show ¬((7:Int)=6) by omega),if_neg (show ¬((5:Int)=0) by omega),if_neg (show ¬((5:Int)=1) by omega),if_neg (show ¬((5:Int)=2) by omega),if_neg (show ¬((5:Int)=3) by omega),if_neg (show ¬((5:Int)=4) by omega),if_pos (show ((5:Int)=5) by omega)]
        rw [e]
        exact low_7_5 w
       ·skip
        by_cases h6:y=6
        ·subst h6
         have e:lowF 6 7=(⟨#[83,67,70]⟩,[],⟨#[]⟩):=by unfold lowF;rw [if_neg (show ¬((7:Int)=0) by omega),if_neg (show ¬((7:Int)=1) by omega),if_neg (show ¬((7:Int)=2) by omega),if_neg (show ¬((7:Int)=3) by omega),if_neg (show ¬((7:Int)=4) by omega),if_neg (show ¬((7:Int)=5) by omega),if_neg (show ¬((7:Int)=6) by omega),if_neg (show ¬((6:Int)=0) by omega),if_neg (show ¬((6:Int)=1) by omega),if_neg (show ¬((6:Int)=2) by omega),if_neg (show ¬((6:Int)=3) by omega),if_neg (show ¬((6:Int)=4) by omega),if_neg (show ¬((6:Int)=5) by omega),if_pos (show ((6:Int)=6) by omega)]
         rw [e]
         exact low_7_6 w
        ·skip
         obtain rfl:y=7:=by omega
         have e:lowF 7 7=(⟨#[67,67,70]⟩,[],⟨#[]⟩):=by unfold lowF;rw [if_neg (show ¬((7:Int)=0) by omega),if_neg (show ¬((7:Int)=1) by omega),if_neg (show ¬((7:Int)=2) by omega),if_neg (show ¬((7:Int)=3) by omega),if_neg (show ¬((7:Int)=4) by omega),if_neg (show ¬((7:Int)=5) by omega),if_neg (show ¬((7:Int)=6) by omega),if_neg (show ¬((7:Int)=0) by omega),if_neg (show ¬((7:Int)=1) by omega),if_neg (show ¬((7:Int)=2) by omega),if_neg (show ¬((7:Int)=3) by omega),if_neg (show ¬((7:Int)=4) by omega),if_neg (show ¬((7:Int)=5) by omega),if_neg (show ¬((7:Int)=6) by omega)]
         rw [e]
         exact low_7_7 w
def highF (y z:Int):ByteArray × List Opd × ByteArray:=
 if z=0 then (⟨#[82,69,84]⟩,[ccO y],⟨#[]⟩) else
 if z=1 then (if y % 2=0 then (⟨#[80,79,80]⟩,[rpF (y / 2) 4],⟨#[]⟩) else (if y=1 then (⟨#[82,69,84]⟩,[],⟨#[]⟩) else (if y=3 then (⟨#[69,88,88]⟩,[],⟨#[]⟩) else (if y=5 then (⟨#[74,80]⟩,[indO 2],⟨#[]⟩) else (⟨#[76,68]⟩,[rpF 3 3,rpF 2 3],⟨#[]⟩))))) else
 if z=2 then (⟨#[74,80]⟩,[ccO y,immO 0],⟨#[119]⟩) else
 if z=3 then (if y=0 then (⟨#[74,80]⟩,[immO 0],⟨#[119]⟩) else (if y=1 then (⟨#[]⟩,[],⟨#[]⟩) else (if y=2 then (⟨#[79,85,84]⟩,[memO,accO],⟨#[110]⟩) else (if y=3 then (⟨#[73,78]⟩,[accO,memO],⟨#[110]⟩) else (if y=4 then (⟨#[69,88]⟩,[indO 3,rpF 2 3],⟨#[]⟩) else (if y=5 then (⟨#[69,88]⟩,[rpF 1 3,rpF 2 3],⟨#[]⟩) else (if y=6 then (⟨#[68,73]⟩,[],⟨#[]⟩) else (⟨#[69,73]⟩,[],⟨#[]⟩)))))))) else
 if z=4 then (⟨#[67,65,76,76]⟩,[ccO y,immO 0],⟨#[119]⟩) else
 if z=5 then (if y % 2=0 then (⟨#[80,85,83,72]⟩,[rpF (y / 2) 4],⟨#[]⟩) else (if y=1 then (⟨#[67,65,76,76]⟩,[immO 0],⟨#[119]⟩) else (⟨#[]⟩,[],⟨#[]⟩))) else
 if z=6 then ((aluF y).1,(if (aluF y).2 then [accO,immO 0] else [immO 0]),⟨#[110]⟩) else
 (⟨#[82,83,84]⟩,[immO (8 * y)],⟨#[]⟩)
theorem high_any (y z:Int) (hy0:0≤y) (hy8:y < 8) (hz0:0≤z) (hz8:z < 8) (w:World):Calls Tryz.prog 117 #[.int .i64 y,.int .i64 z] w (InsE w (highF y z).1 (highF y z).2.1 (highF y z).2.2):=by
 have hz:z=0∨z=1∨z=2∨z=3∨z=4∨z=5∨z=6∨z=7:=by omega
 rcases hz with rfl | rfl | rfl | rfl | rfl | rfl | rfl | rfl
 ·skip
  have e:highF y 0=(⟨#[82,69,84]⟩,[ccO y],⟨#[]⟩):=by unfold highF;rw [if_pos (show ((0:Int)=0) by omega)]
  rw [e]
  exact high_0 y (by omega) (by omega) w
 ·skip
  by_cases h0:y % 2=0
  ·skip
   have e:highF y 1=(⟨#[80,79,80]⟩,[rpF (y / 2) 4],⟨#[]⟩):=by unfold highF;rw [if_neg (show ¬((1:Int)=0) by omega),if_pos (show ((1:Int)=1) by omega),if_pos (show (y % 2=0) by omega)]
   rw [e]
   exact high_1_0 y (by omega) (by omega) (by omega) w
  ·skip
   by_cases h1:y=1
   ·subst h1
    have e:highF 1 1=(⟨#[82,69,84]⟩,[],⟨#[]⟩):=by unfold highF;rw [if_neg (show ¬((1:Int)=0) by omega),if_pos (show ((1:Int)=1) by omega),if_neg (show ¬((1:Int) % 2=0) by omega),if_pos (show ((1:Int)=1) by omega)]
    rw [e]
    exact high_1_1 w
   ·skip
    by_cases h2:y=3
    ·subst h2
     have e:highF 3 1=(⟨#[69,88,88]⟩,[],⟨#[]⟩):=by unfold highF;rw [if_neg (show ¬((1:Int)=0) by omega),if_pos (show ((1:Int)=1) by omega),if_neg (show ¬((3:Int) % 2=0) by omega),if_neg (show ¬((3:Int)=1) by omega),if_pos (show ((3:Int)=3) by omega)]
     rw [e]
     exact high_1_3 w
    ·skip
     by_cases h3:y=5
     ·subst h3
      have e:highF 5 1=(⟨#[74,80]⟩,[indO 2],⟨#[]⟩):=by unfold highF;rw [if_neg (show ¬((1:Int)=0) by omega),if_pos (show ((1:Int)=1) by omega),if_neg (show ¬((5:Int) % 2=0) by omega),if_neg (show ¬((5:Int)=1) by omega),if_neg (show ¬((5:Int)=3) by omega),if_pos (show ((5:Int)=5) by omega)]
      rw [e]
      exact high_1_5 w
     ·skip
      obtain rfl:y=7:=by omega
      have e:highF 7 1=(⟨#[76,68]⟩,[rpF 3 3,rpF 2 3],⟨#[]⟩):=by unfold highF;rw [if_neg (show ¬((1:Int)=0) by omega),if_pos (show ((1:Int)=1) by omega),if_neg (show ¬((7:Int) % 2=0) by omega),if_neg (show ¬((7:Int)=1) by omega),if_neg (show ¬((7:Int)=3) by omega),if_neg (show ¬((7:Int)=5) by omega)]
      rw [e]
      exact high_1_7 w
 ·skip
  have e:highF y 2=(⟨#[74,80]⟩,[ccO y,immO 0],⟨#[119]⟩):=by unfold highF;rw [if_neg (show ¬((2:Int)=0) by omega),if_neg (show ¬((2:Int)=1) by omega),if_pos (show ((2:Int)=2) by omega)]
  rw [e]
  exact high_2 y (by omega) (by omega) w
 ·skip
  by_cases h0:y=0
  ·subst h0
   have e:highF 0 3=(⟨#[74,80]⟩,[immO 0],⟨#[119]⟩):=by unfold highF;rw [if_neg (show ¬((3:Int)=0) by omega),if_neg (show ¬((3:Int)=1) by omega),if_neg (show ¬((3:Int)=2) by omega),if_pos (show ((3:Int)=3) by omega),if_pos (show ((0:Int)=0) by omega)]
   rw [e]
   exact high_3_0 w
  ·skip
   by_cases h1:y=1
   ·subst h1
    have e:highF 1 3=(⟨#[]⟩,[],⟨#[]⟩):=by unfold highF;rw [if_neg (show ¬((3:Int)=0) by omega),if_neg (show ¬((3:Int)=1) by omega),if_neg (show ¬((3:Int)=2) by omega),if_pos (show ((3:Int)=3) by omega),if_neg (show ¬((1:Int)=0) by omega),if_pos (show ((1:Int)=1) by omega)]
    rw [e]
    exact high_3_1 w
   ·skip
    by_cases h2:y=2
    ·subst h2
     have e:highF 2 3=(⟨#[79,85,84]⟩,[memO,accO],⟨#[110]⟩):=by unfold highF;rw [if_neg (show ¬((3:Int)=0) by omega),if_neg (show ¬((3:Int)=1) by omega),if_neg (show ¬((3:Int)=2) by omega),if_pos (show ((3:Int)=3) by omega),if_neg (show ¬((2:Int)=0) by omega),if_neg (show ¬((2:Int)=1) by omega),if_pos (show ((2:Int)=2) by omega)]
     rw [e]
     exact high_3_2 w
    ·skip
     by_cases h3:y=3
     ·subst h3
      have e:highF 3 3=(⟨#[73,78]⟩,[accO,memO],⟨#[110]⟩):=by unfold highF;rw [if_neg (show ¬((3:Int)=0) by omega),if_neg (show ¬((3:Int)=1) by omega),if_neg (show ¬((3:Int)=2) by omega),if_pos (show ((3:Int)=3) by omega),if_neg (show ¬((3:Int)=0) by omega),if_neg (show ¬((3:Int)=1) by omega),if_neg (show ¬((3:Int)=2) by omega),if_pos (show ((3:Int)=3) by omega)]
      rw [e]
      exact high_3_3 w
     ·skip
      by_cases h4:y=4
      ·subst h4
       have e:highF 4 3=(⟨#[69,88]⟩,[indO 3,rpF 2 3],⟨#[]⟩):=by unfold highF;rw [if_neg (show ¬((3:Int)=0) by omega),if_neg (show ¬((3:Int)=1) by omega),if_neg (show ¬((3:Int)=2) by omega),if_pos (show ((3:Int)=3) by omega),if_neg (show ¬((4:Int)=0) by omega),if_neg (show ¬((4:Int)=1) by omega),if_neg (show ¬((4:Int)=2) by omega),if_neg (show ¬((4:Int)=3) by omega),if_pos (show ((4:Int)=4) by omega)]
       rw [e]
       exact high_3_4 w
      ·skip
       by_cases h5:y=5
       ·subst h5
        have e:highF 5 3=(⟨#[69,88]⟩,[rpF 1 3,rpF 2 3],⟨#[]⟩):=by unfold highF;rw [if_neg (show ¬((3:Int)=0) by omega),if_neg (show ¬((3:Int)=1) by omega),if_neg (show ¬((3:Int)=2) by omega),if_pos (show ((3:Int)=3) by omega),if_neg (show ¬((5:Int)=0) by omega),if_neg (show ¬((5:Int)=1) by omega),if_neg (show ¬((5:Int)=2) by omega),if_neg (show ¬((5:Int)=3) by omega),if_neg (show ¬((5:Int)=4) by omega),if_pos (show ((5:Int)=5) by omega)]
        rw [e]
        exact high_3_5 w
       ·skip
        by_cases h6:y=6
        ·subst h6
         have e:highF 6 3=(⟨#[68,73]⟩,[],⟨#[]⟩):=by unfold highF;rw [if_neg (show ¬((3:Int)=0) by omega),if_neg (show ¬((3:Int)=1) by omega),if_neg (show ¬((3:Int)=2) by omega),if_pos (show ((3:Int)=3) by omega),if_neg (show ¬((6:Int)=0) by omega),if_neg (show ¬((6:Int)=1) by omega),if_neg (show ¬((6:Int)=2) by omega),if_neg (show ¬((6:Int)=3) by omega),if_neg (show ¬((6:Int)=4) by omega),if_neg (show ¬((6:Int)=5) by omega),if_pos (show ((6:Int)=6) by omega)]
         rw [e]
         exact high_3_6 w
        ·skip
         obtain rfl:y=7:=by omega
         have e:highF 7 3=(⟨#[69,73]⟩,[],⟨#[]⟩):=by unfold highF;rw [if_neg (show ¬((3:Int)=0) by omega),if_neg (show ¬((3:Int)=1) by omega),if_neg (show ¬((3:Int)=2) by omega),if_pos (show ((3:Int)=3) by omega),if_neg (show ¬((7:Int)=0) by omega),if_neg (show ¬((7:Int)=1) by omega),if_neg (show ¬((7:Int)=2) by omega),if_neg (show ¬((7:Int)=3) by omega),if_neg (show ¬((7:Int)=4) by omega),if_neg (show ¬((7:Int)=5) by omega),if_neg (show ¬((7:Int)=6) by omega)]
         rw [e]
         exact high_3_7 w
 ·skip
  have e:highF y 4=(⟨#[67,65,76,76]⟩,[ccO y,immO 0],⟨#[119]⟩):=by unfold highF;rw [if_neg (show ¬((4:Int)=0) by omega),if_neg (show ¬((4:Int)=1) by omega),if_neg (show ¬((4:Int)=2) by omega),if_neg (show ¬((4:Int)=3) by omega),if_pos (show ((4:Int)=4) by omega)]
  rw [e]
  exact high_4 y (by omega) (by omega) w
 ·skip
  by_cases h0:y % 2=0
  ·skip
   have e:highF y 5=(⟨#[80,85,83,72]⟩,[rpF (y / 2) 4],⟨#[]⟩):=by unfold highF;rw [if_neg (show ¬((5:Int)=0) by omega),if_neg (show ¬((5:Int)=1) by omega),if_neg (show ¬((5:Int)=2) by omega),if_neg (show ¬((5:Int)=3) by omega),if_neg (show ¬((5:Int)=4) by omega),if_pos (show ((5:Int)=5) by omega),if_pos (show (y % 2=0) by omega)]
   rw [e]
   exact high_5_0 y (by omega) (by omega) (by omega) w
  ·skip
   by_cases h1:y=1
   ·subst h1
    have e:highF 1 5=(⟨#[67,65,76,76]⟩,[immO 0],⟨#[119]⟩):=by unfold highF;rw [if_neg (show ¬((5:Int)=0) by omega),if_neg (show ¬((5:Int)=1) by omega),if_neg (show ¬((5:Int)=2) by omega),if_neg (show ¬((5:Int)=3) by omega),if_neg (show ¬((5:Int)=4) by omega),if_pos (show ((5:Int)=5) by omega),if_neg (show ¬((1:Int) % 2=0) by omega),if_pos (show ((1:Int)=1) by omega)]
    rw [e]
    exact high_5_1 w
   ·skip
    have e:highF y 5=(⟨#[]⟩,[],⟨#[]⟩):=by unfold highF;rw [if_neg (show ¬((5:Int)=0) by omega),if_neg (show ¬((5:Int)=1) by omega),if_neg (show ¬((5:Int)=2) by omega),if_neg (show ¬((5:Int)=3) by omega),if_neg (show ¬((5:Int)=4) by omega),if_pos (show ((5:Int)=5) by omega),if_neg (show ¬(y % 2=0) by omega),if_neg (show ¬(y=1) by omega)]
    rw [e]
    exact high_5_x y (by omega) (by omega) (by omega) (by omega) w
 ·skip
  have e:highF y 6=((aluF y).1,(if (aluF y).2 then [accO,immO 0] else [immO 0]),⟨#[110]⟩):=by unfold highF;rw [if_neg (show ¬((6:Int)=0) by omega),if_neg (show ¬((6:Int)=1) by omega),if_neg (show ¬((6:Int)=2) by omega),if_neg (show ¬((6:Int)=3) by omega),if_neg (show ¬((6:Int)=4) by omega),if_neg (show ¬((6:Int)=5) by omega),if_pos (show ((6:Int)=6) by omega)]
  rw [e]
  exact high_6 y (by omega) (by omega) w
 ·skip
  have e:highF y 7=(⟨#[82,83,84]⟩,[immO (8 * y)],⟨#[]⟩):=by unfold highF;rw [if_neg (show ¬((7:Int)=0) by omega),if_neg (show ¬((7:Int)=1) by omega),if_neg (show ¬((7:Int)=2) by omega),if_neg (show ¬((7:Int)=3) by omega),if_neg (show ¬((7:Int)=4) by omega),if_neg (show ¬((7:Int)=5) by omega),if_neg (show ¬((7:Int)=6) by omega)]
  rw [e]
  exact high_7 y (by omega) (by omega) w
end Go.Proofs.YtnbmbcjnncbaiaaGreatDoor
namespace Go.Proofs.YtnbmbcjnncbaiaaGreatDoor
set_option maxHeartbeats 4000000
set_option maxRecDepth 100000
open Go.RowKit Go.Shelf Go.Sort
def mainF (op:Int):ByteArray × List Opd × ByteArray:=
 if op / 64=0 then lowF (op / 8 % 8) (op % 8) else
 if op / 64=1 then (if op / 8 % 8=6∧op % 8=6 then (⟨#[72,65,76,84]⟩,[],⟨#[]⟩) else (⟨#[76,68]⟩,[rF (op / 8 % 8),rF (op % 8)],⟨#[]⟩)) else
 if op / 64=2 then ((aluF (op / 8 % 8)).1,(if (aluF (op / 8 % 8)).2 then [accO,rF (op % 8)] else [rF (op % 8)]),⟨#[]⟩) else highF (op / 8 % 8) (op % 8)
theorem main_0 (op y z:Int) (_h0:0≤op) (_h8:op < 256) (_hy:op / 8 % 8=y) (_hz:op % 8=z) (_hy0:0≤y) (_hy8:y < 8) (_hz0:0≤z) (_hz8:z < 8) (hx:op / 64=0) (w:World):Calls Tryz.prog 82 #[.int .u8 op] w (InsE w (lowF y z).1 (lowF y z).2.1 (lowF y z).2.2):=by
 have H:=Lib.hid ((Fr.start w).new' 27 #[.string ⟨#[]⟩,.slice none 0 0] rfl)
 have HL:=Lib.hid (fun W=>low_any y z _hy0 _hy8 _hz0 _hz8 W)
 generalize (lowF y z).1=s at *
 generalize (lowF y z).2.1=l at *
 generalize (lowF y z).2.2=ex at *
 go_enter Tryz.func82,Tryz.ntmps82
 go_wp2_with (go_at_call 113;refine (HL.out _).mono ?_;rintro e w' ⟨v,rfl,ho,hb⟩;obtain ⟨va,vc,rfl⟩:=ho.form;have HO:=Lib.hid (ho.mono (r:=fun k=>w.heap.size < k) (fun k hk=>Nat.lt_of_lt_of_le (H.out.blk 0 rfl).lt hk));have H:=Lib.hid (H.out.next hb);obtain ⟨e0,e1,d0,d1⟩:=(H.out.blk 0 rfl).two;clear ho hb)
 obtain ⟨h1,h2⟩:=put_ins (x:=.string s) (y:=.slice va l.length vc) H.out.below HO.out (fun k hk=>hk) (Nat.le_refl _)
 exact bodyPost_ret (insE_end rfl rfl (((H.out.blk 0 rfl).set 0 _).set 1 _)) rfl ⟨_,rfl,h1,h2⟩
theorem main_3 (op y z:Int) (_h0:0≤op) (_h8:op < 256) (_hy:op / 8 % 8=y) (_hz:op % 8=z) (_hy0:0≤y) (_hy8:y < 8) (_hz0:0≤z) (_hz8:z < 8) (hx:op / 64=3) (w:World):Calls Tryz.prog 82 #[.int .u8 op] w (InsE w (highF y z).1 (highF y z).2.1 (highF y z).2.2):=by
 have H:=Lib.hid ((Fr.start w).new' 27 #[.string ⟨#[]⟩,.slice none 0 0] rfl)
 have HL:=Lib.hid (fun W=>high_any y z _hy0 _hy8 _hz0 _hz8 W)
 generalize (highF y z).1=s at *
 generalize (highF y z).2.1=l at *
 generalize (highF y z).2.2=ex at *
 go_enter Tryz.func82,Tryz.ntmps82
 go_wp2_with (go_at_call 117;refine (HL.out _).mono ?_;rintro e w' ⟨v,rfl,ho,hb⟩;obtain ⟨va,vc,rfl⟩:=ho.form;have HO:=Lib.hid (ho.mono (r:=fun k=>w.heap.size < k) (fun k hk=>Nat.lt_of_lt_of_le (H.out.blk 0 rfl).lt hk));have H:=Lib.hid (H.out.next hb);obtain ⟨e0,e1,d0,d1⟩:=(H.out.blk 0 rfl).two;clear ho hb)
 obtain ⟨h1,h2⟩:=put_ins (x:=.string s) (y:=.slice va l.length vc) H.out.below HO.out (fun k hk=>hk) (Nat.le_refl _)
 exact bodyPost_ret (insE_end rfl rfl (((H.out.blk 0 rfl).set 0 _).set 1 _)) rfl ⟨_,rfl,h1,h2⟩
theorem main_1h (op y z:Int) (_h0:0≤op) (_h8:op < 256) (_hy:op / 8 % 8=y) (_hz:op % 8=z) (_hy0:0≤y) (_hy8:y < 8) (_hz0:0≤z) (_hz8:z < 8) (hx:op / 64=1) (h6:y=6) (h7:z=6) (w:World):Calls Tryz.prog 82 #[.int .u8 op] w (InsE w ⟨#[72,65,76,84]⟩ [] ⟨#[]⟩):=by
 have H:=Lib.hid ((Fr.start w).new' 27 #[.string ⟨#[]⟩,.slice none 0 0] rfl)
 subst h6
 subst h7
 go_enter Tryz.func82,Tryz.ntmps82
 go_wp2_with (go_at_call 114;refine (frI H (ins9_any _ none 0 0 _ (opdOwn_none _ (fun k=>w.heap.size < k)))).mono ?_;rintro e w' ⟨rfl,HO,H⟩;obtain ⟨e0,e1,d0,d1⟩:=(H.out.blk 0 rfl).two)
 obtain ⟨h1,h2⟩:=put_ins (x:=.string ⟨#[72,65,76,84]⟩) (y:=.slice none 0 0) H.out.below HO.out (fun k hk=>hk) (Nat.le_refl _)
 exact bodyPost_ret (insE_end rfl rfl (((H.out.blk 0 rfl).set 0 _).set 1 _)) rfl ⟨_,rfl,h1,h2⟩
theorem main_1a (op y z:Int) (_h0:0≤op) (_h8:op < 256) (_hy:op / 8 % 8=y) (_hz:op % 8=z) (_hy0:0≤y) (_hy8:y < 8) (_hz0:0≤z) (_hz8:z < 8) (hx:op / 64=1) (h6:¬y=6) (w:World):Calls Tryz.prog 82 #[.int .u8 op] w (InsE w ⟨#[76,68]⟩ [rF y,rF z] ⟨#[]⟩):=by
 have H:=Lib.hid ((Fr.start w).new' 27 #[.string ⟨#[]⟩,.slice none 0 0] rfl)
 go_enter Tryz.func82,Tryz.ntmps82
 go_wp2_with (first
  | (go_at_call 84;refine (frO H (r_any _ _)).mono ?_;rintro e w' ⟨rfl,H⟩)
  | (go_at_call 115;refine (frL H 0 rfl (two_any _ _ _)).mono ?_;rintro e w' ⟨va,vc,rfl,HO,H⟩)
  | (go_at_call 114;refine (frI H (ins9_any _ _ _ _ _ HO.out)).mono ?_;rintro e w' ⟨rfl,HO,H⟩;obtain ⟨e0,e1,d0,d1⟩:=(H.out.blk 0 rfl).two))
 obtain ⟨h1,h2⟩:=put_ins (x:=.string ⟨#[76,68]⟩) (y:=.slice va 2 vc) H.out.below HO.out (fun k hk=>hk) (Nat.le_refl _)
 exact bodyPost_ret (insE_end rfl rfl (((H.out.blk 0 rfl).set 0 _).set 1 _)) rfl ⟨_,rfl,h1,h2⟩
theorem main_1b (op y z:Int) (_h0:0≤op) (_h8:op < 256) (_hy:op / 8 % 8=y) (_hz:op % 8=z) (_hy0:0≤y) (_hy8:y < 8) (_hz0:0≤z) (_hz8:z < 8) (hx:op / 64=1) (h6:y=6) (h7:¬z=6) (w:World):Calls Tryz.prog 82 #[.int .u8 op] w (InsE w ⟨#[76,68]⟩ [rF y,rF z] ⟨#[]⟩):=by
 have H:=Lib.hid ((Fr.start w).new' 27 #[.string ⟨#[]⟩,.slice none 0 0] rfl)
 subst h6
 go_enter Tryz.func82,Tryz.ntmps82
 go_wp2_with (first
  | (go_at_call 84;refine (frO H (r_any _ _)).mono ?_;rintro e w' ⟨rfl,H⟩)
  | (go_at_call 115;refine (frL H 0 rfl (two_any _ _ _)).mono ?_;rintro e w' ⟨va,vc,rfl,HO,H⟩)
  | (go_at_call 114;refine (frI H (ins9_any _ _ _ _ _ HO.out)).mono ?_;rintro e w' ⟨rfl,HO,H⟩;obtain ⟨e0,e1,d0,d1⟩:=(H.out.blk 0 rfl).two))
 obtain ⟨h1,h2⟩:=put_ins (x:=.string ⟨#[76,68]⟩) (y:=.slice va 2 vc) H.out.below HO.out (fun k hk=>hk) (Nat.le_refl _)
 exact bodyPost_ret (insE_end rfl rfl (((H.out.blk 0 rfl).set 0 _).set 1 _)) rfl ⟨_,rfl,h1,h2⟩
theorem main_2 (op y z:Int) (_h0:0≤op) (_h8:op < 256) (_hy:op / 8 % 8=y) (_hz:op % 8=z) (_hy0:0≤y) (_hy8:y < 8) (_hz0:0≤z) (_hz8:z < 8) (hx:op / 64=2) (w:World):Calls Tryz.prog 82 #[.int .u8 op] w (InsE w (aluF y).1 (if (aluF y).2 then [accO,rF z] else [rF z]) ⟨#[]⟩):=by
 have H:=Lib.hid ((Fr.start w).new' 27 #[.string ⟨#[]⟩,.slice none 0 0] rfl)
 have HL:=Lib.hid (fun W=>alu_any y (rF z) W _hy0 _hy8)
 generalize (if (aluF y).2 then [accO,rF z] else [rF z])=l at *
 generalize (aluF y).1=s at *
 go_enter Tryz.func82,Tryz.ntmps82
 go_wp2_with (first
  | (go_at_call 84;refine (frO H (r_any _ _)).mono ?_;rintro e w' ⟨rfl,H⟩)
  | (go_at_call 116;refine (HL.out _).mono ?_;rintro e w' ⟨v,rfl,ho,hb⟩;obtain ⟨va,vc,rfl⟩:=ho.form;have HO:=Lib.hid (ho.mono (r:=fun k=>w.heap.size < k) (fun k hk=>Nat.lt_of_lt_of_le (H.out.blk 0 rfl).lt hk));have H:=Lib.hid (H.out.next hb);obtain ⟨e0,e1,d0,d1⟩:=(H.out.blk 0 rfl).two;clear ho hb))
 obtain ⟨h1,h2⟩:=put_ins (x:=.string s) (y:=.slice va l.length vc) H.out.below HO.out (fun k hk=>hk) (Nat.le_refl _)
 exact bodyPost_ret (insE_end rfl rfl (((H.out.blk 0 rfl).set 0 _).set 1 _)) rfl ⟨_,rfl,h1,h2⟩
theorem main9_any (op:Int) (h0:0≤op) (h8:op < 256) (w:World):Calls Tryz.prog 82 #[.int .u8 op] w (InsE w (mainF op).1 (mainF op).2.1 (mainF op).2.2):=by
 have hx:op / 64=0∨op / 64=1∨op / 64=2∨op / 64=3:=by omega
 rcases hx with hx | hx | hx | hx
 ·have e:mainF op=lowF (op / 8 % 8) (op % 8):=by unfold mainF;rw [if_pos hx]
  rw [e]
  exact main_0 op _ _ h0 h8 rfl rfl (by omega) (by omega) (by omega) (by omega) hx w
 ·by_cases h6:op / 8 % 8=6
  ·by_cases h7:op % 8=6
   ·have e:mainF op=(⟨#[72,65,76,84]⟩,[],⟨#[]⟩):=by unfold mainF;rw [if_neg (show ¬(op / 64=0) by omega),if_pos hx,if_pos ⟨h6,h7⟩]
    rw [e]
    exact main_1h op _ _ h0 h8 rfl rfl (by omega) (by omega) (by omega) (by omega) hx h6 h7 w
   ·have e:mainF op=(⟨#[76,68]⟩,[rF (op / 8 % 8),rF (op % 8)],⟨#[]⟩):=by unfold mainF;rw [if_neg (show ¬(op / 64=0) by omega),if_pos hx,if_neg (fun h=>h7 h.2)]
    rw [e]
    exact main_1b op _ _ h0 h8 rfl rfl (by omega) (by omega) (by omega) (by omega) hx h6 h7 w
  ·have e:mainF op=(⟨#[76,68]⟩,[rF (op / 8 % 8),rF (op % 8)],⟨#[]⟩):=by unfold mainF;rw [if_neg (show ¬(op / 64=0) by omega),if_pos hx,if_neg (fun h=>h6 h.1)]
   rw [e]
   exact main_1a op _ _ h0 h8 rfl rfl (by omega) (by omega) (by omega) (by omega) hx h6 w
 ·have e:mainF op=((aluF (op / 8 % 8)).1,(if (aluF (op / 8 % 8)).2 then [accO,rF (op % 8)] else [rF (op % 8)]),⟨#[]⟩):=by unfold mainF;rw [if_neg (show ¬(op / 64=0) by omega),if_neg (show ¬(op / 64=1) by omega),if_pos hx]
  rw [e]
  exact main_2 op _ _ h0 h8 rfl rfl (by omega) (by omega) (by omega) (by omega) hx w
 ·have e:mainF op=highF (op / 8 % 8) (op % 8):=by unfold mainF;rw [if_neg (show ¬(op / 64=0) by omega),if_neg (show ¬(op / 64=1) by omega),if_neg (show ¬(op / 64=2) by omega)]
  rw [e]
  exact main_3 op _ _ h0 h8 rfl rfl (by omega) (by omega) (by omega) (by omega) hx w
end Go.Proofs.YtnbmbcjnncbaiaaGreatDoor
