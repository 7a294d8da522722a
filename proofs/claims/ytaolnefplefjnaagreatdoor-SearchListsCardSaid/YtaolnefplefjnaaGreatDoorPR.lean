/-
  SearchFits and SearchFills over bytes. Conditions: the library's table as its initialiser lays it.
-/
import Derived.Test.YtaolnefplefjnaaGreatDoorPQ
namespace Go.Proofs.YtaolnefplefjnaaGreatDoor
open Go.RowKit Go.Shelf Go.Sort
theorem SearchFits_any (pg op:Int) (hpg:0≤pg∧pg≤255) (hop:0≤op∧op≤255) (y:Ins) (q:Blocks) (u:Value) (w:World) (hy:SlR opdR w q u y.args) (hT:Spc w) (hf:∀z∈y.args,fits64 z.n):
  Calls Tryz.prog 3 #[.int .u8 pg,.int .u8 op,.agg #[.string y.op,u]] w fun e w'=>e=.returned (.bool true)∧Below w.heap.size w w':=by
 obtain ⟨k,rfl⟩:=Int.eq_ofNat_of_zero_le hop.1
 exact SearchFits_law pg hpg k (by omega) y q u w hy hT hf
theorem SearchFills_any (pg op:Int) (hpg:0≤pg∧pg≤255) (hop:0≤op∧op≤255) (d n:Int) (w:World) (hT:Spc w):
  Calls Tryz.prog 5 #[.int .u8 pg,.int .u8 op,.agg #[.int .i64 d,.int .i64 n]] w fun e w'=>e=.returned (.bool true)∧Below w.heap.size w w':=by
 obtain ⟨k,rfl⟩:=Int.eq_ofNat_of_zero_le hop.1
 exact SearchFills_law pg hpg k (by omega) d n w hT
end Go.Proofs.YtaolnefplefjnaaGreatDoor
