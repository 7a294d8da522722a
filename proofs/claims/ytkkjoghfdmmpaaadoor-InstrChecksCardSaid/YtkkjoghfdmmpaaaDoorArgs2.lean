/-
  MORE ARGUMENTS OPENED: lists of operands, numbers, strings, bytes, instructions.
-/
import Derived.Test.YtkkjoghfdmmpaaaDoorArgs
namespace Go.Proofs.YtkkjoghfdmmpaaaDoor
open Go.RowKit Go.ChangeShapes Go.WideShapes Go.ChangeAt Go.Deep Go.Joins
end Go.Proofs.YtkkjoghfdmmpaaaDoor
