import Derived.Test.YtamkannjdbodpaaDoorChR
namespace Go.Proofs.YtamkannjdbodpaaDoor
open Go.RowKit Go.WideShapes Go.ChangeShapes

end Go.Proofs.YtamkannjdbodpaaDoor
