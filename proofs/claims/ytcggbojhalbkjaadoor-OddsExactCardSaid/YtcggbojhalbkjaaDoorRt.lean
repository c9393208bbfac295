/- The walks of the reference's TimeFault, readingFault, IsOpen. -/
import Derived.Test.YtcggbojhalbkjaaDoorRk
import Derived.Test.YtcggbojhalbkjaaDoorHd
namespace Go.Proofs.YtcggbojhalbkjaaDoor
open Go.RowKit

end Go.Proofs.YtcggbojhalbkjaaDoor
