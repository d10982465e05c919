/- Comparing two events. -/
import Derived.Test.YthbjjfpikfmmnaaD22
namespace Go.Proofs.Ythbjjfpikfmmnaa
open Go.RowKit

end Go.Proofs.Ythbjjfpikfmmnaa
