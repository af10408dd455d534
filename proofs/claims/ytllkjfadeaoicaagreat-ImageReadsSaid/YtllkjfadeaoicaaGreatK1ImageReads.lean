/- Closed facts of the row of ImageReads. -/
import Derived.Test.YtllkjfadeaoicaaGreatRows
import Derived.JoinedOf
namespace Go.Proofs.YtllkjfadeaoicaaGreat.imageReads
open Go
theorem kInPlace : (Rows.imageReadsRow.inPlace == Tryz.prog.inPlace 3) = true := by kernel_rfl
theorem kUnfollowed : (Rows.imageReadsRow.unfollowed == Tryz.prog.unfollowed 3) = true := by kernel_rfl
end Go.Proofs.YtllkjfadeaoicaaGreat.imageReads
