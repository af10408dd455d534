/- Closed facts of the row of ImageReads. -/
import Derived.Test.YtllkjfadeaoicaaGreatRows
import Derived.JoinedOf
namespace Go.Proofs.YtllkjfadeaoicaaGreat.imageReads
open Go
theorem kRecurses : (Rows.imageReadsRow.recurses == Tryz.prog.recurses 3) = true := by kernel_rfl
theorem kNamed : (Rows.imageReadsRow.named == Tryz.prog.varsNamed 3) = true := by kernel_rfl
end Go.Proofs.YtllkjfadeaoicaaGreat.imageReads
