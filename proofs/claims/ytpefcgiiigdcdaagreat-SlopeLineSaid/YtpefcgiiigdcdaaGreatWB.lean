/-
  THE KERNEL'S WORD ON ONE FIXED RUN (in a text of its own: the kernel needs the room).
-/
import Derived.Test.YtpefcgiiigdcdaaGreatTH
namespace Go.Ab.M
set_option maxRecDepth 100000
theorem awake16 : law16_awake = some true := by kernel_rfl
end Go.Ab.M
