/-
  THE KERNEL'S WORD ON ONE FIXED RUN (in a text of its own: the kernel needs the room).
-/
import Derived.Test.YtpefcgiiigdcdaaGreatTS
namespace Go.Ab.M
set_option maxRecDepth 100000
theorem awake24 : law24_awake = some true := by kernel_rfl
end Go.Ab.M
