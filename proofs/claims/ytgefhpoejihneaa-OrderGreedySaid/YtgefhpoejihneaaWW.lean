/-
  TEXTS PUT TOGETHER: W22, W23.
-/
import Derived.Test.YtgefhpoejihneaaTA
section
/-
  THE KERNEL'S WORD ON ONE FIXED RUN (in a text of its own: the kernel needs the room).
-/
namespace Go.Ab.M
set_option maxRecDepth 100000
theorem awake22 : law22_awake = some true := by kernel_rfl
end Go.Ab.M
end

section
/-
  THE KERNEL'S WORD ON ONE FIXED RUN (in a text of its own: the kernel needs the room).
-/
namespace Go.Ab.M
set_option maxRecDepth 100000
theorem awake23 : law23_awake = some true := by kernel_rfl
end Go.Ab.M
end
