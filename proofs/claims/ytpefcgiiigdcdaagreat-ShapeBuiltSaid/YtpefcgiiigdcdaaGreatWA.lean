import Derived.Test.YtpefcgiiigdcdaaGreatTQ
namespace Go.Ab.M
set_option maxRecDepth 100000
theorem afT:Kz=some true:=by kernel_rfl
end Go.Ab.M
