/- A seat whose rows list no variable: nothing is asked of the globals. -/
import Derived.Test.YtchgjgffikdcnaaL0
namespace Go.Ab
theorem glob_none {W : World} : GlobOK CT.G W := fun g cs h => by cases h
end Go.Ab
