import Derived.Test.YtbibfopgepkifaaVqB
set_option linter.all false
/- Plain laws of tables, gains and losses; no program in sight. -/
namespace Go.Vm
/-! The range of values. -/
end Go.Vm
