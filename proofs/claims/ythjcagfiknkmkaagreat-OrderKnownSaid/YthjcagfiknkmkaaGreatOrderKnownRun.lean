/- Calls, carried out: printed by wip/tools/gen.py. -/
import Derived.Test.YthjcagfiknkmkaaGreatOrderKnownRuna
import Derived.Test.YthjcagfiknkmkaaGreatOrderKnownRunb
import Derived.Test.YthjcagfiknkmkaaGreatOrderKnownRunc
import Derived.Test.YthjcagfiknkmkaaGreatOrderKnownRund
set_option maxRecDepth 1000000
namespace Tz.m
open Go Den Tz

def e0 : Nat × List LV × LV := (6, [], (.bool true))
theorem r0 : KnE P e0 := pureB_ok Pok (knTab_ok kn0_ok (.cons Tz.tzoa.r17 (.cons Tz.tzoa.r31 (.cons Tz.tzod.r15 (.cons Tz.tzod.r31 (.cons Tz.tzob.r31 (.cons Tz.tzod.r41 (.cons Tz.tzoc.r31 (.cons Tz.tzoa.r43 (.cons Tz.tzob.r17 (.cons Tz.tzoc.r17 (.cons Tz.tzoc.r43 (.cons Tz.tzod.r47 (.cons Tz.tzob.r43 (.cons Tz.tzoc.r42 (.nil)))))))))))))) : KnOk P [Tz.tzoa.e17, Tz.tzoa.e31, Tz.tzod.e15, Tz.tzod.e31, Tz.tzob.e31, Tz.tzod.e41, Tz.tzoc.e31, Tz.tzoa.e43, Tz.tzob.e17, Tz.tzoc.e17, Tz.tzoc.e43, Tz.tzod.e47, Tz.tzob.e43, Tz.tzoc.e42])) (fuel := 20000) (v := e0.2.2) rfl (by kernel_rfl)
end Tz.m
