/- StepApart: all its calls, joined. -/
import Derived.Test.YthjcagfiknkmkaaApL
import Derived.Test.YthjcagfiknkmkaaApZ
import Derived.Test.YthjcagfiknkmkaaApR
import Derived.Test.YthjcagfiknkmkaaApK
namespace Ts.apart
open Go Den

theorem tab_ok {n m : Nat} (hn : n < 9) (hm : m < 9) : KnOk P (tab n m) :=
  .cons (lower n m (pAll n hn m hm) (lAll n hn m hm)) (.cons (sAll n hn m hm) (.cons (kA n m) (.cons (kB n hn m) (.cons (kD n m) (.cons (kH m hm n) (.cons (xAll n hn m hm) (.cons (kY n m) (.cons Ts.kno.r4 .nil))))))))
theorem all (zs : List Int) (first : Bool) (s : LS) : Holds P 4 [ints zs, .bool first] s (.bool true) s :=
  law (fun n hn m hm first => rest_ok (tab_ok hn hm) (zAll n hn m hm first)) zs first s
end Ts.apart
