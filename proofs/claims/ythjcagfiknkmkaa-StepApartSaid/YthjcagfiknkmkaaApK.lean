/- Calls, carried out: printed by wip/tools/gen.py. -/
import Derived.Test.YthjcagfiknkmkaaTsk
set_option maxRecDepth 1000000
namespace Ts.kno
open Go Den Ts
def c0 : LV := .str [99, 104, 97, 110, 32, 99, 32, 48, 32, 108, 111, 99, 97, 108, 32, 116, 32, 103, 111, 123, 115, 101, 110, 100, 32, 99, 32, 53, 125, 103, 111, 123, 114, 101, 99, 118, 32, 99, 32, 116, 125]
def c1 : LV := .agg [.lit [.agg [.int .i64 6, .str [99], .int .i64 0, .cpx .f64 4607182418800017408 4607182418800017408], .agg [.int .i64 4, .str [116], .int .i64 0, .cpx .f64 4607182418800017408 4621819117588971520]] false, .lit [.lit [.agg [.int .i64 1, .int .i64 5, .int .i64 0, .int .i64 0, .int .i64 0], .agg [.int .i64 9, .int .i64 0, .int .i64 0, .int .i64 0, .int .i64 0]] false, .lit [.agg [.int .i64 10, .int .i64 0, .int .i64 0, .int .i64 0, .int .i64 1], .agg [.int .i64 3, .int .i64 0, .int .i64 1, .int .i64 0, .int .i64 1]] false] false]
def c2 : LV := .agg [.lit [.int .i64 1, .int .i64 0] true, .lit [.lit [.int .i64 5] true, .nils] true, .lit [.lit [.int .i64 0, .int .i64 0] true, .lit [.int .i64 0, .int .i64 0] true] true, .lit [.int .i64 0, .int .i64 0] true, .lit [.int .i64 (-1), .int .i64 (-1)] true, .lit [.nils, .nils] true, .nils, .bool false]
def c3 : LV := .tup [.agg [.lit [.int .i64 2, .int .i64 2] true, .lit [.lit [] true, .lit [] true] true, .lit [.lit [.int .i64 0, .int .i64 0] true, .lit [.int .i64 0, .int .i64 5] true] true, .lit [.int .i64 0, .int .i64 0] true, .lit [.int .i64 (-1), .int .i64 (-1)] true, .lit [.nils, .nils] true, .nils, .bool false], .int .i64 0]
def e0 : Nat × List LV × LV := (5, [c0], c1)
theorem r0 : KnE P e0 := pureB_ok Pok (knTab_ok Ts.kn0_ok (.nil : KnOk P [])) (fuel := 20000) (v := e0.2.2) rfl (by kernel_rfl)
def e1 : Nat × List LV × LV := (6, [c1], c2)
theorem r1 : KnE P e1 := pureB_ok Pok (knTab_ok Ts.kn0_ok (.nil : KnOk P [])) (fuel := 20000) (v := e1.2.2) rfl (by kernel_rfl)
def e2 : Nat × List LV × LV := (7, [c1, c2], (.lit [.int .i64 16] true))
theorem r2 : KnE P e2 := pureB_ok Pok (knTab_ok Ts.kn0_ok (.nil : KnOk P [])) (fuel := 20000) (v := e2.2.2) rfl (by kernel_rfl)
def e3 : Nat × List LV × LV := (8, [c1, c2, (.int .i64 16)], c3)
theorem r3 : KnE P e3 := pureB_ok Pok (knTab_ok Ts.kn0_ok (.cons r2 (.nil) : KnOk P [e2])) (fuel := 20000) (v := e3.2.2) rfl (by kernel_rfl)
def e4 : Nat × List LV × LV := (9, [], (.bool true))
theorem r4 : KnE P e4 := pureB_ok Pok (knTab_ok Ts.kn0_ok (.cons r0 (.cons r1 (.cons r2 (.cons r3 (.nil)))) : KnOk P [e0, e1, e2, e3])) (fuel := 20000) (v := e4.2.2) rfl (by kernel_rfl)
end Ts.kno
