/- Calls, carried out: printed by wip/tools/gen.py. -/
import Derived.Test.YthjcagfiknkmkaaGreatTzk
set_option maxRecDepth 1000000
namespace Tz.tzob
open Go Den Tz
def c0 : LV := .str [118, 97, 114, 32, 120, 32, 109, 117, 116, 101, 120, 32, 109, 32, 103, 111, 123, 120, 61, 49, 32, 108, 111, 99, 107, 32, 109, 32, 117, 110, 108, 111, 99, 107, 32, 109, 125, 32, 103, 111, 123, 108, 111, 99, 107, 32, 109, 32, 117, 110, 108, 111, 99, 107, 32, 109, 32, 120, 61, 50, 125]
def c1 : LV := .agg [.lit [.agg [.int .i64 1, .str [120], .int .i64 0, .cpx .f64 4607182418800017408 4607182418800017408], .agg [.int .i64 5, .str [109], .int .i64 0, .cpx .f64 4607182418800017408 4619567317775286272]] false, .lit [.lit [.agg [.int .i64 1, .int .i64 1, .int .i64 0, .int .i64 0, .int .i64 0], .agg [.int .i64 3, .int .i64 0, .int .i64 0, .int .i64 0, .int .i64 0], .agg [.int .i64 7, .int .i64 0, .int .i64 1, .int .i64 0, .int .i64 1], .agg [.int .i64 8, .int .i64 0, .int .i64 1, .int .i64 0, .int .i64 2]] false, .lit [.agg [.int .i64 7, .int .i64 0, .int .i64 1, .int .i64 0, .int .i64 3], .agg [.int .i64 8, .int .i64 0, .int .i64 1, .int .i64 0, .int .i64 4], .agg [.int .i64 1, .int .i64 2, .int .i64 0, .int .i64 0, .int .i64 5], .agg [.int .i64 3, .int .i64 0, .int .i64 0, .int .i64 0, .int .i64 5]] false] false]
def c2 : LV := .agg [.lit [.int .i64 1, .int .i64 0] true, .lit [.lit [.int .i64 1] true, .nils] true, .lit [.lit [.int .i64 0, .int .i64 0] true, .lit [.int .i64 0, .int .i64 0] true] true, .lit [.int .i64 0, .int .i64 0] true, .lit [.int .i64 (-1), .int .i64 (-1)] true, .lit [.nils, .nils] true, .nils, .bool false]
def c3 : LV := .tup [.agg [.lit [.int .i64 1, .int .i64 1] true, .lit [.lit [.int .i64 1] true, .nils] true, .lit [.lit [.int .i64 0, .int .i64 0] true, .lit [.int .i64 0, .int .i64 0] true] true, .lit [.int .i64 0, .int .i64 0] true, .lit [.int .i64 (-1), .int .i64 1] true, .lit [.nils, .nils] true, .nils, .bool false], .int .i64 0]
def c4 : LV := .agg [.lit [.int .i64 1, .int .i64 1] true, .lit [.lit [.int .i64 1] true, .nils] true, .lit [.lit [.int .i64 0, .int .i64 0] true, .lit [.int .i64 0, .int .i64 0] true] true, .lit [.int .i64 0, .int .i64 0] true, .lit [.int .i64 (-1), .int .i64 1] true, .lit [.nils, .nils] true, .nils, .bool false]
def c5 : LV := .tup [.agg [.lit [.int .i64 1, .int .i64 3] true, .lit [.lit [.int .i64 1] true, .lit [.int .i64 2] true] true, .lit [.lit [.int .i64 0, .int .i64 0] true, .lit [.int .i64 0, .int .i64 0] true] true, .lit [.int .i64 0, .int .i64 0] true, .lit [.int .i64 (-1), .int .i64 (-1)] true, .lit [.nils, .nils] true, .nils, .bool false], .int .i64 0]
def c6 : LV := .agg [.lit [.int .i64 1, .int .i64 3] true, .lit [.lit [.int .i64 1] true, .lit [.int .i64 2] true] true, .lit [.lit [.int .i64 0, .int .i64 0] true, .lit [.int .i64 0, .int .i64 0] true] true, .lit [.int .i64 0, .int .i64 0] true, .lit [.int .i64 (-1), .int .i64 (-1)] true, .lit [.nils, .nils] true, .nils, .bool false]
def c7 : LV := .tup [.agg [.lit [.int .i64 2, .int .i64 3] true, .lit [.lit [] true, .lit [.int .i64 2] true] true, .lit [.lit [.int .i64 0, .int .i64 0] true, .lit [.int .i64 0, .int .i64 0] true] true, .lit [.int .i64 1, .int .i64 0] true, .lit [.int .i64 (-1), .int .i64 (-1)] true, .lit [.nils, .nils] true, .nils, .bool false], .int .i64 0]
def c8 : LV := .agg [.lit [.int .i64 2, .int .i64 3] true, .lit [.lit [] true, .lit [.int .i64 2] true] true, .lit [.lit [.int .i64 0, .int .i64 0] true, .lit [.int .i64 0, .int .i64 0] true] true, .lit [.int .i64 1, .int .i64 0] true, .lit [.int .i64 (-1), .int .i64 (-1)] true, .lit [.nils, .nils] true, .nils, .bool false]
def c9 : LV := .tup [.agg [.lit [.int .i64 3, .int .i64 3] true, .lit [.lit [] true, .lit [.int .i64 2] true] true, .lit [.lit [.int .i64 0, .int .i64 0] true, .lit [.int .i64 0, .int .i64 0] true] true, .lit [.int .i64 1, .int .i64 0] true, .lit [.int .i64 (-1), .int .i64 0] true, .lit [.nils, .nils] true, .nils, .bool false], .int .i64 0]
def c10 : LV := .agg [.lit [.int .i64 3, .int .i64 3] true, .lit [.lit [] true, .lit [.int .i64 2] true] true, .lit [.lit [.int .i64 0, .int .i64 0] true, .lit [.int .i64 0, .int .i64 0] true] true, .lit [.int .i64 1, .int .i64 0] true, .lit [.int .i64 (-1), .int .i64 0] true, .lit [.nils, .nils] true, .nils, .bool false]
def c11 : LV := .tup [.agg [.lit [.int .i64 4, .int .i64 3] true, .lit [.lit [] true, .lit [.int .i64 2] true] true, .lit [.lit [.int .i64 0, .int .i64 0] true, .lit [.int .i64 0, .int .i64 0] true] true, .lit [.int .i64 1, .int .i64 0] true, .lit [.int .i64 (-1), .int .i64 (-1)] true, .lit [.nils, .nils] true, .nils, .bool false], .int .i64 0]
def c12 : LV := .agg [.lit [.int .i64 4, .int .i64 3] true, .lit [.lit [] true, .lit [.int .i64 2] true] true, .lit [.lit [.int .i64 0, .int .i64 0] true, .lit [.int .i64 0, .int .i64 0] true] true, .lit [.int .i64 1, .int .i64 0] true, .lit [.int .i64 (-1), .int .i64 (-1)] true, .lit [.nils, .nils] true, .nils, .bool false]
def c13 : LV := .tup [.agg [.lit [.int .i64 4, .int .i64 4] true, .lit [.lit [] true, .lit [] true] true, .lit [.lit [.int .i64 0, .int .i64 0] true, .lit [.int .i64 0, .int .i64 0] true] true, .lit [.int .i64 2, .int .i64 0] true, .lit [.int .i64 (-1), .int .i64 (-1)] true, .lit [.nils, .nils] true, .nils, .bool false], .int .i64 0]
def c14 : LV := .agg [.lit [.int .i64 4, .int .i64 4] true, .lit [.lit [] true, .lit [] true] true, .lit [.lit [.int .i64 0, .int .i64 0] true, .lit [.int .i64 0, .int .i64 0] true] true, .lit [.int .i64 2, .int .i64 0] true, .lit [.int .i64 (-1), .int .i64 (-1)] true, .lit [.nils, .nils] true, .nils, .bool false]
def c15 : LV := .tup [.lit [.int .i64 1, .int .i64 1, .int .i64 0, .int .i64 0, .int .i64 0, .int .i64 1] true, .agg [.lit [.int .i64 4, .int .i64 4] true, .lit [.lit [] true, .lit [] true] true, .lit [.lit [.int .i64 0, .int .i64 0] true, .lit [.int .i64 0, .int .i64 0] true] true, .lit [.int .i64 2, .int .i64 0] true, .lit [.int .i64 (-1), .int .i64 (-1)] true, .lit [.nils, .nils] true, .nils, .bool false]]
def c16 : LV := .lit [.int .i64 1, .int .i64 1, .int .i64 0, .int .i64 0, .int .i64 0, .int .i64 1] true
def c17 : LV := .tup [.lit [.agg [.int .i64 0, .int .i64 5, .int .i64 0, .nils]] true, .int .i64 0]
def c18 : LV := .lit [.agg [.int .i64 0, .int .i64 5, .int .i64 0, .nils]] true
def c19 : LV := .str [118, 97, 114, 32, 120, 32, 103, 111, 123, 112, 114, 105, 110, 116, 32, 120, 125, 32, 103, 111, 123, 112, 114, 105, 110, 116, 32, 120, 125]
def c20 : LV := .agg [.lit [.agg [.int .i64 1, .str [120], .int .i64 0, .cpx .f64 4607182418800017408 4607182418800017408]] false, .lit [.lit [.agg [.int .i64 2, .int .i64 0, .int .i64 0, .int .i64 0, .int .i64 0], .agg [.int .i64 11, .int .i64 0, .int .i64 0, .int .i64 0, .int .i64 0]] false, .lit [.agg [.int .i64 2, .int .i64 0, .int .i64 0, .int .i64 0, .int .i64 1], .agg [.int .i64 11, .int .i64 0, .int .i64 0, .int .i64 0, .int .i64 1]] false] false]
def c21 : LV := .agg [.lit [.int .i64 0, .int .i64 0] true, .lit [.nils, .nils] true, .lit [.lit [.int .i64 0] true, .lit [.int .i64 0] true] true, .lit [.int .i64 0] true, .lit [.int .i64 (-1)] true, .lit [.nils] true, .nils, .bool false]
def c22 : LV := .tup [.agg [.lit [.int .i64 1, .int .i64 0] true, .lit [.lit [.int .i64 0] true, .nils] true, .lit [.lit [.int .i64 0] true, .lit [.int .i64 0] true] true, .lit [.int .i64 0] true, .lit [.int .i64 (-1)] true, .lit [.nils] true, .nils, .bool false], .int .i64 0]
def c23 : LV := .agg [.lit [.int .i64 1, .int .i64 0] true, .lit [.lit [.int .i64 0] true, .nils] true, .lit [.lit [.int .i64 0] true, .lit [.int .i64 0] true] true, .lit [.int .i64 0] true, .lit [.int .i64 (-1)] true, .lit [.nils] true, .nils, .bool false]
def c24 : LV := .tup [.agg [.lit [.int .i64 2, .int .i64 0] true, .lit [.lit [] true, .nils] true, .lit [.lit [.int .i64 0] true, .lit [.int .i64 0] true] true, .lit [.int .i64 0] true, .lit [.int .i64 (-1)] true, .lit [.nils] true, .lit [.int .i64 0] true, .bool false], .int .i64 0]
def c25 : LV := .agg [.lit [.int .i64 2, .int .i64 0] true, .lit [.lit [] true, .nils] true, .lit [.lit [.int .i64 0] true, .lit [.int .i64 0] true] true, .lit [.int .i64 0] true, .lit [.int .i64 (-1)] true, .lit [.nils] true, .lit [.int .i64 0] true, .bool false]
def c26 : LV := .tup [.agg [.lit [.int .i64 2, .int .i64 1] true, .lit [.lit [] true, .lit [.int .i64 0] true] true, .lit [.lit [.int .i64 0] true, .lit [.int .i64 0] true] true, .lit [.int .i64 0] true, .lit [.int .i64 (-1)] true, .lit [.nils] true, .lit [.int .i64 0] true, .bool false], .int .i64 0]
def c27 : LV := .agg [.lit [.int .i64 2, .int .i64 1] true, .lit [.lit [] true, .lit [.int .i64 0] true] true, .lit [.lit [.int .i64 0] true, .lit [.int .i64 0] true] true, .lit [.int .i64 0] true, .lit [.int .i64 (-1)] true, .lit [.nils] true, .lit [.int .i64 0] true, .bool false]
def c28 : LV := .tup [.agg [.lit [.int .i64 2, .int .i64 2] true, .lit [.lit [] true, .lit [] true] true, .lit [.lit [.int .i64 0] true, .lit [.int .i64 0] true] true, .lit [.int .i64 0] true, .lit [.int .i64 (-1)] true, .lit [.nils] true, .lit [.int .i64 0, .int .i64 0] true, .bool false], .int .i64 0]
def c29 : LV := .agg [.lit [.int .i64 2, .int .i64 2] true, .lit [.lit [] true, .lit [] true] true, .lit [.lit [.int .i64 0] true, .lit [.int .i64 0] true] true, .lit [.int .i64 0] true, .lit [.int .i64 (-1)] true, .lit [.nils] true, .lit [.int .i64 0, .int .i64 0] true, .bool false]
def c30 : LV := .lit [.int .i64 0, .int .i64 0, .int .i64 0, .int .i64 0, .int .i64 0, .int .i64 0, .int .i64 0, .int .i64 0] true
def c31 : LV := .tup [.lit [.int .i64 0, .int .i64 0, .int .i64 1, .int .i64 1] true, .agg [.lit [.int .i64 2, .int .i64 2] true, .lit [.lit [] true, .lit [] true] true, .lit [.lit [.int .i64 0] true, .lit [.int .i64 0] true] true, .lit [.int .i64 0] true, .lit [.int .i64 (-1)] true, .lit [.nils] true, .lit [.int .i64 0, .int .i64 0] true, .bool false]]
def c32 : LV := .lit [.int .i64 0, .int .i64 0, .int .i64 1, .int .i64 1] true
def c33 : LV := .str [118, 97, 114, 32, 120, 32, 99, 104, 97, 110, 32, 99, 32, 49, 32, 103, 111, 123, 115, 101, 110, 100, 32, 99, 32, 49, 32, 120, 61, 49, 125, 32, 103, 111, 123, 120, 61, 50, 125]
def c34 : LV := .agg [.lit [.agg [.int .i64 1, .str [120], .int .i64 0, .cpx .f64 4607182418800017408 4607182418800017408], .agg [.int .i64 6, .str [99], .int .i64 1, .cpx .f64 4607182418800017408 4619567317775286272]] false, .lit [.lit [.agg [.int .i64 1, .int .i64 1, .int .i64 0, .int .i64 0, .int .i64 0], .agg [.int .i64 9, .int .i64 0, .int .i64 1, .int .i64 0, .int .i64 0], .agg [.int .i64 1, .int .i64 1, .int .i64 0, .int .i64 0, .int .i64 1], .agg [.int .i64 3, .int .i64 0, .int .i64 0, .int .i64 0, .int .i64 1]] false, .lit [.agg [.int .i64 1, .int .i64 2, .int .i64 0, .int .i64 0, .int .i64 2], .agg [.int .i64 3, .int .i64 0, .int .i64 0, .int .i64 0, .int .i64 2]] false] false]
def c35 : LV := .agg [.lit [.int .i64 1, .int .i64 1] true, .lit [.lit [.int .i64 1] true, .lit [.int .i64 2] true] true, .lit [.lit [.int .i64 0, .int .i64 0] true, .lit [.int .i64 0, .int .i64 0] true] true, .lit [.int .i64 0, .int .i64 0] true, .lit [.int .i64 (-1), .int .i64 (-1)] true, .lit [.nils, .nils] true, .nils, .bool false]
def c36 : LV := .tup [.agg [.lit [.int .i64 3, .int .i64 1] true, .lit [.lit [.int .i64 1] true, .lit [.int .i64 2] true] true, .lit [.lit [.int .i64 0, .int .i64 0] true, .lit [.int .i64 0, .int .i64 0] true] true, .lit [.int .i64 0, .int .i64 0] true, .lit [.int .i64 (-1), .int .i64 (-1)] true, .lit [.nils, .lit [.int .i64 1] true] true, .nils, .bool false], .int .i64 0]
def c37 : LV := .agg [.lit [.int .i64 3, .int .i64 1] true, .lit [.lit [.int .i64 1] true, .lit [.int .i64 2] true] true, .lit [.lit [.int .i64 0, .int .i64 0] true, .lit [.int .i64 0, .int .i64 0] true] true, .lit [.int .i64 0, .int .i64 0] true, .lit [.int .i64 (-1), .int .i64 (-1)] true, .lit [.nils, .lit [.int .i64 1] true] true, .nils, .bool false]
def c38 : LV := .tup [.agg [.lit [.int .i64 4, .int .i64 1] true, .lit [.lit [] true, .lit [.int .i64 2] true] true, .lit [.lit [.int .i64 0, .int .i64 0] true, .lit [.int .i64 0, .int .i64 0] true] true, .lit [.int .i64 1, .int .i64 0] true, .lit [.int .i64 (-1), .int .i64 (-1)] true, .lit [.nils, .lit [.int .i64 1] true] true, .nils, .bool false], .int .i64 0]
def c39 : LV := .agg [.lit [.int .i64 4, .int .i64 1] true, .lit [.lit [] true, .lit [.int .i64 2] true] true, .lit [.lit [.int .i64 0, .int .i64 0] true, .lit [.int .i64 0, .int .i64 0] true] true, .lit [.int .i64 1, .int .i64 0] true, .lit [.int .i64 (-1), .int .i64 (-1)] true, .lit [.nils, .lit [.int .i64 1] true] true, .nils, .bool false]
def c40 : LV := .tup [.agg [.lit [.int .i64 4, .int .i64 2] true, .lit [.lit [] true, .lit [] true] true, .lit [.lit [.int .i64 0, .int .i64 0] true, .lit [.int .i64 0, .int .i64 0] true] true, .lit [.int .i64 2, .int .i64 0] true, .lit [.int .i64 (-1), .int .i64 (-1)] true, .lit [.nils, .lit [.int .i64 1] true] true, .nils, .bool false], .int .i64 0]
def c41 : LV := .agg [.lit [.int .i64 4, .int .i64 2] true, .lit [.lit [] true, .lit [] true] true, .lit [.lit [.int .i64 0, .int .i64 0] true, .lit [.int .i64 0, .int .i64 0] true] true, .lit [.int .i64 2, .int .i64 0] true, .lit [.int .i64 (-1), .int .i64 (-1)] true, .lit [.nils, .lit [.int .i64 1] true] true, .nils, .bool false]
def c42 : LV := .tup [.lit [.int .i64 0, .int .i64 0, .int .i64 1] true, .agg [.lit [.int .i64 4, .int .i64 2] true, .lit [.lit [] true, .lit [] true] true, .lit [.lit [.int .i64 0, .int .i64 0] true, .lit [.int .i64 0, .int .i64 0] true] true, .lit [.int .i64 2, .int .i64 0] true, .lit [.int .i64 (-1), .int .i64 (-1)] true, .lit [.nils, .lit [.int .i64 1] true] true, .nils, .bool false]]
def c43 : LV := .tup [.lit [.agg [.int .i64 1, .int .i64 2, .int .i64 0, .nils]] true, .int .i64 0]
def c44 : LV := .lit [.agg [.int .i64 1, .int .i64 2, .int .i64 0, .nils]] true
def e0 : Nat × List LV × LV := (28, [c0], c1)
theorem r0 : KnE P e0 := pureB_ok Pok (knTab_ok kn0_ok (.nil : KnOk P [])) (fuel := 20000) (v := e0.2.2) rfl (by kernel_rfl)
def e1 : Nat × List LV × LV := (13, [c1], c2)
theorem r1 : KnE P e1 := pureB_ok Pok (knTab_ok kn0_ok (.nil : KnOk P [])) (fuel := 20000) (v := e1.2.2) rfl (by kernel_rfl)
def e2 : Nat × List LV × LV := (15, [c1, c2], (.lit [.int .i64 0, .int .i64 1] true))
theorem r2 : KnE P e2 := pureB_ok Pok (knTab_ok kn0_ok (.nil : KnOk P [])) (fuel := 20000) (v := e2.2.2) rfl (by kernel_rfl)
def e3 : Nat × List LV × LV := (19, [c1, c2, (.int .i64 1)], c3)
theorem r3 : KnE P e3 := pureB_ok Pok (knTab_ok kn0_ok (.cons r2 (.nil) : KnOk P [e2])) (fuel := 20000) (v := e3.2.2) rfl (by kernel_rfl)
def e4 : Nat × List LV × LV := (15, [c1, c4], (.lit [.int .i64 0, .int .i64 1] true))
theorem r4 : KnE P e4 := pureB_ok Pok (knTab_ok kn0_ok (.nil : KnOk P [])) (fuel := 20000) (v := e4.2.2) rfl (by kernel_rfl)
def e5 : Nat × List LV × LV := (19, [c1, c4, (.int .i64 1)], c5)
theorem r5 : KnE P e5 := pureB_ok Pok (knTab_ok kn0_ok (.cons r4 (.nil) : KnOk P [e4])) (fuel := 20000) (v := e5.2.2) rfl (by kernel_rfl)
def e6 : Nat × List LV × LV := (15, [c1, c6], (.lit [.int .i64 0, .int .i64 1] true))
theorem r6 : KnE P e6 := pureB_ok Pok (knTab_ok kn0_ok (.nil : KnOk P [])) (fuel := 20000) (v := e6.2.2) rfl (by kernel_rfl)
def e7 : Nat × List LV × LV := (19, [c1, c6, (.int .i64 0)], c7)
theorem r7 : KnE P e7 := pureB_ok Pok (knTab_ok kn0_ok (.cons r6 (.nil) : KnOk P [e6])) (fuel := 20000) (v := e7.2.2) rfl (by kernel_rfl)
def e8 : Nat × List LV × LV := (15, [c1, c8], (.lit [.int .i64 0, .int .i64 1] true))
theorem r8 : KnE P e8 := pureB_ok Pok (knTab_ok kn0_ok (.nil : KnOk P [])) (fuel := 20000) (v := e8.2.2) rfl (by kernel_rfl)
def e9 : Nat × List LV × LV := (19, [c1, c8, (.int .i64 0)], c9)
theorem r9 : KnE P e9 := pureB_ok Pok (knTab_ok kn0_ok (.cons r8 (.nil) : KnOk P [e8])) (fuel := 20000) (v := e9.2.2) rfl (by kernel_rfl)
def e10 : Nat × List LV × LV := (15, [c1, c10], (.lit [.int .i64 0, .int .i64 1] true))
theorem r10 : KnE P e10 := pureB_ok Pok (knTab_ok kn0_ok (.nil : KnOk P [])) (fuel := 20000) (v := e10.2.2) rfl (by kernel_rfl)
def e11 : Nat × List LV × LV := (19, [c1, c10, (.int .i64 0)], c11)
theorem r11 : KnE P e11 := pureB_ok Pok (knTab_ok kn0_ok (.cons r10 (.nil) : KnOk P [e10])) (fuel := 20000) (v := e11.2.2) rfl (by kernel_rfl)
def e12 : Nat × List LV × LV := (15, [c1, c12], (.lit [.int .i64 1] true))
theorem r12 : KnE P e12 := pureB_ok Pok (knTab_ok kn0_ok (.nil : KnOk P [])) (fuel := 20000) (v := e12.2.2) rfl (by kernel_rfl)
def e13 : Nat × List LV × LV := (19, [c1, c12, (.int .i64 1)], c13)
theorem r13 : KnE P e13 := pureB_ok Pok (knTab_ok kn0_ok (.cons r12 (.nil) : KnOk P [e12])) (fuel := 20000) (v := e13.2.2) rfl (by kernel_rfl)
def e14 : Nat × List LV × LV := (15, [c1, c14], (.nils))
theorem r14 : KnE P e14 := pureB_ok Pok (knTab_ok kn0_ok (.nil : KnOk P [])) (fuel := 20000) (v := e14.2.2) rfl (by kernel_rfl)
def e15 : Nat × List LV × LV := (22, [c1, (.lit [.int .i64 1, .int .i64 1] true)], c15)
theorem r15 : KnE P e15 := pureB_ok Pok (knTab_ok kn0_ok (.cons r1 (.cons r2 (.cons r3 (.cons r4 (.cons r5 (.cons r6 (.cons r7 (.cons r8 (.cons r9 (.cons r10 (.cons r11 (.cons r12 (.cons r13 (.cons r14 (.nil)))))))))))))) : KnOk P [e1, e2, e3, e4, e5, e6, e7, e8, e9, e10, e11, e12, e13, e14])) (fuel := 20000) (v := e15.2.2) rfl (by kernel_rfl)
def e16 : Nat × List LV × LV := (27, [c1, c16], c17)
theorem r16 : KnE P e16 := pureB_ok Pok (knTab_ok kn0_ok (.cons r1 (.cons r3 (.cons r5 (.cons r7 (.cons r9 (.cons r11 (.cons r13 (.nil))))))) : KnOk P [e1, e3, e5, e7, e9, e11, e13])) (fuel := 20000) (v := e16.2.2) rfl (by kernel_rfl)
def e17 : Nat × List LV × LV := (26, [c0, (.lit [.int .i64 1, .int .i64 1] true)], c18)
theorem r17 : KnE P e17 := pureB_ok Pok (knTab_ok kn0_ok (.cons r0 (.cons r15 (.cons r16 (.nil))) : KnOk P [e0, e15, e16])) (fuel := 20000) (v := e17.2.2) rfl (by kernel_rfl)
def e18 : Nat × List LV × LV := (28, [c19], c20)
theorem r18 : KnE P e18 := pureB_ok Pok (knTab_ok kn0_ok (.nil : KnOk P [])) (fuel := 20000) (v := e18.2.2) rfl (by kernel_rfl)
def e19 : Nat × List LV × LV := (13, [c20], c21)
theorem r19 : KnE P e19 := pureB_ok Pok (knTab_ok kn0_ok (.nil : KnOk P [])) (fuel := 20000) (v := e19.2.2) rfl (by kernel_rfl)
def e20 : Nat × List LV × LV := (15, [c20, c21], (.lit [.int .i64 0, .int .i64 1] true))
theorem r20 : KnE P e20 := pureB_ok Pok (knTab_ok kn0_ok (.nil : KnOk P [])) (fuel := 20000) (v := e20.2.2) rfl (by kernel_rfl)
def e21 : Nat × List LV × LV := (19, [c20, c21, (.int .i64 0)], c22)
theorem r21 : KnE P e21 := pureB_ok Pok (knTab_ok kn0_ok (.cons r20 (.nil) : KnOk P [e20])) (fuel := 20000) (v := e21.2.2) rfl (by kernel_rfl)
def e22 : Nat × List LV × LV := (15, [c20, c23], (.lit [.int .i64 0, .int .i64 1] true))
theorem r22 : KnE P e22 := pureB_ok Pok (knTab_ok kn0_ok (.nil : KnOk P [])) (fuel := 20000) (v := e22.2.2) rfl (by kernel_rfl)
def e23 : Nat × List LV × LV := (19, [c20, c23, (.int .i64 0)], c24)
theorem r23 : KnE P e23 := pureB_ok Pok (knTab_ok kn0_ok (.cons r22 (.nil) : KnOk P [e22])) (fuel := 20000) (v := e23.2.2) rfl (by kernel_rfl)
def e24 : Nat × List LV × LV := (15, [c20, c25], (.lit [.int .i64 1] true))
theorem r24 : KnE P e24 := pureB_ok Pok (knTab_ok kn0_ok (.nil : KnOk P [])) (fuel := 20000) (v := e24.2.2) rfl (by kernel_rfl)
def e25 : Nat × List LV × LV := (19, [c20, c25, (.int .i64 1)], c26)
theorem r25 : KnE P e25 := pureB_ok Pok (knTab_ok kn0_ok (.cons r24 (.nil) : KnOk P [e24])) (fuel := 20000) (v := e25.2.2) rfl (by kernel_rfl)
def e26 : Nat × List LV × LV := (15, [c20, c27], (.lit [.int .i64 1] true))
theorem r26 : KnE P e26 := pureB_ok Pok (knTab_ok kn0_ok (.nil : KnOk P [])) (fuel := 20000) (v := e26.2.2) rfl (by kernel_rfl)
def e27 : Nat × List LV × LV := (19, [c20, c27, (.int .i64 1)], c28)
theorem r27 : KnE P e27 := pureB_ok Pok (knTab_ok kn0_ok (.cons r26 (.nil) : KnOk P [e26])) (fuel := 20000) (v := e27.2.2) rfl (by kernel_rfl)
def e28 : Nat × List LV × LV := (15, [c20, c29], (.nils))
theorem r28 : KnE P e28 := pureB_ok Pok (knTab_ok kn0_ok (.nil : KnOk P [])) (fuel := 20000) (v := e28.2.2) rfl (by kernel_rfl)
def e29 : Nat × List LV × LV := (22, [c20, c30], c31)
theorem r29 : KnE P e29 := pureB_ok Pok (knTab_ok kn0_ok (.cons r19 (.cons r20 (.cons r21 (.cons r22 (.cons r23 (.cons r24 (.cons r25 (.cons r26 (.cons r27 (.cons r28 (.nil)))))))))) : KnOk P [e19, e20, e21, e22, e23, e24, e25, e26, e27, e28])) (fuel := 20000) (v := e29.2.2) rfl (by kernel_rfl)
def e30 : Nat × List LV × LV := (27, [c20, c32], (.tup [.nils, .int .i64 0]))
theorem r30 : KnE P e30 := pureB_ok Pok (knTab_ok kn0_ok (.cons r19 (.cons r21 (.cons r23 (.cons r25 (.cons r27 (.nil))))) : KnOk P [e19, e21, e23, e25, e27])) (fuel := 20000) (v := e30.2.2) rfl (by kernel_rfl)
def e31 : Nat × List LV × LV := (26, [c19, c30], (.nils))
theorem r31 : KnE P e31 := pureB_ok Pok (knTab_ok kn0_ok (.cons r18 (.cons r29 (.cons r30 (.nil))) : KnOk P [e18, e29, e30])) (fuel := 20000) (v := e31.2.2) rfl (by kernel_rfl)
def e32 : Nat × List LV × LV := (28, [c33], c34)
theorem r32 : KnE P e32 := pureB_ok Pok (knTab_ok kn0_ok (.nil : KnOk P [])) (fuel := 20000) (v := e32.2.2) rfl (by kernel_rfl)
def e33 : Nat × List LV × LV := (13, [c34], c35)
theorem r33 : KnE P e33 := pureB_ok Pok (knTab_ok kn0_ok (.nil : KnOk P [])) (fuel := 20000) (v := e33.2.2) rfl (by kernel_rfl)
def e34 : Nat × List LV × LV := (15, [c34, c35], (.lit [.int .i64 0, .int .i64 1] true))
theorem r34 : KnE P e34 := pureB_ok Pok (knTab_ok kn0_ok (.nil : KnOk P [])) (fuel := 20000) (v := e34.2.2) rfl (by kernel_rfl)
def e35 : Nat × List LV × LV := (19, [c34, c35, (.int .i64 0)], c36)
theorem r35 : KnE P e35 := pureB_ok Pok (knTab_ok kn0_ok (.cons r34 (.nil) : KnOk P [e34])) (fuel := 20000) (v := e35.2.2) rfl (by kernel_rfl)
def e36 : Nat × List LV × LV := (15, [c34, c37], (.lit [.int .i64 0, .int .i64 1] true))
theorem r36 : KnE P e36 := pureB_ok Pok (knTab_ok kn0_ok (.nil : KnOk P [])) (fuel := 20000) (v := e36.2.2) rfl (by kernel_rfl)
def e37 : Nat × List LV × LV := (19, [c34, c37, (.int .i64 0)], c38)
theorem r37 : KnE P e37 := pureB_ok Pok (knTab_ok kn0_ok (.cons r36 (.nil) : KnOk P [e36])) (fuel := 20000) (v := e37.2.2) rfl (by kernel_rfl)
def e38 : Nat × List LV × LV := (15, [c34, c39], (.lit [.int .i64 1] true))
theorem r38 : KnE P e38 := pureB_ok Pok (knTab_ok kn0_ok (.nil : KnOk P [])) (fuel := 20000) (v := e38.2.2) rfl (by kernel_rfl)
def e39 : Nat × List LV × LV := (19, [c34, c39, (.int .i64 1)], c40)
theorem r39 : KnE P e39 := pureB_ok Pok (knTab_ok kn0_ok (.cons r38 (.nil) : KnOk P [e38])) (fuel := 20000) (v := e39.2.2) rfl (by kernel_rfl)
def e40 : Nat × List LV × LV := (15, [c34, c41], (.nils))
theorem r40 : KnE P e40 := pureB_ok Pok (knTab_ok kn0_ok (.nil : KnOk P [])) (fuel := 20000) (v := e40.2.2) rfl (by kernel_rfl)
def e41 : Nat × List LV × LV := (22, [c34, (.nils)], c42)
theorem r41 : KnE P e41 := pureB_ok Pok (knTab_ok kn0_ok (.cons r33 (.cons r34 (.cons r35 (.cons r36 (.cons r37 (.cons r38 (.cons r39 (.cons r40 (.nil)))))))) : KnOk P [e33, e34, e35, e36, e37, e38, e39, e40])) (fuel := 20000) (v := e41.2.2) rfl (by kernel_rfl)
def e42 : Nat × List LV × LV := (27, [c34, (.lit [.int .i64 0, .int .i64 0, .int .i64 1] true)], c43)
theorem r42 : KnE P e42 := pureB_ok Pok (knTab_ok kn0_ok (.cons r33 (.cons r35 (.cons r37 (.cons r39 (.nil)))) : KnOk P [e33, e35, e37, e39])) (fuel := 20000) (v := e42.2.2) rfl (by kernel_rfl)
def e43 : Nat × List LV × LV := (26, [c33, (.nils)], c44)
theorem r43 : KnE P e43 := pureB_ok Pok (knTab_ok kn0_ok (.cons r32 (.cons r41 (.cons r42 (.nil))) : KnOk P [e32, e41, e42])) (fuel := 20000) (v := e43.2.2) rfl (by kernel_rfl)
end Tz.tzob
