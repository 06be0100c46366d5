/- Calls, carried out: printed by wip/tools/gen.py. -/
import Derived.Test.YthjcagfiknkmkaaTsk
set_option maxRecDepth 1000000
namespace Ts
open Go Den
def c0 : LV := .str [109, 117, 116, 101, 120, 32, 109, 32, 118, 97, 114, 32, 120, 32, 103, 111, 123, 108, 111, 99, 107, 32, 109, 32, 120, 32, 61, 32, 49, 32, 117, 110, 108, 111, 99, 107, 32, 109, 125, 103, 111, 123, 108, 111, 99, 107, 32, 109, 32, 117, 110, 108, 111, 99, 107, 32, 109, 125, 103, 111, 123, 117, 110, 108, 111, 99, 107, 32, 109, 125]
def c1 : LV := .agg [.lit [.agg [.int .i64 5, .str [109], .int .i64 0, .cpx .f64 4607182418800017408 4607182418800017408], .agg [.int .i64 1, .str [120], .int .i64 0, .cpx .f64 4607182418800017408 4621256167635550208]] false, .lit [.lit [.agg [.int .i64 7, .int .i64 0, .int .i64 0, .int .i64 0, .int .i64 0], .agg [.int .i64 1, .int .i64 1, .int .i64 0, .int .i64 0, .int .i64 1], .agg [.int .i64 3, .int .i64 0, .int .i64 1, .int .i64 0, .int .i64 1], .agg [.int .i64 8, .int .i64 0, .int .i64 0, .int .i64 0, .int .i64 2]] false, .lit [.agg [.int .i64 7, .int .i64 0, .int .i64 0, .int .i64 0, .int .i64 3], .agg [.int .i64 8, .int .i64 0, .int .i64 0, .int .i64 0, .int .i64 4]] false, .lit [.agg [.int .i64 8, .int .i64 0, .int .i64 0, .int .i64 0, .int .i64 5]] false] false]
def c2 : LV := .agg [.lit [.int .i64 0, .int .i64 0, .int .i64 0] true, .lit [.nils, .nils, .nils] true, .lit [.lit [.int .i64 0, .int .i64 0] true, .lit [.int .i64 0, .int .i64 0] true, .lit [.int .i64 0, .int .i64 0] true] true, .lit [.int .i64 0, .int .i64 0] true, .lit [.int .i64 (-1), .int .i64 (-1)] true, .lit [.nils, .nils] true, .nils, .bool false]
def c3 : LV := .tup [.agg [.lit [.int .i64 2, .int .i64 0, .int .i64 0] true, .lit [.lit [.int .i64 1] true, .nils, .nils] true, .lit [.lit [.int .i64 0, .int .i64 0] true, .lit [.int .i64 0, .int .i64 0] true, .lit [.int .i64 0, .int .i64 0] true] true, .lit [.int .i64 0, .int .i64 0] true, .lit [.int .i64 0, .int .i64 (-1)] true, .lit [.nils, .nils] true, .nils, .bool false], .int .i64 0]
def c4 : LV := .str [99, 104, 97, 110, 32, 99, 32, 48, 32, 108, 111, 99, 97, 108, 32, 116, 32, 103, 111, 123, 115, 101, 110, 100, 32, 99, 32, 53, 125, 103, 111, 123, 114, 101, 99, 118, 32, 99, 32, 116, 125]
def c5 : LV := .agg [.lit [.agg [.int .i64 6, .str [99], .int .i64 0, .cpx .f64 4607182418800017408 4607182418800017408], .agg [.int .i64 4, .str [116], .int .i64 0, .cpx .f64 4607182418800017408 4621819117588971520]] false, .lit [.lit [.agg [.int .i64 1, .int .i64 5, .int .i64 0, .int .i64 0, .int .i64 0], .agg [.int .i64 9, .int .i64 0, .int .i64 0, .int .i64 0, .int .i64 0]] false, .lit [.agg [.int .i64 10, .int .i64 0, .int .i64 0, .int .i64 0, .int .i64 1], .agg [.int .i64 3, .int .i64 0, .int .i64 1, .int .i64 0, .int .i64 1]] false] false]
def c6 : LV := .agg [.lit [.int .i64 1, .int .i64 0] true, .lit [.lit [.int .i64 5] true, .nils] true, .lit [.lit [.int .i64 0, .int .i64 0] true, .lit [.int .i64 0, .int .i64 0] true] true, .lit [.int .i64 0, .int .i64 0] true, .lit [.int .i64 (-1), .int .i64 (-1)] true, .lit [.nils, .nils] true, .nils, .bool false]
def c7 : LV := .tup [.agg [.lit [.int .i64 2, .int .i64 2] true, .lit [.lit [] true, .lit [] true] true, .lit [.lit [.int .i64 0, .int .i64 0] true, .lit [.int .i64 0, .int .i64 5] true] true, .lit [.int .i64 0, .int .i64 0] true, .lit [.int .i64 (-1), .int .i64 (-1)] true, .lit [.nils, .nils] true, .nils, .bool false], .int .i64 0]
def c8 : LV := .agg [.lit [.int .i64 2, .int .i64 0, .int .i64 0] true, .lit [.lit [.int .i64 1] true, .nils, .nils] true, .lit [.lit [.int .i64 0, .int .i64 0] true, .lit [.int .i64 0, .int .i64 0] true, .lit [.int .i64 0, .int .i64 0] true] true, .lit [.int .i64 0, .int .i64 0] true, .lit [.int .i64 0, .int .i64 (-1)] true, .lit [.nils, .nils] true, .nils, .bool false]
def c9 : LV := .tup [.agg [.lit [.int .i64 2, .int .i64 0, .int .i64 0] true, .lit [.lit [.int .i64 1] true, .nils, .nils] true, .lit [.lit [.int .i64 0, .int .i64 0] true, .lit [.int .i64 0, .int .i64 0] true, .lit [.int .i64 0, .int .i64 0] true] true, .lit [.int .i64 0, .int .i64 0] true, .lit [.int .i64 0, .int .i64 (-1)] true, .lit [.nils, .nils] true, .nils, .bool true], .int .i64 0]
def c10 : LV := .tup [.agg [.nils, .nils, .nils, .nils, .nils, .nils, .nils, .bool false], .int .i64 7]
def c11 : LV := .str [99, 104, 97, 110, 32, 99, 32, 49, 32, 108, 111, 99, 97, 108, 32, 116, 32, 103, 111, 123, 115, 101, 110, 100, 32, 99, 32, 49, 32, 115, 101, 110, 100, 32, 99, 32, 50, 125, 103, 111, 123, 114, 101, 99, 118, 32, 99, 32, 116, 32, 112, 114, 105, 110, 116, 32, 116, 125]
def c12 : LV := .agg [.lit [.agg [.int .i64 6, .str [99], .int .i64 1, .cpx .f64 4607182418800017408 4607182418800017408], .agg [.int .i64 4, .str [116], .int .i64 0, .cpx .f64 4607182418800017408 4621819117588971520]] false, .lit [.lit [.agg [.int .i64 1, .int .i64 1, .int .i64 0, .int .i64 0, .int .i64 0], .agg [.int .i64 9, .int .i64 0, .int .i64 0, .int .i64 0, .int .i64 0], .agg [.int .i64 1, .int .i64 2, .int .i64 0, .int .i64 0, .int .i64 1], .agg [.int .i64 9, .int .i64 0, .int .i64 0, .int .i64 0, .int .i64 1]] false, .lit [.agg [.int .i64 10, .int .i64 0, .int .i64 0, .int .i64 0, .int .i64 2], .agg [.int .i64 3, .int .i64 0, .int .i64 1, .int .i64 0, .int .i64 2], .agg [.int .i64 2, .int .i64 0, .int .i64 1, .int .i64 0, .int .i64 3], .agg [.int .i64 11, .int .i64 0, .int .i64 0, .int .i64 0, .int .i64 3]] false] false]
def c13 : LV := .agg [.lit [.int .i64 1, .int .i64 0] true, .lit [.lit [.int .i64 1] true, .nils] true, .lit [.lit [.int .i64 0, .int .i64 0] true, .lit [.int .i64 0, .int .i64 0] true] true, .lit [.int .i64 0, .int .i64 0] true, .lit [.int .i64 (-1), .int .i64 (-1)] true, .lit [.nils, .nils] true, .nils, .bool false]
def c14 : LV := .tup [.agg [.lit [.int .i64 3, .int .i64 0] true, .lit [.lit [.int .i64 2] true, .nils] true, .lit [.lit [.int .i64 0, .int .i64 0] true, .lit [.int .i64 0, .int .i64 0] true] true, .lit [.int .i64 0, .int .i64 0] true, .lit [.int .i64 (-1), .int .i64 (-1)] true, .lit [.lit [.int .i64 1] true, .nils] true, .nils, .bool false], .int .i64 0]
def c15 : LV := .agg [.lit [.int .i64 3, .int .i64 0] true, .lit [.lit [.int .i64 2] true, .nils] true, .lit [.lit [.int .i64 0, .int .i64 0] true, .lit [.int .i64 0, .int .i64 0] true] true, .lit [.int .i64 0, .int .i64 0] true, .lit [.int .i64 (-1), .int .i64 (-1)] true, .lit [.lit [.int .i64 1] true, .nils] true, .nils, .bool false]
def c16 : LV := .tup [.agg [.lit [.int .i64 3, .int .i64 3] true, .lit [.lit [.int .i64 2] true, .lit [.int .i64 1] true] true, .lit [.lit [.int .i64 0, .int .i64 0] true, .lit [.int .i64 0, .int .i64 1] true] true, .lit [.int .i64 0, .int .i64 0] true, .lit [.int .i64 (-1), .int .i64 (-1)] true, .lit [.lit [] true, .nils] true, .nils, .bool false], .int .i64 0]
def c17 : LV := .agg [.lit [.int .i64 3, .int .i64 3] true, .lit [.lit [.int .i64 2] true, .lit [.int .i64 1] true] true, .lit [.lit [.int .i64 0, .int .i64 0] true, .lit [.int .i64 0, .int .i64 1] true] true, .lit [.int .i64 0, .int .i64 0] true, .lit [.int .i64 (-1), .int .i64 (-1)] true, .lit [.lit [] true, .nils] true, .nils, .bool false]
def c18 : LV := .tup [.agg [.lit [.int .i64 3, .int .i64 4] true, .lit [.lit [.int .i64 2] true, .lit [] true] true, .lit [.lit [.int .i64 0, .int .i64 0] true, .lit [.int .i64 0, .int .i64 1] true] true, .lit [.int .i64 0, .int .i64 0] true, .lit [.int .i64 (-1), .int .i64 (-1)] true, .lit [.lit [] true, .nils] true, .lit [.int .i64 1] true, .bool false], .int .i64 0]
def c19 : LV := .agg [.lit [.int .i64 3, .int .i64 4] true, .lit [.lit [.int .i64 2] true, .lit [] true] true, .lit [.lit [.int .i64 0, .int .i64 0] true, .lit [.int .i64 0, .int .i64 1] true] true, .lit [.int .i64 0, .int .i64 0] true, .lit [.int .i64 (-1), .int .i64 (-1)] true, .lit [.lit [] true, .nils] true, .lit [.int .i64 1] true, .bool false]
def c20 : LV := .str [109, 117, 116, 101, 120, 32, 109, 32, 103, 111, 123, 108, 111, 99, 107, 32, 109, 32, 108, 111, 99, 107, 32, 109, 125]
def c21 : LV := .agg [.lit [.agg [.int .i64 5, .str [109], .int .i64 0, .cpx .f64 4607182418800017408 4607182418800017408]] false, .lit [.lit [.agg [.int .i64 7, .int .i64 0, .int .i64 0, .int .i64 0, .int .i64 0], .agg [.int .i64 7, .int .i64 0, .int .i64 0, .int .i64 0, .int .i64 1]] false] false]
def c22 : LV := .agg [.lit [.int .i64 0] true, .lit [.nils] true, .lit [.lit [.int .i64 0] true] true, .lit [.int .i64 0] true, .lit [.int .i64 (-1)] true, .lit [.nils] true, .nils, .bool false]
def c23 : LV := .tup [.agg [.lit [.int .i64 1] true, .lit [.nils] true, .lit [.lit [.int .i64 0] true] true, .lit [.int .i64 0] true, .lit [.int .i64 0] true, .lit [.nils] true, .nils, .bool false], .int .i64 0]
def c24 : LV := .str [99, 104, 97, 110, 32, 99, 32, 48, 32, 108, 111, 99, 97, 108, 32, 116, 32, 103, 111, 123, 115, 101, 110, 100, 32, 99, 32, 49, 125, 103, 111, 123, 115, 101, 110, 100, 32, 99, 32, 50, 125, 103, 111, 123, 114, 101, 99, 118, 32, 99, 32, 116, 125, 103, 111, 123, 114, 101, 99, 118, 32, 99, 32, 116, 125]
def c25 : LV := .agg [.lit [.agg [.int .i64 6, .str [99], .int .i64 0, .cpx .f64 4607182418800017408 4607182418800017408], .agg [.int .i64 4, .str [116], .int .i64 0, .cpx .f64 4607182418800017408 4621819117588971520]] false, .lit [.lit [.agg [.int .i64 1, .int .i64 1, .int .i64 0, .int .i64 0, .int .i64 0], .agg [.int .i64 9, .int .i64 0, .int .i64 0, .int .i64 0, .int .i64 0]] false, .lit [.agg [.int .i64 1, .int .i64 2, .int .i64 0, .int .i64 0, .int .i64 1], .agg [.int .i64 9, .int .i64 0, .int .i64 0, .int .i64 0, .int .i64 1]] false, .lit [.agg [.int .i64 10, .int .i64 0, .int .i64 0, .int .i64 0, .int .i64 2], .agg [.int .i64 3, .int .i64 0, .int .i64 1, .int .i64 0, .int .i64 2]] false, .lit [.agg [.int .i64 10, .int .i64 0, .int .i64 0, .int .i64 0, .int .i64 3], .agg [.int .i64 3, .int .i64 0, .int .i64 1, .int .i64 0, .int .i64 3]] false] false]
def c26 : LV := .agg [.lit [.int .i64 1, .int .i64 1, .int .i64 0, .int .i64 0] true, .lit [.lit [.int .i64 1] true, .lit [.int .i64 2] true, .nils, .nils] true, .lit [.lit [.int .i64 0, .int .i64 0] true, .lit [.int .i64 0, .int .i64 0] true, .lit [.int .i64 0, .int .i64 0] true, .lit [.int .i64 0, .int .i64 0] true] true, .lit [.int .i64 0, .int .i64 0] true, .lit [.int .i64 (-1), .int .i64 (-1)] true, .lit [.nils, .nils] true, .nils, .bool false]
def c27 : LV := .lit [.int .i64 24, .int .i64 25, .int .i64 32, .int .i64 33] true
def c28 : LV := .agg [.lit [.int .i64 2, .int .i64 0, .int .i64 0] true, .lit [.lit [.int .i64 1] true, .nils, .nils] true, .lit [.lit [.int .i64 0, .int .i64 0] true, .lit [.int .i64 0, .int .i64 0] true, .lit [.int .i64 0, .int .i64 0] true] true, .lit [.int .i64 0, .int .i64 0] true, .lit [.int .i64 0, .int .i64 (-1)] true, .lit [.nils, .nils] true, .nils, .bool true]
def c29 : LV := .agg [.lit [.int .i64 1] true, .lit [.nils] true, .lit [.lit [.int .i64 0] true] true, .lit [.int .i64 0] true, .lit [.int .i64 0] true, .lit [.nils] true, .nils, .bool false]
def e0 : Nat × List LV × LV := (5, [c0], c1)
theorem r0 : KnE P e0 := pureB_ok Pok (knTab_ok kn0_ok (.nil : KnOk P [])) (fuel := 20000) (v := e0.2.2) rfl (by kernel_rfl)
def e1 : Nat × List LV × LV := (6, [c1], c2)
theorem r1 : KnE P e1 := pureB_ok Pok (knTab_ok kn0_ok (.nil : KnOk P [])) (fuel := 20000) (v := e1.2.2) rfl (by kernel_rfl)
def e2 : Nat × List LV × LV := (7, [c1, c2], (.lit [.int .i64 0, .int .i64 1, .int .i64 2] true))
theorem r2 : KnE P e2 := pureB_ok Pok (knTab_ok kn0_ok (.nil : KnOk P [])) (fuel := 20000) (v := e2.2.2) rfl (by kernel_rfl)
def e3 : Nat × List LV × LV := (8, [c1, c2, (.int .i64 0)], c3)
theorem r3 : KnE P e3 := pureB_ok Pok (knTab_ok kn0_ok (.cons r2 (.nil) : KnOk P [e2])) (fuel := 20000) (v := e3.2.2) rfl (by kernel_rfl)
def e4 : Nat × List LV × LV := (5, [c4], c5)
theorem r4 : KnE P e4 := pureB_ok Pok (knTab_ok kn0_ok (.nil : KnOk P [])) (fuel := 20000) (v := e4.2.2) rfl (by kernel_rfl)
def e5 : Nat × List LV × LV := (6, [c5], c6)
theorem r5 : KnE P e5 := pureB_ok Pok (knTab_ok kn0_ok (.nil : KnOk P [])) (fuel := 20000) (v := e5.2.2) rfl (by kernel_rfl)
def e6 : Nat × List LV × LV := (7, [c5, c6], (.lit [.int .i64 16] true))
theorem r6 : KnE P e6 := pureB_ok Pok (knTab_ok kn0_ok (.nil : KnOk P [])) (fuel := 20000) (v := e6.2.2) rfl (by kernel_rfl)
def e7 : Nat × List LV × LV := (8, [c5, c6, (.int .i64 16)], c7)
theorem r7 : KnE P e7 := pureB_ok Pok (knTab_ok kn0_ok (.cons r6 (.nil) : KnOk P [e6])) (fuel := 20000) (v := e7.2.2) rfl (by kernel_rfl)
def e8 : Nat × List LV × LV := (9, [], (.bool true))
theorem r8 : KnE P e8 := pureB_ok Pok (knTab_ok kn0_ok (.cons r4 (.cons r5 (.cons r6 (.cons r7 (.nil)))) : KnOk P [e4, e5, e6, e7])) (fuel := 20000) (v := e8.2.2) rfl (by kernel_rfl)
def e9 : Nat × List LV × LV := (7, [c1, c8], (.lit [.int .i64 0, .int .i64 2] true))
theorem r9 : KnE P e9 := pureB_ok Pok (knTab_ok kn0_ok (.nil : KnOk P [])) (fuel := 20000) (v := e9.2.2) rfl (by kernel_rfl)
def e10 : Nat × List LV × LV := (8, [c1, c8, (.int .i64 2)], c9)
theorem r10 : KnE P e10 := pureB_ok Pok (knTab_ok kn0_ok (.cons r9 (.nil) : KnOk P [e9])) (fuel := 20000) (v := e10.2.2) rfl (by kernel_rfl)
def e11 : Nat × List LV × LV := (8, [c1, c8, (.int .i64 1)], c10)
theorem r11 : KnE P e11 := pureB_ok Pok (knTab_ok kn0_ok (.cons r9 (.nil) : KnOk P [e9])) (fuel := 20000) (v := e11.2.2) rfl (by kernel_rfl)
def e12 : Nat × List LV × LV := (8, [c1, c8, (.int .i64 3)], c10)
theorem r12 : KnE P e12 := pureB_ok Pok (knTab_ok kn0_ok (.cons r9 (.nil) : KnOk P [e9])) (fuel := 20000) (v := e12.2.2) rfl (by kernel_rfl)
def e13 : Nat × List LV × LV := (8, [c1, c8, (.int .i64 (-1))], c10)
theorem r13 : KnE P e13 := pureB_ok Pok (knTab_ok kn0_ok (.cons r9 (.nil) : KnOk P [e9])) (fuel := 20000) (v := e13.2.2) rfl (by kernel_rfl)
def e14 : Nat × List LV × LV := (5, [c11], c12)
theorem r14 : KnE P e14 := pureB_ok Pok (knTab_ok kn0_ok (.nil : KnOk P [])) (fuel := 20000) (v := e14.2.2) rfl (by kernel_rfl)
def e15 : Nat × List LV × LV := (6, [c12], c13)
theorem r15 : KnE P e15 := pureB_ok Pok (knTab_ok kn0_ok (.nil : KnOk P [])) (fuel := 20000) (v := e15.2.2) rfl (by kernel_rfl)
def e16 : Nat × List LV × LV := (7, [c12, c13], (.lit [.int .i64 0] true))
theorem r16 : KnE P e16 := pureB_ok Pok (knTab_ok kn0_ok (.nil : KnOk P [])) (fuel := 20000) (v := e16.2.2) rfl (by kernel_rfl)
def e17 : Nat × List LV × LV := (8, [c12, c13, (.int .i64 0)], c14)
theorem r17 : KnE P e17 := pureB_ok Pok (knTab_ok kn0_ok (.cons r16 (.nil) : KnOk P [e16])) (fuel := 20000) (v := e17.2.2) rfl (by kernel_rfl)
def e18 : Nat × List LV × LV := (7, [c12, c15], (.lit [.int .i64 1] true))
theorem r18 : KnE P e18 := pureB_ok Pok (knTab_ok kn0_ok (.nil : KnOk P [])) (fuel := 20000) (v := e18.2.2) rfl (by kernel_rfl)
def e19 : Nat × List LV × LV := (8, [c12, c15, (.int .i64 1)], c16)
theorem r19 : KnE P e19 := pureB_ok Pok (knTab_ok kn0_ok (.cons r18 (.nil) : KnOk P [e18])) (fuel := 20000) (v := e19.2.2) rfl (by kernel_rfl)
def e20 : Nat × List LV × LV := (7, [c12, c17], (.lit [.int .i64 0, .int .i64 1] true))
theorem r20 : KnE P e20 := pureB_ok Pok (knTab_ok kn0_ok (.nil : KnOk P [])) (fuel := 20000) (v := e20.2.2) rfl (by kernel_rfl)
def e21 : Nat × List LV × LV := (8, [c12, c17, (.int .i64 1)], c18)
theorem r21 : KnE P e21 := pureB_ok Pok (knTab_ok kn0_ok (.cons r20 (.nil) : KnOk P [e20])) (fuel := 20000) (v := e21.2.2) rfl (by kernel_rfl)
def e22 : Nat × List LV × LV := (7, [c12, c19], (.lit [.int .i64 0] true))
theorem r22 : KnE P e22 := pureB_ok Pok (knTab_ok kn0_ok (.nil : KnOk P [])) (fuel := 20000) (v := e22.2.2) rfl (by kernel_rfl)
def e23 : Nat × List LV × LV := (5, [c20], c21)
theorem r23 : KnE P e23 := pureB_ok Pok (knTab_ok kn0_ok (.nil : KnOk P [])) (fuel := 20000) (v := e23.2.2) rfl (by kernel_rfl)
def e24 : Nat × List LV × LV := (6, [c21], c22)
theorem r24 : KnE P e24 := pureB_ok Pok (knTab_ok kn0_ok (.nil : KnOk P [])) (fuel := 20000) (v := e24.2.2) rfl (by kernel_rfl)
def e25 : Nat × List LV × LV := (7, [c21, c22], (.lit [.int .i64 0] true))
theorem r25 : KnE P e25 := pureB_ok Pok (knTab_ok kn0_ok (.nil : KnOk P [])) (fuel := 20000) (v := e25.2.2) rfl (by kernel_rfl)
def e26 : Nat × List LV × LV := (8, [c21, c22, (.int .i64 0)], c23)
theorem r26 : KnE P e26 := pureB_ok Pok (knTab_ok kn0_ok (.cons r25 (.nil) : KnOk P [e25])) (fuel := 20000) (v := e26.2.2) rfl (by kernel_rfl)
def e27 : Nat × List LV × LV := (5, [c24], c25)
theorem r27 : KnE P e27 := pureB_ok Pok (knTab_ok kn0_ok (.nil : KnOk P [])) (fuel := 20000) (v := e27.2.2) rfl (by kernel_rfl)
def e28 : Nat × List LV × LV := (6, [c25], c26)
theorem r28 : KnE P e28 := pureB_ok Pok (knTab_ok kn0_ok (.nil : KnOk P [])) (fuel := 20000) (v := e28.2.2) rfl (by kernel_rfl)
def e29 : Nat × List LV × LV := (7, [c25, c26], c27)
theorem r29 : KnE P e29 := pureB_ok Pok (knTab_ok kn0_ok (.nil : KnOk P [])) (fuel := 20000) (v := e29.2.2) rfl (by kernel_rfl)
def e30 : Nat × List LV × LV := (7, [c1, c28], (.nils))
theorem r30 : KnE P e30 := pureB_ok Pok (knTab_ok kn0_ok (.nil : KnOk P [])) (fuel := 20000) (v := e30.2.2) rfl (by kernel_rfl)
def e31 : Nat × List LV × LV := (10, [c1, c28], (.bool false))
theorem r31 : KnE P e31 := pureB_ok Pok (knTab_ok kn0_ok (.nil : KnOk P [])) (fuel := 20000) (v := e31.2.2) rfl (by kernel_rfl)
def e32 : Nat × List LV × LV := (7, [c21, c29], (.nils))
theorem r32 : KnE P e32 := pureB_ok Pok (knTab_ok kn0_ok (.nil : KnOk P [])) (fuel := 20000) (v := e32.2.2) rfl (by kernel_rfl)
def e33 : Nat × List LV × LV := (10, [c21, c29], (.bool true))
theorem r33 : KnE P e33 := pureB_ok Pok (knTab_ok kn0_ok (.cons r32 (.nil) : KnOk P [e32])) (fuel := 20000) (v := e33.2.2) rfl (by kernel_rfl)
def e34 : Nat × List LV × LV := (3, [], (.bool true))
theorem r34 : KnE P e34 := pureB_ok Pok (knTab_ok kn0_ok (.cons r0 (.cons r1 (.cons r2 (.cons r3 (.cons r8 (.cons r9 (.cons r10 (.cons r11 (.cons r12 (.cons r13 (.cons r14 (.cons r15 (.cons r16 (.cons r17 (.cons r18 (.cons r19 (.cons r21 (.cons r22 (.cons r23 (.cons r24 (.cons r26 (.cons r27 (.cons r28 (.cons r29 (.cons r30 (.cons r31 (.cons r33 (.nil))))))))))))))))))))))))))) : KnOk P [e0, e1, e2, e3, e8, e9, e10, e11, e12, e13, e14, e15, e16, e17, e18, e19, e21, e22, e23, e24, e26, e27, e28, e29, e30, e31, e33])) (fuel := 20000) (v := e34.2.2) rfl (by kernel_rfl)
end Ts
