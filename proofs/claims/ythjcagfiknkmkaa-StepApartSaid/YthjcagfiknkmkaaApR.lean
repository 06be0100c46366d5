/- StepApart's end, carried out for each case. -/
import Derived.Test.YthjcagfiknkmkaaApL
set_option maxRecDepth 1000000
namespace Ts.apart
open Go Den
theorem z00t : restB true 0 0 = true := by kernel_rfl
theorem z00f : restB false 0 0 = true := by kernel_rfl
theorem z01t : restB true 0 1 = true := by kernel_rfl
theorem z01f : restB false 0 1 = true := by kernel_rfl
theorem z02t : restB true 0 2 = true := by kernel_rfl
theorem z02f : restB false 0 2 = true := by kernel_rfl
theorem z03t : restB true 0 3 = true := by kernel_rfl
theorem z03f : restB false 0 3 = true := by kernel_rfl
theorem z04t : restB true 0 4 = true := by kernel_rfl
theorem z04f : restB false 0 4 = true := by kernel_rfl
theorem z05t : restB true 0 5 = true := by kernel_rfl
theorem z05f : restB false 0 5 = true := by kernel_rfl
theorem z06t : restB true 0 6 = true := by kernel_rfl
theorem z06f : restB false 0 6 = true := by kernel_rfl
theorem z07t : restB true 0 7 = true := by kernel_rfl
theorem z07f : restB false 0 7 = true := by kernel_rfl
theorem z08t : restB true 0 8 = true := by kernel_rfl
theorem z08f : restB false 0 8 = true := by kernel_rfl
theorem z10t : restB true 1 0 = true := by kernel_rfl
theorem z10f : restB false 1 0 = true := by kernel_rfl
theorem z11t : restB true 1 1 = true := by kernel_rfl
theorem z11f : restB false 1 1 = true := by kernel_rfl
theorem z12t : restB true 1 2 = true := by kernel_rfl
theorem z12f : restB false 1 2 = true := by kernel_rfl
theorem z13t : restB true 1 3 = true := by kernel_rfl
theorem z13f : restB false 1 3 = true := by kernel_rfl
theorem z14t : restB true 1 4 = true := by kernel_rfl
theorem z14f : restB false 1 4 = true := by kernel_rfl
theorem z15t : restB true 1 5 = true := by kernel_rfl
theorem z15f : restB false 1 5 = true := by kernel_rfl
theorem z16t : restB true 1 6 = true := by kernel_rfl
theorem z16f : restB false 1 6 = true := by kernel_rfl
theorem z17t : restB true 1 7 = true := by kernel_rfl
theorem z17f : restB false 1 7 = true := by kernel_rfl
theorem z18t : restB true 1 8 = true := by kernel_rfl
theorem z18f : restB false 1 8 = true := by kernel_rfl
theorem z20t : restB true 2 0 = true := by kernel_rfl
theorem z20f : restB false 2 0 = true := by kernel_rfl
theorem z21t : restB true 2 1 = true := by kernel_rfl
theorem z21f : restB false 2 1 = true := by kernel_rfl
theorem z22t : restB true 2 2 = true := by kernel_rfl
theorem z22f : restB false 2 2 = true := by kernel_rfl
theorem z23t : restB true 2 3 = true := by kernel_rfl
theorem z23f : restB false 2 3 = true := by kernel_rfl
theorem z24t : restB true 2 4 = true := by kernel_rfl
theorem z24f : restB false 2 4 = true := by kernel_rfl
theorem z25t : restB true 2 5 = true := by kernel_rfl
theorem z25f : restB false 2 5 = true := by kernel_rfl
theorem z26t : restB true 2 6 = true := by kernel_rfl
theorem z26f : restB false 2 6 = true := by kernel_rfl
theorem z27t : restB true 2 7 = true := by kernel_rfl
theorem z27f : restB false 2 7 = true := by kernel_rfl
theorem z28t : restB true 2 8 = true := by kernel_rfl
theorem z28f : restB false 2 8 = true := by kernel_rfl
theorem z30t : restB true 3 0 = true := by kernel_rfl
theorem z30f : restB false 3 0 = true := by kernel_rfl
theorem z31t : restB true 3 1 = true := by kernel_rfl
theorem z31f : restB false 3 1 = true := by kernel_rfl
theorem z32t : restB true 3 2 = true := by kernel_rfl
theorem z32f : restB false 3 2 = true := by kernel_rfl
theorem z33t : restB true 3 3 = true := by kernel_rfl
theorem z33f : restB false 3 3 = true := by kernel_rfl
theorem z34t : restB true 3 4 = true := by kernel_rfl
theorem z34f : restB false 3 4 = true := by kernel_rfl
theorem z35t : restB true 3 5 = true := by kernel_rfl
theorem z35f : restB false 3 5 = true := by kernel_rfl
theorem z36t : restB true 3 6 = true := by kernel_rfl
theorem z36f : restB false 3 6 = true := by kernel_rfl
theorem z37t : restB true 3 7 = true := by kernel_rfl
theorem z37f : restB false 3 7 = true := by kernel_rfl
theorem z38t : restB true 3 8 = true := by kernel_rfl
theorem z38f : restB false 3 8 = true := by kernel_rfl
theorem z40t : restB true 4 0 = true := by kernel_rfl
theorem z40f : restB false 4 0 = true := by kernel_rfl
theorem z41t : restB true 4 1 = true := by kernel_rfl
theorem z41f : restB false 4 1 = true := by kernel_rfl
theorem z42t : restB true 4 2 = true := by kernel_rfl
theorem z42f : restB false 4 2 = true := by kernel_rfl
theorem z43t : restB true 4 3 = true := by kernel_rfl
theorem z43f : restB false 4 3 = true := by kernel_rfl
theorem z44t : restB true 4 4 = true := by kernel_rfl
theorem z44f : restB false 4 4 = true := by kernel_rfl
theorem z45t : restB true 4 5 = true := by kernel_rfl
theorem z45f : restB false 4 5 = true := by kernel_rfl
theorem z46t : restB true 4 6 = true := by kernel_rfl
theorem z46f : restB false 4 6 = true := by kernel_rfl
theorem z47t : restB true 4 7 = true := by kernel_rfl
theorem z47f : restB false 4 7 = true := by kernel_rfl
theorem z48t : restB true 4 8 = true := by kernel_rfl
theorem z48f : restB false 4 8 = true := by kernel_rfl
theorem z50t : restB true 5 0 = true := by kernel_rfl
theorem z50f : restB false 5 0 = true := by kernel_rfl
theorem z51t : restB true 5 1 = true := by kernel_rfl
theorem z51f : restB false 5 1 = true := by kernel_rfl
theorem z52t : restB true 5 2 = true := by kernel_rfl
theorem z52f : restB false 5 2 = true := by kernel_rfl
theorem z53t : restB true 5 3 = true := by kernel_rfl
theorem z53f : restB false 5 3 = true := by kernel_rfl
theorem z54t : restB true 5 4 = true := by kernel_rfl
theorem z54f : restB false 5 4 = true := by kernel_rfl
theorem z55t : restB true 5 5 = true := by kernel_rfl
theorem z55f : restB false 5 5 = true := by kernel_rfl
theorem z56t : restB true 5 6 = true := by kernel_rfl
theorem z56f : restB false 5 6 = true := by kernel_rfl
theorem z57t : restB true 5 7 = true := by kernel_rfl
theorem z57f : restB false 5 7 = true := by kernel_rfl
theorem z58t : restB true 5 8 = true := by kernel_rfl
theorem z58f : restB false 5 8 = true := by kernel_rfl
theorem z60t : restB true 6 0 = true := by kernel_rfl
theorem z60f : restB false 6 0 = true := by kernel_rfl
theorem z61t : restB true 6 1 = true := by kernel_rfl
theorem z61f : restB false 6 1 = true := by kernel_rfl
theorem z62t : restB true 6 2 = true := by kernel_rfl
theorem z62f : restB false 6 2 = true := by kernel_rfl
theorem z63t : restB true 6 3 = true := by kernel_rfl
theorem z63f : restB false 6 3 = true := by kernel_rfl
theorem z64t : restB true 6 4 = true := by kernel_rfl
theorem z64f : restB false 6 4 = true := by kernel_rfl
theorem z65t : restB true 6 5 = true := by kernel_rfl
theorem z65f : restB false 6 5 = true := by kernel_rfl
theorem z66t : restB true 6 6 = true := by kernel_rfl
theorem z66f : restB false 6 6 = true := by kernel_rfl
theorem z67t : restB true 6 7 = true := by kernel_rfl
theorem z67f : restB false 6 7 = true := by kernel_rfl
theorem z68t : restB true 6 8 = true := by kernel_rfl
theorem z68f : restB false 6 8 = true := by kernel_rfl
theorem z70t : restB true 7 0 = true := by kernel_rfl
theorem z70f : restB false 7 0 = true := by kernel_rfl
theorem z71t : restB true 7 1 = true := by kernel_rfl
theorem z71f : restB false 7 1 = true := by kernel_rfl
theorem z72t : restB true 7 2 = true := by kernel_rfl
theorem z72f : restB false 7 2 = true := by kernel_rfl
theorem z73t : restB true 7 3 = true := by kernel_rfl
theorem z73f : restB false 7 3 = true := by kernel_rfl
theorem z74t : restB true 7 4 = true := by kernel_rfl
theorem z74f : restB false 7 4 = true := by kernel_rfl
theorem z75t : restB true 7 5 = true := by kernel_rfl
theorem z75f : restB false 7 5 = true := by kernel_rfl
theorem z76t : restB true 7 6 = true := by kernel_rfl
theorem z76f : restB false 7 6 = true := by kernel_rfl
theorem z77t : restB true 7 7 = true := by kernel_rfl
theorem z77f : restB false 7 7 = true := by kernel_rfl
theorem z78t : restB true 7 8 = true := by kernel_rfl
theorem z78f : restB false 7 8 = true := by kernel_rfl
theorem z80t : restB true 8 0 = true := by kernel_rfl
theorem z80f : restB false 8 0 = true := by kernel_rfl
theorem z81t : restB true 8 1 = true := by kernel_rfl
theorem z81f : restB false 8 1 = true := by kernel_rfl
theorem z82t : restB true 8 2 = true := by kernel_rfl
theorem z82f : restB false 8 2 = true := by kernel_rfl
theorem z83t : restB true 8 3 = true := by kernel_rfl
theorem z83f : restB false 8 3 = true := by kernel_rfl
theorem z84t : restB true 8 4 = true := by kernel_rfl
theorem z84f : restB false 8 4 = true := by kernel_rfl
theorem z85t : restB true 8 5 = true := by kernel_rfl
theorem z85f : restB false 8 5 = true := by kernel_rfl
theorem z86t : restB true 8 6 = true := by kernel_rfl
theorem z86f : restB false 8 6 = true := by kernel_rfl
theorem z87t : restB true 8 7 = true := by kernel_rfl
theorem z87f : restB false 8 7 = true := by kernel_rfl
theorem z88t : restB true 8 8 = true := by kernel_rfl
theorem z88f : restB false 8 8 = true := by kernel_rfl
theorem z0 : ∀ m, m < 9 → ∀ f, restB f 0 m = true := fun m h f => match m, h, f with
  | 0, _, true => z00t
  | 0, _, false => z00f
  | 1, _, true => z01t
  | 1, _, false => z01f
  | 2, _, true => z02t
  | 2, _, false => z02f
  | 3, _, true => z03t
  | 3, _, false => z03f
  | 4, _, true => z04t
  | 4, _, false => z04f
  | 5, _, true => z05t
  | 5, _, false => z05f
  | 6, _, true => z06t
  | 6, _, false => z06f
  | 7, _, true => z07t
  | 7, _, false => z07f
  | 8, _, true => z08t
  | 8, _, false => z08f
  | k + 9, h, _ => absurd h (by omega)
theorem z1 : ∀ m, m < 9 → ∀ f, restB f 1 m = true := fun m h f => match m, h, f with
  | 0, _, true => z10t
  | 0, _, false => z10f
  | 1, _, true => z11t
  | 1, _, false => z11f
  | 2, _, true => z12t
  | 2, _, false => z12f
  | 3, _, true => z13t
  | 3, _, false => z13f
  | 4, _, true => z14t
  | 4, _, false => z14f
  | 5, _, true => z15t
  | 5, _, false => z15f
  | 6, _, true => z16t
  | 6, _, false => z16f
  | 7, _, true => z17t
  | 7, _, false => z17f
  | 8, _, true => z18t
  | 8, _, false => z18f
  | k + 9, h, _ => absurd h (by omega)
theorem z2 : ∀ m, m < 9 → ∀ f, restB f 2 m = true := fun m h f => match m, h, f with
  | 0, _, true => z20t
  | 0, _, false => z20f
  | 1, _, true => z21t
  | 1, _, false => z21f
  | 2, _, true => z22t
  | 2, _, false => z22f
  | 3, _, true => z23t
  | 3, _, false => z23f
  | 4, _, true => z24t
  | 4, _, false => z24f
  | 5, _, true => z25t
  | 5, _, false => z25f
  | 6, _, true => z26t
  | 6, _, false => z26f
  | 7, _, true => z27t
  | 7, _, false => z27f
  | 8, _, true => z28t
  | 8, _, false => z28f
  | k + 9, h, _ => absurd h (by omega)
theorem z3 : ∀ m, m < 9 → ∀ f, restB f 3 m = true := fun m h f => match m, h, f with
  | 0, _, true => z30t
  | 0, _, false => z30f
  | 1, _, true => z31t
  | 1, _, false => z31f
  | 2, _, true => z32t
  | 2, _, false => z32f
  | 3, _, true => z33t
  | 3, _, false => z33f
  | 4, _, true => z34t
  | 4, _, false => z34f
  | 5, _, true => z35t
  | 5, _, false => z35f
  | 6, _, true => z36t
  | 6, _, false => z36f
  | 7, _, true => z37t
  | 7, _, false => z37f
  | 8, _, true => z38t
  | 8, _, false => z38f
  | k + 9, h, _ => absurd h (by omega)
theorem z4 : ∀ m, m < 9 → ∀ f, restB f 4 m = true := fun m h f => match m, h, f with
  | 0, _, true => z40t
  | 0, _, false => z40f
  | 1, _, true => z41t
  | 1, _, false => z41f
  | 2, _, true => z42t
  | 2, _, false => z42f
  | 3, _, true => z43t
  | 3, _, false => z43f
  | 4, _, true => z44t
  | 4, _, false => z44f
  | 5, _, true => z45t
  | 5, _, false => z45f
  | 6, _, true => z46t
  | 6, _, false => z46f
  | 7, _, true => z47t
  | 7, _, false => z47f
  | 8, _, true => z48t
  | 8, _, false => z48f
  | k + 9, h, _ => absurd h (by omega)
theorem z5 : ∀ m, m < 9 → ∀ f, restB f 5 m = true := fun m h f => match m, h, f with
  | 0, _, true => z50t
  | 0, _, false => z50f
  | 1, _, true => z51t
  | 1, _, false => z51f
  | 2, _, true => z52t
  | 2, _, false => z52f
  | 3, _, true => z53t
  | 3, _, false => z53f
  | 4, _, true => z54t
  | 4, _, false => z54f
  | 5, _, true => z55t
  | 5, _, false => z55f
  | 6, _, true => z56t
  | 6, _, false => z56f
  | 7, _, true => z57t
  | 7, _, false => z57f
  | 8, _, true => z58t
  | 8, _, false => z58f
  | k + 9, h, _ => absurd h (by omega)
theorem z6 : ∀ m, m < 9 → ∀ f, restB f 6 m = true := fun m h f => match m, h, f with
  | 0, _, true => z60t
  | 0, _, false => z60f
  | 1, _, true => z61t
  | 1, _, false => z61f
  | 2, _, true => z62t
  | 2, _, false => z62f
  | 3, _, true => z63t
  | 3, _, false => z63f
  | 4, _, true => z64t
  | 4, _, false => z64f
  | 5, _, true => z65t
  | 5, _, false => z65f
  | 6, _, true => z66t
  | 6, _, false => z66f
  | 7, _, true => z67t
  | 7, _, false => z67f
  | 8, _, true => z68t
  | 8, _, false => z68f
  | k + 9, h, _ => absurd h (by omega)
theorem z7 : ∀ m, m < 9 → ∀ f, restB f 7 m = true := fun m h f => match m, h, f with
  | 0, _, true => z70t
  | 0, _, false => z70f
  | 1, _, true => z71t
  | 1, _, false => z71f
  | 2, _, true => z72t
  | 2, _, false => z72f
  | 3, _, true => z73t
  | 3, _, false => z73f
  | 4, _, true => z74t
  | 4, _, false => z74f
  | 5, _, true => z75t
  | 5, _, false => z75f
  | 6, _, true => z76t
  | 6, _, false => z76f
  | 7, _, true => z77t
  | 7, _, false => z77f
  | 8, _, true => z78t
  | 8, _, false => z78f
  | k + 9, h, _ => absurd h (by omega)
theorem z8 : ∀ m, m < 9 → ∀ f, restB f 8 m = true := fun m h f => match m, h, f with
  | 0, _, true => z80t
  | 0, _, false => z80f
  | 1, _, true => z81t
  | 1, _, false => z81f
  | 2, _, true => z82t
  | 2, _, false => z82f
  | 3, _, true => z83t
  | 3, _, false => z83f
  | 4, _, true => z84t
  | 4, _, false => z84f
  | 5, _, true => z85t
  | 5, _, false => z85f
  | 6, _, true => z86t
  | 6, _, false => z86f
  | 7, _, true => z87t
  | 7, _, false => z87f
  | 8, _, true => z88t
  | 8, _, false => z88f
  | k + 9, h, _ => absurd h (by omega)
theorem zAll : ∀ n, n < 9 → ∀ m, m < 9 → ∀ f, restB f n m = true := fun n h => match n, h with
  | 0, _ => z0
  | 1, _ => z1
  | 2, _ => z2
  | 3, _ => z3
  | 4, _ => z4
  | 5, _ => z5
  | 6, _ => z6
  | 7, _ => z7
  | 8, _ => z8
  | k + 9, h => absurd h (by omega)
end Ts.apart
