/- Contracts of this seat's functions (of each call: what it answers), walked over the abstract machine, and the laws of numbers that they want. Conditions: those that each theorem states. -/
import Derived.Test.YtdkdpebfnddfpaaDoorW5
set_option linter.unusedVariables false
set_option maxRecDepth 20000
set_option linter.unusedSimpArgs false
namespace Go.Ab
open Go.Proofs

section
variable {a b : AV} {x y : Int} {L M : Nat}
theorem nv_zero {m : Bool} {k : List Nat} (h : iv m k = 0) : nv k = 0 := by rw [← abs_iv m k, h]; rfl
theorem div_r (ha : RI a x L) (hb : RI b y M) (hy : y ≠ 0) (hL : L ≤ 1099511620) (hM : M ≤ 1099511620) : Sat CT false 47 [a, b] (.tup [WI (fq x y), WI (fr x y), Bo true]) := by
  obtain ⟨n, l, rfl, hl, rfl, h1⟩ := ha; obtain ⟨m, k, rfl, hk, rfl, h2⟩ := hb
  exact wdiv_ok n m l k hl hk (by omega) (by omega) (fun e => hy (by unfold iv; cases m <;> simp [e]))
theorem div0_r (ha : RI a x L) (hb : RI b 0 M) (hL : L ≤ 1099511620) (hM : M ≤ 1099511620) : Sat CT false 47 [a, b] (.tup [NI, NI, Bo false]) := by
  obtain ⟨n, l, rfl, hl, rfl, h1⟩ := ha; obtain ⟨m, k, rfl, hk, h0, h2⟩ := hb
  exact wdiv_no n m l k hl hk (by omega) (by omega) (nv_zero h0)
end
theorem ri1 {z : Int} (h : z.natAbs < 4294967296) : RI (WI z) z 1 := RI_W (lim_length_le (k := 1) (by rw [Nat.pow_one]; exact h))
theorem ri_small {z : Int} (h : z.natAbs < 18446744073709551616) : RI (WI z) z 2 := RI_W (lim_length_le (k := 2) h)
theorem ri0 : RI (IA false []) 0 0 := ⟨false, [], rfl, (fun x hx => by cases hx), by simp [iv, nv], Nat.le_refl _⟩
theorem Lz1 {z : Int} (h : z.natAbs < 18446744073709551616) : Lz z < 1099511627 := Nat.lt_of_le_of_lt (lim_length_le (k := 2) h) (by omega)
end Go.Ab
