/- Contracts of this seat's functions (of each call: what it answers), walked over the abstract machine, and the laws of numbers that they want. Conditions: those that each theorem states. -/
import Derived.Test.YtikhbokeaikcpaaDoorNN
set_option linter.unusedVariables false
set_option maxRecDepth 20000
set_option linter.unusedSimpArgs false
namespace Go.Ab
open Go.Proofs

theorem lim_shl_len {a : List Nat} (ha : Lm a) {L : Nat} (hl : a.length ≤ L) (k : Nat) : (lim (nv a * 2 ^ k)).length ≤ L + (k / 32 + 1) :=
  lim_mul_len (lim_length_le (nv_lt_of ha hl)) (lim_pow2 k)
theorem lim_nv_len {a : List Nat} (ha : Lm a) {L : Nat} (hl : a.length ≤ L) {x : Nat} (hx : x ≤ nv a) : (lim x).length ≤ L :=
  Nat.le_trans (lim_len_mono hx) (lim_length_le (nv_lt_of ha hl))
end Go.Ab
