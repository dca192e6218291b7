/- Gang: bits.OnesCount64, as a plain function. -/
import Derived.Test.YtlpalhgiiodjoaaS16F7
import Derived.Test.YtlpalhgiiodjoaaEngS
import Derived.Shelf.Small.Bits
set_option linter.all false
namespace Go.Proofs.YtlpalhgiiodjoaaE
open Go Go.Proofs Go.Shelf
set_option maxRecDepth 100000
set_option linter.unusedVariables false
variable {D : Prop}
def pA (x : Int) : Int := IntKind.u64.wrap (bits BinOp.and IntKind.u64 (x / 2) 6148914691236517205 + bits BinOp.and IntKind.u64 x 6148914691236517205)
def pB (y : Int) : Int := IntKind.u64.wrap (bits BinOp.and IntKind.u64 (y / 4) 3689348814741910323 + bits BinOp.and IntKind.u64 y 3689348814741910323)
def pC (z : Int) : Int := bits BinOp.and IntKind.u64 (IntKind.u64.wrap (z / 16 + z)) 1085102592571150095
def pD (u : Int) : Int := IntKind.u64.wrap (u + u / 256)
def pE (v : Int) : Int := IntKind.u64.wrap (v + v / 65536)
def pF (t : Int) : Int := IntKind.u64.wrap (t + t / 4294967296)
/-- how many bits of a number are set, as the library counts -/
def pop (x : Int) : Int := bits BinOp.and IntKind.i64 (RowKit.wrap64 (pF (pE (pD (pC (pB (pA x))))))) 127
theorem ones_walk (x : Int) (w : World) : Calls Try.prog 45 #[.int .u64 x] w fun e w' => e = .returned (.int .i64 (pop x)) ∧ w' = w := by
  have mixed : Try.prog.follows .mixedOrders = true := by kernel_rfl
  have u3 := run_underlying (w := w) Try.underlying3
  have u63 := run_underlying (w := w) Try.underlying63
  go_enter Try.func45, Try.ntmps45
  go_wp2
  go_ret
  exact ⟨rfl, rfl⟩
def F45 (K : Nat) (x : Int) : Option Int := some (pop x)
theorem ok45 (K : Nat) : RowOK D Try.prog 45 (row ad45 dq45 fun p => F45 K p) := row_ok fun x r h => by
  cases h
  intro S w vals hS hV
  obtain ⟨v, vs, rfl, rfl, hvs⟩ := hV
  rw [VsOK] at hvs
  subst hvs
  refine (ones_walk x w).mono ?_
  rintro e w' ⟨rfl, rfl⟩
  exact ⟨_, undef, S, rfl, ⟨⟨rfl, rfl, rfl, Nat.le_refl _, fun _ _ => rfl⟩, fun _ => Nat.le_refl _⟩, fun b h => h, fun b h => ⟨.inl h, hS b h⟩, fun id => rfl, fun B hB => by cases hB⟩
end Go.Proofs.YtlpalhgiiodjoaaE
