/- Depend: where a byte comes first in a text, and how often, as plain functions. -/
import Derived.Test.YtigekmmdflaeaaaDoorS08F1
import Derived.Lib.Strings
import Derived.Lib.Slices
import Derived.Lib.Walk
import Derived.Lib.Bytealg
set_option linter.all false
namespace Go.Proofs.YtigekmmdflaeaaaDoorE
open Go Go.Proofs
set_option linter.unusedVariables false
set_option maxHeartbeats 1000000 in
set_option maxRecDepth 100000 in
theorem ixb89 (s : ByteArray) (c : Int) (w : World) :
    Calls Tryd.prog 89 #[.string s, .int .u8 c] w fun e w' => e = .returned (.int .i64 (Lib.indexByte s.data.toList c.toNat.toUInt8)) ∧ w' = w := by
  go_enter Tryd.func89, Tryd.ntmps89
  go_wp2
  rw [run_callFunc_extern Tryd.func99 (by kernel_rfl) (by kernel_rfl) (by kernel_rfl) (e := Extern.BytealgIndexByte.indexByte) (by kernel_rfl), Lib.run_indexByteString]
  simp only [Result.andThen]
  rw [Oper.upon_value]
  go_wp2
  go_ret
  exact ⟨rfl, rfl⟩
set_option maxHeartbeats 1000000 in
set_option maxRecDepth 100000 in
theorem cnt76 (s : ByteArray) (c : UInt8) (w : World) :
    Calls Tryd.prog 76 #[.string s, .string ⟨#[c]⟩] w fun e w' => e = .returned (.int .i64 (Lib.countByte s.data.toList c)) ∧ w' = w := by
  go_enter Tryd.func76, Tryd.ntmps76
  go_wp2
  rw [run_callFunc_extern Tryd.func95 (by kernel_rfl) (by kernel_rfl) (by kernel_rfl) (e := Extern.BytealgCount.count) (by kernel_rfl), Lib.run_countString]
  simp only [Result.andThen]
  rw [Oper.upon_value]
  go_wp2
  go_ret
  exact ⟨rfl, rfl⟩
def F89 (K : Nat) (s : ByteArray) (c : Int) : Option Int := some (Lib.indexByte s.data.toList c.toNat.toUInt8)
theorem ok89 {D : Cx} (K : Nat) : RowOK D Tryd.prog 89 (row ad89 dq89 fun p => F89 K p.1 p.2) := row_ok fun x r h => by
  obtain ⟨s, c⟩ := x
  cases h
  intro S w vals hS hV hy
  obtain ⟨v, vs, rfl, h1, v2, vs2, rfl, h2, hvs⟩ := hV
  rw [VsOK] at hvs
  subst hvs
  have h1' : v = .string s := h1
  have h2' : v2 = .int .u8 c := h2
  subst h1' h2'
  refine (ixb89 s c w).mono ?_
  rintro e w' ⟨rfl, rfl⟩
  exact ⟨_, undef, S, rfl, ⟨⟨rfl, rfl, rfl, Nat.le_refl _, fun _ _ => rfl⟩, fun _ => Nat.le_refl _⟩, fun b h => h, fun b h => ⟨.inl h, hS b h⟩, fun id => rfl, fun B hB => by cases hB⟩
def F76 (K : Nat) (s t : ByteArray) : Option Int := match t.data.toList with
  | [c] => some (Lib.countByte s.data.toList c)
  | _ => none
theorem ok76 {D : Cx} (K : Nat) : RowOK D Tryd.prog 76 (row ad76 dq76 fun p => F76 K p.1 p.2) := row_ok fun x r h => by
  obtain ⟨s, t⟩ := x
  have h : F76 K s t = some r := h
  unfold F76 at h
  split at h
  · rename_i c hc
    cases h
    obtain ⟨d⟩ := t
    have hd : d = #[c] := Array.toList_inj.1 hc
    subst hd
    intro S w vals hS hV hy
    obtain ⟨v, vs, rfl, h1, v2, vs2, rfl, h2, hvs⟩ := hV
    rw [VsOK] at hvs
    subst hvs
    have h1' : v = .string s := h1
    have h2' : v2 = .string ⟨#[c]⟩ := h2
    subst h1' h2'
    refine (cnt76 s c w).mono ?_
    rintro e w' ⟨rfl, rfl⟩
    exact ⟨_, undef, S, rfl, ⟨⟨rfl, rfl, rfl, Nat.le_refl _, fun _ _ => rfl⟩, fun _ => Nat.le_refl _⟩, fun b h => h, fun b h => ⟨.inl h, hS b h⟩, fun id => rfl, fun B hB => by cases hB⟩
  · cases h
end Go.Proofs.YtigekmmdflaeaaaDoorE
