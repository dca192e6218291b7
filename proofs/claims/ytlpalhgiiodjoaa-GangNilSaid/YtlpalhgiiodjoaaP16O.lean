/- Gang: GangNil, in plain words. -/
import Derived.Test.YtlpalhgiiodjoaaP16N
import Derived.Test.YtlpalhgiiodjoaaS16F8
set_option linter.all false
namespace Go.Proofs.YtlpalhgiiodjoaaE
open Go Go.Proofs
set_option maxRecDepth 100000
set_option linter.unusedVariables false
theorem L9_eq (K : Nat) (hK : 2000 ≤ K) (a : List (El T53)) (id f : Int) (hf : 1 ≤ f) (hf2 : f ≤ 2000000) (he : IntKind.u32.wrap ((1 : Int) + Int.tmod id (1000000 : Int)) = f) (q : List Ce) (s : Int) : ∀ (n i : Nat), 16 - i < n → i ≤ 16 → MInv 1 i ((1 : Int), wc f i, s) →
    L9_0 (F21 K) (F18 K) (F22 K) (F20 K) (F14 K) (F17 K) (F11 K) (F12 K) (F10 K) (F3023 K) (F16 K) K a id n (i : Int) (1 : Int) s q (wc f i) = some true
  | 0, i, h, _, _ => by omega
  | n + 1, i, h, hi, hm => by
    by_cases c : i < 16
    · have c0 : decide ((i : Int) < (16 : Int)) = true := decide_eq_true (by omega)
      have w1 : IntKind.u32.wrap (f + (i : Int)) = f + i := u32_in (by omega) (by omega)
      have w2 : IntKind.u32.wrap ((i : Int) + (1 : Int)) = ((i + 1 : Nat) : Int) := by rw [u32_in] <;> omega
      have w3 : IntKind.i64.wrap (i : Int) = (i : Int) := i64_in (by omega) (by omega)
      obtain ⟨e, hm'⟩ := wc_place K hK hf c s hm
      have x1 : ((0 : Int) != 0) = false := rfl
      have x2 : ((mkc (f + i) i 0 1).2.1 != (i : Int)) = false := by
        show ((i : Int) != (i : Int)) = false
        simp
      have := L9_eq K hK a id f hf hf2 he q s n (i + 1) (by omega) (by omega) hm'
      simp only [L9_0, b9_0, c0, if_true, he, w1, w2, w3, e, Option.bind_some, x1, x2, Bool.false_eq_true, if_false]
      exact this
    · have : i = 16 := by omega
      subst this
      have c0 : decide (((16 : Nat) : Int) < (16 : Int)) = false := rfl
      have w1 : IntKind.u32.wrap (f + (16 : Int)) = f + 16 := u32_in (by omega) (by omega)
      have w2 : IntKind.u32.wrap (f + (3 : Int)) = f + 3 := u32_in (by omega) (by omega)
      have w3 : IntKind.u32.wrap (f + (17 : Int)) = f + 17 := u32_in (by omega) (by omega)
      obtain ⟨e1, m1, m2, c', e2, e3, e4, e5⟩ := wc_end K hK hf s hm
      have x0 : ((5 : Int) == 5) = true := rfl
      have x1 : ((0 : Int) == 0) = true := rfl
      have x2 : (c'.2.1 == (3 : Int)) = true := beq_iff_eq.2 e4
      have x3 : ((16 : Int) == 16) = true := rfl
      simp only [L9_0, b9_0, c0, Bool.false_eq_true, if_false, he, w1, w2, w3, e1, e2, e3, e5, Option.bind_some, x0, x1, x2, x3, if_true, F16_eq K hK]
theorem gangNil (a : List (El T53)) (id : Int) (_ : Gd (.sl T53) a) (h : (Lit.int .u32 id).wf = true) : F9 2000 a id = some true := by
  obtain ⟨h0, h1⟩ := wf_u32 h
  obtain ⟨m, e, hm⟩ := F10_eq 2000 (by omega) a
  have t : Int.tmod id 1000000 = id % 1000000 := Int.tmod_eq_emod_of_nonneg h0
  have he : IntKind.u32.wrap ((1 : Int) + Int.tmod id (1000000 : Int)) = 1 + id % 1000000 := by rw [t, u32_in] <;> omega
  have x0 : ((0 : Int) != 0) = false := rfl
  have f3 : F3023 2000 = some (((1 : Int), ([], 0)), ((0 : Int), ())) := rfl
  unfold F9 G9 t9
  simp only [e, f3, Option.bind_some, x0, Bool.false_eq_true, if_false]
  exact L9_eq 2000 (by omega) a id (1 + id % 1000000) (by omega) (by omega) he _ 0 2000 0 (by omega) (by omega) (inv0 1)
end Go.Proofs.YtlpalhgiiodjoaaE
