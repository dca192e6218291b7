/- The library's sort of at most sixteen numbers: what comes out is what went in, in another order. -/
import Derived.Test.YtlpalhgiiodjoaaP16T2
import Derived.Test.YtlpalhgiiodjoaaS16F7
set_option linter.all false
namespace Go.Proofs.YtlpalhgiiodjoaaE
open Go Go.Proofs
set_option maxRecDepth 100000
set_option linter.unusedVariables false
theorem F47_eq (K : Nat) (hK : 2010 ≤ K) (a b lim : Int) (ha : 0 ≤ a) (h : b - a ≤ 12) (h2 : a ≤ 2000) (l : List Int) (hab : a ≤ b) (hb : b ≤ l.length) (hl : l.length ≤ 2000) : ∃ l' : List Int, l'.Perm l ∧ F47 K a b lim l = some ((), l') := by
  obtain ⟨l', p, e⟩ := F58_eq K (by omega) a b ha l h2 hb hl
  have w : IntKind.i64.wrap (b - a) = b - a := i64_in (by omega) (by omega)
  have c : decide (b - a ≤ (12 : Int)) = true := decide_eq_true h
  obtain ⟨k, rfl⟩ : ∃ k, K = k + 1 := ⟨K - 1, by omega⟩
  refine ⟨l', p, ?_⟩
  simp only [F47, G47, t47, L47_0, b47_0, w, c, if_true, e, Option.bind_some]
section
variable (K : Nat) (hK : 2010 ≤ K)
noncomputable def k5 (r0 : Int → Int → Int → Bool → Bool → List Int → Option (Unit × List Int)) (a b lim p : Int) (l : List Int) : Option (Unit × List Int) :=
  (Option.bind (F66 K a b p l) fun x1 => (if decide ((IntKind.i64.wrap (x1.1.1 - a)) < (IntKind.i64.wrap (b - x1.1.1))) = true then (Option.bind (F47 K a x1.1.1 lim x1.2) fun x2 => r0 (IntKind.i64.wrap (x1.1.1 + (1 : Int))) b lim (decide ((IntKind.i64.wrap (x1.1.1 - a)) ≥ (IntKind.i64.wrap ((IntKind.i64.wrap (b - a)).tdiv (8 : Int))))) x1.1.2 x2.2)
   else (Option.bind (F47 K (IntKind.i64.wrap (x1.1.1 + (1 : Int))) b lim x1.2) fun x3 => r0 a x1.1.1 lim (decide ((IntKind.i64.wrap (b - x1.1.1)) ≥ (IntKind.i64.wrap ((IntKind.i64.wrap (b - a)).tdiv (8 : Int))))) x1.1.2 x3.2)))
noncomputable def k4 (r0 : Int → Int → Int → Bool → Bool → List Int → Option (Unit × List Int)) (a b lim : Int) (wb wp : Bool) (p : Int) (l : List Int) : Option (Unit × List Int) :=
  (if decide (a > (0 : Int)) = true then (if decide ((0 : Int) ≤ (IntKind.i64.wrap (a - (1 : Int))) ∧ (IntKind.i64.wrap (a - (1 : Int))) < (↑(l).length : Int)) = true then (if decide ((0 : Int) ≤ p ∧ p < (↑(l).length : Int)) = true then (Option.bind (F64 K ((l).getD (IntKind.i64.wrap (a - (1 : Int))).toNat (zEl (Ty.int IntKind.u32))) ((l).getD (p).toNat (zEl (Ty.int IntKind.u32)))) fun x1 => (if (!x1) = true then (Option.bind (F65 K a b p l) fun x2 => r0 x2.1 b lim wb wp x2.2)
   else k5 K r0 a b lim p l))
   else none)
   else none)
   else k5 K r0 a b lim p l)
/-- what the rounds to come do -/
def Rest (l0 : List Int) (r0 : Int → Int → Int → Bool → Bool → List Int → Option (Unit × List Int)) (d lim : Int) : Prop :=
  ∀ (a b : Int) (wb wp : Bool) (l : List Int), 0 ≤ a → a ≤ b → b - a < d → b ≤ l.length → l.Perm l0 → ∃ l' : List Int, l'.Perm l0 ∧ r0 a b lim wb wp l = some ((), l')
include hK
theorem k5_eq {l0 : List Int} (hl0 : l0.length ≤ 2000) {r0 : Int → Int → Int → Bool → Bool → List Int → Option (Unit × List Int)} {a b lim : Int} (hr : Rest l0 r0 (b - a) lim) (ha : 0 ≤ a) (h16 : b - a ≤ 16) {p : Int} (hp : a ≤ p) (hpb : p < b) {l : List Int} (hb : b ≤ l.length) (hl : l.Perm l0) :
    ∃ l' : List Int, l'.Perm l0 ∧ k5 K r0 a b lim p l = some ((), l') := by
  have hlen := hl.length_eq
  obtain ⟨m, e, l1, m0, m1, p1, e1⟩ := F66_eq K hK a b p ha l hp hpb hb (by omega)
  have hlen1 := p1.length_eq
  have w1 : IntKind.i64.wrap (m - a) = m - a := i64_in (by omega) (by omega)
  have w2 : IntKind.i64.wrap (b - m) = b - m := i64_in (by omega) (by omega)
  have w3 : IntKind.i64.wrap (m + (1 : Int)) = m + 1 := i64_in (by omega) (by omega)
  simp only [k5, e1, Option.bind_some, w1, w2, w3]
  by_cases c : m - a < b - m
  · rw [if_pos (decide_eq_true c)]
    obtain ⟨l2, p2, e2⟩ := F47_eq K hK a m lim ha (by omega) (by omega) l1 m0 (by omega) (by omega)
    have hlen2 := p2.length_eq
    simp only [e2, Option.bind_some]
    exact hr (m + 1) b _ _ l2 (by omega) (by omega) (by omega) (by omega) ((p2.trans p1).trans hl)
  · rw [if_neg (by rw [decide_eq_false c]; decide)]
    obtain ⟨l2, p2, e2⟩ := F47_eq K hK (m + 1) b lim (by omega) (by omega) (by omega) l1 (by omega) (by omega) (by omega)
    have hlen2 := p2.length_eq
    simp only [e2, Option.bind_some]
    exact hr a m _ _ l2 ha m0 (by omega) (by omega) ((p2.trans p1).trans hl)
theorem k4_eq {l0 : List Int} (hl0 : l0.length ≤ 2000) {r0 : Int → Int → Int → Bool → Bool → List Int → Option (Unit × List Int)} {a b lim : Int} (hr : Rest l0 r0 (b - a) lim) (ha : 0 ≤ a) (h16 : b - a ≤ 16) (wb wp : Bool) {p : Int} (hp : a ≤ p) (hpb : p < b) {l : List Int} (hb : b ≤ l.length) (hl : l.Perm l0) :
    ∃ l' : List Int, l'.Perm l0 ∧ k4 K r0 a b lim wb wp p l = some ((), l') := by
  have hlen := hl.length_eq
  have h5 := k5_eq K hK hl0 hr ha h16 hp hpb hb hl
  unfold k4
  by_cases c : a > 0
  · revert h5
    have c1 : decide ((0 : Int) ≤ a - 1 ∧ a - 1 < (l.length : Int)) = true := decide_eq_true (by omega)
    have c2 : decide ((0 : Int) ≤ p ∧ p < (l.length : Int)) = true := decide_eq_true (by omega)
    have w1 : IntKind.i64.wrap (a - (1 : Int)) = a - 1 := i64_in (by omega) (by omega)
    intro h5
    rw [if_pos (decide_eq_true c)]
    simp only [w1, c1, c2, if_true, F64_eq, Option.bind_some]
    by_cases d : l.getD (a - 1).toNat z32 < l.getD p.toNat z32
    · rw [decide_eq_true d]
      exact h5
    · rw [decide_eq_false d]
      clear h5
      obtain ⟨m, l1, m0, m1, p1, e1⟩ := F65_eq K hK a b p ha l hp hpb hb (by omega)
      have hlen1 := p1.length_eq
      simp only [Bool.not_false, if_true, e1, Option.bind_some]
      exact hr m b wb wp l1 (by omega) m1 (by omega) (by omega) (p1.trans hl)
  · rw [if_neg (by rw [decide_eq_false c]; decide)]
    exact h5
noncomputable abbrev S47 := L1047_0 (F58 K) (F60 K) (F61 K) (F63 K) (F64 K) (F65 K) (F66 K) (F47 K) K
theorem L1047_eq {l0 : List Int} (hl0 : l0.length ≤ 2000) (x y z : Int) (o : List Int) : ∀ (n : Nat) (lim a b : Int) (wb wp : Bool) (l : List Int), (b - a).toNat < n → 0 ≤ a → a ≤ b → b - a ≤ 16 → b - a - 11 ≤ lim → lim ≤ 100 → b ≤ l.length → l.Perm l0 →
    ∃ l' : List Int, l'.Perm l0 ∧ S47 K x y z o n a b lim wb wp l = some ((), l')
  | 0, lim, a, b, wb, wp, l, h, _, _, _, _, _, _, _ => by omega
  | n + 1, lim, a, b, wb, wp, l, h, ha, hab, h16, hlim, hlim2, hb, hl => by
    have hlen := hl.length_eq
    have w : IntKind.i64.wrap (b - a) = b - a := i64_in (by omega) (by omega)
    by_cases c : b - a ≤ 12
    · have c0 : decide (b - a ≤ (12 : Int)) = true := decide_eq_true c
      obtain ⟨l', p, e⟩ := F58_eq K (by omega) a b ha l (by omega) hb (by omega)
      simp only [S47, L1047_0, b1047_0, w, c0, if_true, e, Option.bind_some]
      exact ⟨l', p.trans hl, rfl⟩
    · have c0 : decide (IntKind.i64.wrap (b - a) ≤ (12 : Int)) = false := by rw [w]; exact decide_eq_false c
      have c1 : (lim == (0 : Int)) = false := beq_eq_false_iff_ne.2 (by omega)
      have IH : ∀ lim', b - a - 12 ≤ lim' → lim' ≤ 100 → Rest l0 (S47 K x y z o n) (b - a) lim' := fun lim' h1 h2 a' b' wb' wp' l' g0 g1 g2 g3 g4 =>
        L1047_eq hl0 x y z o n lim' a' b' wb' wp' l' (by omega) g0 g1 (by omega) (by omega) h2 g3 g4
      cases wb with
      | true =>
        obtain ⟨m, hh, m0, m1, m2, e⟩ := F61_eq K a b l ha (by omega) (by omega) hb (by omega)
        have c2 : (hh == (2 : Int)) = false := beq_eq_false_iff_ne.2 m2
        have g := fun wp' => k4_eq K hK hl0 (IH lim (by omega) hlim2) ha h16 true wp' m0 m1 hb hl
        simp only [S47, L1047_0, b1047_0, c0, c1, Bool.false_eq_true, if_false, Bool.not_true, e, Option.bind_some, c2, if_true]
        cases wp with
        | false =>
          rw [if_neg (by decide)]
          exact g false
        | true =>
          rw [if_pos rfl]
          by_cases d : (hh == (1 : Int)) = true
          · rw [if_pos d]
            obtain ⟨e3, e4⟩ := F63_eq K hK a b ha l (by omega) hb (by omega) (by omega)
            rw [e4, Option.bind_some]
            cases e3 with
            | true => exact ⟨l, hl, rfl⟩
            | false =>
              rw [if_neg (show ¬ (false : Bool) = true from by decide)]
              exact g true
          · rw [if_neg d]
            exact g true
      | false =>
        obtain ⟨l1, p1, e1⟩ := F60_eq K hK a b ha l (by omega) h16 hb (by omega)
        have hlen1 := p1.length_eq
        obtain ⟨m, hh, m0, m1, m2, e⟩ := F61_eq K a b l1 ha (by omega) (by omega) (by omega) (by omega)
        have c2 : (hh == (2 : Int)) = false := beq_eq_false_iff_ne.2 m2
        have wl : IntKind.i64.wrap (lim - (1 : Int)) = lim - 1 := i64_in (by omega) (by omega)
        have g := k4_eq K hK hl0 (IH (IntKind.i64.wrap (lim - (1 : Int))) (by omega) (by omega)) ha h16 false wp m0 m1 (by omega) (p1.trans hl)
        simp only [S47, L1047_0, b1047_0, c0, c1, Bool.false_eq_true, if_false, Bool.not_false, e1, e, Option.bind_some, c2, if_true]
        exact g
theorem F1047_eq (b lim : Int) (l : List Int) (hb : b = l.length) (h16 : b ≤ 16) (hlim : b - 11 ≤ lim) (hlim2 : lim ≤ 100) : ∃ l' : List Int, l'.Perm l ∧ F1047 K 0 b lim l = some ((), l') :=
  L1047_eq K hK (l0 := l) (by omega) 0 b lim l K lim 0 b true true l (by omega) (by omega) (by omega) (by omega) (by omega) hlim2 (by omega) (List.Perm.refl _)
end
end Go.Proofs.YtlpalhgiiodjoaaE
