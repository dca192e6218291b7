/- Gang: GangUnify, in plain words. -/
import Derived.Test.YtlpalhgiiodjoaaP16G
set_option linter.all false
namespace Go.Proofs.YtlpalhgiiodjoaaE
open Go Go.Proofs
set_option maxRecDepth 100000
set_option linter.unusedVariables false
section
variable (K : Nat) (hK : 2000 ≤ K) (a : List (El T53)) (o b : Int) (was now q : List Ce)
include hK
/-- a cell that has this one's job and block, in no later row -/
def mtc (d c : Ce) : Prop := cid d = cid c ∧ d.2.2 = c.2.2 ∧ cr d ≤ cr c
theorem L5_2_eq (r1 : Int → Int → Int → (List (El T34)) → (List (El T34)) → (List (El T34)) → Option (Bool)) (i : Nat) (c : Ce) (hi : i < was.length) (hc : was.getD ((i : Int)).toNat (zEl T34) = c) (hw : was.length ≤ 900) (hn : now.length ≤ 900) : ∀ (n : Nat) (pre suf : List Ce) (ok : Bool), now = pre ++ suf → suf.length < n → (ok = true ∨ ∃ d ∈ suf, mtc d c) →
    L5_2 (F10 K) (F11 K) (F20 K) (F15 K) (F16 K) K a r1 n (i : Int) ok (pre.length : Int) o b was now q = r1 ((i + 1 : Nat) : Int) o b was now q
  | 0, pre, suf, ok, e, h, _ => by omega
  | n + 1, pre, [], ok, e, h, hok => by
    have hf := fin e
    have : ok = true := by
      rcases hok with h | ⟨d, hd, _⟩
      · exact h
      · cases hd
    have g4 : IntKind.i64.wrap ((i : Int) + (1 : Int)) = ((i + 1 : Nat) : Int) := by rw [i64_in] <;> omega
    simp only [L5_2, b5_2, hf.1, this, Bool.not_true, Bool.false_eq_true, if_false, g4]
  | n + 1, pre, x :: suf, ok, e, h, hok => by
    obtain ⟨h1, h2, h3, h4, h5, h6⟩ := mid e (zEl T34) (by omega)
    have g3 : decide ((0 : Int) ≤ (i : Int) ∧ (i : Int) < (was.length : Int)) = true := decide_eq_true (by omega)
    have ih := fun ok' => L5_2_eq r1 i c hi hc hw hn n (pre ++ [x]) suf ok' h5 (by simpa using h)
    simp only [L5_2, b5_2, h1, h2, h3, h4, g3, hc, if_true]
    cases hk : ok with
    | true =>
      rw [if_pos rfl]
      exact ih true (.inl rfl)
    | false =>
      rw [hk] at hok
      have hok : ∃ d ∈ x :: suf, mtc d c := by
        rcases hok with h | h
        · cases h
        · exact h
      rw [if_neg (by decide)]
      have hrest : ¬ mtc x c → ∃ d ∈ suf, mtc d c := by
        intro hx
        obtain ⟨d, hd, hh⟩ := hok
        rcases List.mem_cons.1 hd with rfl | hd
        · exact absurd hh hx
        · exact ⟨d, hd, hh⟩
      by_cases c1 : x.1 = c.1
      · rw [if_pos (beq_iff_eq.2 c1)]
        by_cases c2 : x.2.2.1 = c.2.2.1 ∧ x.2.2.2 = c.2.2.2
        · rw [if_pos (by rw [Bool.and_eq_true, beq_iff_eq, beq_iff_eq]; exact c2)]
          by_cases c3 : cr x ≤ cr c
          · exact ih _ (.inl (decide_eq_true c3))
          · exact ih _ (.inr (hrest fun h => c3 h.2.2))
        · rw [if_neg (by rw [Bool.and_eq_true, beq_iff_eq, beq_iff_eq]; exact c2)]
          refine ih _ (.inr (hrest fun h => c2 ?_))
          rw [h.2.1]
          exact ⟨rfl, rfl⟩
      · rw [if_neg (fun h => c1 (beq_iff_eq.1 h))]
        exact ih _ (.inr (hrest fun h => c1 h.1))
theorem L5_1_eq (hw : was.length ≤ 900) (hn : now.length ≤ 900) (hm : ∀ c ∈ was, ∃ d ∈ now, mtc d c) : ∀ (n : Nat) (pre suf : List Ce), was = pre ++ suf → suf.length < n →
    L5_1 (F10 K) (F11 K) (F20 K) (F15 K) (F16 K) K a n (pre.length : Int) o b was now q = L5_3 (F10 K) (F11 K) (F20 K) (F15 K) (F16 K) K a K (0 : Int) o b was now q
  | 0, pre, suf, e, h => by omega
  | n + 1, pre, [], e, h => by
    have hf := fin e
    simp only [L5_1, b5_1, hf.1, Bool.false_eq_true, if_false]
  | n + 1, pre, x :: suf, e, h => by
    obtain ⟨h1, h2, h3, h4, h5, h6⟩ := mid e (zEl T34) (by omega)
    have hx : ∃ d ∈ now, mtc d x := hm x (by rw [e]; simp)
    simp only [L5_1, b5_1, h1, if_true]
    have := L5_2_eq K hK a o b was now q (L5_1 (F10 K) (F11 K) (F20 K) (F15 K) (F16 K) K a n) pre.length x (by omega) h3 hw hn K [] now false rfl (by omega) (.inr hx)
    refine Eq.trans this ?_
    have := L5_1_eq hw hn hm n (pre ++ [x]) suf h5 (by simpa using h)
    rw [show (pre ++ [x]).length = pre.length + 1 by simp] at this
    exact this
variable (hlen : now.length ≤ 900) (hwf : ∀ c ∈ now, WF 4 c)
include hlen hwf
theorem L5_5_eq (r3 : Int → Int → Int → (List (El T34)) → (List (El T34)) → (List (El T34)) → Option (Bool)) (r4 : Int → Int → Int → Int → (List (El T34)) → (List (El T34)) → (List (El T34)) → Option (Bool)) (i r : Nat) (c : Ce) (hi : i < now.length) (hr : r ≤ 100) (hc : now.getD ((i : Int)).toNat (zEl T34) = c) (hwc : WF 4 c) : ∀ (n : Nat) (pre suf : List Ce) (held : Bool), now = pre ++ suf → suf.length < n → (held = true ∨ hit suf r (st c) (od c) = true) →
    L5_5 (F10 K) (F11 K) (F20 K) (F15 K) (F16 K) K a r3 r4 n (i : Int) (r : Int) held (pre.length : Int) o b was now q = r4 (i : Int) ((r + 1 : Nat) : Int) o b was now q
  | 0, pre, suf, ok, e, h, _ => by omega
  | n + 1, pre, [], ok, e, h, hok => by
    have hf := fin e
    have : ok = true := by
      rcases hok with h | h
      · exact h
      · cases h
    have g4 : IntKind.i64.wrap ((r : Int) + (1 : Int)) = ((r + 1 : Nat) : Int) := by rw [i64_in] <;> omega
    simp only [L5_5, b5_5, hf.1, this, Bool.not_true, Bool.false_eq_true, if_false, g4]
  | n + 1, pre, x :: suf, ok, e, h, hok => by
    obtain ⟨h1, h2, h3, h4, h5, h6⟩ := mid e (zEl T34) (by omega)
    have g3 : decide ((0 : Int) ≤ (i : Int) ∧ (i : Int) < (now.length : Int)) = true := decide_eq_true (by omega)
    have ih := fun ok' => L5_5_eq r3 r4 i r c hi hr hc hwc n (pre ++ [x]) suf ok' h5 (by simpa using h)
    have f15 := wf_F15 (by omega) K hK (hwf x (by rw [e]; simp)) hwc
    simp only [L5_5, b5_5, h1, h2, h3, h4, g3, hc, if_true]
    cases hk : ok with
    | true =>
      rw [if_pos rfl]
      exact ih true (.inl rfl)
    | false =>
      rw [hk] at hok
      have hok : hit (x :: suf) r (st c) (od c) = true := by
        rcases hok with h | h
        · cases h
        · exact h
      rw [if_neg (by decide)]
      simp only [hit, List.any_cons, Bool.or_eq_true, decide_eq_true_eq] at hok
      by_cases c1 : x.2.1 = (r : Int)
      · rw [if_pos (beq_iff_eq.2 c1), f15]
        refine ih _ ?_
        rcases hok with h | h
        · exact .inl (decide_eq_true h.2)
        · exact .inr h
      · rw [if_neg (fun h => c1 (beq_iff_eq.1 h))]
        refine ih _ ?_
        rcases hok with h | h
        · exact absurd h.1 c1
        · exact .inr h
theorem L5_4_eq (r3 : Int → Int → Int → (List (El T34)) → (List (El T34)) → (List (El T34)) → Option (Bool)) (i : Nat) (c : Ce) (hi : i < now.length) (hc : now.getD ((i : Int)).toNat (zEl T34) = c) (hwc : WF 4 c) (ht : ∀ r : Int, 0 ≤ r → r < cr c → hit now r (st c) (od c) = true) : ∀ (n r : Nat), (r : Int) ≤ cr c → 17 - r < n →
    L5_4 (F10 K) (F11 K) (F20 K) (F15 K) (F16 K) K a r3 n (i : Int) (r : Int) o b was now q = r3 ((i + 1 : Nat) : Int) o b was now q
  | 0, r, h, h2 => by omega
  | n + 1, r, h, h2 => by
    have g3 : decide ((0 : Int) ≤ (i : Int) ∧ (i : Int) < (now.length : Int)) = true := decide_eq_true (by omega)
    have h16 := hwc.2.2.1
    simp only [L5_4, b5_4, g3, if_true, hc]
    by_cases q1 : (r : Int) < cr c
    · rw [if_pos (show decide ((r : Int) < c.2.1) = true from decide_eq_true q1)]
      have := L5_5_eq K hK a o b was now q hlen hwf r3 (L5_4 (F10 K) (F11 K) (F20 K) (F15 K) (F16 K) K a r3 n) i r c hi (by omega) hc hwc K [] now false rfl (by omega) (.inr (ht r (by omega) q1))
      refine Eq.trans this ?_
      exact L5_4_eq r3 i c hi hc hwc ht n (r + 1) (by omega) (by omega)
    · have g4 : IntKind.i64.wrap ((i : Int) + (1 : Int)) = ((i + 1 : Nat) : Int) := by rw [i64_in] <;> omega
      rw [if_neg (fun h : decide ((r : Int) < c.2.1) = true => q1 (of_decide_eq_true h)), g4]
theorem L5_3_eq (ht : Tight now) : ∀ (n : Nat) (pre suf : List Ce), now = pre ++ suf → suf.length < n →
    L5_3 (F10 K) (F11 K) (F20 K) (F15 K) (F16 K) K a n (pre.length : Int) o b was now q = some true
  | 0, pre, suf, e, h => by omega
  | n + 1, pre, [], e, h => by
    have hf := fin e
    simp only [L5_3, b5_3, hf.1, Bool.false_eq_true, if_false, F16_eq K hK, Option.bind_some]
  | n + 1, pre, x :: suf, e, h => by
    obtain ⟨h1, h2, h3, h4, h5, h6⟩ := mid e (zEl T34) (by omega)
    have hx : x ∈ now := by rw [e]; simp
    simp only [L5_3, b5_3, h1, if_true]
    have := L5_4_eq K hK a o b was now q hlen hwf (L5_3 (F10 K) (F11 K) (F20 K) (F15 K) (F16 K) K a n) pre.length x (by omega) h3 (hwf x hx) (fun r h0 h1 => ht x hx r h0 h1) K 0 (hwf x hx).2.1 (by omega)
    refine Eq.trans this ?_
    have := L5_3_eq ht n (pre ++ [x]) suf h5 (by simpa using h)
    rw [show (pre ++ [x]).length = pre.length + 1 by simp] at this
    exact this
end
theorem L5_done (K : Nat) (hK : 2000 ≤ K) (a : List (El T53)) (was : List Ce) (m : Mx) (hm : MInv 4 50 m) (ht : ∀ c m', F20 K m = some (c, m') → c = 0) (hr : Rel was m.2.1) (n : Nat) (i : Nat) (hi : i ≤ 200) :
    L5_0 (F10 K) (F11 K) (F20 K) (F15 K) (F16 K) K a (n + 1) (i : Int) m.1 m.2.2 was m.2.1 = some true := by
  have hl := hm.len
  have g1 : decide ((i : Int) < (300 : Int)) = true := decide_eq_true (by omega)
  obtain ⟨c1, m1, e1, i1, t1, r1, z1⟩ := unify_eq (by omega) K hK m hm (by omega)
  obtain ⟨c2, m2, e2, i2, t2, r2, z2⟩ := unify_eq (by omega) K hK m1 i1 (by omega)
  have e1' : F20 K (m.1, m.2.1, m.2.2) = some (c1, m1) := e1
  have d1 := ht _ _ e1
  have d2 := z2 t1
  subst d1
  subst d2
  have hl1 := i1.len
  have f11 := F11_eq K m1 (by omega)
  have hrel := rel_trans hr r1
  have b1 : ((0 : Int) == 0) = true := rfl
  have b2 : (((m1.2.1.length : Nat) : Int) != (was.length : Int)) = false := by rw [hrel.1]; simp
  have b3 : ((0 : Int) != 0) = false := rfl
  simp only [L5_0, b5_0, g1, if_true, e1', Option.bind_some, b1, f11, b2, b3, Bool.false_eq_true, if_false, e2]
  have hw : was.length ≤ 900 := by have := hrel.1; omega
  have := L5_1_eq K hK a m2.1 m2.2.2 was m1.2.1 m2.2.1 hw (by omega) (fun c hc => hrel.2 c hc) K [] was rfl (by omega)
  refine Eq.trans this ?_
  exact L5_3_eq K hK a m2.1 m2.2.2 was m1.2.1 m2.2.1 (by omega) i1.wf t1 K [] m1.2.1 rfl (by omega)
theorem gangUnify (a : List (El T53)) : F5 2000 a = some true := by
  obtain ⟨m, e, hm⟩ := F10_eq 2000 (by omega) a
  have hl := hm.len
  unfold F5 G5 t5
  rw [e, Option.bind_some, F11_eq 2000 m (by omega), Option.bind_some]
  obtain ⟨c1, m1, e1, i1, t1, r1, z1⟩ := unify_eq (by omega) 2000 (by omega) m hm (by omega)
  by_cases c : c1 = 0
  · exact L5_done 2000 (by omega) a m.2.1 m hm (fun c' m' h => by
      rw [e1] at h
      cases h
      exact c) (rel_refl _) 1999 0 (by omega)
  · have e1' : F20 2000 (m.1, m.2.1, m.2.2) = some (c1, m1) := e1
    have b1 : (c1 == 0) = false := beq_eq_false_iff_ne.2 c
    have g1 : decide ((0 : Int) < (300 : Int)) = true := rfl
    rw [L5_0]
    simp only [b5_0, g1, if_true, e1', Option.bind_some, b1, Bool.false_eq_true, if_false]
    exact L5_done 2000 (by omega) a m.2.1 m1 i1 (fun c' m' h => by
      obtain ⟨c2, m2, e2, i2, t2, r2, z2⟩ := unify_eq (by omega) 2000 (by omega) m1 i1 (by omega)
      rw [e2] at h
      cases h
      exact z2 t1) r1 1998 1 (by omega)
theorem gangUnifyP (a : List (El T53)) (_ : Gd (.sl T53) a) : F5 2000 a = some true := gangUnify a
end Go.Proofs.YtlpalhgiiodjoaaE
