/- Gang: GangTurns, in plain words. -/
import Derived.Test.YtlpalhgiiodjoaaP16X
import Derived.Test.YtlpalhgiiodjoaaS16F8
set_option linter.all false
namespace Go.Proofs.YtlpalhgiiodjoaaE
open Go Go.Proofs
set_option maxRecDepth 100000
set_option linter.unusedVariables false
theorem L19_eq (K : Nat) (l : List Ce) (hl : l.length ≤ 900) : ∀ (n : Nat) (pre suf : List Ce), l = pre ++ suf → suf.length < n → L19_0 K l l n (pre.length : Int) = some true
  | 0, pre, suf, e, h => by omega
  | n + 1, pre, [], e, h => by
    have hf := fin e
    simp only [L19_0, b19_0, hf.1, Bool.false_eq_true, if_false]
  | n + 1, pre, x :: suf, e, h => by
    obtain ⟨h1, h2, h3, h4, h5, h6⟩ := mid e (zEl T34) (by omega)
    simp only [L19_0, b19_0, h1, h2, h3, h4, if_true, beq_self_eq_true, Bool.and_self, Bool.not_true, Bool.false_eq_true, if_false]
    exact L19_eq K l hl n (pre ++ [x]) suf h5 (by simpa using h)
theorem F19_eq (K : Nat) (hK : 2000 ≤ K) (l : List Ce) (hl : l.length ≤ 900) : F19 K l l = some true := by
  have b : ((l.length : Int) != (l.length : Int)) = false := by simp
  simp only [F19, G19, t19, b, Bool.false_eq_true, if_false]
  exact L19_eq K l hl K [] l rfl (by omega)
section
variable (K : Nat) (hK : 2010 ≤ K) (a : List (El T53)) (o : Int) (l : List Ce)
include hK
theorem L4_1_eq (act : Int) (ran : List Int) (hl : l.length ≤ 900) (hr : ran.length ≤ 1000) (hin : ∀ c ∈ l, cid c ∈ ran) : ∀ (n : Nat) (pre suf : List Ce), l = pre ++ suf → suf.length < n →
    L4_1 (F10 K) (F11 K) (F14 K) (F17 K) (F12 K) (F18 K) (F13 K) (F19 K) (F16 K) K a n act (pre.length : Int) o act l ran l = some true
  | 0, pre, suf, e, h => by omega
  | n + 1, pre, [], e, h => by
    have hf := fin e
    have f11 : F11 K (o, l, act) = some l := F11_eq K (o, l, act) hl
    have f14 : F14 K (o, l, act) = some act := rfl
    have z : (act == act) = true := beq_iff_eq.2 rfl
    simp only [L4_1, b4_1, hf.1, Bool.false_eq_true, if_false, f11, F19_eq K (by omega) l hl, f14, z, if_true, F16_eq K (by omega), Option.bind_some]
  | n + 1, pre, c :: suf, e, h => by
    obtain ⟨h1, h2, h3, h4, h5, h6⟩ := mid e (zEl T34) (by omega)
    have hc : c ∈ l := by rw [e]; simp
    have f13 : F13 K ran c.1 = some (decide (cid c ∈ ran)) := F13_eq K ran (cid c) (by omega) (by omega)
    have z : decide (cid c ∈ ran) = true := decide_eq_true (hin c hc)
    simp only [L4_1, b4_1, h1, h2, h3, h4, if_true, f13, Option.bind_some, z, Bool.not_true, Bool.false_eq_true, if_false]
    exact L4_1_eq act ran hl hr hin n (pre ++ [c]) suf h5 (by simpa using h)
theorem L4_0_eq (act R : Int) (ha0 : 0 ≤ act) (haR : R ≤ 0 ∨ act < R) (hR0 : 0 ≤ R) (hR16 : R ≤ 16) (hRl : ∀ c ∈ l, 0 ≤ cr c ∧ cr c < R) (f17 : ∀ ak, F17 K (o, l, ak) = some R) : ∀ (n : Nat) (k : Int) (ran : List Int) (ak : Int), (R - k).toNat < n → 0 ≤ k → k ≤ R → (ran.length : Int) ≤ 16 * k → ak = rk act R k → MInv 4 50 (o, l, ak) →
    (∀ c ∈ l, ∀ j : Int, 0 ≤ j → j < k → cr c = rk act R j → cid c ∈ ran) →
    L4_0 (F10 K) (F11 K) (F14 K) (F17 K) (F12 K) (F18 K) (F13 K) (F19 K) (F16 K) K a n act R k o ak l ran l = some true
  | 0, k, ran, ak, h, _, _, _, _, _, _ => by omega
  | n + 1, k, ran, ak, h, h0, hk, hran, hak, hm, hin => by
    have hl : l.length ≤ 50 := hm.len
    by_cases c : k < R
    · have c0 : decide (k < R) = true := decide_eq_true c
      have c1 : (!(R == (0 : Int))) = true := by
        have : (R == (0 : Int)) = false := beq_eq_false_iff_ne.2 (by omega)
        rw [this]; rfl
      have e := rk_eq (act := act) (R := R) (j := k) ha0 (by omega) h0 c (by omega)
      have wk : IntKind.i64.wrap (k + (1 : Int)) = k + 1 := i64_in (by omega) (by omega)
      have f14 : F14 K (o, l, ak) = some ak := rfl
      have z : (ak != rk act R k) = false := by rw [hak]; simp
      obtain ⟨x, acc, r, f12, hp, hr⟩ := F12_eq K hK (o, l, ak) hm (by omega)
      have hacc := hr.len hm.wf
      have hrl := hp.length_eq
      rw [List.length_map] at hrl
      have fit : decide ((ran.length + r.length) * Try.prog.types[(30 : Nat)].bytes ≤ (140737488355328 : Nat)) = true := fits30 (by omega)
      obtain ⟨a', R', f18, f17', ea, _, _, hm'⟩ := turn_eq K (o, l, ak) hm (by omega)
      have hRR : R' = R := Option.some.inj (f17'.symm.trans (f17 ak))
      subst hRR
      have ea' : a' = rk act R' (k + 1) := by
        rw [ea, hak]
        show (if rk act R' k + 1 ≥ R' then (0 : Int) else rk act R' k + 1) = _
        unfold rk
        split <;> split <;> split <;> omega
      simp only [L4_0, b4_0, c0, c1, e, if_true, f14, z, Bool.false_eq_true, if_false, f12, fit, f18, Option.bind_some, wk]
      refine L4_0_eq act R' ha0 haR hR0 hR16 hRl f17 n (k + 1) (ran ++ r) a' (by omega) (by omega) (by omega) (by rw [List.length_append]; omega) ea' hm' ?_
      intro d hd j j0 jk ej
      by_cases q : j = k
      · subst q
        refine List.mem_append_right _ ((rs_mem hr hp hm.ids hd).2 (hr.act d hd trivial ?_))
        show cr d = ak
        rw [ej, hak]
      · exact List.mem_append_left _ (hin d hd j j0 (by omega) ej)
    · have c0 : decide (k < R) = false := decide_eq_false c
      have e : ak = act := by
        rw [hak]
        unfold rk
        split <;> omega
      subst e
      simp only [L4_0, b4_0, c0, Bool.false_eq_true, if_false]
      refine L4_1_eq K hK a o l ak ran (by omega) (by omega) ?_ K [] l rfl (by omega)
      intro d hd
      obtain ⟨h1, h2⟩ := hRl d hd
      by_cases z : ak ≤ cr d
      · exact hin d hd (cr d - ak) (by omega) (by omega) (by unfold rk; split <;> omega)
      · exact hin d hd (cr d - ak + R) (by omega) (by omega) (by unfold rk; split <;> omega)
end
theorem gangTurns (a : List (El T53)) (_ : Gd (.sl T53) a) : F4 2100 a = some true := by
  obtain ⟨m, e, hm⟩ := F10_eq 2100 (by omega) a
  obtain ⟨o, l, b⟩ := m
  have hl := hm.len
  obtain ⟨R, f2, hR, hR2⟩ := F17_eq (O := 4) (n := 50) 2100 (o, l, b) (by omega) hm.wf hm.srt
  have hRb : 0 ≤ R ∧ R ≤ 16 := by
    rcases hR with ⟨_, h⟩ | ⟨d, hd, h⟩
    · omega
    · have := (hm.wf d hd).2.2.1
      have := (hm.wf d hd).2.1
      omega
  have haR : R ≤ 0 ∨ b < R := by
    by_cases c : R ≤ 0
    · exact .inl c
    · right
      rcases hm.act.2 with h | ⟨d, hd, h⟩
      · have h : b = 0 := h
        omega
      · have := hR2 d hd
        have h : b ≤ cr d := h
        omega
  have hb0 : 0 ≤ b := hm.act.1
  unfold F4 G4 t4
  rw [e, Option.bind_some, F11_eq 2100 (o, l, b) (by omega), Option.bind_some]
  rw [show F14 2100 (o, l, b) = some b from rfl, Option.bind_some, f2, Option.bind_some]
  refine L4_0_eq 2100 (by omega) a o l b R hb0 haR hRb.1 hRb.2 (fun c hc => ⟨(hm.wf c hc).2.1, hR2 c hc⟩) (fun ak => f2) 2100 0 [] b (by omega) (by omega) hRb.1 (by simp) ?_ hm ?_
  · unfold rk
    split <;> omega
  · intro d hd j j0 jk
    omega
end Go.Proofs.YtlpalhgiiodjoaaE
