/- Backfill: the earliest tick is the earliest; BackfillTick. -/
import Derived.Test.YtipfamkhplkpmaaP15D
set_option linter.all false
namespace Go.Proofs.YtipfamkhplkpmaaE
open Go Go.Proofs
set_option maxRecDepth 100000
set_option linter.unusedVariables false
theorem free_of {s : Sc} {b b' : Bk} {f t f' t' : Int} (h1 : ∀ w, hasS b' w = true → hasS b w = true) (h2 : ∀ h ∈ s.2.2, clash b' f' t' h = true → clash b f t h = true) (h : freeS s b f t = true) : freeS s b' f' t' = true := by
  unfold freeS at *
  simp only [Bool.and_eq_true, Bool.not_eq_true', List.any_eq_false] at *
  exact ⟨fun w hw hh => h.1 w hw (h1 w hh), fun k hk hh => h.2 k hk (h2 k hk hh)⟩
theorem clash_iff {b : Bk} {f t : Int} {h : Hd} : clash b f t h = true ↔ (h.2.1 < t ∧ f < h.2.2) ∧ meetS h.1 b = true := by
  unfold clash
  rw [Bool.and_eq_true, decide_eq_true_eq]
theorem fnd_sound (s : Sc) (o f t : Int) : ∀ (n : Nat) (st : Int), (fnd s o f t n st).2 = true → freeS s ((fnd s o f t n st).1, o) f t = true ∧ (fnd s o f t n st).1 < pw s.1 ∧ st ≤ (fnd s o f t n st).1 ∧ ((fnd s o f t n st).1 - st) % pw o = 0
  | 0, st, h => by cases h
  | n + 1, st, h => by
    have hpo := pw_pos o
    unfold fnd at *
    by_cases c : st < pw s.1
    · rw [if_pos c] at *
      cases hfr : freeS s (st, o) f t with
      | true => exact ⟨hfr, c, Int.le_refl _, by simp⟩
      | false =>
        rw [hfr] at h
        obtain ⟨a1, a2, a3, a4⟩ := fnd_sound s o f t n (st + pw o) h
        refine ⟨a1, a2, by simp only at *; omega, ?_⟩
        show ((fnd s o f t n (st + pw o)).1 - st) % pw o = 0
        have e : (fnd s o f t n (st + pw o)).1 - st = ((fnd s o f t n (st + pw o)).1 - (st + pw o)) + pw o := by omega
        rw [e, Int.add_emod_right]
        exact a4
    · rw [if_neg c] at h; cases h
theorem fnd_full (s : Sc) (o f t : Int) : ∀ (n : Nat) (st w : Int), pw s.1 - st < n → st ≤ w → w < pw s.1 → (w - st) % pw o = 0 → freeS s (w, o) f t = true → (fnd s o f t n st).2 = true
  | 0, st, w, h1, h2, h3, h4, h5 => by omega
  | n + 1, st, w, h1, h2, h3, h4, h5 => by
    have hpo := pw_pos o
    unfold fnd
    rw [if_pos (show st < pw s.1 by omega)]
    cases hfr : freeS s (st, o) f t with
    | true => rfl
    | false =>
      have hne : w ≠ st := fun e => by rw [e, hfr] at h5; cases h5
      have hq := Int.mul_ediv_add_emod (w - st) (pw o)
      rw [h4, Int.add_zero] at hq
      have hpos : 1 ≤ (w - st) / pw o := by
        rcases Int.lt_or_le 0 ((w - st) / pw o) with h | h
        · omega
        · have := Int.mul_le_mul_of_nonneg_left h (show 0 ≤ pw o by omega)
          omega
      have hge := Int.mul_le_mul_of_nonneg_left hpos (show 0 ≤ pw o by omega)
      refine fnd_full s o f t n (st + pw o) w (by omega) (by omega) h3 ?_ h5
      have e : w - (st + pw o) = (w - st) - pw o := by omega
      rw [e, Int.sub_emod, h4]
      simp
theorem find_sound {s : Sc} {o f t : Int} (ho : 0 ≤ o ∧ o ≤ s.1) (h : (findS s o f t).2 = true) : freeS s ((findS s o f t).1, o) f t = true ∧ (findS s o f t).1 < pw s.1 ∧ 0 ≤ (findS s o f t).1 ∧ (findS s o f t).1 % pw o = 0 := by
  have e : findS s o f t = fnd s o f t 2000 0 := if_pos ho
  rw [e] at h ⊢
  obtain ⟨a1, a2, a3, a4⟩ := fnd_sound s o f t 2000 0 h
  exact ⟨a1, a2, a3, by rwa [Int.sub_zero] at a4⟩
theorem find_full {s : Sc} (O : OKS s) {o f t w : Int} (ho : 0 ≤ o ∧ o ≤ s.1) (h0 : 0 ≤ w) (h1 : w < pw s.1) (h2 : w % pw o = 0) (h : freeS s (w, o) f t = true) : (findS s o f t).2 = true := by
  have e : findS s o f t = fnd s o f t 2000 0 := if_pos ho
  have := pw_max O.h0 O.h1
  rw [e]
  exact fnd_full s o f t 2000 0 w (by omega) h0 h1 (by rwa [Int.sub_zero]) h
theorem first_spec (s : Sc) (o g : Int) : ∀ T : List Int, T.Pairwise (· < ·) → (firstT s o g T = (0, 0, 5) ∧ ∀ x ∈ T, (findS s o x (x + g)).2 = false) ∨
    ∃ t ∈ T, (findS s o t (t + g)).2 = true ∧ firstT s o g T = (t, (findS s o t (t + g)).1, 0) ∧ ∀ x ∈ T, x < t → (findS s o x (x + g)).2 = false
  | [], _ => .inl ⟨rfl, fun x hx => by simp at hx⟩
  | t :: T, hp => by
    rw [List.pairwise_cons] at hp
    have hd : firstT s o g (t :: T) = match (findS s o t (t + g)).2 with
      | true => (t, (findS s o t (t + g)).1, 0)
      | false => firstT s o g T := rfl
    cases hc : (findS s o t (t + g)).2 with
    | true =>
      refine .inr ⟨t, by simp, hc, by rw [hd, hc], fun x hx hlt => ?_⟩
      rcases List.mem_cons.1 hx with rfl | hx
      · omega
      · have := hp.1 x hx; omega
    | false =>
      rw [hc] at hd
      rcases first_spec s o g T hp.2 with ⟨h1, h2⟩ | ⟨q, h1, h2, h3, h4⟩
      · refine .inl ⟨hd.trans h1, fun x hx => ?_⟩
        rcases List.mem_cons.1 hx with rfl | hx
        · exact hc
        · exact h2 x hx
      · refine .inr ⟨q, by simp [h1], h2, hd.trans h3, fun x hx hlt => ?_⟩
        rcases List.mem_cons.1 hx with rfl | hx
        · exact hc
        · exact h4 x hx hlt
theorem great {u : Int} : ∀ {l : List Int}, (∃ x ∈ l, x ≤ u) → ∃ x ∈ l, x ≤ u ∧ ∀ y ∈ l, y ≤ u → y ≤ x
  | [], ⟨x, hx, _⟩ => by simp at hx
  | z :: l, ⟨x, hx, hu⟩ => by
    by_cases c : ∃ y ∈ l, y ≤ u
    · obtain ⟨m, m1, m2, m3⟩ := great c
      by_cases c2 : z ≤ u ∧ m < z
      · refine ⟨z, by simp, c2.1, fun y hy hyu => ?_⟩
        rcases List.mem_cons.1 hy with rfl | hy
        · exact Int.le_refl _
        · have := m3 y hy hyu; omega
      · refine ⟨m, by simp [m1], m2, fun y hy hyu => ?_⟩
        rcases List.mem_cons.1 hy with rfl | hy
        · omega
        · exact m3 y hy hyu
    · rcases List.mem_cons.1 hx with rfl | hx
      · refine ⟨x, by simp, hu, fun y hy hyu => ?_⟩
        rcases List.mem_cons.1 hy with rfl | hy
        · exact Int.le_refl _
        · exact absurd ⟨y, hy, hyu⟩ c
      · exact absurd ⟨x, hx, hu⟩ c
/-- Nothing is free ahead of the earliest tick. -/
theorem none_ahead {s : Sc} {o f g t u : Int} (A : Ask s o f g) (hn : ∀ x ∈ ticks s f, x < t → (findS s o x (x + g)).2 = false) (h1 : f ≤ u) (h2 : u < t) : (findS s o u (u + g)).2 = false := by
  cases hc : (findS s o u (u + g)).2 with
  | false => rfl
  | true =>
    exfalso
    obtain ⟨b1, b2, b3, b4⟩ := find_sound ⟨A.o0, A.o1⟩ hc
    obtain ⟨x, x1, x2, x3⟩ := great (u := u) (l := ticks s f) ⟨f, ticks_mem.2 (.inl rfl), h1⟩
    have hxf : f ≤ x := by
      rcases ticks_mem.1 x1 with rfl | ⟨_, h⟩
      · exact Int.le_refl _
      · omega
    have hfree : freeS s ((findS s o u (u + g)).1, o) x (x + g) = true := by
      refine free_of (fun w hw => hw) (fun k hk hh => ?_) b1
      rw [clash_iff] at *
      have hlt : u < k.2.2 := by
        rcases Int.lt_or_le u k.2.2 with h | h
        · exact h
        · have := x3 k.2.2 (ticks_mem.2 (.inr ⟨⟨k, hk, rfl⟩, by simp only [El] at *; omega⟩)) h
          simp only [El] at *
          omega
      exact ⟨⟨by simp only [El] at *; omega, hlt⟩, hh.2⟩
    have := find_full A.ok ⟨A.o0, A.o1⟩ b3 b2 b4 hfree
    rw [hn x x1 (by omega)] at this
    cases this
theorem earl_ask {s : Sc} {o f g : Int} (h : (earl s o f g).2.2 = 0) : Ask s o f g ∧ ∃ t ∈ ticks s f, (findS s o t (t + g)).2 = true ∧ earl s o f g = (t, (findS s o t (t + g)).1, 0) ∧ ∀ x ∈ ticks s f, x < t → (findS s o x (x + g)).2 = false := by
  unfold earl at *
  split at h
  · rename_i hc
    rw [if_pos hc]
    refine ⟨⟨oks_of hc.1, hc.2.1, hc.2.2.1, hc.2.2.2.1, hc.2.2.2.2.1, hc.2.2.2.2.2.1, hc.2.2.2.2.2.2⟩, ?_⟩
    rcases first_spec s o g (ticks s f) (ticks_pair s f) with ⟨h1, _⟩ | h1
    · rw [h1] at h; cases h
    · exact h1
  · cases h
theorem earl_err {s : Sc} {o f g : Int} (h : (earl s o f g).2.2 ≠ 0) : (earl s o f g).1 = 0 ∧ (earl s o f g).2.1 = 0 := by
  unfold earl at *
  split at h
  · rename_i hc
    rw [if_pos hc]
    rcases first_spec s o g (ticks s f) (ticks_pair s f) with ⟨h1, _⟩ | ⟨t, _, _, h1, _⟩
    · rw [h1]; exact ⟨rfl, rfl⟩
    · rw [h1] at h; exact absurd rfl h
  · rename_i hc
    rw [if_neg hc]; exact ⟨rfl, rfl⟩
/-- For what is asked less, it is no later. -/
theorem earl_le {s : Sc} {o f g : Int} (hk : okS s = true) (A : Ask s o f g) {t : Int} (ht : t ∈ ticks s f) (h : (findS s o t (t + g)).2 = true) : (earl s o f g).2.2 = 0 ∧ (earl s o f g).1 ≤ t := by
  have e : earl s o f g = firstT s o g (ticks s f) := if_pos ⟨hk, A.o0, A.o1, A.f0, A.f1, A.g0, A.g1⟩
  rw [e]
  rcases first_spec s o g (ticks s f) (ticks_pair s f) with ⟨_, h2⟩ | ⟨q, h1, h2, h3, h4⟩
  · rw [h2 t ht] at h; cases h
  · rw [h3]
    refine ⟨rfl, ?_⟩
    rcases Int.lt_or_le t q with hlt | hle
    · rw [h4 t ht hlt] at h; cases h
    · exact hle
theorem backfillTick (s : Sc) (o f g a4 a5 : Int) (_ : Gd T25 s) (_ : (Lit.int .i64 o).wf = true) (_ : (Lit.int .i64 f).wf = true) (_ : (Lit.int .i64 g).wf = true) (_ : (Lit.int .i64 a4).wf = true) (_ : (Lit.int .i64 a5).wf = true) : F7 2000 s o f g a4 a5 = some true := by
  unfold F7 G7 t7
  obtain ⟨m, hm, hm'⟩ := F9_eq 2000 s []
  rw [hm, Option.bind_some]
  cases m with
  | true => rw [if_pos rfl, known_eq]; rfl
  | false =>
    obtain ⟨a1, a2, _⟩ := hm' rfl
    have hf : List.length s.2.1 ≤ 1200 := by omega
    rw [if_neg Bool.false_ne_true, F16_eq hf, Option.bind_some]
    by_cases c : (earl s o f g).2.2 = 0
    · obtain ⟨A, t, ht, hfnd, he, hnone⟩ := earl_ask c
      have hk : okS s = true := by
        unfold earl at c
        split at c
        · rename_i hc; exact hc.1
        · cases c
      obtain ⟨b1, b2, b3, b4⟩ := find_sound ⟨A.o0, A.o1⟩ hfnd
      have htt := tick_in A ht
      have hft : f ≤ t := by
        rcases ticks_mem.1 ht with rfl | ⟨_, h⟩
        · exact Int.le_refl _
        · omega
      have hg0 := A.g0
      have hg1 := A.g1
      have hf0 := A.f0
      have hf1 := A.f1
      have ew : IntKind.i64.wrap (t + g) = t + g := i64_in (by omega) (by omega)
      have hfree : freeF s ((findS s o t (t + g)).1, o) t (t + g) = true := by
        unfold freeF
        have : fitsS s ((findS s o t (t + g)).1, o) = true := decide_eq_true ⟨A.o0, A.o1, b3, b2, b4⟩
        rw [hk, this, b1, decide_eq_true htt.1, decide_eq_true (show t < t + g by omega)]
        rfl
      rw [he]
      simp only
      rw [if_neg (by simp), if_neg (by simp; omega), ew, F15_eq hf, Option.bind_some, hfree, if_neg (by simp)]
      -- the three ticks ahead
      obtain ⟨B, eB⟩ : ∃ B : Int, IntKind.i64.wrap ((IntKind.u64.wrap a5).tmod (50 : Int)) = B := ⟨_, rfl⟩
      have hB : 0 ≤ B ∧ B < 50 := by
        have hu : 0 ≤ IntKind.u64.wrap a5 := by rw [IntKind.wrap_u64]; omega
        rw [← eB, Int.tmod_eq_emod_of_nonneg hu, i64_in] <;> omega
      have hgw : IntKind.u64.wrap g = g := u64_in (by omega) (by omega)
      obtain ⟨g', eg⟩ : ∃ g' : Int, IntKind.i64.wrap ((1 : Int) + IntKind.i64.wrap ((IntKind.u64.wrap a4).tmod (IntKind.u64.wrap g))) = g' := ⟨_, rfl⟩
      have hg' : 1 ≤ g' ∧ g' ≤ g := by
        have hu : 0 ≤ IntKind.u64.wrap a4 := by rw [IntKind.wrap_u64]; omega
        have hr0 := Int.emod_nonneg (IntKind.u64.wrap a4) (show g ≠ 0 by omega)
        have hr1 := Int.emod_lt_of_pos (IntKind.u64.wrap a4) (show 0 < g by omega)
        rw [← eg, hgw, Int.tmod_eq_emod_of_nonneg hu, i64_in (x := IntKind.u64.wrap a4 % g) (by omega) (by omega), i64_in (by omega) (by omega)]
        omega
      obtain ⟨o', eo⟩ : ∃ o' : Int, (if (0 : Int) > IntKind.i64.wrap (o - (1 : Int)) then (0 : Int) else IntKind.i64.wrap (o - (1 : Int))) = o' := ⟨_, rfl⟩
      have ho10 : o ≤ 10 := Int.le_trans A.o1 A.ok.h1
      have ho0 := A.o0
      have ho' : 0 ≤ o' ∧ o' ≤ o := by
        rw [← eo, i64_in (by omega) (by omega)]
        split <;> omega
      have ho's : o' ≤ s.1 := Int.le_trans ho'.2 A.o1
      have A2 : Ask s o f g' := ⟨A.ok, A.o0, A.o1, A.f0, A.f1, hg'.1, by omega⟩
      have A3 : Ask s o' f g := ⟨A.ok, ho'.1, ho's, A.f0, A.f1, A.g0, A.g1⟩
      have f2 : (findS s o t (t + g')).2 = true := by
        refine find_full A.ok ⟨A.o0, A.o1⟩ b3 b2 b4 (free_of (fun w hw => hw) (fun k hk hh => ?_) b1)
        rw [clash_iff] at *
        exact ⟨⟨by simp only [El] at *; omega, hh.1.2⟩, hh.2⟩
      have f3 : (findS s o' t (t + g)).2 = true := by
        have hpw := pw_le ho'.1 ho'.2
        obtain ⟨r, _, er⟩ := pw_mul ho'.1 ho'.2
        refine find_full A.ok ⟨ho'.1, ho's⟩ b3 b2 ?_ (free_of (fun w hw => ?_) (fun k hk hh => ?_) b1)
        · have hd : pw o' ∣ pw o := ⟨r, by rw [er, Int.mul_comm]⟩
          exact Int.emod_eq_zero_of_dvd (Int.dvd_trans hd (Int.dvd_of_emod_eq_zero b4))
        · unfold hasS at *
          simp only [decide_eq_true_eq] at *
          simp only [El] at *
          omega
        · rw [clash_iff] at *
          refine ⟨hh.1, ?_⟩
          have := hh.2
          unfold meetS at *
          simp only [decide_eq_true_eq] at *
          simp only [El] at *
          omega
      have v2 := earl_le hk A2 ht f2
      have v3 := earl_le hk A3 ht f3
      have loop : ∀ (n k : Nat), 3 < n + k → k ≤ 3 → L7_0 (F9 2000) (F11 2000) (F16 2000) (F15 2000) (F19 2000) 2000 s o f g a4 a5 n t (k : Int) = some true := by
        intro n
        induction n with
        | zero => intro k h1 h2; omega
        | succ n ih =>
          intro k h1 h2
          simp only [L7_0, b7_0, eB, eg, eo]
          by_cases c3 : k < 3
          · have hkB : 0 ≤ (k : Int) * B ∧ (k : Int) * B ≤ 147 := by
              have : (k : Int) = 0 ∨ (k : Int) = 1 ∨ (k : Int) = 2 := by omega
              rcases this with e | e | e <;> rw [e] <;> omega
            have w1 : IntKind.i64.wrap ((k : Int) * B) = (k : Int) * B := i64_in (by omega) (by omega)
            have w2 : IntKind.i64.wrap (t - 1) = t - 1 := i64_in (by omega) (by omega)
            have w3 : IntKind.i64.wrap (t - 1 - (k : Int) * B) = t - 1 - (k : Int) * B := i64_in (by omega) (by omega)
            have w4 : IntKind.i64.wrap (t - 1 - (k : Int) * B + g) = t - 1 - (k : Int) * B + g := i64_in (by omega) (by omega)
            have w5 : IntKind.i64.wrap ((k : Int) + 1) = ((k + 1 : Nat) : Int) := by rw [i64_in (by omega) (by omega)]; omega
            rw [if_pos (decide_eq_true (by omega)), w1, w2, w3, w4, w5]
            by_cases c4 : t - 1 - (k : Int) * B ≥ f
            · rw [if_pos (decide_eq_true c4), F19_eq hf, Option.bind_some]
              have hno : (atS s o (t - 1 - (k : Int) * B) (t - 1 - (k : Int) * B + g)).2 = false := by
                unfold atS
                rw [if_pos ⟨hk, by omega, by omega⟩]
                exact none_ahead A hnone (by omega) (by omega)
              rw [hno, if_neg Bool.false_ne_true]
              exact ih (k + 1) (by omega) (by omega)
            · rw [if_neg (by simpa using c4)]
              exact ih (k + 1) (by omega) (by omega)
          · rw [if_neg (by simp; omega), if_pos (by rw [hgw]; have : ¬ g = 0 := by omega
                                                    simp [this]), F16_eq hf, Option.bind_some, F16_eq hf, Option.bind_some, if_pos (by simp [v2.1]), if_pos (decide_eq_true v2.2), if_pos (by simp [v3.1]), if_pos (decide_eq_true v3.2), known_eq]
            rfl
      exact loop 2000 0 (by omega) (by omega)
    · obtain ⟨e1, e2'⟩ := earl_err c
      rw [if_pos (by simpa using c), if_pos (by simp [e1]), if_pos (by simp [e2']), known_eq]
      rfl
end Go.Proofs.YtipfamkhplkpmaaE
