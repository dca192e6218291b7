/- Backfill: what a plan answers. -/
import Derived.Test.YtipfamkhplkpmaaP15E
set_option linter.all false
namespace Go.Proofs.YtipfamkhplkpmaaE
open Go Go.Proofs
set_option maxRecDepth 100000
set_option linter.unusedVariables false
abbrev Wn := El T38
abbrev Sl := El T44
def cur (s : Sc) (L : List Hd) : Sc := (s.1, s.2.1, L)
theorem okH_cur (s : Sc) (L : List Hd) (h : Hd) : okH (cur s L) h = okH s h := rfl
/-- A block that was free at some time is free at last. -/
theorem last_free {s : Sc} {L : List Hd} {o f g t : Int} (A : Ask (cur s L) o f g) (h : (findS s o t (t + g)).2 = true) : ∃ x ∈ ticks (cur s L) f, (findS (cur s L) o x (x + g)).2 = true := by
  obtain ⟨b1, b2, b3, b4⟩ := find_sound (s := s) ⟨A.o0, A.o1⟩ h
  obtain ⟨x, x1, x2, x3⟩ := great (u := 4398046511104) (l := ticks (cur s L) f) ⟨f, ticks_mem.2 (.inl rfl), by have := A.f1; omega⟩
  refine ⟨x, x1, find_full A.ok ⟨A.o0, A.o1⟩ b3 b2 b4 ?_⟩
  have hge : f ≤ x := x3 f (ticks_mem.2 (.inl rfl)) (by have := A.f1; omega)
  unfold freeS at b1 ⊢
  simp only [Bool.and_eq_true, Bool.not_eq_true', List.any_eq_false] at b1 ⊢
  refine ⟨b1.1, fun k hk hh => ?_⟩
  rw [clash_iff] at hh
  have hlt := hh.1.2
  have hin : k.2.2 ∈ ticks (cur s L) f := ticks_mem.2 (.inr ⟨⟨k, hk, rfl⟩, by simp only [El] at *; omega⟩)
  have := x3 k.2.2 hin (tick_in A hin).2
  simp only [El] at *
  omega
def slotOf (w : Wn) (st a : Int) : Sl := (w.1, (st, w.2.1), a)
def heldOf (w : Wn) (st a : Int) : Hd := ((st, w.2.1), a, a + w.2.2)
/-- where a job comes to stand, with so many that wait -/
def choice (pr : Int → Bool) (s : Sc) (now : Int) (L : List Hd) (wait : Int) (w : Wn) : Int × Option (Int × Int) :=
  match (findS (cur s L) w.2.1 now (now + w.2.2)).2 with
  | true => (wait, some ((findS (cur s L) w.2.1 now (now + w.2.2)).1, now))
  | false => match pr (wait + 1) with
    | true => (wait + 1, some ((firstT (cur s L) w.2.1 w.2.2 (ticks (cur s L) now)).2.1, (firstT (cur s L) w.2.1 w.2.2 (ticks (cur s L) now)).1))
    | false => (wait + 1, none)
def skips (s : Sc) (now : Int) (w : Wn) : Bool := decide (w.2.1 > s.1) || decide ((firstT s w.2.1 w.2.2 (ticks s now)).2.2 ≠ 0)
def planS (pr on : Int → Bool) (s : Sc) (now : Int) : List Wn → Int → List Hd → List Sl
  | [], _, _ => []
  | w :: l, wait, L => match skips s now w with
    | true => planS pr on s now l wait L
    | false => match choice pr s now L wait w with
      | (wait', none) => match on wait' with
        | true => planS pr on s now l wait' L
        | false => []
      | (wait', some (st, a)) => slotOf w st a :: (match on wait' with
        | true => planS pr on s now l wait' (L ++ [heldOf w st a])
        | false => [])
def tot : List Wn → Int
  | [] => 0
  | w :: l => w.2.2 + tot l
theorem tot_nn : ∀ {l : List Wn}, (∀ w ∈ l, 1 ≤ w.2.2) → 0 ≤ tot l
  | [], _ => Int.le_refl _
  | w :: l, h => by
    have h1 := h w (by simp)
    have h2 := tot_nn (l := l) (fun x hx => h x (by simp [hx]))
    unfold tot
    simp only [El] at *
    omega
/-- what holds as a plan goes on -/
structure PInv (s : Sc) (now M : Int) (L : List Hd) : Prop where
  ok : OKS (cur s L)
  n0 : 0 ≤ now
  n1 : now ≤ 1099511627776
  nM : now ≤ M
  to : ∀ h ∈ L, h.2.2 ≤ M
theorem PInv.ask {s : Sc} {now M : Int} {L : List Hd} (P : PInv s now M L) {w : Wn} (h0 : (0 : Int) ≤ w.2.1) (h1 : (w.2.1 : Int) ≤ s.1) (h2 : (1 : Int) ≤ w.2.2) (h3 : (w.2.2 : Int) ≤ 1099511627776) : Ask (cur s L) w.2.1 now w.2.2 :=
  ⟨P.ok, h0, h1, P.n0, P.n1, h2, h3⟩
theorem tick_M {s : Sc} {now M x : Int} {L : List Hd} (P : PInv s now M L) (h : x ∈ ticks (cur s L) now) : now ≤ x ∧ x ≤ M := by
  rcases ticks_mem.1 h with rfl | ⟨⟨k, h1, rfl⟩, h2⟩
  · exact ⟨Int.le_refl _, P.nM⟩
  · exact ⟨by omega, P.to k h1⟩
/-- The scene with one more. -/
theorem PInv.more {s : Sc} {now M : Int} {L : List Hd} (P : PInv s now M L) {w : Wn} {st a : Int} (hl : L.length + 1 ≤ 300) (h0 : (0 : Int) ≤ w.2.1) (h1 : (w.2.1 : Int) ≤ s.1) (h2 : (1 : Int) ≤ w.2.2)
    (ha : now ≤ a ∧ a ≤ M) (hst : 0 ≤ st ∧ st < pw s.1 ∧ st % pw w.2.1 = 0) (hM : M + w.2.2 ≤ 4398046511104) : PInv s now (M + w.2.2) (L ++ [heldOf w st a]) := by
  have hfit : fitsS s (st, w.2.1) = true := decide_eq_true ⟨h0, h1, hst.1, hst.2.1, hst.2.2⟩
  have hok : okH s (heldOf w st a) = true := by
    unfold okH
    have e1 : fitsS s (heldOf w st a).1 = true := hfit
    have n0 := P.n0
    have e3 : (0 : Int) ≤ a ∧ a < a + w.2.2 ∧ a + w.2.2 ≤ (4398046511104 : Int) := ⟨by omega, by simp only [El] at *; omega, by simp only [El] at *; omega⟩
    have e4 : decide ((0 : Int) ≤ (heldOf w st a).2.1 ∧ (heldOf w st a).2.1 < (heldOf w st a).2.2 ∧ (heldOf w st a).2.2 ≤ (4398046511104 : Int)) = true := decide_eq_true e3
    rw [e1, e4]
    rfl
  refine ⟨⟨P.ok.h0, P.ok.h1, by simpa [cur] using hl, P.ok.hs, fun h hh => ?_, fun h hh => ?_⟩, P.n0, P.n1, by have := P.nM; simp only [El] at *; omega, fun h hh => ?_⟩
  · have hh' : h ∈ L ∨ h = heldOf w st a := by simpa [cur] using hh
    rcases hh' with hh' | rfl
    · exact P.ok.hin h hh'
    · exact in_of (s := s) hfit P.ok.h1 P.ok.h0
  · have hh' : h ∈ L ∨ h = heldOf w st a := by simpa [cur] using hh
    rcases hh' with hh' | rfl
    · exact P.ok.hh h hh'
    · exact hok
  · have hh' : h ∈ L ∨ h = heldOf w st a := by simpa using hh
    rcases hh' with hh' | rfl
    · have := P.to h hh'; simp only [El] at *; omega
    · show a + w.2.2 ≤ M + w.2.2
      simp only [El] at *; omega
/-- What is chosen is free, and not ahead of now. -/
theorem choice_ok {pr : Int → Bool} {s : Sc} {now M : Int} {L : List Hd} (P : PInv s now M L) (O : OKS s) {w : Wn} (h0 : (0 : Int) ≤ w.2.1) (h1 : (w.2.1 : Int) ≤ s.1) (h2 : (1 : Int) ≤ w.2.2) (h3 : (w.2.2 : Int) ≤ 1099511627776)
    (hs : (firstT s w.2.1 w.2.2 (ticks s now)).2.2 = 0) {wait wait' st a : Int} (h : choice pr s now L wait w = (wait', some (st, a))) :
    (now ≤ a ∧ a ≤ M) ∧ (0 ≤ st ∧ st < pw s.1 ∧ st % pw w.2.1 = 0) ∧ freeS (cur s L) (st, w.2.1) a (a + w.2.2) = true := by
  have A := P.ask h0 h1 h2 h3
  unfold choice at h
  cases hc : (findS (cur s L) w.2.1 now (now + w.2.2)).2 with
  | true =>
    rw [hc] at h
    cases h
    obtain ⟨b1, b2, b3, b4⟩ := find_sound (s := cur s L) ⟨A.o0, A.o1⟩ hc
    exact ⟨⟨Int.le_refl _, P.nM⟩, ⟨b3, b2, b4⟩, b1⟩
  | false =>
    rw [hc] at h
    simp only at h
    cases hp : pr (wait + 1) with
    | false => rw [hp] at h; cases h
    | true =>
      rw [hp] at h
      cases h
      rcases first_spec s w.2.1 w.2.2 (ticks s now) (ticks_pair s now) with ⟨g1, _⟩ | ⟨t, g1, g2, _, _⟩
      · rw [g1] at hs; cases hs
      · obtain ⟨x, x1, x2⟩ := last_free A g2
        rcases first_spec (cur s L) w.2.1 w.2.2 (ticks (cur s L) now) (ticks_pair _ now) with ⟨_, k2⟩ | ⟨q, k1, k2, k3, _⟩
        · rw [k2 x x1] at x2; cases x2
        · rw [k3]
          obtain ⟨b1, b2, b3, b4⟩ := find_sound (s := cur s L) ⟨A.o0, A.o1⟩ k2
          exact ⟨tick_M P k1, ⟨b3, b2, b4⟩, b1⟩
end Go.Proofs.YtipfamkhplkpmaaE
