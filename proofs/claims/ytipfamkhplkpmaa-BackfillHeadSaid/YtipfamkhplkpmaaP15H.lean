/- Backfill: plans are apart; BackfillApart. -/
import Derived.Test.YtipfamkhplkpmaaP15G
set_option linter.all false
namespace Go.Proofs.YtipfamkhplkpmaaE
open Go Go.Proofs
set_option maxRecDepth 100000
set_option linter.unusedVariables false
theorem F49_eq (K : Nat) (l : List Hd) (hl : l.length ≤ 100000) : F49 K l = some l := by
  simp only [F49, G49, t49, Nat.zero_add, fits47 hl, if_true]
  by_cases c : l.length = 0
  · rw [if_pos c, List.length_eq_zero_iff.1 c]
    exact both_same _
  · rw [if_neg c]
def okw (w : Wn) : Bool := decide ((0 : Int) ≤ w.2.1 ∧ (1 : Int) ≤ w.2.2 ∧ (w.2.2 : Int) ≤ 1099511627776)
theorem okw_of {w : Wn} (h : okw w = true) : OKw w := by
  obtain ⟨a, b, c⟩ := of_decide_eq_true h
  exact ⟨a, b, c⟩
/-- what a plan answers -/
def planR (pr on : Int → Bool) (s : Sc) (now : Int) (l : List Wn) : List Sl × Int :=
  if okS s = true ∧ 0 ≤ now ∧ now ≤ 1099511627776 ∧ l.length ≤ 300 ∧ l.all okw = true then (planS pr on s now l 0 s.2.2, 0) else ([], 2)
/-- that all ends in time -/
structure Near (s : Sc) (now M : Int) (l : List Wn) : Prop where
  n : now ≤ 1099511627776 → now ≤ M
  to : ∀ h ∈ s.2.2, (h.2.2 : Int) ≤ 4398046511104 → h.2.2 ≤ M
  t : l.all okw = true → M + tot l ≤ 4398046511104
theorem L1037_0_eq {pr on : Int → Bool} {P Q : Int → Option Bool} (hP : ∀ x, P x = some (pr x)) (hQ : ∀ x, Q x = some (on x)) {s : Sc} (hf : List.length s.2.1 ≤ 1200) (hk : okS s = true) (l : List Wn) (now M : Int) (hn : 0 ≤ now ∧ now ≤ 1099511627776) (hl : l.length ≤ 300) (hsum : List.length s.2.2 + l.length ≤ 300) (N : Near s now M l) (u : Unit × Unit) :
    ∀ (n : Nat) (pre suf : List Wn), l = pre ++ suf → suf.length < n → pre.all okw = true →
    L1037_0 (F18 2000) (F49 2000) (F30 2000) (F33 2000) P Q 2000 s l now u n (pre.length : Int) = some (if l.all okw = true then (planS pr on s now l 0 s.2.2, 0) else ([], 2))
  | 0, pre, suf, e, h, ha => by omega
  | n + 1, pre, [], e, h, ha => by
    obtain ⟨f1, f2⟩ := fin e
    subst f2
    have O := oks_of hk
    have hw : ∀ w ∈ pre, OKw w := fun w hw => okw_of (List.all_eq_true.1 ha w hw)
    have PI : PInv s now M s.2.2 := ⟨O, hn.1, hn.2, N.n hn.2, fun h hh => N.to h hh (by
      have := O.hh h hh
      unfold okH at this
      simp only [Bool.and_eq_true, decide_eq_true_eq] at this
      exact this.2.2.2)⟩
    simp only [L1037_0, b1037_0, f1, Bool.false_eq_true, if_false]
    rw [F49_eq 2000 _ (by omega), Option.bind_some, if_pos ha]
    have := planL_eq hP hQ hf O pre now hn hw hl u 2000 [] pre 0 s.2.2 [] M rfl (by omega) PI (by omega) (N.t ha) ⟨by omega, by simp⟩ (by simp)
    simpa using this
  | n + 1, pre, w :: ws, e, h, ha => by
    obtain ⟨g1, g2, g3, g4, g5, g6⟩ := mid e (zEl ((Ty.int IntKind.u32).pair T42)) (by omega)
    have bad : okw w = false → l.all okw = false := fun hb => by
      rw [e, List.all_append, List.all_cons, hb]; simp
    simp only [L1037_0, b1037_0, g1, g2, g3, g4, if_true]
    by_cases c1 : w.2.1 < 0
    · rw [if_pos (decide_eq_true c1), bad (decide_eq_false (fun h => by simp only [El] at *; omega))]; rfl
    · rw [if_neg (by simpa using c1)]
      by_cases c2 : w.2.2 < 1
      · rw [if_pos (decide_eq_true c2), bad (decide_eq_false (fun h => by simp only [El] at *; omega))]; rfl
      · rw [if_neg (by simpa using c2)]
        by_cases c3 : w.2.2 > 1099511627776
        · rw [if_pos (decide_eq_true c3), bad (decide_eq_false (fun h => by simp only [El] at *; omega))]; rfl
        · rw [if_neg (by simpa using c3)]
          have hw : okw w = true := decide_eq_true ⟨by simp only [El] at *; omega, by simp only [El] at *; omega, by simp only [El] at *; omega⟩
          exact L1037_0_eq hP hQ hf hk l now M hn hl hsum N u n (pre ++ [w]) ws g5 (by simpa using h) (by rw [List.all_append, ha]; simp [hw])
theorem plan_eq {pr on : Int → Bool} {P Q : Int → Option Bool} (hP : ∀ x, P x = some (pr x)) (hQ : ∀ x, Q x = some (on x)) {s : Sc} (hf : List.length s.2.1 ≤ 1200) (l : List Wn) (now M : Int) (hsum : List.length s.2.2 + l.length ≤ 300) (N : Near s now M l) (u : Unit × Unit) :
    G1037 (F18 2000) (F49 2000) (F30 2000) (F33 2000) P Q 2000 s l now u = some (planR pr on s now l) := by
  unfold G1037 t1037 planR
  rw [F18_eq 2000 (by omega) s (by omega) (by omega), Option.bind_some, chk_ne]
  by_cases hk : okS s = true
  · rw [hk, if_neg (by simp)]
    by_cases c1 : now < 0
    · rw [if_pos (decide_eq_true c1), if_neg (by omega)]
    rw [if_neg (by simpa using c1)]
    by_cases c2 : now > 1099511627776
    · rw [if_pos (decide_eq_true c2), if_neg (by omega)]
    rw [if_neg (by simpa using c2), if_neg (by simp; omega)]
    have h0 : L1037_0 (F18 2000) (F49 2000) (F30 2000) (F33 2000) P Q 2000 s l now u 2000 0 = _ := L1037_0_eq hP hQ hf hk l now M ⟨by omega, by omega⟩ (by omega) hsum N u 2000 [] l rfl (by omega) rfl
    rw [h0]
    congr 1
    by_cases c3 : l.all okw = true
    · rw [if_pos c3, if_pos ⟨rfl, by omega, by omega, by omega, c3⟩]
    · rw [if_neg c3, if_neg (fun h => c3 h.2.2.2.2)]
  · rw [if_pos (by simpa using hk), if_neg (fun h => hk h.1)]
def fifo (s : Sc) (now : Int) (l : List Wn) := planR (fun _ => false) (fun x => x == 0) s now l
def easy (s : Sc) (now : Int) (l : List Wn) := planR (fun x => x == 1) (fun _ => true) s now l
def cons (s : Sc) (now : Int) (l : List Wn) := planR (fun _ => true) (fun _ => true) s now l
section
variable {s : Sc} (hf : List.length s.2.1 ≤ 1200) (l : List Wn) (now M : Int) (hsum : List.length s.2.2 + l.length ≤ 300) (N : Near s now M l)
include hf hsum N
theorem F26_eq : F26 2000 s l now = some (fifo s now l) := by
  show Option.bind (G1037 (F18 2000) (F49 2000) (F30 2000) (F33 2000) (F40 2000) (F41 2000) 2000 s l now ((), ())) _ = _
  rw [plan_eq (pr := fun _ => false) (on := fun x => x == 0) (P := F40 2000) (Q := F41 2000) (fun x => rfl) (fun x => rfl) hf l now M hsum N]
  rfl
theorem F24_eq : F24 2000 s l now = some (easy s now l) := by
  show Option.bind (G2037 (F18 2000) (F49 2000) (F30 2000) (F33 2000) (F38 2000) (F39 2000) 2000 s l now ((), ())) _ = _
  rw [G2_eq, plan_eq (pr := fun x => x == 1) (on := fun _ => true) (P := F38 2000) (Q := F39 2000) (fun x => rfl) (fun x => rfl) hf l now M hsum N]
  rfl
theorem F27_eq : F27 2000 s l now = some (cons s now l) := by
  show Option.bind (G3037 (F18 2000) (F49 2000) (F30 2000) (F33 2000) (F42 2000) (F42 2000) 2000 s l now ((), ())) _ = _
  rw [G3_eq, plan_eq (pr := fun _ => true) (on := fun _ => true) (P := F42 2000) (Q := F42 2000) (fun x => rfl) (fun x => rfl) hf l now M hsum N]
  rfl
end
/-- each slot, when it is laid -/
def Good (s : Sc) (now : Int) (l : List Wn) : List Hd → Int → List Sl → Prop
  | _, _, [] => True
  | L, last, x :: xs => ∃ w ∈ l, ∃ st a, x = slotOf w st a ∧ OKw w ∧ last < w.1 ∧ now ≤ a ∧ a + w.2.2 ≤ 4398046511104 ∧ okS (cur s L) = true ∧ freeF (cur s L) (st, w.2.1) a (a + w.2.2) = true ∧ Good s now l (L ++ [heldOf w st a]) w.1 xs
theorem okS_cur {s : Sc} {now M : Int} {L : List Hd} (P : PInv s now M L) (hk : okS s = true) : okS (cur s L) = true := by
  unfold okS at hk ⊢
  simp only [Bool.and_eq_true, decide_eq_true_eq] at hk ⊢
  exact ⟨⟨⟨hk.1.1.1, hk.1.1.2.1, P.ok.hl⟩, hk.1.2⟩, List.all_eq_true.2 P.ok.hh⟩
def risesW : Int → List Wn → Prop
  | _, [] => True
  | last, w :: l => last < w.1 ∧ risesW w.1 l
theorem good_plan {pr on : Int → Bool} {s : Sc} (hk : okS s = true) (l0 : List Wn) (now : Int) (hn : 0 ≤ now ∧ now ≤ 1099511627776) : ∀ (l : List Wn) (wait : Int) (L : List Hd) (M last : Int), (∀ w ∈ l, w ∈ l0) → (∀ w ∈ l, OKw w) → PInv s now M L → L.length + l.length ≤ 300 → M + tot l ≤ 4398046511104 → (∃ last', last ≤ last' ∧ risesW last' l) →
    Good s now l0 L last (planS pr on s now l wait L)
  | [], wait, L, M, last, hm, hw, PI, hL, hM, hr => trivial
  | w :: ws, wait, L, M, last, hm, hw, PI, hL, hM, ⟨last', hr1, hr2, hr3⟩ => by
    have O := oks_of hk
    have W := hw w (by simp)
    have htn : 0 ≤ tot ws := tot_nn (fun x hx => (hw x (by simp [hx])).l0)
    have hMw : M + (w.2.2 + tot ws) ≤ 4398046511104 := hM
    have hL' : L.length + (ws.length + 1) ≤ 300 := by simpa using hL
    have hw0 := W.l0
    have hMM : M + tot ws ≤ 4398046511104 := by simp only [El] at *; omega
    have ih := fun wait' L' M' last'' => good_plan (pr := pr) (on := on) hk l0 now hn ws wait' L' M' last'' (fun x hx => hm x (by simp [hx])) (fun x hx => hw x (by simp [hx]))
    unfold planS
    cases hsk : skips s now w with
    | true => exact ih wait L M last PI (by omega) hMM ⟨w.1, by simp only [El] at *; omega, hr3⟩
    | false =>
      have c1 : (w.2.1 : Int) ≤ s.1 := by
        unfold skips at hsk
        simp only [Bool.or_eq_false_iff, decide_eq_false_iff_not] at hsk
        have := hsk.1
        simp only [El] at *
        omega
      have c2 : (firstT s w.2.1 w.2.2 (ticks s now)).2.2 = 0 := by
        unfold skips at hsk
        simp only [Bool.or_eq_false_iff, decide_eq_false_iff_not, Classical.not_not, ne_eq] at hsk
        exact hsk.2
      cases hc : choice pr s now L wait w with
      | mk wait' r =>
        cases r with
        | none =>
          simp only
          cases on wait' with
          | true => exact ih wait' L M last PI (by omega) hMM ⟨w.1, by simp only [El] at *; omega, hr3⟩
          | false => trivial
        | some q =>
          obtain ⟨st, a⟩ := q
          obtain ⟨q1, q2, q3⟩ := choice_ok PI O W.o0 c1 W.l0 W.l1 c2 hc
          have hke := okS_cur PI hk
          have hfit : fitsS (cur s L) (st, w.2.1) = true := decide_eq_true ⟨W.o0, c1, q2.1, q2.2.1, q2.2.2⟩
          have hfree : freeF (cur s L) (st, w.2.1) a (a + w.2.2) = true := by
            unfold freeF
            rw [hke, hfit, q3, decide_eq_true (show 0 ≤ a by omega), decide_eq_true (show a < a + w.2.2 by simp only [El] at *; omega)]
            rfl
          have PI2 := PI.more (st := st) (a := a) (by omega) W.o0 c1 W.l0 q1 q2 (by simp only [El] at *; omega)
          refine ⟨w, hm w (by simp), st, a, rfl, W, by simp only [El] at *; omega, q1.1, by simp only [El] at *; omega, hke, hfree, ?_⟩
          cases on wait' with
          | true => exact ih wait' _ (M + w.2.2) w.1 PI2 (by simp; omega) (by simp only [El] at *; omega) ⟨w.1, Int.le_refl _, hr3⟩
          | false => trivial
end Go.Proofs.YtipfamkhplkpmaaE
