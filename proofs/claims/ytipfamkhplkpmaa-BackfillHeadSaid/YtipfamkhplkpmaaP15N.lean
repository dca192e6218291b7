/- Backfill: what a plan lays does not clash. -/
import Derived.Test.YtipfamkhplkpmaaP15M
set_option linter.all false
namespace Go.Proofs.YtipfamkhplkpmaaE
open Go Go.Proofs
set_option maxRecDepth 100000
set_option linter.unusedVariables false
def noClash (h k : Hd) : Prop := ¬ (((h.2.1 < k.2.2 ∧ k.2.1 < h.2.2)) ∧ meetS h.1 k.1 = true)
theorem noClash_comm {h k : Hd} (c : noClash h k) : noClash k h := fun g => c ⟨⟨g.1.2, g.1.1⟩, by rw [meet_comm]; exact g.2⟩
/-- slots, and what they hold -/
inductive Lay (l : List Wn) : List Sl → List Hd → Prop
  | nil : Lay l [] []
  | cons {w : Wn} {st a : Int} {xs : List Sl} {hs : List Hd} : w ∈ l → OKw w → Lay l xs hs → Lay l (slotOf w st a :: xs) (heldOf w st a :: hs)
def spared (s : Sc) (k : Hd) : Prop := ∀ w ∈ s.2.1, hasS k.1 w = false
theorem free_no {s : Sc} {L : List Hd} {w : Wn} {st a : Int} (h : freeF (cur s L) (st, w.2.1) a (a + w.2.2) = true) : okH s (heldOf w st a) = true ∨ ¬ (a + w.2.2 ≤ 4398046511104) := by
  unfold freeF at h
  simp only [Bool.and_eq_true, decide_eq_true_eq] at h
  by_cases c : a + w.2.2 ≤ 4398046511104
  · left
    unfold okH
    have e1 : fitsS s (heldOf w st a).1 = true := h.2.1
    have e4 : decide ((0 : Int) ≤ (heldOf w st a).2.1 ∧ (heldOf w st a).2.1 < (heldOf w st a).2.2 ∧ (heldOf w st a).2.2 ≤ (4398046511104 : Int)) = true := decide_eq_true ⟨h.2.2.1, h.2.2.2.1, c⟩
    rw [e1, e4]
    rfl
  · right; exact c
theorem good_lay {s : Sc} {now : Int} {l : List Wn} : ∀ (slots : List Sl) (L : List Hd) (last : Int), Good s now l L last slots →
    ∃ hs, Lay l slots hs ∧ (∀ k ∈ hs, okH s k = true ∧ spared s k ∧ ∀ h ∈ L, noClash h k) ∧ hs.Pairwise noClash
  | [], L, last, _ => ⟨[], .nil, fun k hk => by simp at hk, .nil⟩
  | x :: xs, L, last, hg => by
    obtain ⟨w, hw, st, a, rfl, W, hlt, hna, hend, hok, hfree, hg'⟩ := hg
    obtain ⟨hs, h1, h2, h3⟩ := good_lay xs (L ++ [heldOf w st a]) w.1 hg'
    have ho : okH s (heldOf w st a) = true := (free_no hfree).resolve_right fun h => h hend
    have hfs : freeS (cur s L) (st, w.2.1) a (a + w.2.2) = true := by
      unfold freeF at hfree
      simp only [Bool.and_eq_true] at hfree
      exact hfree.2.2.2.2
    unfold freeS at hfs
    simp only [Bool.and_eq_true, Bool.not_eq_true', List.any_eq_false] at hfs
    refine ⟨heldOf w st a :: hs, .cons hw W h1, fun k hk => ?_, List.pairwise_cons.2 ⟨fun k hk => (h2 k hk).2.2 _ (by simp), h3⟩⟩
    rcases List.mem_cons.1 hk with rfl | hk
    · refine ⟨ho, fun v hv => ?_, fun h hh c => hfs.2 h hh (clash_iff.2 ⟨⟨c.1.1, c.1.2⟩, c.2⟩)⟩
      have h0 : hasS ((st, w.2.1) : Bk) v = false := by simpa using hfs.1 v hv
      exact h0
    · exact ⟨(h2 k hk).1, (h2 k hk).2.1, fun h hh => (h2 k hk).2.2 h (by simp [hh])⟩
/-- A held one's block is free where nothing clashes with it. -/
theorem free_held {s : Sc} {X : List Hd} {k : Hd} (h1 : spared s k) (h2 : ∀ h ∈ X, noClash h k) : freeS (cur s X) k.1 k.2.1 k.2.2 = true := by
  unfold freeS
  simp only [Bool.and_eq_true, Bool.not_eq_true', List.any_eq_false]
  refine ⟨fun v hv => by rw [h1 v hv]; simp, fun h hh c => h2 h hh ?_⟩
  have := clash_iff.1 c
  exact ⟨⟨this.1.1, this.1.2⟩, this.2⟩
end Go.Proofs.YtipfamkhplkpmaaE
