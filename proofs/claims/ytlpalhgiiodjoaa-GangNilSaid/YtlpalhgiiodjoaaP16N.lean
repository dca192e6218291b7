/- Gang: a matrix of two workers, filled row by row. -/
import Derived.Test.YtlpalhgiiodjoaaP16G
set_option linter.all false
namespace Go.Proofs.YtlpalhgiiodjoaaE
open Go Go.Proofs
set_option maxRecDepth 100000
set_option linter.unusedVariables false
/-- jobs f, f + 1, .. in rows 0, 1, .. -/
def wc (f : Int) : Nat → List Ce
  | 0 => []
  | n + 1 => wc f n ++ [mkc (f + n) n 0 1]
theorem wc_mem {f : Int} {c : Ce} : ∀ {n : Nat}, c ∈ wc f n ↔ ∃ j : Nat, j < n ∧ c = mkc (f + j) j 0 1
  | 0 => by simp [wc]
  | n + 1 => by
    rw [wc, List.mem_append, wc_mem, List.mem_singleton]
    constructor
    · rintro (⟨j, h, e⟩ | e)
      · exact ⟨j, by omega, e⟩
      · exact ⟨n, by omega, e⟩
    · rintro ⟨j, h, e⟩
      by_cases q : j = n
      · subst q; exact .inr e
      · exact .inl ⟨j, by omega, e⟩
theorem wc_len (f : Int) : ∀ n, (wc f n).length = n
  | 0 => rfl
  | n + 1 => by rw [wc, List.length_append, wc_len f n]; rfl
theorem wc_srt (f : Int) : ∀ n, (wc f n).Pairwise LeC
  | 0 => List.Pairwise.nil
  | n + 1 => by
    rw [wc, List.pairwise_append]
    refine ⟨wc_srt f n, List.pairwise_singleton _ _, fun c hc d hd => ?_⟩
    obtain ⟨j, hj, rfl⟩ := wc_mem.1 hc
    rw [List.mem_singleton.1 hd, leC_iff]
    exact .inl (show (j : Int) < (n : Int) by omega)
theorem wc_hit {f : Int} {n : Nat} {q s o : Nat} (h : s + 2 ^ o ≤ 2) : hit (wc f n) q s o = decide (q < n) := by
  have p := Nat.two_pow_pos o
  by_cases c : q < n
  · rw [decide_eq_true c]
    refine List.any_eq_true.2 ⟨mkc (f + q) q 0 1, wc_mem.2 ⟨q, c, rfl⟩, ?_⟩
    rw [decide_eq_true_eq, st_mkc, od_mkc]
    exact ⟨rfl, by omega, by omega⟩
  · rw [decide_eq_false c]
    cases hh : hit (wc f n) q s o with
    | false => rfl
    | true =>
      obtain ⟨d, hd, e, _⟩ := hit_true hh
      obtain ⟨j, hj, rfl⟩ := wc_mem.1 hd
      have : (j : Int) = (q : Int) := e
      omega
/-- row n is the next -/
theorem wc_place (K : Nat) (hK : 2000 ≤ K) {f : Int} (hf : 1 ≤ f) {n : Nat} (hn : n < 16) (a : Int) (hi : MInv 1 n ((1 : Int), wc f n, a)) :
    F21 K (f + n) 1 ((1 : Int), wc f n, a) = some ((mkc (f + n) n 0 1, 0), ((1 : Int), wc f (n + 1), a)) ∧ MInv 1 (n + 1) ((1 : Int), wc f (n + 1), a) := by
  rcases place_eq (by omega) K hK ((1 : Int), wc f n, a) hi (by omega) (f + n) 1 with ⟨h0, _⟩ | ⟨hh, ⟨h1, _⟩ | ⟨h1, ⟨h2, _⟩ | ⟨r, s, h2, h⟩⟩⟩
  · exfalso
    rcases h0 with h | h | h
    · omega
    · omega
    · exact absurd h (by decide)
  · exfalso
    obtain ⟨c, hc, e⟩ := List.mem_map.1 h1
    obtain ⟨j, hj, rfl⟩ := wc_mem.1 hc
    have e : f + (j : Int) = f + (n : Int) := e
    omega
  · exact absurd ⟨rfl, by decide, (wc_hit (by decide)).trans (decide_eq_false (by omega))⟩ (h2 n hn 0)
  · have h21 := h2.2.1
    have hs : s = 0 := by
      have h3 : s % 2 = 0 := h21.1
      have h4 : s < 2 := h21.2.1
      omega
    subst hs
    have hr : r = n := by
      have h3 : hit (wc f n) r 0 1 = false := h21.2.2
      rw [wc_hit (by decide), decide_eq_false_iff_not] at h3
      by_cases q : n < r
      · exact absurd ⟨rfl, by decide, (wc_hit (by decide)).trans (decide_eq_false (by omega))⟩ (h2.2.2.2 n q 0)
      · omega
    subst hr
    have hnew := place_inv hi hh.1 (Nat.le_refl 1) h1 h2
    have e : insC (wc f r ++ [mkc (f + r) r 0 1]) = wc f (r + 1) := by
      refine sorted_one (l := wc f (r + 1)) (keys_nodup (O := 1) ?_ ?_) (insC_perm _) (List.Perm.refl _) (insC_sorted _) (wc_srt f (r + 1))
      · exact fun c hc => hnew.wf c ((insC_perm _).mem_iff.2 hc)
      · exact ap_new hi.ap h21.2.2
    rw [show insC (((1 : Int), wc f r, a).2.1 ++ [mkc (f + r) r 0 1]) = wc f (r + 1) from e] at hnew
    refine ⟨?_, hnew⟩
    rw [h]
    have e1 : (1 : Int).toNat = 1 := rfl
    rw [e1]
    show some ((mkc (f + r) r 0 1, (0 : Int)), ((1 : Int), insC (wc f r ++ [mkc (f + r) r 0 1]), a)) = _
    rw [e]
/-- sixteen rows are all there are; the fourth is given back and taken anew -/
theorem wc_end (K : Nat) (hK : 2000 ≤ K) {f : Int} (hf : 1 ≤ f) (a : Int) (hi : MInv 1 16 ((1 : Int), wc f 16, a)) :
    F21 K (f + 16) 0 ((1 : Int), wc f 16, a) = some ((zc, 5), ((1 : Int), wc f 16, a)) ∧
    ∃ m1 m2 : Mx, ∃ c : Ce, F22 K (f + 3) ((1 : Int), wc f 16, a) = some (0, m1) ∧ F21 K (f + 17) 0 m1 = some ((c, 0), m2) ∧ cr c = 3 ∧ F17 K m2 = some 16 := by
  have hlen : (wc f 16).length = 16 := wc_len f 16
  constructor
  · rcases place_eq (by omega) K hK ((1 : Int), wc f 16, a) hi (by omega) (f + 16) 0 with ⟨h0, _⟩ | ⟨hh, ⟨h1, _⟩ | ⟨h1, ⟨h2, h⟩ | ⟨r, s, h2, h⟩⟩⟩
    · exfalso
      rcases h0 with h | h | h
      · omega
      · omega
      · exact absurd h (by decide)
    · exfalso
      obtain ⟨c, hc, e⟩ := List.mem_map.1 h1
      obtain ⟨j, hj, rfl⟩ := wc_mem.1 hc
      have e : f + (j : Int) = f + 16 := e
      omega
    · exact h
    · exfalso
      have h3 : hit (wc f 16) r s 0 = false := h2.2.1.2.2
      have h4 : s < 2 := h2.2.1.2.1
      have h5 := h2.1
      rw [wc_hit (by show s + 1 ≤ 2; omega), decide_eq_false_iff_not] at h3
      omega
  · rcases remove_eq K hK ((1 : Int), wc f 16, a) hi (by omega) (f + 3) with ⟨h, _⟩ | ⟨pre, c, suf, a', e, ec, h, _, _, i1⟩
    · exact absurd (List.mem_map.2 ⟨mkc (f + (3 : Nat)) (3 : Nat) 0 1, wc_mem.2 ⟨3, by omega, rfl⟩, rfl⟩) h
    · have e : wc f 16 = pre ++ c :: suf := e
      have hsub : ∀ d, d ∈ pre ++ suf → d ∈ wc f 16 := by
        intro d hd
        rw [e]
        rcases List.mem_append.1 hd with h | h
        · exact List.mem_append_left _ h
        · exact List.mem_append_right _ (List.mem_cons_of_mem _ h)
      have hnin : ∀ d, d ∈ pre ++ suf → cid d ≠ f + 3 := by
        have hids : ((wc f 16).map cid).Nodup := hi.ids
        rw [e, List.map_append, List.map_cons] at hids
        have h2 := (List.perm_middle.nodup_iff).1 hids
        have h3 := (List.nodup_cons.1 h2).1
        intro d hd hh
        refine h3 ?_
        rw [← List.map_append, ec, ← hh]
        exact List.mem_map.2 ⟨d, hd, rfl⟩
      have hin : ∀ q : Nat, q < 16 → q ≠ 3 → mkc (f + q) q 0 1 ∈ pre ++ suf := by
        intro q hq h3
        have : mkc (f + q) q 0 1 ∈ wc f 16 := wc_mem.2 ⟨q, hq, rfl⟩
        rw [e] at this
        rcases List.mem_append.1 this with h | h
        · exact List.mem_append_left _ h
        · rcases List.mem_cons.1 h with h | h
          · exfalso
            have : cid (mkc (f + q) q 0 1) = cid c := congrArg cid h
            rw [ec] at this
            have : f + (q : Int) = f + 3 := this
            omega
          · exact List.mem_append_right _ h
      have hit1 : ∀ q : Nat, q < 16 → q ≠ 3 → ∀ s, s < 2 → hit (pre ++ suf) q s 0 = true := by
        intro q hq h3 s hs
        refine List.any_eq_true.2 ⟨_, hin q hq h3, ?_⟩
        rw [decide_eq_true_eq, st_mkc, od_mkc]
        exact ⟨rfl, by omega, by show s < 0 + 2; omega⟩
      have hit3 : ∀ s, hit (pre ++ suf) ((3 : Nat) : Int) s 0 = false := by
        intro s
        cases hh : hit (pre ++ suf) ((3 : Nat) : Int) s 0 with
        | false => rfl
        | true =>
          obtain ⟨d, hd, e1, _⟩ := hit_true hh
          obtain ⟨j, hj, rfl⟩ := wc_mem.1 (hsub d hd)
          have e1 : (j : Int) = 3 := e1
          exact absurd (show f + (j : Int) = f + 3 by omega) (hnin _ hd)
      rcases place_eq (by omega) K hK ((1 : Int), pre ++ suf, a') i1 (by omega) (f + 17) 0 with ⟨h0, _⟩ | ⟨hh, ⟨h1, _⟩ | ⟨h1, ⟨h2, _⟩ | ⟨r, s, h2, h3⟩⟩⟩
      · exfalso
        rcases h0 with h | h | h
        · omega
        · omega
        · exact absurd h (by decide)
      · exfalso
        obtain ⟨d, hd, e1⟩ := List.mem_map.1 h1
        obtain ⟨j, hj, rfl⟩ := wc_mem.1 (hsub d hd)
        have e1 : f + (j : Int) = f + 17 := e1
        omega
      · exact absurd ⟨rfl, by decide, hit3 0⟩ (h2 3 (by omega) 0)
      · have i2 := place_inv i1 hh.1 (Nat.zero_le 1) h1 h2
        have hr : r = 3 := by
          by_cases q : r = 3
          · exact q
          · have := hit1 r h2.1 q s h2.2.1.2.1
            have h4 : hit (pre ++ suf) r s 0 = false := h2.2.1.2.2
            rw [h4] at this
            cases this
        obtain ⟨R, f17, hR, hR2⟩ := F17_eq (O := 1) (n := 17) K _ (by have := i2.len; omega) i2.wf i2.srt
        have hmem : mkc (f + (15 : Nat)) (15 : Nat) 0 1 ∈ insC (pre ++ suf ++ [mkc (f + 17) r s 0]) := (insC_perm _).mem_iff.2 (List.mem_append_left _ (hin 15 (by omega) (by omega)))
        have h15 : (15 : Int) < R := hR2 _ hmem
        have hR16 : R = 16 := by
          rcases hR with ⟨h, _⟩ | ⟨d, hd, h⟩
          · have h : insC (pre ++ suf ++ [mkc (f + 17) r s 0]) = [] := h
            rw [h] at hmem
            cases hmem
          · have := (i2.wf d hd).2.2.1
            omega
        rw [hR16] at f17
        exact ⟨_, _, _, h, h3, by rw [hr]; rfl, f17⟩
end Go.Proofs.YtlpalhgiiodjoaaE
