/- Buddy: BuddyFails in plain words: who failed is in no free block; healed, all is as it was. -/
import Derived.Test.YtiicginipjbloaaS04F11
import Derived.Test.YtiicginipjbloaaP04N
set_option linter.all false
namespace Go.Proofs.YtiicginipjbloaaE
open Go Go.Proofs
set_option maxRecDepth 100000
set_option linter.unusedVariables false
theorem L24_eq (K : Nat) (l m : List Int) (hl : l.length ≤ 100000) : ∀ (n : Nat) (pre s t : List Int), l = pre ++ s → m = pre ++ t → s.length = t.length → s.length < n →
    L24_0 K l m n (pre.length : Int) = some (decide (s = t))
  | 0, pre, s, t, e, e', hs, h => by omega
  | n + 1, pre, [], t, e, e', hs, h => by
    have := fin e
    have ht : t = [] := List.length_eq_zero_iff.1 hs.symm
    simp only [L24_0, b24_0, this.1, ht]
    rfl
  | n + 1, pre, x :: xs, [], e, e', hs, h => by cases hs
  | n + 1, pre, x :: xs, y :: ys, e, e', hs, h => by
    have hll : l.length = m.length := by rw [e, e', List.length_append, List.length_append, hs]
    obtain ⟨h1, h2, h3, h4, h5, h6⟩ := mid e (zEl (Ty.int IntKind.i64)) (by omega)
    obtain ⟨k1, k2, k3, k4, k5, k6⟩ := mid e' (zEl (Ty.int IntKind.i64)) (by omega)
    by_cases c : x = y
    · subst c
      have ih := L24_eq K l m hl n (pre ++ [x]) xs ys h5 k5 (by simpa using hs) (by simpa using h)
      simp only [L24_0, b24_0, h1, h2, k2, if_true, h3, k3, h4]
      rw [if_neg (by simp), ih]
      congr 1
      exact decide_eq_decide.2 ⟨fun h => by rw [h], fun h => (List.cons.inj h).2⟩
    · simp only [L24_0, b24_0, h1, h2, k2, if_true, h3, k3]
      rw [if_pos (bne_iff_ne.2 c), decide_eq_false (fun h => c (List.cons.inj h).1)]
theorem F24_eq (K : Nat) (l m : List Int) (hl : l.length ≤ 100000) (hK : l.length < K) : F24 K l m = some (decide (l = m)) := by
  unfold F24 G24 t24
  by_cases c : l.length = m.length
  · rw [if_neg (by simp [c])]
    exact L24_eq K l m hl K [] l m rfl rfl c hK
  · rw [if_pos (by rw [bne_iff_ne]; exact fun h => c (Int.ofNat.inj h)), decide_eq_false (fun h => c (by rw [h]))]
/-- a block's size, as the laws reckon it -/
theorem size_of {j : Nat} (hj : j ≤ 6) : IntKind.i64.wrap ((1 : Int) * (2 : Int) ^ min (IntKind.u64.wrap (j : Int)).toNat IntKind.i64.bits) = ((2 ^ j : Nat) : Int) ∧ decide ((0 : Int) ≤ IntKind.u64.wrap (j : Int)) = true := by
  have e1 : IntKind.u64.wrap (j : Int) = (j : Int) := u64_in (by omega) (by omega)
  rw [e1]
  refine ⟨?_, decide_eq_true (by omega)⟩
  have : ∀ j : Nat, j ≤ 6 → IntKind.i64.wrap ((1 : Int) * (2 : Int) ^ min ((j : Int)).toNat IntKind.i64.bits) = ((2 ^ j : Nat) : Int) := by decide +kernel
  exact this j hj
theorem sum_in {A B : Nat} (hA : A ≤ 1000) (hB : B ≤ 1000) : IntKind.i64.wrap ((A : Int) + (B : Int)) = ((A + B : Nat) : Int) := by rw [i64_in (by omega) (by omega)]; omega
/-! ### who fails -/
structure Bad {n : Nat} (y z : Yard) (D : List Int) : Prop where
  ok : Ok n z
  tk : tkY z = tkY y
  mem : ∀ x, x ∈ flY z ↔ x ∈ flY y ∨ x ∈ D
structure BadD {n : Nat} (y : Yard) (D : List Int) : Prop where
  nd : D.Nodup
  new : ∀ x ∈ D, ¬ x ∈ flY y
  lim : ∀ x ∈ D, ∃ w : Nat, x = (w : Int) ∧ w < 2 ^ n
theorem L8_1_eq (l : List (El T57)) (g : List Int) (z : Yard) (fr : List Bk) (bad : List Int) (tk : List Bk) (d0 D : List Int) (hz : Ok 5 z) (r0 : Int → Int → List Bk → List Int → List Bk → List Int → List Int → List Int → List Int → List Int → List Int → List Int → List Int → List Int → List Int → List Int → List Int → List Bk → List Int → Option Bool) {i : Nat} (hi : i < g.length) (hgl : g.length ≤ 140737488355328) {w : Nat} (hw : g.getD i (zEl (Ty.int IntKind.i64)) = (w : Int)) (hwf : (w : Int) ∈ flY z) : ∀ (f : Nat) (pre suf : List Bk), frL z = pre ++ suf → suf.length < f →
    L8_1 (F11 2000) (F12 2000) (F21 2000) (F19 2000) (F22 2000) (F18 2000) (F23 2000) (F24 2000) (F15 2000) 2000 l g r0 f (i : Int) (pre.length : Int) z.1 fr bad tk d0 D (frL z) z.2.1 z.2.2.1 z.2.2.2.1 z.2.2.2.2.1 z.2.2.2.2.2.1 z.2.2.2.2.2.2.1 z.2.2.2.2.2.2.2.1 z.2.2.2.2.2.2.2.2.1 z.2.2.2.2.2.2.2.2.2.1 z.2.2.2.2.2.2.2.2.2.2.1 z.2.2.2.2.2.2.2.2.2.2.2.1 z.2.2.2.2.2.2.2.2.2.2.2.2.1 z.2.2.2.2.2.2.2.2.2.2.2.2.2 = r0 (IntKind.i64.wrap ((i : Int) + 1)) z.1 fr bad tk D z.2.1 z.2.2.1 z.2.2.2.1 z.2.2.2.2.1 z.2.2.2.2.2.1 z.2.2.2.2.2.2.1 z.2.2.2.2.2.2.2.1 z.2.2.2.2.2.2.2.2.1 z.2.2.2.2.2.2.2.2.2.1 z.2.2.2.2.2.2.2.2.2.2.1 z.2.2.2.2.2.2.2.2.2.2.2.1 z.2.2.2.2.2.2.2.2.2.2.2.2.1 z.2.2.2.2.2.2.2.2.2.2.2.2.2
  | 0, pre, suf, e, h => by omega
  | f + 1, pre, [], e, h => by
    have := fin e
    simp only [L8_1, b8_1, this.1]
    rw [if_neg Bool.false_ne_true]
  | f + 1, pre, b :: suf, e, h => by
    have hfr := frL_len hz.rep
    obtain ⟨h1, h2, h3, h4, h5, h6⟩ := mid e (zEl T29) (by omega)
    rw [Int.toNat_natCast] at h3
    have ih := L8_1_eq l g z fr bad tk d0 D hz r0 hi hgl hw hwf f (pre ++ [b]) suf h5 (by simpa using h)
    have d2 : decide ((0 : Int) ≤ (i : Int) ∧ (i : Int) < (g.length : Int)) = true := decide_eq_true (by omega)
    obtain ⟨j, q, hj, rfl, hm⟩ := (mem_frL hz.rep).1 (show b ∈ frL z by rw [e]; simp)
    have hlim := lim_q hz.rep.lim hm.1
    obtain ⟨s1, s2⟩ := size_of (show j ≤ 6 by omega)
    have hpj : 2 ^ j ≤ 64 := pow_le6 (by omega)
    have s3 := sum_in (A := q * 2 ^ j) (B := 2 ^ j) (by omega) (by omega)
    have hout : ¬ w / 2 ^ j = q := fun hin => by
      have := hm.1 w hin
      exact (opn_iff.1 this).2.1 hwf
    simp only [L8_1, b8_1, h1, h2, h3, h4, d2, if_true, Int.toNat_natCast, hw, mkB, s1, s2, s3]
    by_cases c : (w : Int) ≥ ((q * 2 ^ j : Nat) : Int)
    · rw [if_pos (decide_eq_true c)]
      have c1 := (Nat.le_div_iff_mul_le (pos2 j)).2 (Int.ofNat_le.1 c)
      have c2 : ¬ w < q * 2 ^ j + 2 ^ j := fun h => by
        have h3 : (q + 1) * 2 ^ j = q * 2 ^ j + 2 ^ j := by rw [Nat.add_mul, Nat.one_mul]
        rw [← h3] at h
        have := (Nat.div_lt_iff_lt_mul (pos2 j)).2 h
        omega
      rw [if_neg (by rw [decide_eq_true_eq]; exact fun h => c2 (Int.ofNat_lt.1 h))]
      exact ih
    · rw [if_neg (by rw [decide_eq_true_eq]; exact c)]
      exact ih
theorem L8_2_eq (l : List (El T57)) (g : List Int) (y : Yard) (hy : Ok 5 y) (D : List Int) (hD : BadD (n := 5) y D) (hDl : D.length ≤ 1000) (p1 : List Bk) : ∀ (f : Nat) (pre suf : List Int) (z : Yard), D = pre ++ suf → suf.length < f → Bad (n := 5) y z suf →
    L8_2 (F11 2000) (F12 2000) (F21 2000) (F19 2000) (F22 2000) (F18 2000) (F23 2000) (F24 2000) (F15 2000) 2000 l g f (pre.length : Int) z.1 (frL y) (flY y) (tkY y) D p1 z.2.1 z.2.2.1 z.2.2.2.1 z.2.2.2.2.1 z.2.2.2.2.2.1 z.2.2.2.2.2.2.1 z.2.2.2.2.2.2.2.1 z.2.2.2.2.2.2.2.2.1 z.2.2.2.2.2.2.2.2.2.1 z.2.2.2.2.2.2.2.2.2.2.1 z.2.2.2.2.2.2.2.2.2.2.2.1 z.2.2.2.2.2.2.2.2.2.2.2.2.1 z.2.2.2.2.2.2.2.2.2.2.2.2.2 = some true
  | 0, pre, suf, z, e, h, hz => by omega
  | f + 1, pre, [], z, e, h, hz => by
    have := fin e
    have hfr := frL_len hy.rep
    have htk := hy.tk.len hy.rep.le
    have hfl := hy.fl.len hy.rep.le
    have hf : flY z = flY y := incK_ext (key := idI) hz.ok.fl.inc hy.fl.inc fun x => by rw [hz.mem]; simp
    have k2 : frL z = frL y := frL_eq hz.ok hy hz.tk hf
    have g1 : F12 2000 (z.1, z.2.1, z.2.2.1, z.2.2.2.1, z.2.2.2.2.1, z.2.2.2.2.2.1, z.2.2.2.2.2.2.1, z.2.2.2.2.2.2.2.1, z.2.2.2.2.2.2.2.2.1, z.2.2.2.2.2.2.2.2.2.1, z.2.2.2.2.2.2.2.2.2.2.1, z.2.2.2.2.2.2.2.2.2.2.2.1, z.2.2.2.2.2.2.2.2.2.2.2.2.1, z.2.2.2.2.2.2.2.2.2.2.2.2.2) = some (frL z) := F12_eq 2000 (by decide) hz.ok
    have g2 : F19 2000 (z.1, z.2.1, z.2.2.1, z.2.2.2.1, z.2.2.2.2.1, z.2.2.2.2.2.1, z.2.2.2.2.2.2.1, z.2.2.2.2.2.2.2.1, z.2.2.2.2.2.2.2.2.1, z.2.2.2.2.2.2.2.2.2.1, z.2.2.2.2.2.2.2.2.2.2.1, z.2.2.2.2.2.2.2.2.2.2.2.1, z.2.2.2.2.2.2.2.2.2.2.2.2.1, z.2.2.2.2.2.2.2.2.2.2.2.2.2) = some (tkY z) := F19_eq 2000 hz.ok
    have g3 : F21 2000 (z.1, z.2.1, z.2.2.1, z.2.2.2.1, z.2.2.2.2.1, z.2.2.2.2.2.1, z.2.2.2.2.2.2.1, z.2.2.2.2.2.2.2.1, z.2.2.2.2.2.2.2.2.1, z.2.2.2.2.2.2.2.2.2.1, z.2.2.2.2.2.2.2.2.2.2.1, z.2.2.2.2.2.2.2.2.2.2.2.1, z.2.2.2.2.2.2.2.2.2.2.2.2.1, z.2.2.2.2.2.2.2.2.2.2.2.2.2) = some (flY z) := F21_eq 2000 hz.ok
    simp only [L8_2, b8_2, this.1]
    rw [if_neg Bool.false_ne_true, g1, Option.bind_some, k2, F18_eq 2000 _ _ (by omega) (by omega), Option.bind_some, if_pos (decide_eq_true rfl), g3, Option.bind_some, hf, F24_eq 2000 _ _ (by omega) (by omega), Option.bind_some, if_pos (decide_eq_true rfl),
      g2, Option.bind_some, hz.tk, F18_eq 2000 _ _ (by omega) (by omega), Option.bind_some, if_pos (decide_eq_true rfl), known_eq]
    rfl
  | f + 1, pre, x :: suf, z, e, h, hz => by
    obtain ⟨h1, h2, h3, h4, h5, h6⟩ := mid e (zEl (Ty.int IntKind.i64)) (by omega)
    have hxD : x ∈ D := by rw [e]; simp
    obtain ⟨w, rfl, hw⟩ := hD.lim x hxD
    have hxs : ¬ (w : Int) ∈ suf := fun hm => by
      have := hD.nd
      rw [e, List.nodup_append] at this
      exact (List.nodup_cons.1 this.2.1).1 hm
    have hin : (w : Int) ∈ flY z := (hz.mem _).2 (.inr (by simp))
    have e1 := fail_twice 2000 (by decide) hz.ok hw hin
    obtain ⟨z', g1, g2, g3, g4⟩ := heal_ok 2000 (by decide) hz.ok hw hin
    have hd := fun x => mem_delK (key := idI) (x := (w : Int)) (b := x) hz.ok.fl.inc (by simpa using hin)
    have hnot : ¬ (w : Int) ∈ flY z' := fun hm => by
      rw [g4] at hm
      exact ((hd _).1 hm).2 rfl
    have e2 := heal_none 2000 (by decide) g2 hw hnot
    have hz' : Bad (n := 5) y z' suf := ⟨g2, g3.trans hz.tk, fun x => by
      rw [g4, hd, hz.mem, List.mem_cons]
      constructor
      · rintro ⟨h1 | h1 | h1, h2⟩
        · exact .inl h1
        · exact absurd h1 h2
        · exact .inr h1
      · rintro (h1 | h1)
        · exact ⟨.inl h1, fun e => hD.new _ hxD (by rw [← e]; exact h1)⟩
        · exact ⟨.inr (.inr h1), fun e => hxs (by rw [← e]; exact h1)⟩⟩
    have e1' : F22 2000 (w : Int) (z.1, z.2.1, z.2.2.1, z.2.2.2.1, z.2.2.2.2.1, z.2.2.2.2.2.1, z.2.2.2.2.2.2.1, z.2.2.2.2.2.2.2.1, z.2.2.2.2.2.2.2.2.1, z.2.2.2.2.2.2.2.2.2.1, z.2.2.2.2.2.2.2.2.2.2.1, z.2.2.2.2.2.2.2.2.2.2.2.1, z.2.2.2.2.2.2.2.2.2.2.2.2.1, z.2.2.2.2.2.2.2.2.2.2.2.2.2) = some ((30 : Int), z) := e1
    simp only [L8_2, b8_2, h1, h2, h3, h4, if_true]
    rw [e1', Option.bind_some, if_neg (by exact Bool.false_ne_true)]
    dsimp only
    rw [g1, Option.bind_some, if_neg (by exact Bool.false_ne_true)]
    dsimp only
    rw [e2, Option.bind_some, if_neg (by exact Bool.false_ne_true)]
    exact L8_2_eq l g y hy D hD hDl p1 f (pre ++ [(w : Int)]) suf z' h5 (by simpa using h) hz'
theorem L8_0_eq (l : List (El T57)) (g : List Int) (hgl : g.length ≤ 140737488355328) (y : Yard) (hy : Ok 5 y) : ∀ (f i : Nat) (D : List Int) (z : Yard), 21 < f + i → i ≤ 20 → D.length ≤ i → BadD (n := 5) y D → Bad (n := 5) y z D →
    L8_0 (F11 2000) (F12 2000) (F21 2000) (F19 2000) (F22 2000) (F18 2000) (F23 2000) (F24 2000) (F15 2000) 2000 l g f (i : Int) z.1 (frL y) (flY y) (tkY y) D z.2.1 z.2.2.1 z.2.2.2.1 z.2.2.2.2.1 z.2.2.2.2.2.1 z.2.2.2.2.2.2.1 z.2.2.2.2.2.2.2.1 z.2.2.2.2.2.2.2.2.1 z.2.2.2.2.2.2.2.2.2.1 z.2.2.2.2.2.2.2.2.2.2.1 z.2.2.2.2.2.2.2.2.2.2.2.1 z.2.2.2.2.2.2.2.2.2.2.2.2.1 z.2.2.2.2.2.2.2.2.2.2.2.2.2 = some true
  | 0, i, D, z, h, hi, hDi, hD, hz => by omega
  | f + 1, i, D, z, h, hi, hDi, hD, hz => by
    have htk := hy.tk.len hy.rep.le
    have g2 : F19 2000 (z.1, z.2.1, z.2.2.1, z.2.2.2.1, z.2.2.2.2.1, z.2.2.2.2.2.1, z.2.2.2.2.2.2.1, z.2.2.2.2.2.2.2.1, z.2.2.2.2.2.2.2.2.1, z.2.2.2.2.2.2.2.2.2.1, z.2.2.2.2.2.2.2.2.2.2.1, z.2.2.2.2.2.2.2.2.2.2.2.1, z.2.2.2.2.2.2.2.2.2.2.2.2.1, z.2.2.2.2.2.2.2.2.2.2.2.2.2) = some (tkY z) := F19_eq 2000 hz.ok
    have stop := fun p1 => L8_2_eq l g y hy D hD (by omega) p1 2000 [] D z rfl (by omega) hz
    have e : IntKind.i64.wrap ((i : Int) + 1) = ((i + 1 : Nat) : Int) := by rw [i64_in (by omega) (by omega)]; omega
    simp only [L8_0, b8_0]
    by_cases c : i < g.length
    · have d1 : decide ((i : Int) < (g.length : Int)) = true := decide_eq_true (by omega)
      have d2 : decide ((0 : Int) ≤ (i : Int) ∧ (i : Int) < (g.length : Int)) = true := decide_eq_true (by omega)
      rw [if_pos d1]
      by_cases c2 : i < 20
      · rw [if_pos (decide_eq_true (by omega)), if_pos d2, Int.toNat_natCast, e]
        generalize hx : g.getD i (zEl (Ty.int IntKind.i64)) = x
        by_cases c3 : (0 ≤ x ∧ x < ((2 ^ 5 : Nat) : Int)) ∧ ¬ x ∈ flY z
        · obtain ⟨w, rfl⟩ : ∃ w : Nat, x = (w : Int) := ⟨x.toNat, by omega⟩
          have hw : w < 2 ^ 5 := Int.ofNat_lt.1 c3.1.2
          obtain ⟨z', k1, k2, k3, k4⟩ := fail_ok 2000 (by decide) hz.ok hw c3.2
          have k1' : F22 2000 (w : Int) (z.1, z.2.1, z.2.2.1, z.2.2.2.1, z.2.2.2.2.1, z.2.2.2.2.2.1, z.2.2.2.2.2.2.1, z.2.2.2.2.2.2.2.1, z.2.2.2.2.2.2.2.2.1, z.2.2.2.2.2.2.2.2.2.1, z.2.2.2.2.2.2.2.2.2.2.1, z.2.2.2.2.2.2.2.2.2.2.2.1, z.2.2.2.2.2.2.2.2.2.2.2.2.1, z.2.2.2.2.2.2.2.2.2.2.2.2.2) = some ((0 : Int), z') := k1
          have hwin : (w : Int) ∈ flY z' := by rw [k4]; exact mem_insK.2 (.inl rfl)
          rw [k1', Option.bind_some, if_pos (by rfl), if_pos d2, if_pos (fits3 (by simp; omega))]
          dsimp only
          rw [F12_eq 2000 (by decide) k2, Option.bind_some]
          have hinner := L8_1_eq l g z' (frL y) (flY y) (tkY y) [(w : Int)] (D ++ [(w : Int)]) k2 (L8_0 (F11 2000) (F12 2000) (F21 2000) (F19 2000) (F22 2000) (F18 2000) (F23 2000) (F24 2000) (F15 2000) 2000 l g f) c hgl hx hwin 2000 [] (frL z') rfl (by have := frL_len k2.rep; omega)
          refine Eq.trans hinner ?_
          rw [e]
          refine L8_0_eq l g hgl y hy f (i + 1) (D ++ [(w : Int)]) z' (by omega) (by omega) (by simp; omega) ⟨?_, fun v hv => ?_, fun v hv => ?_⟩ ⟨k2, k3.trans hz.tk, fun v => ?_⟩
          · rw [List.nodup_append]
            refine ⟨hD.nd, by simp, fun a ha b hb e => ?_⟩
            rw [List.mem_singleton.1 hb] at e
            exact c3.2 ((hz.mem _).2 (.inr (by rw [← e]; exact ha)))
          · rcases List.mem_append.1 hv with hv | hv
            · exact hD.new v hv
            · rw [List.mem_singleton.1 hv]
              exact fun h => c3.2 ((hz.mem _).2 (.inl h))
          · rcases List.mem_append.1 hv with hv | hv
            · exact hD.lim v hv
            · exact ⟨w, List.mem_singleton.1 hv, hw⟩
          · rw [k4, mem_insK, hz.mem, List.mem_append, List.mem_singleton]
            constructor
            · rintro (h | h | h)
              · exact .inr (.inr h)
              · exact .inl h
              · exact .inr (.inl h)
            · rintro (h | h | h)
              · exact .inr (.inl h)
              · exact .inr (.inr h)
              · exact .inl h
        · have : ∃ er : Int, er ≠ 0 ∧ F22 2000 x z = some (er, z) := by
            by_cases c4 : 0 ≤ x ∧ x < ((2 ^ 5 : Nat) : Int)
            · obtain ⟨w, rfl⟩ : ∃ w : Nat, x = (w : Int) := ⟨x.toNat, by omega⟩
              exact ⟨30, by decide, fail_twice 2000 (by decide) hz.ok (Int.ofNat_lt.1 c4.2) (Decidable.not_not.1 fun h => c3 ⟨c4, h⟩)⟩
            · exact ⟨2, by decide, fail_arg 2000 hz.ok c4⟩
          obtain ⟨er, g0, g1⟩ := this
          have g1' : F22 2000 x (z.1, z.2.1, z.2.2.1, z.2.2.2.1, z.2.2.2.2.1, z.2.2.2.2.2.1, z.2.2.2.2.2.2.1, z.2.2.2.2.2.2.2.1, z.2.2.2.2.2.2.2.2.1, z.2.2.2.2.2.2.2.2.2.1, z.2.2.2.2.2.2.2.2.2.2.1, z.2.2.2.2.2.2.2.2.2.2.2.1, z.2.2.2.2.2.2.2.2.2.2.2.2.1, z.2.2.2.2.2.2.2.2.2.2.2.2.2) = some (er, z) := g1
          rw [g1', Option.bind_some, if_neg (by simpa using g0)]
          exact L8_0_eq l g hgl y hy f (i + 1) D z (by omega) (by omega) (by omega) hD hz
      · rw [if_neg (by simp; omega), g2, Option.bind_some, hz.tk, F18_eq 2000 _ _ (by omega) (by omega), Option.bind_some, if_neg (by simp)]
        exact stop _
    · rw [if_neg (by simp; omega), g2, Option.bind_some, hz.tk, F18_eq 2000 _ _ (by omega) (by omega), Option.bind_some, if_neg (by simp)]
      exact stop _
theorem buddyFails (l : List (El T57)) (g : List Int) (_ : Gd (.sl T57) l) (hg : Gd (.sl (.int .i64)) g) : F8 2000 l g = some true := by
  obtain ⟨y, h1, h2⟩ := F11_eq 2000 (by decide) l
  unfold F8 G8 t8
  rw [h1, Option.bind_some]
  dsimp only
  rw [F12_eq 2000 (by decide) h2, Option.bind_some, F21_eq 2000 h2, Option.bind_some, F19_eq 2000 h2, Option.bind_some]
  exact L8_0_eq l g (by have := hg.1; omega) y h2 2000 0 [] y (by omega) (by omega) (Nat.le_refl _) ⟨by simp, fun x hx => (by cases hx), fun x hx => (by cases hx)⟩ ⟨h2, rfl, fun x => by simp⟩
end Go.Proofs.YtiicginipjbloaaE
