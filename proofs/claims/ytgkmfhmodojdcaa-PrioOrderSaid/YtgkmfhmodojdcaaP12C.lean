/- Priorities: who comes first of two, and of all; PrioOrder. -/
import Derived.Test.YtgkmfhmodojdcaaP12B
set_option linter.all false
namespace Go.Proofs.YtgkmfhmodojdcaaE
open Go Go.Proofs
set_option maxRecDepth 100000
set_option linter.unusedVariables false
abbrev right (w : Wt) (b : Job) (n m : Int) : Prop := Ytgkmfhmodojdcaa.Num.rightS w.1 w.2.1 w.2.2.1 w.2.2.2.1 w.2.2.2.2 b.1 b.2.1 b.2.2.2.1 b.2.2.2.2.2.2 n m
abbrev sum (w : Wt) (b : Job) (n m : Int) : Int := Ytgkmfhmodojdcaa.Num.sumS w.1 w.2.1 w.2.2.1 w.2.2.2.1 w.2.2.2.2 b.2.1 b.2.2.1 b.2.2.2.2.1 b.2.2.2.2.2.1 b.2.2.2.2.2.2 n m
theorem pS_right {w : Wt} {b : Job} {n m : Int} (h : right w b n m) : pS w b n m = (sum w b n m - b.2.2.2.1, 0) := by
  unfold pS Ytgkmfhmodojdcaa.Num.prioS
  exact if_pos h
theorem pS_ok {w : Wt} {b : Job} {n m : Int} (h : (pS w b n m).2 = 0) : right w b n m := by
  unfold pS Ytgkmfhmodojdcaa.Num.prioS at h
  by_cases c : right w b n m
  · exact c
  · rw [if_neg c] at h; cases h
theorem first2 {w : Wt} {x y : Job} {n m : Int} (hx : (pS w x n m).2 = 0) (hy : (pS w y n m).2 = 0) (hne : x.1 ≠ y.1) (hl : less (keyOf w n m y) (keyOf w n m x) = true) : firstS w [x, y] n m = (y.1, 0) := by
  have hg : good w n m [x, y] = true := by simp [good, hx, hy]
  have hu : uniq [keyOf w n m x, keyOf w n m y] = true := by
    unfold uniq
    exact decide_eq_true (by
      show (List.map kid [keyOf w n m x, keyOf w n m y]).Nodup
      simp only [List.map_cons, List.map_nil, List.nodup_cons, List.mem_singleton, List.not_mem_nil, not_false_eq_true, List.nodup_nil, and_true]
      exact hne)
  have hi : isort [keyOf w n m x, keyOf w n m y] = [keyOf w n m y, keyOf w n m x] := by
    show ins (keyOf w n m y) [keyOf w n m x] = _
    unfold ins
    rw [less_asymm hl]
    rfl
  unfold firstS keysS
  rw [if_pos hg]
  unfold sorted
  show firstK (if uniq [keyOf w n m x, keyOf w n m y] = true then (isort [keyOf w n m x, keyOf w n m y], 0) else ([], 30)) = _
  rw [if_pos hu, hi]
  rfl
theorem of_up {x y : Int} (h0 : 0 ≤ x) (h : x ≤ y) (h1 : y ≤ 1048576) : Ytgkmfhmodojdcaa.Num.ofS x 1048576 ≤ Ytgkmfhmodojdcaa.Num.ofS y 1048576 := by
  have e : ∀ z : Int, 0 ≤ z → z ≤ 1048576 → Ytgkmfhmodojdcaa.Num.ofS z 1048576 = z * 65536 / 1048576 := fun z a b => (if_neg (by omega)).trans (if_neg (by omega))
  rw [e x h0 (by omega), e y (by omega) h1]
  omega
theorem age_down {s n : Int} (h : 0 ≤ s) : Ytgkmfhmodojdcaa.Num.ageS (s + 1) n ≤ Ytgkmfhmodojdcaa.Num.ageS s n := by
  have hx := Ytgkmfhmodojdcaa.Num.ageS_in s n
  by_cases c : n ≤ s + 1
  · have : Ytgkmfhmodojdcaa.Num.ageS (s + 1) n = 0 := if_pos (.inr c)
    omega
  · have e1 : Ytgkmfhmodojdcaa.Num.ageS (s + 1) n = Ytgkmfhmodojdcaa.Num.ofS (if n - (s + 1) > 1048576 then 1048576 else n - (s + 1)) 1048576 := if_neg (by omega)
    have e2 : Ytgkmfhmodojdcaa.Num.ageS s n = Ytgkmfhmodojdcaa.Num.ofS (if n - s > 1048576 then 1048576 else n - s) 1048576 := if_neg (by omega)
    rw [e1, e2]
    refine of_up ?_ ?_ ?_
    · split <;> omega
    · split <;> split <;> omega
    · split <;> omega
theorem sum_down {w : Wt} {i j s : Int} {r : El T26} {n m : Int} (h : 0 ≤ s) (hw : 0 ≤ w.2.1) : sum w (i, s + 1, r) n m ≤ sum w (j, s, r) n m := by
  show Ytgkmfhmodojdcaa.Num.sumS _ _ _ _ _ _ _ _ _ _ _ _ ≤ Ytgkmfhmodojdcaa.Num.sumS _ _ _ _ _ _ _ _ _ _ _ _
  unfold Ytgkmfhmodojdcaa.Num.sumS
  have h1 := Int.mul_le_mul_of_nonneg_left (age_down (n := n) h) hw
  have h2 := Int.ediv_le_ediv (show (0 : Int) < 65536 by omega) h1
  simp only [El] at *
  omega
/-- Who comes first of all does so of any two with it among them. -/
theorem first_any {w : Wt} {l : List Job} {n m z : Int} (h : firstS w l n m = (z, 0)) {u y : Job} (hu : u ∈ l) (hy : y ∈ l) (hne : u.1 ≠ z) (he : y.1 = z) : firstS w [u, y] n m = (z, 0) := by
  unfold firstS firstK at h
  split at h
  · rename_i hok
    obtain ⟨g1, g2, g3⟩ := keys_ok hok
    have hp : (keysS w l n m).1.Perm (l.map (keyOf w n m)) := by rw [g3]; exact isort_perm _
    have hs : (keysS w l n m).1.Pairwise (fun a b => le a b = true) := by rw [g3]; exact isort_pair _
    have hnd : (ids (keysS w l n m).1).Nodup := (hp.map kid).nodup_iff.2 (of_decide_eq_true g2)
    generalize (keysS w l n m).1 = ks at *
    cases ks with
    | nil => cases h
    | cons x ks =>
      have hz : kid x = z := congrArg Prod.fst h
      have hgood : ∀ b ∈ l, (pS w b n m).2 = 0 := fun b hb => by simpa using (List.all_eq_true.1 g1) b hb
      have hky : keyOf w n m y ∈ x :: ks := hp.mem_iff.2 (List.mem_map_of_mem hy)
      have hku : keyOf w n m u ∈ x :: ks := hp.mem_iff.2 (List.mem_map_of_mem hu)
      have hnd' : ¬ kid x ∈ ids ks := (by simpa [ids] using hnd : ¬ kid x ∈ ids ks ∧ (ids ks).Nodup).1
      have ey : keyOf w n m y = x := by
        rcases List.mem_cons.1 hky with e | e
        · exact e
        · refine absurd ?_ hnd'
          rw [hz, ← he]
          exact List.mem_map_of_mem (f := kid) e
      have eu : keyOf w n m u ∈ ks := by
        rcases List.mem_cons.1 hku with e | e
        · exact absurd (show u.1 = z by rw [← hz, ← e]; rfl) hne
        · exact e
      have h1 := (List.pairwise_cons.1 hs).1 _ eu
      have h2 : less (keyOf w n m u) x = false := by simpa [le] using h1
      have h3 : less x (keyOf w n m u) = true := by
        cases c : less x (keyOf w n m u) with
        | true => rfl
        | false =>
          have := less_total c h2
          exact absurd (show u.1 = z by rw [← hz, this]; rfl) hne
      rw [← he]
      exact first2 (hgood u hu) (hgood y hy) (by rw [he]; exact hne) (by rw [ey]; exact h3)
  · rename_i hno
    exact absurd (congrArg Prod.snd h) hno
theorem L9_1_eq (w : Wt) (a : Job) (l : List Job) (n m t : Int) (hj : ∀ b ∈ l, OKj b) (hl : l.length ≤ 100) (z : Int) (hz : firstS w l n m = (z, 0)) (r0 : Int → Int → Option Bool) (i : Nat) (u : Job) (hi : i < l.length) (hu : l.getD i (zEl T29) = u) (hmem : u ∈ l) (hne : u.1 ≠ z) : ∀ (k : Nat) (pre suf : List Job), l = pre ++ suf → suf.length < k →
    L9_1 (F16 2000) (F17 2000) (F22 2000) 2000 w a l n m t r0 k z (i : Int) (pre.length : Int) = r0 z (IntKind.i64.wrap ((i : Int) + 1))
  | 0, pre, suf, e, h => by omega
  | k + 1, pre, [], e, h => by
    obtain ⟨f1, f2⟩ := fin e
    simp only [L9_1, b9_1, f1, Bool.false_eq_true, if_false]
  | k + 1, pre, x :: xs, e, h => by
    obtain ⟨h1, h2, h3, h4, h5, h6⟩ := mid e (zEl T29) (by omega)
    rw [Int.toNat_natCast] at h3
    have d2 : decide ((0 : Int) ≤ (i : Int) ∧ (i : Int) < (l.length : Int)) = true := decide_eq_true (by omega)
    have ih := L9_1_eq w a l n m t hj hl z hz r0 i u hi hu hmem hne k (pre ++ [x]) xs h5 (by simpa using h)
    simp only [L9_1, b9_1, h1, h2, h4, d2, if_true, Int.toNat_natCast, h3, hu]
    by_cases c : x.1 = z
    · have hx : x ∈ l := by rw [e]; simp
      rw [if_pos (beq_iff_eq.2 c), F22_eq 2000 w [u, x] n m (fun b hb => by
        rcases List.mem_cons.1 hb with rfl | hb
        · exact hj _ hmem
        · rw [List.mem_singleton.1 hb]; exact hj _ hx) (by simp) (by simp), Option.bind_some, first_any hz hmem hx hne c]
      simp only [bne_self_eq_false, Bool.false_eq_true, if_false]
      exact ih
    · rw [if_neg (fun h => c (beq_iff_eq.1 h))]
      exact ih
theorem L9_0_eq (w : Wt) (a : Job) (l : List Job) (n m t : Int) (hj : ∀ b ∈ l, OKj b) (hl : l.length ≤ 100) (z : Int) (hz : firstS w l n m = (z, 0)) : ∀ (k : Nat) (pre suf : List Job), l = pre ++ suf → suf.length < k →
    L9_0 (F16 2000) (F17 2000) (F22 2000) 2000 w a l n m t k z (pre.length : Int) = some true
  | 0, pre, suf, e, h => by omega
  | k + 1, pre, [], e, h => by
    obtain ⟨f1, f2⟩ := fin e
    simp only [L9_0, b9_0, f1, Bool.false_eq_true, if_false]
    rfl
  | k + 1, pre, x :: xs, e, h => by
    obtain ⟨h1, h2, h3, h4, h5, h6⟩ := mid e (zEl T29) (by omega)
    rw [Int.toNat_natCast] at h3
    have ih := L9_0_eq w a l n m t hj hl z hz k (pre ++ [x]) xs h5 (by simpa using h)
    simp only [L9_0, b9_0, h1, h2, if_true, Int.toNat_natCast, h3]
    by_cases c : x.1 = z
    · rw [if_pos (beq_iff_eq.2 c), h4]
      exact ih
    · rw [if_neg (fun h => c (beq_iff_eq.1 h))]
      have := L9_1_eq w a l n m t hj hl z hz (L9_0 (F16 2000) (F17 2000) (F22 2000) 2000 w a l n m t k) pre.length x (by omega) h3 (by rw [e]; simp) c 2000 [] l rfl (by omega)
      rw [h4, ih] at this
      exact this
theorem prioOrder (w : Wt) (a : Job) (l : List Job) (n m t : Int) (_ : Gd T26 w) (ga : Gd T29 a) (hl : Gd (.sl T29) l) (_ : (Lit.int .i64 n).wf = true) (_ : (Lit.int .i64 m).wf = true) (ht : (Lit.int .u16 t).wf = true) : F9 2000 w a l n m t = some true := by
  have hj : ∀ b ∈ l, OKj b := fun b hb => okj_of (hl.2 b hb)
  have ha := okj_of ga
  have ht' := wf_u16 ht
  have h0 := ha.id0
  have h1 := ha.id1
  have et : Int.tmod a.1 4000000000 = a.1 % 4000000000 := Int.tmod_eq_emod_of_nonneg h0
  have e1 : IntKind.u32.wrap (Int.tmod a.1 4000000000 + 1) = a.1 % 4000000000 + 1 := by rw [et, u32_in] <;> omega
  have e2 : IntKind.u32.wrap (Int.tmod a.1 4000000000 + 2) = a.1 % 4000000000 + 2 := by rw [et, u32_in] <;> omega
  have e3 : IntKind.u32.wrap (a.1 % 4000000000 + 2 + 1) = a.1 % 4000000000 + 3 := by rw [u32_in] <;> omega
  have e4 : IntKind.i64.wrap t = t := i64_in (by omega) (by omega)
  unfold F9 G9 t9
  by_cases c : l.length > 100
  · rw [if_pos (decide_eq_true (by omega))]; rfl
  rw [if_neg (by simp; omega)]
  simp only [e1, e2, e3, e4]
  generalize es : IntKind.i64.wrap ((if (1125899906842624 : Int) < if (0 : Int) > a.2.1 then (0 : Int) else a.2.1 then (1125899906842624 : Int) else if (0 : Int) > a.2.1 then (0 : Int) else a.2.1) + t) = s
  have hs : 0 ≤ s ∧ s ≤ 1125899906908159 := by
    rw [← es]
    have hm : 0 ≤ (if (1125899906842624 : Int) < if (0 : Int) > a.2.1 then (0 : Int) else a.2.1 then (1125899906842624 : Int) else if (0 : Int) > a.2.1 then (0 : Int) else a.2.1) ∧ (if (1125899906842624 : Int) < if (0 : Int) > a.2.1 then (0 : Int) else a.2.1 then (1125899906842624 : Int) else if (0 : Int) > a.2.1 then (0 : Int) else a.2.1) ≤ 1125899906842624 := by
      (repeat' split) <;> (simp only [El] at *; omega)
    rw [i64_in (by omega) (by omega)]
    omega
  have e5 : IntKind.i64.wrap (s + 1) = s + 1 := i64_in (by omega) (by omega)
  rw [e5]
  obtain ⟨i, ei⟩ : ∃ i : Int, a.1 % 4000000000 = i := ⟨_, rfl⟩
  have hi : 0 ≤ i ∧ i < 4000000000 := by rw [← ei]; exact ⟨Int.emod_nonneg _ (by omega), Int.emod_lt_of_pos _ (by omega)⟩
  rw [ei]
  have okk : ∀ j v : Int, 0 ≤ j → j ≤ 4294967295 → 0 ≤ v → v ≤ 1125899906908160 → OKj (j, v, a.2.2) := fun j v a1 a2 a3 a4 => ⟨a1, a2, Int.le_trans (by omega) a3, Int.le_trans a4 (by omega), ha.q, ha.p⟩
  have ob := okk (i + 1) s (by omega) (by omega) (by omega) (by omega)
  have oc := okk (i + 2) s (by omega) (by omega) (by omega) (by omega)
  have od := okk (i + 3) (s + 1) (by omega) (by omega) (by omega) (by omega)
  rw [F17_eq 2000 w (i + 1, s, a.2.2) n m ob, Option.bind_some]
  by_cases hp : (pS w (i + 1, s, a.2.2) n m).2 = 0
  · have rb := pS_ok hp
    have rc : right w (i + 2, s, a.2.2) n m := ⟨by show i + 2 ≠ 0; omega, rb.2⟩
    have rd : right w (i + 3, s + 1, a.2.2) n m := ⟨by show i + 3 ≠ 0; omega, rb.2.1, rb.2.2.1, by show 0 ≤ s + 1; omega, rb.2.2.2.2⟩
    have f1 : firstS w [(i + 2, s, a.2.2), (i + 1, s, a.2.2)] n m = (i + 1, 0) := by
      refine first2 (x := (i + 2, s, a.2.2)) (y := (i + 1, s, a.2.2)) (by rw [pS_right rc]) hp (by show i + 2 ≠ i + 1; omega) ?_
      rw [less_iff]
      refine .inr ⟨?_, .inr ⟨rfl, by show i + 1 < i + 2; omega⟩⟩
      show (pS w (i + 1, s, a.2.2) n m).1 = (pS w (i + 2, s, a.2.2) n m).1
      rw [pS_right rb, pS_right rc]
    have f2 : firstS w [(i + 3, s + 1, a.2.2), (i + 1, s, a.2.2)] n m = (i + 1, 0) := by
      refine first2 (x := (i + 3, s + 1, a.2.2)) (y := (i + 1, s, a.2.2)) (by rw [pS_right rd]) hp (by show i + 3 ≠ i + 1; omega) ?_
      rw [less_iff]
      have hsum : sum w (i + 3, s + 1, a.2.2) n m ≤ sum w (i + 1, s, a.2.2) n m := sum_down hs.1 rb.2.2.2.2.2.2.2.1.1
      have k1 : (keyOf w n m (i + 1, s, a.2.2)).1 = sum w (i + 1, s, a.2.2) n m - a.2.2.2.1 := by show (pS w (i + 1, s, a.2.2) n m).1 = _; rw [pS_right rb]
      have k2 : (keyOf w n m (i + 3, s + 1, a.2.2)).1 = sum w (i + 3, s + 1, a.2.2) n m - a.2.2.2.1 := by show (pS w (i + 3, s + 1, a.2.2) n m).1 = _; rw [pS_right rd]
      have k3 : (keyOf w n m (i + 1, s, a.2.2)).2.1 = s := rfl
      have k4 : (keyOf w n m (i + 3, s + 1, a.2.2)).2.1 = s + 1 := rfl
      rw [k1, k2, k3, k4]
      simp only [El] at *
      omega
    rw [if_neg (by simp [hp]), F22_eq 2000 w _ n m (fun b hb => by
        rcases List.mem_cons.1 hb with rfl | hb
        · exact oc
        · rw [List.mem_singleton.1 hb]; exact ob) (by simp) (by simp), Option.bind_some, f1, F22_eq 2000 w _ n m (fun b hb => by
        rcases List.mem_cons.1 hb with rfl | hb
        · exact od
        · rw [List.mem_singleton.1 hb]; exact ob) (by simp) (by simp), Option.bind_some, f2]
    simp only [bne_self_eq_false, Bool.false_eq_true, if_false]
    rw [F22_eq 2000 w l n m hj (by omega) (by omega), Option.bind_some]
    by_cases hf : (firstS w l n m).2 = 0
    · rw [if_neg (by simp [hf])]
      exact L9_0_eq w a l n m t hj (by omega) (firstS w l n m).1 (Prod.ext rfl hf) 2000 [] l rfl (by omega)
    · rw [if_pos (by simp [hf])]; rfl
  · rw [if_pos (by simp [hp])]; rfl
end Go.Proofs.YtgkmfhmodojdcaaE
