/- Buddy: BuddyMost in plain words: just as many may be taken as are free. -/
import Derived.Test.YtiicginipjbloaaP04O
set_option linter.all false
namespace Go.Proofs.YtiicginipjbloaaE
open Go Go.Proofs
set_option maxRecDepth 100000
set_option linter.unusedVariables false
/-! ### how many are open -/
def cnt (U : Wk) : Nat := ((List.range 32).filter U).length
theorem filter_two (U D : Nat → Bool) : ∀ l : List Nat, (l.filter U).length = (l.filter fun w => U w && !D w).length + (l.filter fun w => U w && D w).length
  | [] => rfl
  | w :: l => by
    have ih := filter_two U D l
    cases h1 : U w <;> cases h2 : D w <;> simp [List.filter_cons, h1, h2, ih] <;> omega
theorem blk_cnt : ∀ j, j ≤ 5 → ∀ p, p < 2 ^ (5 - j) → ((List.range 32).filter fun w => decide (w / 2 ^ j = p)).length = 2 ^ j := by decide +kernel
theorem cnt_sub {U : Wk} {j p : Nat} (hj : j ≤ 5) (hp : p < 2 ^ (5 - j)) (hF : Full U j p) : cnt U = cnt (subB U j p) + 2 ^ j := by
  have h := filter_two U (fun w => decide (w / 2 ^ j = p)) (List.range 32)
  have e : (fun w => U w && decide (w / 2 ^ j = p)) = fun w => decide (w / 2 ^ j = p) := by
    funext w
    by_cases c : w / 2 ^ j = p
    · simp [c, hF w c]
    · simp [c]
  rw [e, blk_cnt j hj p hp] at h
  exact h
theorem cnt_zero {U : Wk} (h : ∀ w, U w = false) : cnt U = 0 := by
  unfold cnt
  rw [List.length_eq_zero_iff, List.filter_eq_nil_iff]
  intro w _
  rw [h w]; exact Bool.false_ne_true
theorem cnt_pos {U : Wk} (hl : ∀ w, U w = true → w < 2 ^ 5) (h : 0 < cnt U) : ∃ w, U w = true := by
  unfold cnt at h
  obtain ⟨w, hw⟩ := List.exists_mem_of_length_pos h
  exact ⟨w, (List.mem_filter.1 hw).2⟩
theorem cnt_le (U : Wk) : cnt U ≤ 32 := by
  have := List.length_filter_le U (List.range 32)
  simpa [cnt] using this
def sumB : List Bk → Nat
  | [] => 0
  | b :: l => 2 ^ Int.toNat b.2 + sumB l
theorem sum_cnt : ∀ (bs : List Bk) (U : Wk), (∀ w, U w = true → w < 2 ^ 5) → (∀ b ∈ bs, ∃ j q : Nat, b = mkB j q ∧ j ≤ 5 ∧ Full U j q) → bs.Pairwise (fun b c => ∀ x, inI b x = true → inI c x = true → False) → (∀ w, U w = true → ∃ b ∈ bs, inI b (w : Int) = true) → cnt U = sumB bs
  | [], U, _, _, _, hc => cnt_zero fun w => by
    cases h : U w with
    | false => rfl
    | true => obtain ⟨b, hb, _⟩ := hc w h; cases hb
  | b :: bs, U, hl, hb, hp, hc => by
    obtain ⟨j, q, rfl, hj, hF⟩ := hb b (by simp)
    have hq : q < 2 ^ (5 - j) := by
      have h1 := lim_q hl hF
      have h2 : 2 ^ 5 = 2 ^ (5 - j) * 2 ^ j := by rw [← Nat.pow_add, Nat.sub_add_cancel hj]
      rw [h2] at h1
      exact Nat.lt_of_mul_lt_mul_right h1
    have hp' := List.pairwise_cons.1 hp
    have ih := sum_cnt bs (subB U j q) (lim_sub hl) (fun c hcm => by
      obtain ⟨k, r, rfl, hk, hFk⟩ := hb c (List.mem_cons_of_mem _ hcm)
      refine ⟨k, r, rfl, hk, fun w hw => ?_⟩
      have : ¬ w / 2 ^ j = q := fun h => hp'.1 _ hcm (w : Int) (inI_iff.2 h) (inI_iff.2 hw)
      simp [subB, hFk w hw, this]) hp'.2 (fun w hw => by
      simp only [subB, Bool.and_eq_true, Bool.not_eq_true', decide_eq_false_iff_not] at hw
      obtain ⟨c, hcm, hin⟩ := hc w hw.1
      rcases List.mem_cons.1 hcm with rfl | hcm
      · exact absurd (inI_iff.1 hin) hw.2
      · exact ⟨c, hcm, hin⟩)
    rw [cnt_sub hj hq hF, ih]
    simp only [sumB, mkB, Int.toNat_natCast]
    omega
theorem frL_cnt {U : Wk} {y : Yard} (h : Rep 5 U y) : cnt U = sumB (frL y) := by
  refine sum_cnt (frL y) U h.lim (fun b hb => ?_) ?_ (fun w hw => ?_)
  · obtain ⟨k, q, h1, h2, h3⟩ := (mem_frL h).1 hb
    exact ⟨k, q, h2, h1, h3.1⟩
  · have hi := frL_inc h
    unfold IncK at hi
    rw [List.pairwise_iff_getElem] at hi ⊢
    intro i j hi' hj' hij x h1 h2
    obtain ⟨k, q, a1, a2, a3⟩ := (mem_frL h).1 (List.getElem_mem hi')
    obtain ⟨k', q', b1, b2, b3⟩ := (mem_frL h).1 (List.getElem_mem hj')
    have hlt := hi i j hi' hj' hij
    rw [a2] at h1 hlt
    rw [b2] at h2 hlt
    obtain ⟨w, rfl⟩ := inI_nat (n := 5) ⟨k, q, rfl, a1, by
      have e1 := lim_q h.lim a3.1
      have e2 : 2 ^ 5 = 2 ^ (5 - k) * 2 ^ k := by rw [← Nat.pow_add, Nat.sub_add_cancel a1]
      rw [e2] at e1
      exact Nat.lt_of_mul_lt_mul_right e1⟩ h1
    have c1 := inI_iff.1 h1
    have c2 := inI_iff.1 h2
    rw [← c1] at a3
    rw [← c2] at b3
    have ek := max_uniq a1 b1 a3 b3
    subst ek
    rw [← c1, ← c2] at hlt
    exact Int.lt_irrefl _ hlt
  · have hF : Full U 0 w := full0.2 hw
    obtain ⟨o, h1, h2, h3, _⟩ := max_over (n := 5) (U := U) 5 0 w (by omega) hF
    refine ⟨mkB o (w / 2 ^ (o - 0)), (mem_frL h).2 ⟨o, _, h2, rfl, h3⟩, inI_iff.2 (by simp)⟩
/-! ### one by one -/
theorem take0 {y z : Yard} {B : List Bk} (h : More (n := 5) y z B) :
    (0 < cnt (opn 5 (tkY z) (flY z)) ∧ ∃ b z', F14 2000 0 z = some ((keyB b, (0 : Int)), z') ∧ More (n := 5) y z' (B ++ [b]) ∧ cnt (opn 5 (tkY z) (flY z)) = cnt (opn 5 (tkY z') (flY z')) + 1) ∨
    (cnt (opn 5 (tkY z) (flY z)) = 0 ∧ F14 2000 0 z = some (((0 : Int), (5 : Int)), z) ∧ ∀ i, i ≤ 5 → frY z i = []) := by
  rcases take_in 2000 (by decide) h.ok (k := 0) (by omega) with ⟨e, q, h1, h2, _, _, h5, z1, g1, g2, g3, g4⟩ | ⟨g1, g2⟩
  · left
    have e0 : q * 2 ^ (e - 0) = q * 2 ^ e := rfl
    rw [e0] at g3
    have hF : Full (opn 5 (tkY z) (flY z)) 0 (q * 2 ^ e) := full0.2 h5.1.one
    have hlt : q * 2 ^ e < 2 ^ (5 - 0) := h.ok.rep.lim _ h5.1.one
    have hc := cnt_sub (by decide) hlt hF
    have ho : opn 5 (tkY z1) (flY z1) = subB (opn 5 (tkY z) (flY z)) 0 (q * 2 ^ e) := by rw [g3, g4, opn_ins]
    refine ⟨by rw [hc]; omega, ?_⟩
    rcases More.take 2000 (by decide) h 0 with ⟨b, z', k1, k2⟩ | ⟨er, k0, k1⟩
    · refine ⟨b, z', k1, k2, ?_⟩
      have e := Option.some.inj (k1.symm.trans g1)
      have ez : z' = z1 := congrArg Prod.snd e
      rw [ez, ho]
      exact hc
    · have e := Option.some.inj (k1.symm.trans g1)
      exact absurd (congrArg (fun t => t.1.2) e) k0
  · right
    refine ⟨?_, g2, fun i hi => g1 i (Nat.zero_le _) hi⟩
    refine cnt_zero fun w => ?_
    cases hw : opn 5 (tkY z) (flY z) w with
    | false => rfl
    | true =>
      obtain ⟨o, h1, h2, h3, _⟩ := max_over (n := 5) (U := opn 5 (tkY z) (flY z)) 5 0 w (by omega) (full0.2 hw)
      have := ((h.ok.rep.row o h2).mem' _).2 h3
      rw [g1 o h1 h2] at this
      cases this
theorem frL_nil {n : Nat} {U : Wk} {y : Yard} (h : Rep n U y) (he : ∀ i, i ≤ n → frY y i = []) : frL y = [] := by
  rw [List.eq_nil_iff_forall_not_mem]
  intro b hb
  obtain ⟨k, q, h1, rfl, h3⟩ := (mem_frL h).1 hb
  have := ((h.row k h1).mem' q).2 h3
  rw [he k h1] at this
  cases this
theorem L4_2_eq (l : List (El T57)) (y : Yard) (hy : Ok 5 y) (B : List Bk) (hB : B.length ≤ 1000) (hnd : (B.map keyB).Nodup) (hnew : ∀ b ∈ B, ¬ keyB b ∈ (tkY y).map keyB) (p1 : List Bk) : ∀ (f : Nat) (pre suf : List Int) (z : Yard), B.map keyB = pre ++ suf → suf.length < f → Less1 (n := 5) y B z pre →
    L4_2 (F11 2000) (F12 2000) (F14 2000) (F13 2000) (F17 2000) (F18 2000) (F15 2000) 2000 l f ((B.map keyB).length : Int) (pre.length : Int) z.1 (frL y) (B.map keyB) p1 z.2.1 z.2.2.1 z.2.2.2.1 z.2.2.2.2.1 z.2.2.2.2.2.1 z.2.2.2.2.2.2.1 z.2.2.2.2.2.2.2.1 z.2.2.2.2.2.2.2.2.1 z.2.2.2.2.2.2.2.2.2.1 z.2.2.2.2.2.2.2.2.2.2.1 z.2.2.2.2.2.2.2.2.2.2.2.1 z.2.2.2.2.2.2.2.2.2.2.2.2.1 z.2.2.2.2.2.2.2.2.2.2.2.2.2 = some true
  | 0, pre, suf, z, e, h, hz => by omega
  | f + 1, pre, [], z, e, h, hz => by
    have := fin e
    have hfr := frL_len hy.rep
    rw [List.append_nil] at e
    obtain ⟨k1, k2⟩ := hz.fin hy fun x hx => by rw [← e]; exact hx
    have g1 : F12 2000 (z.1, z.2.1, z.2.2.1, z.2.2.2.1, z.2.2.2.2.1, z.2.2.2.2.2.1, z.2.2.2.2.2.2.1, z.2.2.2.2.2.2.2.1, z.2.2.2.2.2.2.2.2.1, z.2.2.2.2.2.2.2.2.2.1, z.2.2.2.2.2.2.2.2.2.2.1, z.2.2.2.2.2.2.2.2.2.2.2.1, z.2.2.2.2.2.2.2.2.2.2.2.2.1, z.2.2.2.2.2.2.2.2.2.2.2.2.2) = some (frL z) := F12_eq 2000 (by decide) hz.ok
    simp only [L4_2, b4_2, this.1]
    rw [if_neg Bool.false_ne_true, g1, Option.bind_some, k2, F18_eq 2000 _ _ (by omega) (by omega), Option.bind_some, if_pos (decide_eq_true rfl), known_eq]
    rfl
  | f + 1, pre, x :: suf, z, e, h, hz => by
    have hlenB : (B.map keyB).length = B.length := List.length_map ..
    obtain ⟨h1, h2, h3, h4, h5, h6⟩ := mid e (zEl (Ty.int IntKind.i64)) (by omega)
    have hxm : x ∈ B.map keyB := by rw [e]; simp
    have hxg : ¬ x ∈ pre := fun hx => by
      rw [e, List.nodup_append] at hnd
      exact hnd.2.2 x hx x (by simp) rfl
    obtain ⟨z', g1, _, g3⟩ := hz.give 2000 (by decide) hnew hxm hxg
    have g1' : F17 2000 x (z.1, z.2.1, z.2.2.1, z.2.2.2.1, z.2.2.2.2.1, z.2.2.2.2.2.1, z.2.2.2.2.2.2.1, z.2.2.2.2.2.2.2.1, z.2.2.2.2.2.2.2.2.1, z.2.2.2.2.2.2.2.2.2.1, z.2.2.2.2.2.2.2.2.2.2.1, z.2.2.2.2.2.2.2.2.2.2.2.1, z.2.2.2.2.2.2.2.2.2.2.2.2.1, z.2.2.2.2.2.2.2.2.2.2.2.2.2) = some ((0 : Int), z') := g1
    simp only [L4_2, b4_2, h1, h2, h3, h4, if_true]
    rw [g1', Option.bind_some]
    exact L4_2_eq l y hy B hB hnd hnew p1 f (pre ++ [x]) suf z' h5 (by simpa using h) g3
theorem L4_1_eq (l : List (El T57)) (y : Yard) (hy : Ok 5 y) (N : Nat) (hN : N ≤ 32) : ∀ (f : Nat) (B : List Bk) (z : Yard), N < f + B.length → More (n := 5) y z B → cnt (opn 5 (tkY z) (flY z)) + B.length = N →
    L4_1 (F11 2000) (F12 2000) (F14 2000) (F13 2000) (F17 2000) (F18 2000) (F15 2000) 2000 l f (N : Int) (B.length : Int) z.1 (frL y) (B.map keyB) z.2.1 z.2.2.1 z.2.2.2.1 z.2.2.2.2.1 z.2.2.2.2.2.1 z.2.2.2.2.2.2.1 z.2.2.2.2.2.2.2.1 z.2.2.2.2.2.2.2.2.1 z.2.2.2.2.2.2.2.2.2.1 z.2.2.2.2.2.2.2.2.2.2.1 z.2.2.2.2.2.2.2.2.2.2.2.1 z.2.2.2.2.2.2.2.2.2.2.2.2.1 z.2.2.2.2.2.2.2.2.2.2.2.2.2 = some true
  | 0, B, z, h, hz, hc => by omega
  | f + 1, B, z, h, hz, hc => by
    have hlenB : (B.map keyB).length = B.length := List.length_map ..
    simp only [L4_1, b4_1]
    rcases take0 hz with ⟨c0, b, z', g1, g2, g3⟩ | ⟨c0, g1, g2⟩
    · have g1' : F14 2000 (0 : Int) (z.1, z.2.1, z.2.2.1, z.2.2.2.1, z.2.2.2.2.1, z.2.2.2.2.2.1, z.2.2.2.2.2.2.1, z.2.2.2.2.2.2.2.1, z.2.2.2.2.2.2.2.2.1, z.2.2.2.2.2.2.2.2.2.1, z.2.2.2.2.2.2.2.2.2.2.1, z.2.2.2.2.2.2.2.2.2.2.2.1, z.2.2.2.2.2.2.2.2.2.2.2.2.1, z.2.2.2.2.2.2.2.2.2.2.2.2.2) = some ((keyB b, (0 : Int)), z') := g1
      have e : IntKind.i64.wrap ((B.length : Int) + 1) = ((B ++ [b]).length : Int) := by rw [i64_in (by omega) (by omega)]; simp
      rw [if_pos (decide_eq_true (by omega)), g1', Option.bind_some, if_neg (by exact Bool.false_ne_true), if_pos (fits3 (by simp; omega)), e]
      have := L4_1_eq l y hy N hN f (B ++ [b]) z' (by simp; omega) g2 (by simp; omega)
      rw [List.map_append] at this
      exact this
    · have g1' : F14 2000 (0 : Int) (z.1, z.2.1, z.2.2.1, z.2.2.2.1, z.2.2.2.2.1, z.2.2.2.2.2.1, z.2.2.2.2.2.2.1, z.2.2.2.2.2.2.2.1, z.2.2.2.2.2.2.2.2.1, z.2.2.2.2.2.2.2.2.2.1, z.2.2.2.2.2.2.2.2.2.2.1, z.2.2.2.2.2.2.2.2.2.2.2.1, z.2.2.2.2.2.2.2.2.2.2.2.2.1, z.2.2.2.2.2.2.2.2.2.2.2.2.2) = some (((0 : Int), (5 : Int)), z) := g1
      have hfit : F13 2000 z (0 : Int) = some (fitS 5 z 0) := fits_in 2000 (by decide) hz.ok (k := 0) (by omega)
      have hno : fitS 5 z 0 = false := fitS_no fun i _ hi => g2 i hi
      have hnil := frL_nil hz.ok.rep g2
      rw [if_neg (by simp; omega), g1', Option.bind_some, if_neg (by exact Bool.false_ne_true)]
      dsimp only
      rw [F12_eq 2000 (by decide) hz.ok, Option.bind_some, hnil, if_neg (by exact Bool.false_ne_true), hfit, Option.bind_some, hno, if_neg Bool.false_ne_true]
      have := L4_2_eq l y hy B (by omega) hz.nd hz.new [] 2000 [] (B.map keyB) z rfl (by omega) hz.start
      rw [hlenB] at this
      have eN : (N : Int) = (B.length : Int) := by omega
      rw [eN]
      exact this
theorem L4_0_eq (l : List (El T57)) (y : Yard) (hy : Ok 5 y) : ∀ (f : Nat) (pre suf : List Bk), frL y = pre ++ suf → suf.length < f → sumB pre + sumB suf = cnt (opn 5 (tkY y) (flY y)) →
    L4_0 (F11 2000) (F12 2000) (F14 2000) (F13 2000) (F17 2000) (F18 2000) (F15 2000) 2000 l f (sumB pre : Int) (pre.length : Int) y.1 (frL y) y.2.1 y.2.2.1 y.2.2.2.1 y.2.2.2.2.1 y.2.2.2.2.2.1 y.2.2.2.2.2.2.1 y.2.2.2.2.2.2.2.1 y.2.2.2.2.2.2.2.2.1 y.2.2.2.2.2.2.2.2.2.1 y.2.2.2.2.2.2.2.2.2.2.1 y.2.2.2.2.2.2.2.2.2.2.2.1 y.2.2.2.2.2.2.2.2.2.2.2.2.1 y.2.2.2.2.2.2.2.2.2.2.2.2.2 = some true
  | 0, pre, suf, e, h, hs => by omega
  | f + 1, pre, [], e, h, hs => by
    have := fin e
    have hle := cnt_le (opn 5 (tkY y) (flY y))
    simp only [L4_0, b4_0, this.1]
    rw [if_neg Bool.false_ne_true]
    have hs : sumB pre = cnt (opn 5 (tkY y) (flY y)) := by simpa [sumB] using hs
    rw [hs]
    exact L4_1_eq l y hy _ hle 2000 [] y (by omega) (More.zero hy) rfl
  | f + 1, pre, b :: suf, e, h, hs => by
    have hfr := frL_len hy.rep
    have hle := cnt_le (opn 5 (tkY y) (flY y))
    obtain ⟨h1, h2, h3, h4, h5, h6⟩ := mid e (zEl T29) (by omega)
    rw [Int.toNat_natCast] at h3
    obtain ⟨j, q, hj, rfl, hm⟩ := (mem_frL hy.rep).1 (show b ∈ frL y by rw [e]; simp)
    obtain ⟨s1, s2⟩ := size_of (show j ≤ 6 by omega)
    have hpj : 2 ^ j ≤ 64 := pow_le6 (by omega)
    have hsb : sumB (mkB j q :: suf) = 2 ^ j + sumB suf := by simp [sumB]
    have happ : ∀ pre : List Bk, sumB (pre ++ [mkB j q]) = sumB pre + 2 ^ j := by
      intro pre
      induction pre with
      | nil => simp [sumB]
      | cons c pre ih => simp only [List.cons_append, sumB, ih]; omega
    have s3 := sum_in (A := sumB pre) (B := 2 ^ j) (by omega) (by omega)
    simp only [L4_0, b4_0, h1, h2, h3, h4, if_true, Int.toNat_natCast, mkB, s1, s2, s3]
    have := L4_0_eq l y hy f (pre ++ [mkB j q]) suf h5 (by simpa using h) (by rw [happ]; omega)
    rw [happ] at this
    exact this
theorem buddyMost (l : List (El T57)) (_ : Gd (.sl T57) l) : F4 2000 l = some true := by
  obtain ⟨y, h1, h2⟩ := F11_eq 2000 (by decide) l
  have hfr := frL_len h2.rep
  unfold F4 G4 t4
  rw [h1, Option.bind_some]
  dsimp only
  rw [F12_eq 2000 (by decide) h2, Option.bind_some]
  exact L4_0_eq l y h2 2000 [] (frL y) rfl (by omega) (by rw [frL_cnt h2.rep]; simp [sumB])
end Go.Proofs.YtiicginipjbloaaE
