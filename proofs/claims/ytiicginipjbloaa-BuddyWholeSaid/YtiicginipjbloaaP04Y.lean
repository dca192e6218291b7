/- Buddy: BuddyWhole in plain words. -/
import Derived.Test.YtiicginipjbloaaP04X
import Derived.Test.YtiicginipjbloaaS04Q
set_option linter.all false
namespace Go.Proofs.YtiicginipjbloaaE
open Go Go.Proofs
set_option maxRecDepth 100000
set_option linter.unusedVariables false
/-! ### known -/
abbrev yk0 : Yard := ((3 : Int), [], [], [], [(0 : Int)], [], [], [], [], [], [], [], [], [])
abbrev yk1 : Yard := ((3 : Int), [], [(2 : Int)], [(4 : Int)], [], [], [], [], [], [], [], [], [((0 : Int), (1 : Int))], [])
abbrev yk2 : Yard := ((3 : Int), [(3 : Int)], [], [(4 : Int)], [], [], [], [], [], [], [], [], [((0 : Int), (1 : Int)), ((2 : Int), (0 : Int))], [])
abbrev yk3 : Yard := ((3 : Int), [(3 : Int)], [(6 : Int)], [], [], [], [], [], [], [], [], [], [((0 : Int), (1 : Int)), ((2 : Int), (0 : Int)), ((4 : Int), (1 : Int))], [])
abbrev yk4 : Yard := ((3 : Int), [(3 : Int), (6 : Int)], [], [], [], [], [], [], [], [], [], [], [((0 : Int), (1 : Int)), ((2 : Int), (0 : Int)), ((4 : Int), (1 : Int))], [(7 : Int)])
abbrev yk5 : Yard := ((3 : Int), [(3 : Int), (6 : Int)], [(0 : Int)], [], [], [], [], [], [], [], [], [], [((2 : Int), (0 : Int)), ((4 : Int), (1 : Int))], [(7 : Int)])
theorem k1 : F14 2000 1 yk0 = some (((0 : Int), (0 : Int)), yk1) := by kernel_rfl
theorem k2 : F14 2000 0 yk1 = some (((2 : Int), (0 : Int)), yk2) := by kernel_rfl
theorem k3 : F14 2000 1 yk2 = some (((4 : Int), (0 : Int)), yk3) := by kernel_rfl
theorem k4 : F22 2000 7 yk3 = some ((0 : Int), yk4) := by kernel_rfl
theorem k5 : F17 2000 0 yk4 = some ((0 : Int), yk5) := by kernel_rfl
theorem okk0 : Ok 3 yk0 := ok_new (by decide) rfl (fun k => by
  rcases k with _ | _ | _ | _ | _ | _ | _ | _ | _ | _ | _ | k <;> first | rfl | (rw [if_neg (by omega)]; rfl)) rfl rfl
theorem okk5 : Ok 3 yk5 := by
  obtain ⟨_, _, a1, b1, _⟩ := take_ok 2000 (by decide) okk0 1
  rw [k1] at a1; cases a1
  obtain ⟨_, _, a2, b2, _⟩ := take_ok 2000 (by decide) b1 0
  rw [k2] at a2; cases a2
  obtain ⟨_, _, a3, b3, _⟩ := take_ok 2000 (by decide) b2 1
  rw [k3] at a3; cases a3
  obtain ⟨_, _, a4, b4, _⟩ := fail_any 2000 (by decide) b3 7
  rw [k4] at a4; cases a4
  obtain ⟨_, _, a5, b5, _⟩ := give_ok 2000 (by decide) b4 0
  rw [k5] at a5; cases a5
  exact b5
theorem k6 : F20 2000 yk5 2 [(2 : Int)] = some true := by
  rw [F20_eq 2000 (by decide) okk5 2 [(2 : Int)] (by decide)]
  kernel_rfl
theorem known_eq : F15 2000 = some true := by
  have h : ∀ f : Yard → Int → List Int → Option Bool, G15 (F3025 2000) (F14 2000) (F12 2000) (F18 2000) (F22 2000) (F17 2000) f (F13 2000) 2000 = Option.bind (f yk5 2 [(2 : Int)]) (fun x12 => if x12 = true then Option.bind (F13 2000 yk5 2) (fun x13 => some (!x13)) else some false) := fun f => by kernel_rfl
  refine (h (F20 2000)).trans ?_
  rw [k6]
  kernel_rfl
/-! ### Held -/
theorem held_of {n : Nat} {t : List Bk} (h : Tk n t) {b : Bk} (hb : b ∈ t) {x : Int} (hx : inI b x = true) : heldS t x = (b, true) := by
  unfold heldS
  cases c : t.find? (fun b => inI b x) with
  | none => exact absurd hx (List.find?_eq_none.1 c b hb)
  | some d =>
    have h1 := List.find?_some c
    have h2 := List.mem_of_find?_eq_some c
    rw [h.dis d h2 b hb x h1 hx]
theorem order_of (a : Int) : ∃ k : Nat, k < 6 ∧ IntKind.i64.wrap ((IntKind.u64.wrap a).tmod (6 : Int)) = (k : Int) := by
  have u0 : 0 ≤ IntKind.u64.wrap a := by rw [IntKind.wrap_u64]; omega
  have t0 : Int.tmod (IntKind.u64.wrap a) 6 = IntKind.u64.wrap a % 6 := Int.tmod_eq_emod_of_nonneg u0
  refine ⟨(IntKind.u64.wrap a % 6).toNat, by omega, ?_⟩
  rw [t0, i64_in (by omega) (by omega)]
  omega
open Classical in
theorem fitS_yes {n : Nat} {y : Yard} {o e : Nat} (h1 : o ≤ e) (h2 : e ≤ n) (h3 : frY y e ≠ []) : fitS n y o = true := by
  unfold fitS
  exact decide_eq_true ⟨e, h1, h2, h3⟩
open Classical in
theorem fitS_no {n : Nat} {y : Yard} {o : Nat} (h : ∀ i, o ≤ i → i ≤ n → frY y i = []) : fitS n y o = false := by
  unfold fitS
  exact decide_eq_false fun ⟨i, h1, h2, h3⟩ => h3 (h i h1 h2)
/-! ### BuddyLeast -/
def ordB (b : Bk) : Int := b.2
abbrev og (l : List Bk) (i : Nat) : Int := ordB (l.getD i (zEl T29))
/-- the place of the best block of a row's first ones -/
def Best (l : List Bk) (o : Int) (m : Nat) (b : Int) : Prop :=
  (b = -1 ∧ ∀ i, i < m → og l i < o) ∨
  (∃ j : Nat, b = (j : Int) ∧ j < m ∧ o ≤ og l j ∧ (∀ i, i < m → o ≤ og l i → og l j ≤ og l i) ∧ ∀ i, i < j → o ≤ og l i → og l j < og l i)
theorem best_end {n : Nat} {U : Wk} {y : Yard} (h : Rep n U y) {o : Nat} {b : Int} (hb : Best (frL y) (o : Int) (frL y).length b) :
    (b = -1 ∧ ∀ i, o ≤ i → i ≤ n → frY y i = []) ∨ (∃ j : Nat, b = (j : Int) ∧ j < (frL y).length ∧ ∀ e q : Nat, o ≤ e → e ≤ n → (∀ i, o ≤ i → i < e → frY y i = []) → (frY y e).head? = some ((q * 2 ^ e : Nat) : Int) → (frL y).getD j (zEl T29) = mkB e q) := by
  have hget : ∀ i, i < (frL y).length → (frL y).getD i (zEl T29) ∈ frL y := fun i hi => by rw [getD_lt hi]; exact List.getElem_mem hi
  rcases hb with ⟨h1, h2⟩ | ⟨j, h1, h2, h3, h4, h5⟩
  · left
    refine ⟨h1, fun i hi hin => ?_⟩
    cases c : frY y i with
    | nil => rfl
    | cons s l =>
      exfalso
      obtain ⟨q, rfl, hq⟩ := ((h.row i hin).mem s).1 (by rw [c]; simp)
      obtain ⟨m, hm, hme⟩ := List.getElem_of_mem ((mem_frL h).2 ⟨i, q, hin, rfl, hq⟩)
      have := h2 m hm
      simp only [og] at this
      rw [getD_lt hm, hme] at this
      have : (i : Int) < (o : Int) := this
      omega
  · right
    refine ⟨j, h1, h2, fun e q he hen hemp hhd => ?_⟩
    obtain ⟨k, p, hk, hkb, hkm⟩ := (mem_frL h).1 (hget j h2)
    simp only [og] at h3 h4 h5
    rw [hkb] at h3 h4 h5 ⊢
    have h3 : (o : Int) ≤ (k : Int) := h3
    have hmk : ((p * 2 ^ k : Nat) : Int) ∈ frY y k := ((h.row k hk).mem' p).2 hkm
    have hek : e ≤ k := by
      by_cases c : e ≤ k
      · exact c
      · rw [hemp k (by omega) (by omega)] at hmk
        cases hmk
    have hqm : ((q * 2 ^ e : Nat) : Int) ∈ frY y e := by
      cases c : frY y e with
      | nil => rw [c] at hhd; cases hhd
      | cons s l => rw [c] at hhd; cases hhd; simp
    have hq := ((h.row e hen).mem' q).1 hqm
    obtain ⟨m, hm, hme⟩ := List.getElem_of_mem ((mem_frL h).2 ⟨e, q, hen, rfl, hq⟩)
    have hke : k = e := by
      have := h4 m hm (by rw [getD_lt hm, hme]; show (o : Int) ≤ (e : Int); omega)
      rw [getD_lt hm, hme] at this
      have : (k : Int) ≤ (e : Int) := this
      omega
    subst hke
    have hinc := frL_inc h
    by_cases cm : m < j
    · have := h5 m cm (by rw [getD_lt hm, hme]; show (o : Int) ≤ (k : Int); omega)
      rw [getD_lt hm, hme] at this
      have : (k : Int) < (k : Int) := this
      omega
    · by_cases cmj : m = j
      · subst cmj
        rw [getD_lt hm, hme] at hkb
        exact hkb.symm
      · exfalso
        unfold IncK at hinc
        rw [List.pairwise_iff_getElem] at hinc
        have h6 := hinc j m h2 hm (by omega)
        rw [getD_lt h2] at hkb
        rw [hkb, hme] at h6
        have h6 : ((p * 2 ^ k : Nat) : Int) < ((q * 2 ^ k : Nat) : Int) := h6
        have h7 : ((q * 2 ^ k : Nat) : Int) ≤ ((p * 2 ^ k : Nat) : Int) := by
          cases c : frY y k with
          | nil => rw [c] at hhd; cases hhd
          | cons s l =>
            rw [c] at hhd hmk
            have e1 : s = ((q * 2 ^ k : Nat) : Int) := by cases hhd; rfl
            have hi := (h.row k hk).inc
            rw [c] at hi
            have hi := (List.pairwise_cons.1 hi).1
            rcases List.mem_cons.1 hmk with e2 | e2
            · rw [← e1, ← e2]; exact Int.le_refl _
            · have : idI s < idI ((p * 2 ^ k : Nat) : Int) := hi _ e2
              rw [← e1]
              exact Int.le_of_lt this
        omega
theorem wh_size {j : Nat} (hj : j ≤ 6) : IntKind.i64.wrap ((1 : Int) * (2 : Int) ^ min (IntKind.u64.wrap (j : Int)).toNat IntKind.i64.bits) = ((2 ^ j : Nat) : Int) ∧ decide ((0 : Int) ≤ IntKind.u64.wrap (j : Int)) = true := by
  have e1 : IntKind.u64.wrap (j : Int) = (j : Int) := u64_in (by omega) (by omega)
  rw [e1]
  refine ⟨?_, decide_eq_true (by omega)⟩
  have : ∀ j : Nat, j ≤ 6 → IntKind.i64.wrap ((1 : Int) * (2 : Int) ^ min ((j : Int)).toNat IntKind.i64.bits) = ((2 ^ j : Nat) : Int) := by decide +kernel
  exact this j hj
/-- A table of 32 numbers. -/
def tabI (f : Nat → Int) : List Int := (List.range 32).map f
theorem tabI_len {f : Nat → Int} : (tabI f).length = 32 := by simp [tabI]
theorem tabI_get {f : Nat → Int} {w : Nat} (h : w < 32) {z : Int} : (tabI f).getD w z = f w := by
  rw [getD_lt (by rw [tabI_len]; exact h)]
  simp [tabI]
theorem tabI_set {f : Nat → Int} {w : Nat} {b : Int} : (tabI f).set w b = tabI (fun v => if v = w then b else f v) := by
  refine List.ext_getElem (by simp [tabI]) fun i h1 h2 => ?_
  rw [List.getElem_set]
  simp only [tabI, List.getElem_map, List.getElem_range]
  by_cases c : w = i
  · subst c; simp
  · rw [if_neg c, if_neg (fun h => c h.symm)]
theorem tabI_ext {f g : Nat → Int} (h : ∀ w, w < 32 → f w = g w) : tabI f = tabI g := by
  unfold tabI
  exact List.map_congr_left fun w hw => h w (List.mem_range.1 hw)
theorem wh_in {w k p : Nat} : w / 2 ^ k = p ↔ p * 2 ^ k ≤ w ∧ w < p * 2 ^ k + 2 ^ k := by
  have e1 := Nat.le_div_iff_mul_le (pos2 k) (x := p) (y := w)
  have e2 := Nat.div_lt_iff_lt_mul (pos2 k) (x := w) (y := p + 1)
  rw [Nat.add_mul, Nat.one_mul] at e2
  constructor
  · intro h
    exact ⟨e1.1 (by omega), e2.1 (by omega)⟩
  · rintro ⟨h1, h2⟩
    have := e1.2 h1
    have := e2.2 h2
    omega
theorem wh_blk {n k p : Nat} (hk : k ≤ n) (hp : p < 2 ^ (n - k)) : p * 2 ^ k + 2 ^ k ≤ 2 ^ n := by
  have h1 : (p + 1) * 2 ^ k ≤ 2 ^ (n - k) * 2 ^ k := Nat.mul_le_mul_right _ (by omega)
  rw [← Nat.pow_add, Nat.sub_add_cancel hk, Nat.add_mul, Nat.one_mul] at h1
  exact h1
theorem wh_lt {n : Nat} {U : Wk} (hl : ∀ w, U w = true → w < 2 ^ n) {k p : Nat} (hk : k ≤ n) (h : Full U k p) : p < 2 ^ (n - k) := by
  have h1 := lim_q hl h
  have h2 : 2 ^ n = 2 ^ (n - k) * 2 ^ k := by rw [← Nat.pow_add, Nat.sub_add_cancel hk]
  rw [h2] at h1
  exact Nat.lt_of_mul_lt_mul_right h1
/-! ### one block's workers -/
theorem L7_1_eq (l : List (El T57)) (r : Int → List Int → Int → List Bk → List Bk → List Int → List Int → List Int → List Int → List Int → List Int → List Int → List Int → List Int → List Int → List Int → List Int → List Bk → List Int → Option Bool) (y : Yard) (i : Int) {k p : Nat} (hk : k ≤ 5) (hp : p < 2 ^ (5 - k)) (g : Nat → Int) (hg : ∀ w, 0 ≤ g w ∧ g w ≤ 1000) : ∀ (f j : Nat), 2 ^ k - j < f → j ≤ 2 ^ k →
    L7_1 (F11 2000) (F12 2000) (F19 2000) (F21 2000) (F16 2000) (F15 2000) 2000 l r f i (j : Int) (tabI fun v => g v + if p * 2 ^ k ≤ v ∧ v < p * 2 ^ k + j then 1 else 0) (mkB k p) y.1 (frL y) (tkY y) (flY y) y.2.1 y.2.2.1 y.2.2.2.1 y.2.2.2.2.1 y.2.2.2.2.2.1 y.2.2.2.2.2.2.1 y.2.2.2.2.2.2.2.1 y.2.2.2.2.2.2.2.2.1 y.2.2.2.2.2.2.2.2.2.1 y.2.2.2.2.2.2.2.2.2.2.1 y.2.2.2.2.2.2.2.2.2.2.2.1 y.2.2.2.2.2.2.2.2.2.2.2.2.1 y.2.2.2.2.2.2.2.2.2.2.2.2.2 =
    r (IntKind.i64.wrap (i + 1)) (tabI fun v => g v + if inI (mkB k p) (v : Int) = true then 1 else 0) y.1 (frL y) (tkY y) (flY y) y.2.1 y.2.2.1 y.2.2.2.1 y.2.2.2.2.1 y.2.2.2.2.2.1 y.2.2.2.2.2.2.1 y.2.2.2.2.2.2.2.1 y.2.2.2.2.2.2.2.2.1 y.2.2.2.2.2.2.2.2.2.1 y.2.2.2.2.2.2.2.2.2.2.1 y.2.2.2.2.2.2.2.2.2.2.2.1 y.2.2.2.2.2.2.2.2.2.2.2.2.1 y.2.2.2.2.2.2.2.2.2.2.2.2.2
  | 0, j, h, _ => by omega
  | f + 1, j, h, hj => by
    obtain ⟨s1, s2⟩ := wh_size (show k ≤ 6 by omega)
    have hpk : 2 ^ k ≤ 64 := pow_le6 (by omega)
    have hin : p * 2 ^ k + 2 ^ k ≤ 32 := wh_blk (n := 5) hk hp
    have hpo := pos2 k
    simp only [L7_1, b7_1]
    simp only [mkB]
    rw [s1, if_pos s2]
    by_cases c : j < 2 ^ k
    · have e1 : IntKind.i64.wrap (((p * 2 ^ k : Nat) : Int) + (j : Int)) = ((p * 2 ^ k + j : Nat) : Int) := by rw [i64_in (by omega) (by omega)]; omega
      have e2 : IntKind.i64.wrap ((j : Int) + 1) = ((j + 1 : Nat) : Int) := by rw [i64_in (by omega) (by omega)]; omega
      have hlt : p * 2 ^ k + j < 32 := by omega
      have d1 : decide (True ∧ (0 : Int) ≤ ((p * 2 ^ k + j : Nat) : Int) ∧ ((p * 2 ^ k + j : Nat) : Int) < ((32 : Nat) : Int) ∧ ((p * 2 ^ k + j : Nat) : Int) < ((32 : Nat) : Int)) = true := decide_eq_true ⟨trivial, by omega, by omega, by omega⟩
      have hgw := hg (p * 2 ^ k + j)
      rw [if_pos (decide_eq_true (by omega)), e1, tabI_len, if_pos d1, if_pos d1, e2, Int.toNat_natCast, tabI_get hlt, if_neg (by omega), Int.add_zero, i64_in (by omega) (by omega), tabI_set]
      refine Eq.trans ?_ (L7_1_eq l r y i hk hp g hg f (j + 1) (by omega) (by omega))
      congr 1
      refine tabI_ext fun w _ => ?_
      by_cases c2 : w = p * 2 ^ k + j
      · subst c2
        rw [if_pos rfl, if_pos (by omega)]
      · rw [if_neg c2]
        congr 1
        by_cases c3 : p * 2 ^ k ≤ w ∧ w < p * 2 ^ k + j
        · rw [if_pos c3, if_pos (by omega)]
        · rw [if_neg c3, if_neg (by omega)]
    · have : j = 2 ^ k := by omega
      subst this
      rw [if_neg (by simp)]
      congr 1
      refine tabI_ext fun w _ => ?_
      congr 1
      have h1 : inI (mkB k p) (w : Int) = true ↔ _ := inI_iff.trans wh_in
      by_cases c3 : p * 2 ^ k ≤ w ∧ w < p * 2 ^ k + 2 ^ k
      · rw [if_pos c3]; exact (if_pos (h1.2 c3)).symm
      · rw [if_neg c3]; exact (if_neg (fun h => c3 (h1.1 h))).symm
/-! ### all blocks -/
def cn (l : List Bk) (w : Nat) : Int := ((l.countP fun b => inI b (w : Int) : Nat) : Int)
theorem cn_snoc {l : List Bk} {b : Bk} {w : Nat} : cn (l ++ [b]) w = cn l w + if inI b (w : Int) = true then 1 else 0 := by
  unfold cn
  rw [List.countP_append, List.countP_singleton]
  split <;> simp
theorem cn_le {l : List Bk} {w n : Nat} (h : l.length ≤ n) : 0 ≤ cn l w ∧ cn l w ≤ (n : Int) := by
  have := List.countP_le_length (p := fun b => inI b (w : Int)) (l := l)
  unfold cn
  omega
theorem L7_0_eq (l : List (El T57)) (y : Yard) (hy : Ok 5 y) : ∀ (f : Nat) (pre suf : List Bk), frL y ++ tkY y = pre ++ suf → suf.length < f →
    L7_0 (F11 2000) (F12 2000) (F19 2000) (F21 2000) (F16 2000) (F15 2000) 2000 l f (pre.length : Int) (tabI (cn pre)) y.1 (frL y) (tkY y) (flY y) y.2.1 y.2.2.1 y.2.2.2.1 y.2.2.2.2.1 y.2.2.2.2.2.1 y.2.2.2.2.2.2.1 y.2.2.2.2.2.2.2.1 y.2.2.2.2.2.2.2.2.1 y.2.2.2.2.2.2.2.2.2.1 y.2.2.2.2.2.2.2.2.2.2.1 y.2.2.2.2.2.2.2.2.2.2.2.1 y.2.2.2.2.2.2.2.2.2.2.2.2.1 y.2.2.2.2.2.2.2.2.2.2.2.2.2 = L7_2 (F11 2000) (F12 2000) (F19 2000) (F21 2000) (F16 2000) (F15 2000) 2000 l 2000 0 (tabI (cn (frL y ++ tkY y))) y.1 (frL y) (tkY y) (flY y) y.2.1 y.2.2.1 y.2.2.2.1 y.2.2.2.2.1 y.2.2.2.2.2.1 y.2.2.2.2.2.2.1 y.2.2.2.2.2.2.2.1 y.2.2.2.2.2.2.2.2.1 y.2.2.2.2.2.2.2.2.2.1 y.2.2.2.2.2.2.2.2.2.2.1 y.2.2.2.2.2.2.2.2.2.2.2.1 y.2.2.2.2.2.2.2.2.2.2.2.2.1 y.2.2.2.2.2.2.2.2.2.2.2.2.2
  | 0, pre, suf, e, h => by omega
  | f + 1, pre, suf, e, h => by
    have hfr := frL_len hy.rep
    have htl := hy.tk.len (show 5 ≤ 6 by decide)
    have hll : (frL y ++ tkY y).length = (frL y).length + (tkY y).length := List.length_append
    have e0 : IntKind.i64.wrap (((frL y).length : Int) + ((tkY y).length : Int)) = ((frL y ++ tkY y).length : Int) := by rw [i64_in (by omega) (by omega), hll]; omega
    simp only [L7_0, b7_0]
    rw [e0]
    cases suf with
    | nil =>
      have := fin e
      rw [this.1, if_neg Bool.false_ne_true, this.2]
    | cons b suf =>
      obtain ⟨h1, h2, h3, h4, h5, h6⟩ := mid e (zEl T29) (by omega)
      have hb : isBlk 5 b := by
        have hm : b ∈ frL y ++ tkY y := by rw [e]; simp
        rcases List.mem_append.1 hm with hm | hm
        · obtain ⟨k, q, hk, rfl, hmx⟩ := (mem_frL hy.rep).1 hm
          exact ⟨k, q, rfl, hk, wh_lt hy.rep.lim hk hmx.1⟩
        · exact hy.tk.blk b hm
      obtain ⟨k, p, rfl, hk, hp⟩ := hb
      obtain ⟨s1, s2⟩ := wh_size (show k ≤ 6 by omega)
      have hpk : 2 ^ k ≤ 64 := pow_le6 (by omega)
      have hin : p * 2 ^ k + 2 ^ k ≤ 32 := wh_blk (n := 5) hk hp
      have hpo := pos2 k
      have hpl : pre.length ≤ 128 := by omega
      have ih := L7_0_eq l y hy f (pre ++ [mkB k p]) suf h5 (by simpa using h)
      have hst : tabI (cn pre) = tabI fun v => cn pre v + if p * 2 ^ k ≤ v ∧ v < p * 2 ^ k + 0 then 1 else 0 := tabI_ext fun w _ => by rw [if_neg (by omega), Int.add_zero]
      have hst2 : (tabI fun v => cn pre v + if inI (mkB k p) (v : Int) = true then 1 else 0) = tabI (cn (pre ++ [mkB k p])) := tabI_ext fun w _ => cn_snoc.symm
      have step := L7_1_eq l (L7_0 (F11 2000) (F12 2000) (F19 2000) (F21 2000) (F16 2000) (F15 2000) 2000 l f) y (pre.length : Int) hk hp (cn pre) (fun w => by have := cn_le (w := w) (show pre.length ≤ 1000 by omega); exact ⟨this.1, this.2⟩) 2000 0 (by omega) (Nat.zero_le _)
      rw [← hst, h4, hst2, ih] at step
      have e1 : IntKind.i64.wrap (((p * 2 ^ k : Nat) : Int) + ((2 ^ k : Nat) : Int)) = ((p * 2 ^ k + 2 ^ k : Nat) : Int) := by rw [i64_in (by omega) (by omega)]; omega
      have e2 : (!((2 ^ k : Nat) : Int) == (0 : Int)) = true := by rw [beq_eq_false_iff_ne.2 (by omega)]; rfl
      have e3 : (Int.tmod ((p * 2 ^ k : Nat) : Int) ((2 ^ k : Nat) : Int) != (0 : Int)) = false := by
        rw [Int.tmod_eq_emod_of_nonneg (by omega), ← Int.natCast_emod, Nat.mul_mod_left]; rfl
      rw [h1, if_pos rfl]
      by_cases c : pre.length < (frL y).length
      · have hb : (frL y).getD ((pre.length : Int)).toNat (zEl T29) = mkB k p := by
          rw [Int.toNat_natCast] at h3 ⊢
          rw [List.getD_eq_getElem?_getD, List.getElem?_append_left c, ← List.getD_eq_getElem?_getD] at h3
          exact h3
        rw [if_pos (decide_eq_true (by omega)), if_pos (decide_eq_true (by omega)), hb]
        simp only [mkB]
        simp only [mkB] at step
        rw [if_neg (show ¬ decide ((k : Int) < 0) = true by rw [decide_eq_true_eq]; omega), if_neg (show ¬ decide ((k : Int) > 5) = true by rw [decide_eq_true_eq]; omega), if_neg (show ¬ decide (((p * 2 ^ k : Nat) : Int) < 0) = true by rw [decide_eq_true_eq]; omega), if_pos s2, s1, e1, if_neg (show ¬ decide (((p * 2 ^ k + 2 ^ k : Nat) : Int) > 32) = true by rw [decide_eq_true_eq]; omega), if_pos s2, if_pos e2, if_neg (by rw [e3]; exact Bool.false_ne_true)]
        exact step
      · have e4 : IntKind.i64.wrap ((pre.length : Int) - ((frL y).length : Int)) = ((pre.length - (frL y).length : Nat) : Int) := by rw [i64_in (by omega) (by omega)]; omega
        have hb : (tkY y).getD (pre.length - (frL y).length) (zEl T29) = mkB k p := by
          rw [Int.toNat_natCast] at h3
          rw [List.getD_eq_getElem?_getD, List.getElem?_append_right (by omega), ← List.getD_eq_getElem?_getD] at h3
          exact h3
        rw [if_neg (by rw [decide_eq_true_eq]; omega), e4, if_pos (decide_eq_true (by omega)), Int.toNat_natCast, hb]
        simp only [mkB]
        simp only [mkB] at step
        rw [if_neg (show ¬ decide ((k : Int) < 0) = true by rw [decide_eq_true_eq]; omega), if_neg (show ¬ decide ((k : Int) > 5) = true by rw [decide_eq_true_eq]; omega), if_neg (show ¬ decide (((p * 2 ^ k : Nat) : Int) < 0) = true by rw [decide_eq_true_eq]; omega), if_pos s2, s1, e1, if_neg (show ¬ decide (((p * 2 ^ k + 2 ^ k : Nat) : Int) > 32) = true by rw [decide_eq_true_eq]; omega), if_pos s2, if_pos e2, if_neg (by rw [e3]; exact Bool.false_ne_true)]
        exact step
/-! ### who failed -/
abbrev lost (y : Yard) (pre : List Int) (w : Nat) : Int := if (w : Int) ∈ pre ∧ (heldS (tkY y) (w : Int)).2 = false then 1 else 0
theorem lost_yes {y : Yard} {pre : List Int} {w : Nat} (h : (w : Int) ∈ pre ∧ (heldS (tkY y) (w : Int)).2 = false) : lost y pre w = 1 := if_pos h
theorem lost_no {y : Yard} {pre : List Int} {w : Nat} (h : ¬ ((w : Int) ∈ pre ∧ (heldS (tkY y) (w : Int)).2 = false)) : lost y pre w = 0 := if_neg h
theorem L7_2_eq (l : List (El T57)) (y : Yard) (hy : Ok 5 y) (g : Nat → Int) (hg : ∀ w, 0 ≤ g w ∧ g w ≤ 1000) : ∀ (f : Nat) (pre suf : List Int), flY y = pre ++ suf → suf.length < f →
    L7_2 (F11 2000) (F12 2000) (F19 2000) (F21 2000) (F16 2000) (F15 2000) 2000 l f (pre.length : Int) (tabI fun w => g w + lost y pre w) y.1 (frL y) (tkY y) (flY y) y.2.1 y.2.2.1 y.2.2.2.1 y.2.2.2.2.1 y.2.2.2.2.2.1 y.2.2.2.2.2.2.1 y.2.2.2.2.2.2.2.1 y.2.2.2.2.2.2.2.2.1 y.2.2.2.2.2.2.2.2.2.1 y.2.2.2.2.2.2.2.2.2.2.1 y.2.2.2.2.2.2.2.2.2.2.2.1 y.2.2.2.2.2.2.2.2.2.2.2.2.1 y.2.2.2.2.2.2.2.2.2.2.2.2.2 = L7_3 (F11 2000) (F12 2000) (F19 2000) (F21 2000) (F16 2000) (F15 2000) 2000 l 2000 0 (tabI fun w => g w + lost y (flY y) w) y.1 (frL y) (tkY y) (flY y) y.2.1 y.2.2.1 y.2.2.2.1 y.2.2.2.2.1 y.2.2.2.2.2.1 y.2.2.2.2.2.2.1 y.2.2.2.2.2.2.2.1 y.2.2.2.2.2.2.2.2.1 y.2.2.2.2.2.2.2.2.2.1 y.2.2.2.2.2.2.2.2.2.2.1 y.2.2.2.2.2.2.2.2.2.2.2.1 y.2.2.2.2.2.2.2.2.2.2.2.2.1 y.2.2.2.2.2.2.2.2.2.2.2.2.2
  | 0, pre, suf, e, h => by omega
  | f + 1, pre, [], e, h => by
    have := fin e
    simp only [L7_2, b7_2]
    rw [this.1, if_neg Bool.false_ne_true, this.2]
  | f + 1, pre, x :: suf, e, h => by
    have hfl := hy.fl.len (show 5 ≤ 6 by decide)
    obtain ⟨h1, h2, h3, h4, h5, h6⟩ := mid e (zEl (Ty.int IntKind.i64)) (by omega)
    have ih := L7_2_eq l y hy g hg f (pre ++ [x]) suf h5 (by simpa using h)
    obtain ⟨w, rfl, hw⟩ := hy.fl.lim x (by rw [e]; simp)
    have hw : w < 32 := hw
    have hnew : ¬ (w : Int) ∈ pre := fun hm => by
      have hi := hy.fl.inc
      rw [e] at hi
      have := (List.pairwise_append.1 hi).2.2 _ hm (w : Int) (by simp)
      exact absurd this (Int.lt_irrefl _)
    have hheld : F16 2000 (y.1, y.2.1, y.2.2.1, y.2.2.2.1, y.2.2.2.2.1, y.2.2.2.2.2.1, y.2.2.2.2.2.2.1, y.2.2.2.2.2.2.2.1, y.2.2.2.2.2.2.2.2.1, y.2.2.2.2.2.2.2.2.2.1, y.2.2.2.2.2.2.2.2.2.2.1, y.2.2.2.2.2.2.2.2.2.2.2.1, y.2.2.2.2.2.2.2.2.2.2.2.2.1, y.2.2.2.2.2.2.2.2.2.2.2.2.2) (w : Int) = some (heldS (tkY y) (w : Int)) := F16_eq 2000 (by decide) (show 5 ≤ 6 by decide) y hy.tk (w : Int)
    have d1 : decide (True ∧ (0 : Int) ≤ (w : Int) ∧ (w : Int) < ((32 : Nat) : Int) ∧ (w : Int) < ((32 : Nat) : Int)) = true := decide_eq_true ⟨trivial, by omega, by omega, by omega⟩
    have hgw := hg w
    simp only [L7_2, b7_2]
    rw [h1, h2, if_pos rfl, if_pos rfl, h3, if_neg (by simp), if_pos rfl, if_neg (by rw [decide_eq_true_eq]; omega), if_pos rfl, hheld, Option.bind_some, h4]
    cases ch : (heldS (tkY y) (w : Int)).2 with
    | true =>
      rw [if_neg (by decide)]
      refine Eq.trans ?_ ih
      congr 1
      refine tabI_ext fun v _ => ?_
      congr 1
      by_cases c : v = w
      · subst c
        rw [lost_no (by rw [ch]; simp), lost_no (by rw [ch]; simp)]
      · have : ((v : Int) ∈ pre ++ [(w : Int)]) ↔ (v : Int) ∈ pre := by simp [show ¬ (v : Int) = (w : Int) from fun h => c (Int.ofNat.inj h)]
        simp only [lost, this]
    | false =>
      rw [if_pos (by decide), if_pos rfl, tabI_len, if_pos d1, if_pos d1, Int.toNat_natCast, tabI_get hw, lost_no (fun h => hnew h.1), Int.add_zero, i64_in (by omega) (by omega), tabI_set]
      refine Eq.trans ?_ ih
      congr 1
      refine tabI_ext fun v _ => ?_
      by_cases c : v = w
      · subst c
        rw [if_pos rfl, lost_yes ⟨by simp, ch⟩]
      · rw [if_neg c]
        have : ((v : Int) ∈ pre ++ [(w : Int)]) ↔ (v : Int) ∈ pre := by simp [show ¬ (v : Int) = (w : Int) from fun h => c (Int.ofNat.inj h)]
        simp only [lost, this]
/-! ### just one -/
theorem count_zero {l : List Bk} {w : Nat} (h : ∀ b ∈ l, inI b (w : Int) = false) : cn l w = 0 := by
  unfold cn
  rw [List.countP_eq_zero.2 fun b hb => by rw [h b hb]; exact Bool.false_ne_true]
  rfl
theorem count_one : ∀ {l : List Bk} {w : Nat} {b : Bk}, IncK keyB l → b ∈ l → inI b (w : Int) = true → (∀ c ∈ l, inI c (w : Int) = true → c = b) → cn l w = 1
  | [], w, b, _, hb, _, _ => by cases hb
  | a :: l, w, b, hi, hb, hin, hu => by
    have hi' := List.pairwise_cons.1 hi
    have e : cn (a :: l) w = cn l w + if inI a (w : Int) = true then 1 else 0 := by
      unfold cn
      rw [List.countP_cons]
      split <;> simp
    rw [e]
    by_cases c : a = b
    · subst c
      rw [if_pos hin, count_zero fun d hd => ?_]
      · rfl
      · cases cd : inI d (w : Int) with
        | false => rfl
        | true =>
          have := hu d (List.mem_cons_of_mem _ hd) cd
          have h2 := hi'.1 d hd
          rw [this] at h2
          exact absurd h2 (Int.lt_irrefl _)
    · have hbl : b ∈ l := (List.mem_cons.1 hb).resolve_left (fun h => c h.symm)
      rw [if_neg (fun h => c (hu a (by simp) h)), count_one hi'.2 hbl hin (fun d hd h => hu d (List.mem_cons_of_mem _ hd) h)]
      rfl
theorem held_no {t : List Bk} {x : Int} : (heldS t x).2 = false ↔ ∀ b ∈ t, inI b x = false := by
  unfold heldS
  cases c : t.find? (fun b => inI b x) with
  | none =>
    refine ⟨fun _ b hb => ?_, fun _ => rfl⟩
    have := List.find?_eq_none.1 c b hb
    simpa using this
  | some d =>
    refine ⟨fun h => (by cases h), fun h => ?_⟩
    have h1 := List.find?_some c
    have h2 := List.mem_of_find?_eq_some c
    rw [h d h2] at h1
    cases h1
theorem cn_append {l m : List Bk} {w : Nat} : cn (l ++ m) w = cn l w + cn m w := by
  unfold cn
  rw [List.countP_append, Int.natCast_add]
theorem just_one {y : Yard} (hy : Ok 5 y) {w : Nat} (hw : w < 32) : cn (frL y ++ tkY y) w + lost y (flY y) w = 1 := by
  have hU := opn_iff (n := 5) (t := tkY y) (f := flY y) (w := w)
  rw [cn_append]
  by_cases cU : opn 5 (tkY y) (flY y) w = true
  · obtain ⟨_, h2, h3⟩ := hU.1 cU
    obtain ⟨o, _, ho, hmax, _⟩ := max_over (n := 5) (U := opn 5 (tkY y) (flY y)) 5 0 w (by omega) (full0.2 cU)
    rw [Nat.sub_zero] at hmax
    rw [count_one (frL_inc hy.rep) ((mem_frL hy.rep).2 ⟨o, _, ho, rfl, hmax⟩) (inI_iff.2 rfl) (fun c hc hin => ?_), count_zero h3, lost_no (fun h => h2 h.1)]
    · rfl
    · obtain ⟨k, q, hk, rfl, hm⟩ := (mem_frL hy.rep).1 hc
      have hq := inI_iff.1 hin
      subst hq
      rw [max_uniq hk ho hm hmax]
  · have h0 : cn (frL y) w = 0 := count_zero fun b hb => by
      obtain ⟨k, q, hk, rfl, hm⟩ := (mem_frL hy.rep).1 hb
      cases c : inI (mkB k q) (w : Int) with
      | false => rfl
      | true => exact absurd (hm.1 w (inI_iff.1 c)) cU
    rw [h0]
    by_cases ct : ∀ b ∈ tkY y, inI b (w : Int) = false
    · have hf : (w : Int) ∈ flY y := Classical.byContradiction fun hf => cU (hU.2 ⟨hw, hf, ct⟩)
      rw [count_zero ct, lost_yes ⟨hf, held_no.2 ct⟩]
      rfl
    · have : ∃ b ∈ tkY y, inI b (w : Int) = true := Classical.byContradiction fun hne => ct fun b hb => by
        cases c : inI b (w : Int) with
        | false => rfl
        | true => exact absurd ⟨b, hb, c⟩ hne
      obtain ⟨b, hb, hin⟩ := this
      rw [count_one hy.tk.inc hb hin (fun c hc h => hy.tk.dis c hc b hb _ h hin), lost_no (fun h => ct (held_no.1 h.2))]
      rfl
theorem L7_3_eq (l : List (El T57)) (y : Yard) (g : Nat → Int) (hg : ∀ w, w < 32 → g w = 1) : ∀ (f i : Nat), 32 - i < f → i ≤ 32 →
    L7_3 (F11 2000) (F12 2000) (F19 2000) (F21 2000) (F16 2000) (F15 2000) 2000 l f (i : Int) (tabI g) y.1 (frL y) (tkY y) (flY y) y.2.1 y.2.2.1 y.2.2.2.1 y.2.2.2.2.1 y.2.2.2.2.2.1 y.2.2.2.2.2.2.1 y.2.2.2.2.2.2.2.1 y.2.2.2.2.2.2.2.2.1 y.2.2.2.2.2.2.2.2.2.1 y.2.2.2.2.2.2.2.2.2.2.1 y.2.2.2.2.2.2.2.2.2.2.2.1 y.2.2.2.2.2.2.2.2.2.2.2.2.1 y.2.2.2.2.2.2.2.2.2.2.2.2.2 = L7_4 (F11 2000) (F12 2000) (F19 2000) (F21 2000) (F16 2000) (F15 2000) 2000 l 2000 1 (tabI g) y.1 (frL y) (tkY y) (flY y) y.2.1 y.2.2.1 y.2.2.2.1 y.2.2.2.2.1 y.2.2.2.2.2.1 y.2.2.2.2.2.2.1 y.2.2.2.2.2.2.2.1 y.2.2.2.2.2.2.2.2.1 y.2.2.2.2.2.2.2.2.2.1 y.2.2.2.2.2.2.2.2.2.2.1 y.2.2.2.2.2.2.2.2.2.2.2.1 y.2.2.2.2.2.2.2.2.2.2.2.2.1 y.2.2.2.2.2.2.2.2.2.2.2.2.2
  | 0, i, h, _ => by omega
  | f + 1, i, h, hi => by
    simp only [L7_3, b7_3]
    by_cases c : i < 32
    · have d1 : decide (True ∧ (0 : Int) ≤ (i : Int) ∧ (i : Int) < ((32 : Nat) : Int) ∧ (i : Int) < ((32 : Nat) : Int)) = true := decide_eq_true ⟨trivial, by omega, by omega, by omega⟩
      have e2 : IntKind.i64.wrap ((i : Int) + 1) = ((i + 1 : Nat) : Int) := by rw [i64_in (by omega) (by omega)]; omega
      rw [if_pos (decide_eq_true (by omega)), tabI_len, if_pos d1, Int.toNat_natCast, tabI_get c, hg i c, if_neg (by decide), e2]
      exact L7_3_eq l y g hg f (i + 1) (by omega) (by omega)
    · rw [if_neg (by rw [decide_eq_true_eq]; omega)]
/-! ### no two make a greater one -/
theorem no_pair {y : Yard} (hy : Ok 5 y) {k p q : Nat} (h1 : mkB k p ∈ frL y) (h2 : mkB k q ∈ frL y) : ¬ ((q * 2 ^ k : Nat) : Int) = (((p ^^^ 1) * 2 ^ k : Nat) : Int) := by
  intro h
  obtain ⟨k1, p1, hk, e1, hp⟩ := (mem_frL hy.rep).1 h1
  obtain ⟨k2, q2, hk2, e2, hq⟩ := (mem_frL hy.rep).1 h2
  have a1 : (k : Int) = (k1 : Int) := congrArg Prod.snd e1
  have a2 : (k : Int) = (k2 : Int) := congrArg Prod.snd e2
  have b1 : ((p * 2 ^ k : Nat) : Int) = ((p1 * 2 ^ k1 : Nat) : Int) := congrArg Prod.fst e1
  have b2 : ((q * 2 ^ k : Nat) : Int) = ((q2 * 2 ^ k2 : Nat) : Int) := congrArg Prod.fst e2
  have a1 : k = k1 := Int.ofNat.inj a1
  have a2 : k = k2 := Int.ofNat.inj a2
  subst a1
  subst a2
  have b1 := mul_inj (Int.ofNat.inj b1)
  have b2 := mul_inj (Int.ofNat.inj b2)
  subst b1
  subst b2
  have e : q = p ^^^ 1 := mul_inj (Int.ofNat.inj h)
  subst e
  rcases hp.2 with hc | hc
  · subst hc
    have l1 := wh_lt hy.rep.lim (Nat.le_refl 5) hp.1
    have l2 := wh_lt hy.rep.lim (Nat.le_refl 5) hq.1
    have hx := xor_ne p
    have : (2 : Nat) ^ (5 - 5) = 1 := rfl
    rw [this] at l1 l2
    omega
  · exact hc fun w hw => by
      rcases pair_iff.1 hw with h | h
      · exact hp.1 w h
      · exact hq.1 w h
theorem L7_4_eq (l : List (El T57)) (y : Yard) (hy : Ok 5 y) (N : List Int) : ∀ (f i : Nat), (frL y).length + 1 < f + i → 1 ≤ i → i ≤ (frL y).length + 1 →
    L7_4 (F11 2000) (F12 2000) (F19 2000) (F21 2000) (F16 2000) (F15 2000) 2000 l f (i : Int) N y.1 (frL y) (tkY y) (flY y) y.2.1 y.2.2.1 y.2.2.2.1 y.2.2.2.2.1 y.2.2.2.2.2.1 y.2.2.2.2.2.2.1 y.2.2.2.2.2.2.2.1 y.2.2.2.2.2.2.2.2.1 y.2.2.2.2.2.2.2.2.2.1 y.2.2.2.2.2.2.2.2.2.2.1 y.2.2.2.2.2.2.2.2.2.2.2.1 y.2.2.2.2.2.2.2.2.2.2.2.2.1 y.2.2.2.2.2.2.2.2.2.2.2.2.2 = some true
  | 0, i, h, h1, h2 => by omega
  | f + 1, i, h, h1, h2 => by
    have hfr := frL_len hy.rep
    have hkn : F15 2000 = some true := known_eq
    simp only [L7_4, b7_4]
    by_cases c : i < (frL y).length
    · have d1 : decide ((0 : Int) ≤ (i : Int) ∧ (i : Int) < ((frL y).length : Int)) = true := decide_eq_true (by omega)
      have e1 : IntKind.i64.wrap ((i : Int) - 1) = ((i - 1 : Nat) : Int) := by rw [i64_in (by omega) (by omega)]; omega
      have e2 : IntKind.i64.wrap ((i : Int) + 1) = ((i + 1 : Nat) : Int) := by rw [i64_in (by omega) (by omega)]; omega
      have d2 : decide ((0 : Int) ≤ ((i - 1 : Nat) : Int) ∧ ((i - 1 : Nat) : Int) < ((frL y).length : Int)) = true := decide_eq_true (by omega)
      have hm1 : (frL y).getD i (zEl T29) ∈ frL y := by rw [getD_lt c]; exact List.getElem_mem c
      have c' : i - 1 < (frL y).length := by omega
      have hm2 : (frL y).getD (i - 1) (zEl T29) ∈ frL y := by rw [getD_lt c']; exact List.getElem_mem c'
      have ih := L7_4_eq l y hy N f (i + 1) (by omega) (by omega) (by omega)
      rw [if_pos (decide_eq_true (by omega)), if_pos d1, e1, if_pos d2, Int.toNat_natCast, Int.toNat_natCast, e2]
      generalize hB1 : (frL y).getD i (zEl T29) = B1 at *
      generalize hB2 : (frL y).getD (i - 1) (zEl T29) = B2 at *
      obtain ⟨k, q, hk, rfl, hmq⟩ := (mem_frL hy.rep).1 hm1
      obtain ⟨k2, p, hk2, rfl, hmp⟩ := (mem_frL hy.rep).1 hm2
      simp only [mkB]
      by_cases ck : k = k2
      · subst ck
        obtain ⟨s1, s2⟩ := wh_size (show k ≤ 6 by omega)
        have hp := wh_lt hy.rep.lim hk hmp.1
        obtain ⟨t1, t2, t3⟩ := start_lt (show 5 ≤ 6 by decide) hk hp
        rw [if_pos (beq_self_eq_true _), if_pos d1, if_pos d2, if_pos d1, if_pos s2, s1, xor_start k (by omega) p t2 t1, if_neg (by rw [beq_iff_eq]; exact no_pair hy hm2 hm1)]
        exact ih
      · rw [if_neg (by rw [beq_iff_eq]; exact fun h => ck (Int.ofNat.inj h))]
        exact ih
    · rw [if_neg (by rw [decide_eq_true_eq]; omega), hkn]
      rfl
theorem buddyWhole (l : List (El T57)) (_ : Gd (.sl T57) l) : F7 2000 l = some true := by
  obtain ⟨y, h1, hy⟩ := F11_eq 2000 (by decide) l
  have hfr := frL_len hy.rep
  have htl := hy.tk.len (show 5 ≤ 6 by decide)
  have hfl := hy.fl.len (show 5 ≤ 6 by decide)
  have g1 := F12_eq 2000 (by decide) hy
  have g2 := F19_eq 2000 hy
  have g3 := F21_eq 2000 hy
  unfold F7 G7 t7
  rw [h1, Option.bind_some]
  dsimp only
  rw [g1, Option.bind_some, g2, Option.bind_some, g3, Option.bind_some]
  have s0 := L7_0_eq l y hy 2000 [] (frL y ++ tkY y) rfl (by rw [List.length_append]; omega)
  have e0 : tabI (cn []) = [(0 : Int), (0 : Int), (0 : Int), (0 : Int), (0 : Int), (0 : Int), (0 : Int), (0 : Int), (0 : Int), (0 : Int), (0 : Int), (0 : Int), (0 : Int), (0 : Int), (0 : Int), (0 : Int), (0 : Int), (0 : Int), (0 : Int), (0 : Int), (0 : Int), (0 : Int), (0 : Int), (0 : Int), (0 : Int), (0 : Int), (0 : Int), (0 : Int), (0 : Int), (0 : Int), (0 : Int), (0 : Int)] := rfl
  rw [e0] at s0
  refine Eq.trans s0 ?_
  have s1 := L7_2_eq l y hy (cn (frL y ++ tkY y)) (fun w => cn_le (n := 1000) (by rw [List.length_append]; omega)) 2000 [] (flY y) rfl (by omega)
  have e1 : (tabI fun w => cn (frL y ++ tkY y) w + lost y [] w) = tabI (cn (frL y ++ tkY y)) := tabI_ext fun w _ => by rw [lost_no (by simp), Int.add_zero]
  rw [e1] at s1
  refine Eq.trans s1 ?_
  refine Eq.trans (L7_3_eq l y _ (fun w hw => just_one hy hw) 2000 0 (by omega) (by omega)) ?_
  exact L7_4_eq l y hy _ 2000 1 (by omega) (by omega) (by omega)
end Go.Proofs.YtiicginipjbloaaE
