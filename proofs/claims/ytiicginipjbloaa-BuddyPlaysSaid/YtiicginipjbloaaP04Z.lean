/- Buddy: BuddyPlays in plain words. -/
import Derived.Test.YtiicginipjbloaaP04X
import Derived.Test.YtiicginipjbloaaS04P
set_option linter.all false
namespace Go.Proofs.YtiicginipjbloaaE
open Go Go.Proofs
set_option maxRecDepth 100000
set_option linter.unusedVariables false
/-! ### known -/
abbrev yk0 : Yard := ((3 : Int), [], [], [], [(0 : Int)], [], [], [], [], [], [], [], [], [])
abbrev yk1 : Yard := ((3 : Int), [], [(2 : Int)], [(4 : Int)], [], [], [], [], [], [], [], [], [((0 : Int), (1 : Int))], [])
abbrev yk2 : Yard := ((3 : Int), [(3 : Int)], [], [(4 : Int)], [], [], [], [], [], [], [], [], [((0 : Int), (1 : Int)), ((2 : Int), (0 : Int))], [])
abbrev yk3 : Yard := ((3 : Int), [(3 : Int)], [(6 : Int)], [], [], [], [], [], [], [], [], [], [((0 : Int), (1 : Int)), ((2 : Int), (0 : Int)), ((4 : Int), (1 : Int))], [])
abbrev yk4 : Yard := ((3 : Int), [(3 : Int), (6 : Int)], [], [], [], [], [], [], [], [], [], [], [((0 : Int), (1 : Int)), ((2 : Int), (0 : Int)), ((4 : Int), (1 : Int))], [(7 : Int)])
abbrev yk5 : Yard := ((3 : Int), [(3 : Int), (6 : Int)], [(0 : Int)], [], [], [], [], [], [], [], [], [], [((2 : Int), (0 : Int)), ((4 : Int), (1 : Int))], [(7 : Int)])
theorem k1 : F14 2000 1 yk0 = some (((0 : Int), (0 : Int)), yk1) := by kernel_rfl
theorem k2 : F14 2000 0 yk1 = some (((2 : Int), (0 : Int)), yk2) := by kernel_rfl
theorem k3 : F14 2000 1 yk2 = some (((4 : Int), (0 : Int)), yk3) := by kernel_rfl
theorem k4 : F22 2000 7 yk3 = some ((0 : Int), yk4) := by kernel_rfl
theorem k5 : F17 2000 0 yk4 = some ((0 : Int), yk5) := by kernel_rfl
theorem okk0 : Ok 3 yk0 := ok_new (by decide) rfl (fun k => by
  rcases k with _ | _ | _ | _ | _ | _ | _ | _ | _ | _ | _ | k <;> first | rfl | (rw [if_neg (by omega)]; rfl)) rfl rfl
theorem okk5 : Ok 3 yk5 := by
  obtain ⟨_, _, a1, b1, _⟩ := take_ok 2000 (by decide) okk0 1
  rw [k1] at a1; cases a1
  obtain ⟨_, _, a2, b2, _⟩ := take_ok 2000 (by decide) b1 0
  rw [k2] at a2; cases a2
  obtain ⟨_, _, a3, b3, _⟩ := take_ok 2000 (by decide) b2 1
  rw [k3] at a3; cases a3
  obtain ⟨_, _, a4, b4, _⟩ := fail_any 2000 (by decide) b3 7
  rw [k4] at a4; cases a4
  obtain ⟨_, _, a5, b5, _⟩ := give_ok 2000 (by decide) b4 0
  rw [k5] at a5; cases a5
  exact b5
theorem k6 : F20 2000 yk5 2 [(2 : Int)] = some true := by
  rw [F20_eq 2000 (by decide) okk5 2 [(2 : Int)] (by decide)]
  kernel_rfl
theorem known_eq : F15 2000 = some true := by
  have h : ∀ f : Yard → Int → List Int → Option Bool, G15 (F3025 2000) (F14 2000) (F12 2000) (F18 2000) (F22 2000) (F17 2000) f (F13 2000) 2000 = Option.bind (f yk5 2 [(2 : Int)]) (fun x12 => if x12 = true then Option.bind (F13 2000 yk5 2) (fun x13 => some (!x13)) else some false) := fun f => by kernel_rfl
  refine (h (F20 2000)).trans ?_
  rw [k6]
  kernel_rfl
/-! ### Held -/
theorem held_of {n : Nat} {t : List Bk} (h : Tk n t) {b : Bk} (hb : b ∈ t) {x : Int} (hx : inI b x = true) : heldS t x = (b, true) := by
  unfold heldS
  cases c : t.find? (fun b => inI b x) with
  | none => exact absurd hx (List.find?_eq_none.1 c b hb)
  | some d =>
    have h1 := List.find?_some c
    have h2 := List.mem_of_find?_eq_some c
    rw [h.dis d h2 b hb x h1 hx]
theorem order_of (a : Int) : ∃ k : Nat, k < 6 ∧ IntKind.i64.wrap ((IntKind.u64.wrap a).tmod (6 : Int)) = (k : Int) := by
  have u0 : 0 ≤ IntKind.u64.wrap a := by rw [IntKind.wrap_u64]; omega
  have t0 : Int.tmod (IntKind.u64.wrap a) 6 = IntKind.u64.wrap a % 6 := Int.tmod_eq_emod_of_nonneg u0
  refine ⟨(IntKind.u64.wrap a % 6).toNat, by omega, ?_⟩
  rw [t0, i64_in (by omega) (by omega)]
  omega
open Classical in
theorem fitS_yes {n : Nat} {y : Yard} {o e : Nat} (h1 : o ≤ e) (h2 : e ≤ n) (h3 : frY y e ≠ []) : fitS n y o = true := by
  unfold fitS
  exact decide_eq_true ⟨e, h1, h2, h3⟩
open Classical in
theorem fitS_no {n : Nat} {y : Yard} {o : Nat} (h : ∀ i, o ≤ i → i ≤ n → frY y i = []) : fitS n y o = false := by
  unfold fitS
  exact decide_eq_false fun ⟨i, h1, h2, h3⟩ => h3 (h i h1 h2)
/-! ### BuddyLeast -/
def ordB (b : Bk) : Int := b.2
abbrev og (l : List Bk) (i : Nat) : Int := ordB (l.getD i (zEl T29))
/-- the place of the best block of a row's first ones -/
def Best (l : List Bk) (o : Int) (m : Nat) (b : Int) : Prop :=
  (b = -1 ∧ ∀ i, i < m → og l i < o) ∨
  (∃ j : Nat, b = (j : Int) ∧ j < m ∧ o ≤ og l j ∧ (∀ i, i < m → o ≤ og l i → og l j ≤ og l i) ∧ ∀ i, i < j → o ≤ og l i → og l j < og l i)
theorem best_end {n : Nat} {U : Wk} {y : Yard} (h : Rep n U y) {o : Nat} {b : Int} (hb : Best (frL y) (o : Int) (frL y).length b) :
    (b = -1 ∧ ∀ i, o ≤ i → i ≤ n → frY y i = []) ∨ (∃ j : Nat, b = (j : Int) ∧ j < (frL y).length ∧ ∀ e q : Nat, o ≤ e → e ≤ n → (∀ i, o ≤ i → i < e → frY y i = []) → (frY y e).head? = some ((q * 2 ^ e : Nat) : Int) → (frL y).getD j (zEl T29) = mkB e q) := by
  have hget : ∀ i, i < (frL y).length → (frL y).getD i (zEl T29) ∈ frL y := fun i hi => by rw [getD_lt hi]; exact List.getElem_mem hi
  rcases hb with ⟨h1, h2⟩ | ⟨j, h1, h2, h3, h4, h5⟩
  · left
    refine ⟨h1, fun i hi hin => ?_⟩
    cases c : frY y i with
    | nil => rfl
    | cons s l =>
      exfalso
      obtain ⟨q, rfl, hq⟩ := ((h.row i hin).mem s).1 (by rw [c]; simp)
      obtain ⟨m, hm, hme⟩ := List.getElem_of_mem ((mem_frL h).2 ⟨i, q, hin, rfl, hq⟩)
      have := h2 m hm
      simp only [og] at this
      rw [getD_lt hm, hme] at this
      have : (i : Int) < (o : Int) := this
      omega
  · right
    refine ⟨j, h1, h2, fun e q he hen hemp hhd => ?_⟩
    obtain ⟨k, p, hk, hkb, hkm⟩ := (mem_frL h).1 (hget j h2)
    simp only [og] at h3 h4 h5
    rw [hkb] at h3 h4 h5 ⊢
    have h3 : (o : Int) ≤ (k : Int) := h3
    have hmk : ((p * 2 ^ k : Nat) : Int) ∈ frY y k := ((h.row k hk).mem' p).2 hkm
    have hek : e ≤ k := by
      by_cases c : e ≤ k
      · exact c
      · rw [hemp k (by omega) (by omega)] at hmk
        cases hmk
    have hqm : ((q * 2 ^ e : Nat) : Int) ∈ frY y e := by
      cases c : frY y e with
      | nil => rw [c] at hhd; cases hhd
      | cons s l => rw [c] at hhd; cases hhd; simp
    have hq := ((h.row e hen).mem' q).1 hqm
    obtain ⟨m, hm, hme⟩ := List.getElem_of_mem ((mem_frL h).2 ⟨e, q, hen, rfl, hq⟩)
    have hke : k = e := by
      have := h4 m hm (by rw [getD_lt hm, hme]; show (o : Int) ≤ (e : Int); omega)
      rw [getD_lt hm, hme] at this
      have : (k : Int) ≤ (e : Int) := this
      omega
    subst hke
    have hinc := frL_inc h
    by_cases cm : m < j
    · have := h5 m cm (by rw [getD_lt hm, hme]; show (o : Int) ≤ (k : Int); omega)
      rw [getD_lt hm, hme] at this
      have : (k : Int) < (k : Int) := this
      omega
    · by_cases cmj : m = j
      · subst cmj
        rw [getD_lt hm, hme] at hkb
        exact hkb.symm
      · exfalso
        unfold IncK at hinc
        rw [List.pairwise_iff_getElem] at hinc
        have h6 := hinc j m h2 hm (by omega)
        rw [getD_lt h2] at hkb
        rw [hkb, hme] at h6
        have h6 : ((p * 2 ^ k : Nat) : Int) < ((q * 2 ^ k : Nat) : Int) := h6
        have h7 : ((q * 2 ^ k : Nat) : Int) ≤ ((p * 2 ^ k : Nat) : Int) := by
          cases c : frY y k with
          | nil => rw [c] at hhd; cases hhd
          | cons s l =>
            rw [c] at hhd hmk
            have e1 : s = ((q * 2 ^ k : Nat) : Int) := by cases hhd; rfl
            have hi := (h.row k hk).inc
            rw [c] at hi
            have hi := (List.pairwise_cons.1 hi).1
            rcases List.mem_cons.1 hmk with e2 | e2
            · rw [← e1, ← e2]; exact Int.le_refl _
            · have : idI s < idI ((p * 2 ^ k : Nat) : Int) := hi _ e2
              rw [← e1]
              exact Int.le_of_lt this
        omega
/-- A table over the workers. -/
def tab (n : Nat) (V : Nat → Bool) : List Bool := (List.range (2 ^ n)).map V
theorem tab_len {n : Nat} {V : Nat → Bool} : (tab n V).length = 2 ^ n := by simp [tab]
theorem tab_get {n : Nat} {V : Nat → Bool} {w : Nat} (h : w < 2 ^ n) {z : Bool} : (tab n V).getD w z = V w := by
  rw [getD_lt (by rw [tab_len]; exact h)]
  simp [tab]
theorem tab_set {n : Nat} {V : Nat → Bool} {w : Nat} {b : Bool} : (tab n V).set w b = tab n (fun v => if v = w then b else V v) := by
  refine List.ext_getElem (by simp [tab]) fun i h1 h2 => ?_
  rw [List.getElem_set]
  simp only [tab, List.getElem_map, List.getElem_range]
  by_cases c : w = i
  · subst c; simp
  · rw [if_neg c, if_neg (fun h => c h.symm)]
theorem tab_map {n : Nat} {V : Nat → Bool} : (tab n V).map (fun b => !b) = tab n (fun w => !V w) := by simp [tab]
theorem tab_ext {n : Nat} {V W : Nat → Bool} (h : ∀ w, w < 2 ^ n → V w = W w) : tab n V = tab n W := by
  unfold tab
  exact List.map_congr_left fun w hw => h w (List.mem_range.1 hw)
theorem in_iff {w k p : Nat} : w / 2 ^ k = p ↔ p * 2 ^ k ≤ w ∧ w < p * 2 ^ k + 2 ^ k := by
  have e1 := Nat.le_div_iff_mul_le (pos2 k) (x := p) (y := w)
  have e2 := Nat.div_lt_iff_lt_mul (pos2 k) (x := w) (y := p + 1)
  rw [Nat.add_mul, Nat.one_mul] at e2
  constructor
  · intro h
    exact ⟨e1.1 (by omega), e2.1 (by omega)⟩
  · rintro ⟨h1, h2⟩
    have := e1.2 h1
    have := e2.2 h2
    omega
theorem by4 : Try.prog.types[(4 : Nat)].bytes ≤ 100 := by decide +kernel
theorem fits4 {n : Nat} (h : n ≤ 100000) : decide (n * Try.prog.types[(4 : Nat)].bytes ≤ (140737488355328 : Nat)) = true := by
  have := Nat.mul_le_mul h by4
  exact decide_eq_true (by omega)
/-! ### how many -/
theorem L55_eq (K k : Nat) (hk : k ≤ 30) : ∀ (f i : Nat), k - i < f → i ≤ k → L55_0 K (k : Int) f ((2 ^ i : Nat) : Int) (i : Int) = some ((2 ^ k : Nat) : Int)
  | 0, i, h, _ => by omega
  | f + 1, i, h, hi => by
    simp only [L55_0, b55_0]
    by_cases c : i < k
    · have hp : 2 ^ (i + 1) ≤ 1073741824 := Nat.pow_le_pow_right (n := 2) (i := i + 1) (j := 30) (by decide) (by omega)
      have e1 : IntKind.i64.wrap (((2 ^ i : Nat) : Int) * 2) = ((2 ^ (i + 1) : Nat) : Int) := by
        rw [Nat.pow_succ] at hp ⊢
        rw [i64_in (by omega) (by omega)]
        omega
      have e2 : IntKind.i64.wrap ((i : Int) + 1) = ((i + 1 : Nat) : Int) := by rw [i64_in (by omega) (by omega)]; omega
      rw [if_pos (decide_eq_true (by omega)), e1, e2]
      exact L55_eq K k hk f (i + 1) (by omega) (by omega)
    · have : i = k := by omega
      subst this
      rw [if_neg (by simp)]
theorem F55_eq (K : Nat) (hK : 100 ≤ K) (k : Nat) (hk : k ≤ 30) : F55 K (k : Int) = some ((2 ^ k : Nat) : Int) := L55_eq K k hk K 0 (by omega) (by omega)
/-! ### the document's yard -/
structure Sim (n : Nat) (t : List Bk) (fl : List Int) (m : El T85) : Prop where
  ord : m.1 = (n : Int)
  bad : m.2.2 = tab n (fun w => decide ((w : Int) ∈ fl))
  perm : List.Perm m.2.1 t
theorem Sim.len {n : Nat} {t : List Bk} {fl : List Int} {m : El T85} (h : Sim n t fl m) (ht : Tk n t) (hn : n ≤ 6) : List.length m.2.1 ≤ 64 := by
  rw [h.perm.length_eq]; exact ht.len hn
theorem L60_2_eq (K : Nat) (m : El T85) {n : Nat} (hn : n ≤ 6) {k p : Nat} (hk : k ≤ n) (hp : p < 2 ^ (n - k)) (i : Nat) (hi : i < List.length m.2.1) (hb : List.getD m.2.1 i (zEl T29) = mkB k p) (V : Nat → Bool) (r1 : Int → List Bool → Option (List (El .bool))) : ∀ (f j : Nat), 2 ^ k - j < f → j ≤ 2 ^ k →
    L60_2 (F55 K) K m r1 f (i : Int) ((2 ^ k : Nat) : Int) (j : Int) (tab n fun w => V w && !(decide (p * 2 ^ k ≤ w) && decide (w < p * 2 ^ k + j))) = r1 (IntKind.i64.wrap ((i : Int) + 1)) (tab n fun w => V w && !decide (w / 2 ^ k = p))
  | 0, j, h, _ => by omega
  | f + 1, j, h, hj => by
    obtain ⟨s1, s2, s3⟩ := start_lt hn hk hp
    have hpk : 2 ^ k ≤ 64 := pow_le6 (by omega)
    simp only [L60_2, b60_2]
    by_cases c : j < 2 ^ k
    · have e1 : IntKind.i64.wrap (((p * 2 ^ k : Nat) : Int) + (j : Int)) = ((p * 2 ^ k + j : Nat) : Int) := by rw [i64_in (by omega) (by omega)]; omega
      have e2 : IntKind.i64.wrap ((j : Int) + 1) = ((j + 1 : Nat) : Int) := by rw [i64_in (by omega) (by omega)]; omega
      have hlt : p * 2 ^ k + j < 2 ^ n := by
        have h1 : (p + 1) * 2 ^ k ≤ 2 ^ (n - k) * 2 ^ k := Nat.mul_le_mul_right _ (by omega)
        rw [← Nat.pow_add, Nat.sub_add_cancel hk, Nat.add_mul, Nat.one_mul] at h1
        omega
      have d1 : decide ((0 : Int) ≤ ((p * 2 ^ k + j : Nat) : Int) ∧ ((p * 2 ^ k + j : Nat) : Int) < ((2 ^ n : Nat) : Int)) = true := decide_eq_true (by omega)
      rw [if_pos (decide_eq_true (by omega)), if_pos (decide_eq_true (by omega)), Int.toNat_natCast, hb]
      simp only [mkB]
      rw [e1, tab_len, if_pos d1, e2, Int.toNat_natCast, tab_set]
      rw [← L60_2_eq K m hn hk hp i hi hb V r1 f (j + 1) (by omega) (by omega)]
      congr 1
      refine tab_ext fun w _ => ?_
      by_cases c2 : w = p * 2 ^ k + j
      · subst c2
        rw [if_pos rfl, decide_eq_true (by omega), decide_eq_true (by omega)]
        simp
      · rw [if_neg c2]
        congr 3
        exact decide_eq_decide.2 (by omega)
    · have : j = 2 ^ k := by omega
      subst this
      rw [if_neg (by simp)]
      congr 1
      refine tab_ext fun w _ => ?_
      rw [← Bool.decide_and]
      congr 2
      exact decide_eq_decide.2 in_iff.symm
theorem opn_snoc {n : Nat} {t : List Bk} {fl : List Int} {k p w : Nat} : opn n (t ++ [mkB k p]) fl w = (opn n t fl w && !decide (w / 2 ^ k = p)) := by
  have : inI (mkB k p) (w : Int) = decide (w / 2 ^ k = p) := by
    rw [Bool.eq_iff_iff, inI_iff, decide_eq_true_eq]
  simp only [opn, List.any_append, List.any_cons, List.any_nil, Bool.or_false, this, Bool.not_or, Bool.and_assoc]
theorem L60_1_eq (K : Nat) (hK : 100 ≤ K) (m : El T85) {n : Nat} (hn : n ≤ 6) (fl : List Int) (hm : ∀ b ∈ (m.2.1 : List Bk), isBlk n b) (hl : List.length m.2.1 ≤ 64) : ∀ (f : Nat) (pre suf : List Bk), m.2.1 = pre ++ suf → suf.length < f →
    L60_1 (F55 K) K m f (pre.length : Int) (tab n (opn n pre fl)) = some (tab n (opn n m.2.1 fl))
  | 0, pre, suf, e, h => by omega
  | f + 1, pre, [], e, h => by
    have := fin e
    simp only [L60_1, b60_1]
    rw [this.1, this.2]
    rfl
  | f + 1, pre, b :: suf, e, h => by
    obtain ⟨h1, h2, h3, h4, h5, h6⟩ := mid e (zEl T29) (by omega)
    obtain ⟨k, p, rfl, hk, hp⟩ := hm b (by rw [e]; simp)
    have hpk : 2 ^ k ≤ 64 := pow_le6 (by omega)
    simp only [L60_1, b60_1]
    rw [h1, h2, if_pos rfl, if_pos rfl, h3]
    simp only [mkB]
    rw [F55_eq K hK k (by omega), Option.bind_some]
    have hi : pre.length < List.length m.2.1 := by omega
    have h3' : List.getD m.2.1 pre.length (zEl T29) = mkB k p := h3
    have hst : tab n (opn n pre fl) = tab n fun w => opn n pre fl w && !(decide (p * 2 ^ k ≤ w) && decide (w < p * 2 ^ k + 0)) := by
      refine tab_ext fun w _ => ?_
      rw [show (decide (p * 2 ^ k ≤ w) && decide (w < p * 2 ^ k + 0)) = false by
        rw [← Bool.decide_and]; exact decide_eq_false (by omega)]
      simp
    have := L60_2_eq K m hn hk hp pre.length hi h3' (opn n pre fl) (L60_1 (F55 K) K m f) K 0 (by omega) (Nat.zero_le _)
    rw [hst]
    refine Eq.trans this ?_
    rw [h4]
    refine Eq.trans ?_ (L60_1_eq K hK m hn fl hm hl f (pre ++ [mkB k p]) suf h5 (by simpa using h))
    congr 1
    exact tab_ext fun w _ => opn_snoc.symm
theorem L60_0_eq (K : Nat) (m : El T85) (hl : List.length m.2.2 ≤ 100000) : ∀ (f : Nat) (pre suf : List Bool), m.2.2 = pre ++ suf → suf.length < f →
    L60_0 (F55 K) K m f (pre.length : Int) (pre.map fun b => !b) = L60_1 (F55 K) K m K 0 (List.map (fun b => !b) m.2.2)
  | 0, pre, suf, e, h => by omega
  | f + 1, pre, [], e, h => by
    have := fin e
    simp only [L60_0, b60_0]
    rw [this.1, this.2]
    rfl
  | f + 1, pre, b :: suf, e, h => by
    obtain ⟨h1, h2, h3, h4, h5, h6⟩ := mid e (zEl Ty.bool) (by omega)
    simp only [L60_0, b60_0]
    rw [h1, h2, if_pos rfl, if_pos rfl, h3, if_pos (fits4 (by simp; omega)), h4]
    have := L60_0_eq K m hl f (pre ++ [b]) suf h5 (by simpa using h)
    rw [List.map_append] at this
    exact this
theorem F60_eq (K : Nat) (hK : 100 ≤ K) {n : Nat} (hn : n ≤ 6) {t : List Bk} {fl : List Int} {m : El T85} (h : Sim n t fl m) (ht : Tk n t) : F60 K m = some (tab n (opn n t fl)) := by
  have hp : 2 ^ n ≤ 64 := pow_le6 hn
  have hbl : List.length m.2.2 = 2 ^ n := by rw [h.bad, tab_len]
  have h1 := L60_0_eq K m (by omega) K [] m.2.2 rfl (by omega)
  have h2 := L60_1_eq K hK m hn fl (fun b hb => ht.blk b (h.perm.mem_iff.1 hb)) (h.len ht hn) K [] m.2.1 rfl (by have := h.len ht hn; omega)
  refine Eq.trans h1 ?_
  rw [h.bad, tab_map]
  have e0 : tab n (fun w => !decide ((w : Int) ∈ fl)) = tab n (opn n [] fl) := tab_ext fun w hw => by simp [opn, hw]
  have e1 : tab n (opn n m.2.1 fl) = tab n (opn n t fl) := tab_ext fun w hw => by
    rw [Bool.eq_iff_iff, opn_iff, opn_iff]
    exact ⟨fun ⟨a, b, c⟩ => ⟨a, b, fun d hd => c d (h.perm.mem_iff.2 hd)⟩, fun ⟨a, b, c⟩ => ⟨a, b, fun d hd => c d (h.perm.mem_iff.1 hd)⟩⟩
  rw [e0]
  rw [e1] at h2
  exact h2
/-! ### are all free? -/
open Classical in
noncomputable def someB (p : Prop) : Option Bool := some (decide p)
theorem someB_yes {p : Prop} (h : p) : someB p = some true := by simp [someB, h]
theorem someB_no {p : Prop} (h : ¬ p) : someB p = some false := by simp [someB, h]
theorem L61_eq (K : Nat) {n : Nat} (hn : n ≤ 6) (U : Wk) (s c : Nat) (hsc : s + c ≤ 2 ^ n) : ∀ (f i : Nat), s + c - i < f → s ≤ i → i ≤ s + c → (∀ w, s ≤ w → w < i → U w = true) →
    L61_0 K (tab n U) (s : Int) (c : Int) f (i : Int) = someB (∀ w, s ≤ w → w < s + c → U w = true)
  | 0, i, h, _, _, _ => by omega
  | f + 1, i, h, h1, h2, h3 => by
    have hp : 2 ^ n ≤ 64 := pow_le6 hn
    have e0 : IntKind.i64.wrap ((s : Int) + (c : Int)) = ((s + c : Nat) : Int) := by rw [i64_in (by omega) (by omega)]; omega
    have e1 : IntKind.i64.wrap ((i : Int) + 1) = ((i + 1 : Nat) : Int) := by rw [i64_in (by omega) (by omega)]; omega
    simp only [L61_0, b61_0]
    rw [e0]
    by_cases ci : i < s + c
    · have d1 : decide ((0 : Int) ≤ (i : Int) ∧ (i : Int) < ((tab n U).length : Int)) = true := by rw [tab_len]; exact decide_eq_true (by omega)
      rw [if_pos (decide_eq_true (by omega)), if_pos d1, Int.toNat_natCast, tab_get (by omega)]
      cases cu : U i with
      | true =>
        rw [if_neg (by decide), e1]
        exact L61_eq K hn U s c hsc f (i + 1) (by omega) (by omega) (by omega) fun w hw hwi => by
          by_cases cw : w = i
          · rw [cw]; exact cu
          · exact h3 w hw (by omega)
      | false =>
        rw [if_pos (by decide), someB_no]
        intro hA
        have := hA i h1 ci
        rw [cu] at this
        cases this
    · have : i = s + c := by omega
      subst this
      rw [if_neg (by simp), someB_yes (fun w hw hw2 => h3 w hw hw2)]
theorem F61_eq (K : Nat) (hK : 100 ≤ K) {n : Nat} (hn : n ≤ 6) (U : Wk) {s c : Nat} (hsc : s + c ≤ 2 ^ n) : F61 K (tab n U) (s : Int) (c : Int) = someB (∀ w, s ≤ w → w < s + c → U w = true) := by
  have hp : 2 ^ n ≤ 64 := pow_le6 hn
  exact L61_eq K hn U s c hsc K s (by omega) (Nat.le_refl _) (by omega) (fun w h1 h2 => by omega)
theorem full_iff {U : Wk} {k p : Nat} : (∀ w, p * 2 ^ k ≤ w → w < p * 2 ^ k + 2 ^ k → U w = true) ↔ Full U k p := by
  constructor
  · intro h w hw
    have := in_iff.1 hw
    exact h w this.1 this.2
  · intro h w h1 h2
    exact h w (in_iff.2 ⟨h1, h2⟩)
theorem blk_in {n k p : Nat} (hk : k ≤ n) (hp : p < 2 ^ (n - k)) : p * 2 ^ k + 2 ^ k ≤ 2 ^ n := by
  have h1 : (p + 1) * 2 ^ k ≤ 2 ^ (n - k) * 2 ^ k := Nat.mul_le_mul_right _ (by omega)
  rw [← Nat.pow_add, Nat.sub_add_cancel hk, Nat.add_mul, Nat.one_mul] at h1
  exact h1
theorem full_lt {n : Nat} {U : Wk} (hl : ∀ w, U w = true → w < 2 ^ n) {k p : Nat} (hk : k ≤ n) (h : Full U k p) : p < 2 ^ (n - k) := by
  have h1 := lim_q hl h
  have h2 : 2 ^ n = 2 ^ (n - k) * 2 ^ k := by rw [← Nat.pow_add, Nat.sub_add_cancel hk]
  rw [h2] at h1
  exact Nat.lt_of_mul_lt_mul_right h1
/-- the greatest block from a place on -/
theorem L30_1_eq (K : Nat) (hK : 100 ≤ K) (m : El T85) {n : Nat} (hn : n ≤ 6) (hord : m.1 = (n : Int)) (U : Wk) (hlim : ∀ w, U w = true → w < 2 ^ n) {e q : Nat} (he : e ≤ n) (hm : Max n U e q) (r0 : Int → List Bool → List Bk → Option (List (El T29))) (acc : List Bk) (hacc : acc.length ≤ 1000) : ∀ (f o : Nat), e - o < f → o ≤ e →
    L30_1 (F60 K) (F55 K) (F61 K) K m r0 f ((q * 2 ^ e : Nat) : Int) (o : Int) (tab n U) acc = r0 ((q * 2 ^ e + 2 ^ e : Nat) : Int) (tab n U) (acc ++ [mkB e q])
  | 0, o, h, _ => by omega
  | f + 1, o, h, ho => by
    have hq := full_lt hlim he hm.1
    obtain ⟨s1, s2, s3⟩ := start_lt hn he hq
    have hpe : 2 ^ e ≤ 64 := pow_le6 (by omega)
    have hpn : 2 ^ n ≤ 64 := pow_le6 hn
    have hin := blk_in he hq
    have hp0 := pos2 e
    have e1 : IntKind.i64.wrap (((q * 2 ^ e : Nat) : Int) + ((2 ^ e : Nat) : Int)) = ((q * 2 ^ e + 2 ^ e : Nat) : Int) := by rw [i64_in (by omega) (by omega)]; omega
    have e2 : IntKind.i64.wrap ((o : Int) + 1) = ((o + 1 : Nat) : Int) := by rw [i64_in (by omega) (by omega)]; omega
    have hfit : decide ((acc.length + [(((q * 2 ^ e : Nat) : Int), (e : Int))].length) * Try.prog.types[(29 : Nat)].bytes ≤ (140737488355328 : Nat)) = true := fits29 (by simp; omega)
    have hpo := pos2 (o + 1)
    have hne : (!((2 ^ (o + 1) : Nat) : Int) == (0 : Int)) = true := by
      rw [beq_eq_false_iff_ne.2 (by omega)]; rfl
    simp only [L30_1, b30_1, hord, e2]
    by_cases c : o < e
    · have hdiv : (q * 2 ^ e) % 2 ^ (o + 1) = 0 := by
        have : q * 2 ^ e = q * 2 ^ (e - (o + 1)) * 2 ^ (o + 1) := by rw [Nat.mul_assoc, ← Nat.pow_add, Nat.sub_add_cancel (by omega)]
        rw [this, Nat.mul_mod_left]
      have htm : (((q * 2 ^ e : Nat) : Int).tmod ((2 ^ (o + 1) : Nat) : Int) == 0) = true := by
        rw [Int.tmod_eq_emod_of_nonneg (by omega), ← Int.natCast_emod, hdiv]; rfl
      have hle : 2 ^ (o + 1) ≤ 2 ^ e := Nat.pow_le_pow_right (by decide) (by omega)
      have hall : ∀ w, q * 2 ^ e ≤ w → w < q * 2 ^ e + 2 ^ (o + 1) → U w = true := fun w h1 h2 => hm.1 w (in_iff.2 ⟨h1, by omega⟩)
      rw [if_pos (decide_eq_true (by omega)), F55_eq K hK (o + 1) (by omega), Option.bind_some, if_pos hne, if_pos htm, Option.bind_some, F61_eq K hK hn U (by omega), someB_yes hall, Option.bind_some, if_pos rfl]
      exact L30_1_eq K hK m hn hord U hlim he hm r0 acc hacc f (o + 1) (by omega) (by omega)
    · have : o = e := by omega
      subst this
      by_cases c2 : o < n
      · have hnF : ¬ Full U (o + 1) (q / 2) := by
          rcases hm.2 with h | h
          · omega
          · exact h
        rw [if_pos (decide_eq_true (by omega)), F55_eq K hK (o + 1) (by omega), Option.bind_some, if_pos hne, Option.bind_some]
        by_cases c3 : q % 2 = 0
        · have hq2 : q / 2 * 2 ^ (o + 1) = q * 2 ^ o := by
            rw [Nat.pow_succ, Nat.mul_comm (2 ^ o) 2, ← Nat.mul_assoc, Nat.div_mul_cancel (Nat.dvd_of_mod_eq_zero c3)]
          have htm : (((q * 2 ^ o : Nat) : Int).tmod ((2 ^ (o + 1) : Nat) : Int) == 0) = true := by
            rw [Int.tmod_eq_emod_of_nonneg (by omega), ← Int.natCast_emod, ← hq2, Nat.mul_mod_left]; rfl
          have hh := half_lt c2 hq
          have hin2 := blk_in (n := n) (k := o + 1) (by omega) hh
          rw [hq2] at hin2
          rw [if_pos htm, F61_eq K hK hn U hin2, someB_no (by rw [← hq2]; exact fun h => hnF (full_iff.1 h)), Option.bind_some, if_neg Bool.false_ne_true, if_pos hfit, F55_eq K hK o (by omega), Option.bind_some, e1]
        · have htm : (((q * 2 ^ o : Nat) : Int).tmod ((2 ^ (o + 1) : Nat) : Int) == 0) = false := by
            rw [Int.tmod_eq_emod_of_nonneg (by omega), ← Int.natCast_emod, beq_eq_false_iff_ne]
            intro hz
            have hz : q * 2 ^ o % 2 ^ (o + 1) = 0 := Int.ofNat.inj hz
            rw [Nat.pow_succ, Nat.mul_comm (2 ^ o) 2, Nat.mul_mod_mul_right] at hz
            rcases Nat.mul_eq_zero.1 hz with h | h
            · exact c3 h
            · have := pos2 o; omega
          rw [if_neg (by rw [htm]; exact Bool.false_ne_true), if_pos hfit, F55_eq K hK o (by omega), Option.bind_some, e1]
      · rw [if_neg (by simp; omega), if_pos hfit, F55_eq K hK o (by omega), Option.bind_some, e1]
/-- where a block ends -/
def enB (b : Bk) : Int := keyB b + ((2 ^ Int.toNat b.2 : Nat) : Int)
/-- all free, from a place on -/
theorem L30_0_eq (K : Nat) (hK : 100 ≤ K) (m : El T85) {n : Nat} (hord : m.1 = (n : Int)) {U : Wk} {y : Yard} (hR : Rep n U y) : ∀ (f w : Nat) (acc rest : List Bk), 2 ^ n - w < f → w ≤ 2 ^ n → frL y = acc ++ rest → (∀ b ∈ acc, enB b ≤ (w : Int)) → (∀ b ∈ rest, (w : Int) ≤ keyB b) →
    L30_0 (F60 K) (F55 K) (F61 K) K m f (w : Int) (tab n U) acc = some (frL y)
  | 0, w, acc, rest, h, _, _, _, _ => by omega
  | f + 1, w, acc, rest, h, hw, e, ha, hr => by
    have hn := hR.le
    have hpn : 2 ^ n ≤ 64 := pow_le6 hn
    have hlen := frL_len hR
    have hal : acc.length ≤ 64 := by rw [e, List.length_append] at hlen; omega
    have ew : IntKind.i64.wrap ((w : Int) + 1) = ((w + 1 : Nat) : Int) := by rw [i64_in (by omega) (by omega)]; omega
    simp only [L30_0, b30_0]
    by_cases c : w < 2 ^ n
    · have d1 : decide ((w : Int) < ((tab n U).length : Int)) = true := by rw [tab_len]; exact decide_eq_true (by omega)
      have d2 : decide ((0 : Int) ≤ (w : Int) ∧ (w : Int) < ((tab n U).length : Int)) = true := by rw [tab_len]; exact decide_eq_true (by omega)
      rw [if_pos d1, if_pos d2, Int.toNat_natCast, tab_get c, ew]
      cases cu : U w with
      | false =>
        rw [if_pos (by decide)]
        refine L30_0_eq K hK m hord hR f (w + 1) acc rest (by omega) (by omega) e (fun b hb => by have := ha b hb; omega) fun b hb => ?_
        obtain ⟨k, q, hk, rfl, hm⟩ := (mem_frL hR).1 (show b ∈ frL y by rw [e]; exact List.mem_append_right _ hb)
        have h1 : (w : Int) ≤ ((q * 2 ^ k : Nat) : Int) := hr _ hb
        have h2 : U (q * 2 ^ k) = true := hm.1.one
        have h3 : w ≠ q * 2 ^ k := fun h => by rw [← h, cu] at h2; cases h2
        show ((w + 1 : Nat) : Int) ≤ ((q * 2 ^ k : Nat) : Int)
        omega
      | true =>
        rw [if_neg (by decide)]
        obtain ⟨o, _, ho, hmax, _⟩ := max_over (n := n) (U := U) n 0 w (by omega) (full0.2 cu)
        rw [Nat.sub_zero] at hmax
        have hmem : mkB o (w / 2 ^ o) ∈ frL y := (mem_frL hR).2 ⟨o, _, ho, rfl, hmax⟩
        have hwin := (in_iff (w := w) (k := o)).1 rfl
        have hnot : ¬ mkB o (w / 2 ^ o) ∈ acc := fun hb => by
          have := ha _ hb
          have : ((w / 2 ^ o * 2 ^ o : Nat) : Int) + ((2 ^ o : Nat) : Int) ≤ (w : Int) := this
          omega
        have hin : mkB o (w / 2 ^ o) ∈ rest := by
          rw [e] at hmem
          exact (List.mem_append.1 hmem).resolve_left hnot
        have hge : (w : Int) ≤ ((w / 2 ^ o * 2 ^ o : Nat) : Int) := hr _ hin
        have hweq : w / 2 ^ o * 2 ^ o = w := by omega
        have hinc := frL_inc hR
        rw [e] at hinc
        have hinc2 := (List.pairwise_append.1 hinc).2.1
        cases rest with
        | nil => cases hin
        | cons b rest =>
          have hhd : b = mkB o (w / 2 ^ o) := by
            rcases List.mem_cons.1 hin with h | h
            · exact h.symm
            · have h1 : keyB b < ((w / 2 ^ o * 2 ^ o : Nat) : Int) := (List.pairwise_cons.1 hinc2).1 _ h
              have h2 := hr b (by simp)
              omega
          subst hhd
          have := L30_1_eq K hK m hn hord U hR.lim ho hmax (L30_0 (F60 K) (F55 K) (F61 K) K m f) acc (by omega) K 0 (by omega) (Nat.zero_le _)
          rw [hweq] at this
          refine Eq.trans this ?_
          have hq := full_lt hR.lim ho hmax.1
          have hble := blk_in ho hq
          rw [hweq] at hble
          have hpo := pos2 o
          refine L30_0_eq K hK m hord hR f (w + 2 ^ o) (acc ++ [mkB o (w / 2 ^ o)]) rest (by omega) hble (by rw [e]; simp) (fun b hb => ?_) fun b hb => ?_
          · rcases List.mem_append.1 hb with hb | hb
            · have := ha b hb; omega
            · rw [List.mem_singleton.1 hb]
              show ((w / 2 ^ o * 2 ^ o : Nat) : Int) + ((2 ^ o : Nat) : Int) ≤ ((w + 2 ^ o : Nat) : Int)
              omega
          · have hlt : ((w / 2 ^ o * 2 ^ o : Nat) : Int) < keyB b := (List.pairwise_cons.1 hinc2).1 _ hb
            obtain ⟨k, q, hk, rfl, hm⟩ := (mem_frL hR).1 (show b ∈ frL y by rw [e]; exact List.mem_append_right _ (List.mem_cons_of_mem _ hb))
            have hlt : ((w / 2 ^ o * 2 ^ o : Nat) : Int) < ((q * 2 ^ k : Nat) : Int) := hlt
            show ((w + 2 ^ o : Nat) : Int) ≤ ((q * 2 ^ k : Nat) : Int)
            have hpk := pos2 o
            apply Classical.byContradiction
            intro hc
            have hx : q * 2 ^ k / 2 ^ o = w / 2 ^ o := in_iff.2 ⟨by omega, by omega⟩
            have hk' := first_in k q
            have hko := max_uniq (w := q * 2 ^ k) hk ho (by rw [hk']; exact hm) (by rw [hx]; exact hmax)
            subst hko
            rw [hk'] at hx
            rw [hx] at hlt
            omega
    · have hw2 : w = 2 ^ n := by omega
      subst hw2
      have d1 : decide ((((2 ^ n : Nat)) : Int) < ((tab n U).length : Int)) = false := by rw [tab_len]; exact decide_eq_false (by omega)
      rw [d1, if_neg Bool.false_ne_true]
      have : rest = [] := by
        cases rest with
        | nil => rfl
        | cons b rest =>
          have h1 := hr b (by simp)
          obtain ⟨k, q, hk, rfl, hm⟩ := (mem_frL hR).1 (show b ∈ frL y by rw [e]; simp)
          have h1 : ((2 ^ n : Nat) : Int) ≤ ((q * 2 ^ k : Nat) : Int) := h1
          have h2 := lim_q hR.lim hm.1
          omega
      rw [e, this, List.append_nil]
theorem F30_eq (K : Nat) (hK : 100 ≤ K) {n : Nat} {y : Yard} (h : Ok n y) {m : El T85} (hs : Sim n (tkY y) (flY y) m) : F30 K m = some (frL y) := by
  have hn := h.rep.le
  have hpn : 2 ^ n ≤ 64 := pow_le6 hn
  unfold F30 G30 t30
  rw [F60_eq K hK hn hs h.tk, Option.bind_some]
  refine L30_0_eq K hK m hs.ord h.rep K 0 [] (frL y) (by omega) (Nat.zero_le _) rfl (fun b hb => by cases hb) fun b hb => ?_
  obtain ⟨k, q, hk, rfl, hm⟩ := (mem_frL h.rep).1 hb
  exact Int.natCast_nonneg _
/-! ### the best -/
theorem L62_eq (K : Nat) (m : El T85) (a : Int) (l : List Bk) (hl : l.length ≤ 1000) : ∀ (f i : Nat) (b : Int), l.length < f + i → i ≤ l.length → Best l a i b →
    ∃ b', Best l a l.length b' ∧ L62_0 (F30 K) K m a f b (i : Int) l = some (if b' < 0 then (((0 : Int), (0 : Int)), false) else (l.getD b'.toNat (zEl T29), true))
  | 0, i, b, hf, hi, hb => by omega
  | f + 1, i, b, hf, hi, hb => by
    have ih := fun b => L62_eq K m a l hl f (i + 1) b
    simp only [L62_0, b62_0]
    by_cases c : i < l.length
    · have d1 : decide ((i : Int) < (l.length : Int)) = true := decide_eq_true (by omega)
      have d2 : decide ((0 : Int) ≤ (i : Int) ∧ (i : Int) < (l.length : Int)) = true := decide_eq_true (by omega)
      have e : IntKind.i64.wrap ((i : Int) + 1) = ((i + 1 : Nat) : Int) := by rw [i64_in (by omega) (by omega)]; omega
      rw [if_pos d1, if_pos d2, e, Int.toNat_natCast]
      by_cases c2 : og l i ≥ a
      · rw [if_pos (show decide ((l.getD i (zEl T29)).2 ≥ a) = true from decide_eq_true c2)]
        rcases hb with ⟨rfl, h2⟩ | ⟨j, rfl, h2, h3, h4, h5⟩
        · rw [if_pos (by decide)]
          refine ih _ (by omega) (by omega) (.inr ⟨i, rfl, by omega, c2, fun m hm hmo => ?_, fun m hm hmo => ?_⟩)
          · by_cases e : m = i
            · rw [e]; exact Int.le_refl _
            · have := h2 m (by omega)
              exact absurd hmo (by omega)
          · have := h2 m hm
            exact absurd hmo (by omega)
        · rw [if_neg (by simp), if_pos d2, if_pos (decide_eq_true (by omega)), Int.toNat_natCast]
          by_cases c3 : og l i < og l j
          · rw [if_pos (show decide ((l.getD i (zEl T29)).2 < (l.getD j (zEl T29)).2) = true from decide_eq_true c3)]
            refine ih _ (by omega) (by omega) (.inr ⟨i, rfl, by omega, c2, fun m hm hmo => ?_, fun m hm hmo => ?_⟩)
            · by_cases e : m = i
              · rw [e]; exact Int.le_refl _
              · have := h4 m (by omega) hmo
                omega
            · have := h4 m hm hmo
              omega
          · rw [if_neg (show ¬ decide ((l.getD i (zEl T29)).2 < (l.getD j (zEl T29)).2) = true from fun h => c3 (of_decide_eq_true h))]
            refine ih _ (by omega) (by omega) (.inr ⟨j, rfl, by omega, h3, fun m hm hmo => ?_, h5⟩)
            by_cases e : m = i
            · rw [e]; omega
            · exact h4 m (by omega) hmo
      · rw [if_neg (show ¬ decide ((l.getD i (zEl T29)).2 ≥ a) = true from fun h => c2 (of_decide_eq_true h))]
        refine ih _ (by omega) (by omega) ?_
        rcases hb with ⟨rfl, h2⟩ | ⟨j, rfl, h2, h3, h4, h5⟩
        · refine .inl ⟨rfl, fun m hm => ?_⟩
          by_cases e : m = i
          · rw [e]; omega
          · exact h2 m (by omega)
        · refine .inr ⟨j, rfl, by omega, h3, fun m hm hmo => ?_, h5⟩
          by_cases e : m = i
          · rw [e] at hmo; exact absurd hmo (by omega)
          · exact h4 m (by omega) hmo
    · have d1 : decide ((i : Int) < (l.length : Int)) = false := decide_eq_false (by omega)
      have ei : i = l.length := by omega
      rw [ei] at hb
      refine ⟨b, hb, ?_⟩
      rw [d1, if_neg Bool.false_ne_true]
      rcases hb with ⟨rfl, h2⟩ | ⟨j, rfl, h2, h3, h4, h5⟩
      · rw [if_pos (by decide), if_pos (by decide)]
      · rw [if_neg (by simp), if_pos (decide_eq_true (by omega)), if_neg (by omega)]
theorem F62_eq (K : Nat) (hK : 100 ≤ K) {n : Nat} {y : Yard} (h : Ok n y) {m : El T85} (hs : Sim n (tkY y) (flY y) m) (a : Int) :
    ∃ b, Best (frL y) a (frL y).length b ∧ F62 K m a = some (if b < 0 then (((0 : Int), (0 : Int)), false) else ((frL y).getD b.toNat (zEl T29), true)) := by
  have hl := frL_len h.rep
  unfold F62 G62 t62
  rw [F30_eq K hK h hs, Option.bind_some]
  exact L62_eq K m a (frL y) (by omega) K 0 (-1) (by omega) (Nat.zero_le _) (.inl ⟨rfl, fun i hi => by omega⟩)
theorem insK_perm {α : Type} {key : α → Int} {a : α} : ∀ {l : List α}, List.Perm (insK key a l) (a :: l)
  | [] => List.Perm.refl _
  | b :: l => by
    unfold insK
    split
    · exact (List.Perm.cons b insK_perm).trans (List.Perm.swap a b l)
    · exact List.Perm.refl _
theorem delK_filter {α : Type} {key : α → Int} {x : Int} {l : List α} (hi : IncK key l) (hx : x ∈ l.map key) : delK key x l = l.filter (fun b => decide (key b ≠ x)) := by
  refine incK_ext (incK_delK hi) (List.Pairwise.sublist List.filter_sublist hi) fun a => ?_
  rw [mem_delK hi hx, List.mem_filter, decide_eq_true_eq]
theorem snoc29 {l : List Bk} {b : Bk} (h : l.length ≤ 1000) : decide ((l.length + [b].length) * Try.prog.types[(29 : Nat)].bytes ≤ (140737488355328 : Nat)) = true := fits29 (show l.length + 1 ≤ 100000 by omega)
theorem Sim.put {n : Nat} {t : List Bk} {fl : List Int} {m : El T85} (h : Sim n t fl m) (b : Bk) : Sim n (insK keyB b t) fl (m.1, m.2.1 ++ [b], m.2.2) :=
  ⟨h.ord, h.bad, ((List.perm_append_singleton b m.2.1).trans (h.perm.cons b)).trans insK_perm.symm⟩
/-! ### taking -/
theorem play_take (K : Nat) (hK : 100 ≤ K) {n : Nat} {y : Yard} (h : Ok n y) {m : El T85} (hs : Sim n (tkY y) (flY y) m) (a : Int) :
    ∃ r y' m', F14 K a y = some (r, y') ∧ F56 K a m = some (r, m') ∧ Ok n y' ∧ Sim n (tkY y') (flY y') m' := by
  have hn := h.rep.le
  have hml := hs.len h.tk hn
  by_cases c : a < 0 ∨ a > (n : Int)
  · refine ⟨_, _, m, take_arg K h c, ?_, h, hs⟩
    unfold F56 G56 t56
    by_cases c1 : a < 0
    · rw [if_pos (decide_eq_true c1)]
    · rw [if_neg (by simpa using c1), if_pos (decide_eq_true (show a > m.1 by rw [hs.ord]; omega))]
  · obtain ⟨k, rfl⟩ : ∃ k : Nat, a = (k : Int) := ⟨a.toNat, by omega⟩
    have hk : k ≤ n := by omega
    obtain ⟨b, hb, h62⟩ := F62_eq K hK h hs (k : Int)
    have e56 : F56 K (k : Int) m = Option.bind (F62 K m (k : Int)) fun x0 => (if (!x0.2) = true then some (((0 : Int), (5 : Int)), m)
     else (if decide ((m.2.1.length + [(x0.1.1, (k : Int))].length) * Try.prog.types[(29 : Nat)].bytes ≤ (140737488355328 : Nat)) = true then some (((x0.1.1, (0 : Int)), m.1, m.2.1 ++ [(x0.1.1, (k : Int))], m.2.2))
      else none)) := by
      unfold F56 G56 t56
      rw [if_neg (by simp), if_neg (show ¬ decide ((k : Int) > m.1) = true by rw [hs.ord]; simpa using hk)]
    rw [e56, h62, Option.bind_some]
    rcases take_in K hK h hk with ⟨e, q, g1, g2, g3, g4, g5, y', g6, g7, g8, g9⟩ | ⟨g1, g2⟩
    · rcases best_end h.rep hb with ⟨rfl, b2⟩ | ⟨j, rfl, b2, b3⟩
      · rw [b2 e g1 g2] at g4
        cases g4
      · have hj := b3 e q g1 g2 g3 g4
        have epk : q * 2 ^ (e - k) * 2 ^ k = q * 2 ^ e := by rw [Nat.mul_assoc, ← Nat.pow_add, Nat.sub_add_cancel g1]
        refine ⟨_, _, (m.1, m.2.1 ++ [mkB k (q * 2 ^ (e - k))], m.2.2), g6, ?_, g7, by rw [g8, g9]; exact hs.put _⟩
        rw [if_neg (show ¬ ((j : Int) < 0) by omega), Int.toNat_natCast, hj, if_neg (show ¬ (!true) = true by decide), if_pos (snoc29 (Nat.le_trans hml (by decide)))]
        simp only [mkB, epk]
    · refine ⟨_, _, m, g2, ?_, h, hs⟩
      rcases hb with ⟨rfl, b2⟩ | ⟨j, rfl, b2, b3, b4, b5⟩
      · rw [if_pos (show (-1 : Int) < 0 by decide)]
        rfl
      · exfalso
        have hmem : (frL y).getD j (zEl T29) ∈ frL y := by rw [getD_lt b2]; exact List.getElem_mem b2
        obtain ⟨i, p, hi, hkb, hm⟩ := (mem_frL h.rep).1 hmem
        simp only [og] at b3
        rw [hkb] at b3
        have b3 : (k : Int) ≤ (i : Int) := b3
        have := ((h.rep.row i hi).mem' p).2 hm
        rw [g1 i (by omega) hi] at this
        cases this
/-! ### by the place -/
theorem play_at (K : Nat) (hK : 100 ≤ K) {n : Nat} {y : Yard} (h : Ok n y) {m : El T85} (hs : Sim n (tkY y) (flY y) m) (s o : Int) :
    ∃ r y' m', F36 K (s, o) y = some (r, y') ∧ F57 K (s, o) m = some (r, m') ∧ Ok n y' ∧ Sim n (tkY y') (flY y') m' := by
  have hn := h.rep.le
  have hpn : 2 ^ n ≤ 64 := pow_le6 hn
  have hml := hs.len h.tk hn
  have hbl : m.2.2.length = 2 ^ n := by
    have : List.length m.2.2 = 2 ^ n := by rw [hs.bad, tab_len]
    exact this
  by_cases c : 0 ≤ o ∧ o ≤ (n : Int) ∧ 0 ≤ s ∧ s < ((2 ^ n : Nat) : Int) ∧ s % ((2 ^ o.toNat : Nat) : Int) = 0
  · obtain ⟨c1, c2, c3, c4, c5⟩ := c
    obtain ⟨k, rfl⟩ : ∃ k : Nat, o = (k : Int) := ⟨o.toNat, by omega⟩
    obtain ⟨w, rfl⟩ : ∃ w : Nat, s = (w : Int) := ⟨s.toNat, by omega⟩
    rw [Int.toNat_natCast] at c5
    have hmod : w % 2 ^ k = 0 := by
      rw [← Int.natCast_emod] at c5
      exact Int.ofNat.inj c5
    have hw : w / 2 ^ k * 2 ^ k = w := Nat.div_mul_cancel (Nat.dvd_of_mod_eq_zero hmod)
    have hk : k ≤ n := by omega
    have hlt : w / 2 ^ k < 2 ^ (n - k) := by
      have h1 : w < 2 ^ n := Int.ofNat_lt.1 c4
      have h2 : 2 ^ n = 2 ^ (n - k) * 2 ^ k := by rw [← Nat.pow_add, Nat.sub_add_cancel hk]
      rw [h2] at h1
      exact (Nat.div_lt_iff_lt_mul (pos2 k)).2 h1
    have hpk := pos2 k
    have hne : (!((2 ^ k : Nat) : Int) == (0 : Int)) = true := by
      rw [beq_eq_false_iff_ne.2 (by omega)]; rfl
    have htm : (Int.tmod (w : Int) ((2 ^ k : Nat) : Int) != (0 : Int)) = false := by
      rw [Int.tmod_eq_emod_of_nonneg (by omega), c5]; rfl
    have hin := blk_in hk hlt
    rw [hw] at hin
    have hfi := full_iff (U := opn n (tkY y) (flY y)) (k := k) (p := w / 2 ^ k)
    have hat := takeAt_in K hK h hk hlt
    simp only [mkB, hw] at hat hfi
    have e57 : F57 K ((w : Int), (k : Int)) m = Option.bind (someB (∀ v, w ≤ v → v < w + 2 ^ k → opn n (tkY y) (flY y) v = true)) fun x3 => (if (!x3) = true then some (((5 : Int), m))
           else (if decide ((m.2.1.length + [((w : Int), (k : Int))].length) * Try.prog.types[(29 : Nat)].bytes ≤ (140737488355328 : Nat)) = true then some (((0 : Int), m.1, m.2.1 ++ [((w : Int), (k : Int))], m.2.2))
            else none)) := by
      unfold F57 G57 t57
      dsimp only
      rw [if_neg (by simp), if_neg (show ¬ decide ((k : Int) > m.1) = true by rw [hs.ord]; simpa using hk), if_neg (by simp), if_neg (show ¬ decide ((w : Int) ≥ (m.2.2.length : Int)) = true by rw [hbl, decide_eq_true_eq]; omega), F55_eq K hK k (by omega), Option.bind_some, if_pos hne, if_neg (by rw [htm]; exact Bool.false_ne_true), F60_eq K hK hn hs h.tk, Option.bind_some, Option.bind_some, F61_eq K hK hn _ hin]
    rw [e57]
    rcases hat with ⟨hF, y', g1, g2, g3, g4⟩ | ⟨hF, g1⟩
    · refine ⟨_, _, (m.1, m.2.1 ++ [((w : Int), (k : Int))], m.2.2), g1, ?_, g2, by rw [g3, g4]; exact hs.put _⟩
      rw [someB_yes (hfi.2 hF), Option.bind_some, if_neg (by decide), if_pos (snoc29 (Nat.le_trans hml (by decide)))]
    · refine ⟨_, _, m, g1, ?_, h, hs⟩
      rw [someB_no (fun h => hF (hfi.1 h)), Option.bind_some, if_pos (by decide)]
  · refine ⟨_, _, m, takeAt_arg K hK h c, ?_, h, hs⟩
    unfold F57 G57 t57
    dsimp only
    by_cases c1 : o < 0
    · rw [if_pos (decide_eq_true c1)]
    · rw [if_neg (by simpa using c1)]
      by_cases c2 : o > (n : Int)
      · rw [if_pos (decide_eq_true (show o > m.1 by rw [hs.ord]; exact c2))]
      · rw [if_neg (show ¬ decide (o > m.1) = true by rw [hs.ord]; simpa using c2)]
        by_cases c3 : s < 0
        · rw [if_pos (decide_eq_true c3)]
        · rw [if_neg (by simpa using c3)]
          by_cases c4 : s ≥ ((2 ^ n : Nat) : Int)
          · rw [if_pos (decide_eq_true (show s ≥ (m.2.2.length : Int) by rw [hbl]; exact c4))]
          · rw [if_neg (show ¬ decide (s ≥ (m.2.2.length : Int)) = true by rw [hbl]; simpa using c4)]
            obtain ⟨k, rfl⟩ : ∃ k : Nat, o = (k : Int) := ⟨o.toNat, by omega⟩
            have hpk := pos2 k
            have hne : (!((2 ^ k : Nat) : Int) == (0 : Int)) = true := by
              rw [beq_eq_false_iff_ne.2 (by omega)]; rfl
            have htm : (Int.tmod s ((2 ^ k : Nat) : Int) != (0 : Int)) = true := by
              rw [Int.tmod_eq_emod_of_nonneg (by omega), bne_iff_ne]
              exact fun h => c ⟨by omega, by omega, by omega, by omega, by rw [Int.toNat_natCast]; exact h⟩
            rw [F55_eq K hK k (by omega), Option.bind_some, if_pos hne, if_pos htm]
/-! ### giving back -/
theorem L58_eq (K : Nat) (x : Int) (m : El T85) (hl : List.length m.2.1 ≤ 1000) : ∀ (f : Nat) (pre suf : List Bk), m.2.1 = pre ++ suf → suf.length < f →
    L58_0 K x m f (pre.length : Int) (pre.filter fun b => decide (keyB b ≠ x)) = some (if (List.filter (fun b => decide (keyB b ≠ x)) m.2.1).length = List.length m.2.1 then ((4 : Int), m) else ((0 : Int), m.1, List.filter (fun b => decide (keyB b ≠ x)) m.2.1, m.2.2))
  | 0, pre, suf, e, h => by omega
  | f + 1, pre, [], e, h => by
    have := fin e
    simp only [L58_0, b58_0]
    rw [show ((m.2.1.length : Int)) = ((List.length m.2.1 : Nat) : Int) from rfl, this.1, if_neg Bool.false_ne_true, this.2]
    by_cases c : (List.filter (fun b => decide (keyB b ≠ x)) m.2.1).length = List.length m.2.1
    · rw [if_pos (by rw [c]; exact beq_self_eq_true _), if_pos c]
    · rw [if_neg (by rw [beq_iff_eq]; exact fun h => c (Int.ofNat.inj h)), if_neg c]
  | f + 1, pre, b :: suf, e, h => by
    obtain ⟨h1, h2, h3, h4, h5, h6⟩ := mid e (zEl T29) (by omega)
    have hfl : (pre.filter fun b => decide (keyB b ≠ x)).length ≤ pre.length := List.length_filter_le _ _
    have ih := L58_eq K x m hl f (pre ++ [b]) suf h5 (by simpa using h)
    simp only [L58_0, b58_0]
    rw [show ((m.2.1.length : Int)) = ((List.length m.2.1 : Nat) : Int) from rfl, h1, h2, if_pos rfl, if_pos rfl, show m.2.1.getD ((pre.length : Int)).toNat (zEl T29) = b from h3, h4]
    rw [List.filter_append] at ih
    by_cases c : keyB b = x
    · rw [if_neg (show ¬ (b.1 != x) = true by rw [bne_iff_ne]; exact fun h => h c)]
      have : [b].filter (fun b => decide (keyB b ≠ x)) = [] := by simp [c]
      rw [this, List.append_nil] at ih
      exact ih
    · rw [if_pos (show (b.1 != x) = true by rw [bne_iff_ne]; exact c), if_pos rfl, if_pos (snoc29 (Nat.le_trans (List.length_filter_le _ _) (by omega)))]
      have : [b].filter (fun b => decide (keyB b ≠ x)) = [b] := by simp [c]
      rw [this] at ih
      exact ih
theorem play_give (K : Nat) (hK : 100 ≤ K) {n : Nat} {y : Yard} (h : Ok n y) {m : El T85} (hs : Sim n (tkY y) (flY y) m) (x : Int) :
    ∃ r y' m', F17 K x y = some (r, y') ∧ F58 K x m = some (r, m') ∧ Ok n y' ∧ Sim n (tkY y') (flY y') m' := by
  have hn := h.rep.le
  have hml := hs.len h.tk hn
  have e58 : F58 K x m = some (if (List.filter (fun b => decide (keyB b ≠ x)) m.2.1).length = List.length m.2.1 then ((4 : Int), m) else ((0 : Int), m.1, List.filter (fun b => decide (keyB b ≠ x)) m.2.1, m.2.2)) := L58_eq K x m (by omega) K [] m.2.1 rfl (by omega)
  rw [e58]
  by_cases c : x ∈ (tkY y).map keyB
  · obtain ⟨y', g1, g2, g3, g4⟩ := give_yes K hK h c
    refine ⟨_, _, (m.1, List.filter (fun b => decide (keyB b ≠ x)) m.2.1, m.2.2), g1, ?_, g2, ?_⟩
    · rw [if_neg]
      intro hlen
      obtain ⟨b, hb, hbx⟩ := List.mem_map.1 ((hs.perm.map keyB).mem_iff.2 c)
      have := List.length_filter_eq_length_iff.1 hlen b hb
      rw [decide_eq_true_eq] at this
      exact this hbx
    · rw [g3, g4, delK_filter h.tk.inc c]
      exact ⟨hs.ord, hs.bad, hs.perm.filter _⟩
  · refine ⟨_, _, m, give_no K hK h c, ?_, h, hs⟩
    rw [if_pos]
    refine List.length_filter_eq_length_iff.2 fun b hb => ?_
    rw [decide_eq_true_eq]
    exact fun hbx => c (List.mem_map.2 ⟨b, hs.perm.mem_iff.1 hb, hbx⟩)
/-! ### failing, healing -/
theorem Sim.fl {n : Nat} {t : List Bk} {f g : List Int} {m : El T85} (h : Sim n t f m) {w : Nat} {b : Bool} (hg : ∀ v : Nat, v < 2 ^ n → ((v : Int) ∈ g ↔ if v = w then b = true else (v : Int) ∈ f)) : Sim n t g (m.1, m.2.1, List.set m.2.2 w b) :=
  ⟨h.ord, by
    show List.set m.2.2 w b = _
    rw [h.bad, tab_set]
    refine tab_ext fun v hv => ?_
    have := hg v hv
    by_cases c : v = w
    · rw [if_pos c] at this ⊢
      rw [Bool.eq_iff_iff, decide_eq_true_eq]
      exact this.symm
    · rw [if_neg c] at this ⊢
      exact decide_eq_decide.2 this.symm, h.perm⟩
theorem mark_in (K : Nat) {n : Nat} (hn : n ≤ 6) {t : List Bk} {fl : List Int} {m : El T85} (hs : Sim n t fl m) {w : Nat} (hw : w < 2 ^ n) (b : Bool) :
    F59 K (w : Int) b m = some (if b = decide ((w : Int) ∈ fl) then ((if b = true then (30 : Int) else (4 : Int)), m) else ((0 : Int), m.1, m.2.1, List.set m.2.2 w b)) := by
  have hpn : 2 ^ n ≤ 64 := pow_le6 hn
  have hbl : m.2.2.length = 2 ^ n := by
    have : List.length m.2.2 = 2 ^ n := by rw [hs.bad, tab_len]
    exact this
  have hget : m.2.2.getD w (zEl Ty.bool) = decide ((w : Int) ∈ fl) := by
    have : List.getD m.2.2 w false = decide ((w : Int) ∈ fl) := by rw [hs.bad, tab_get hw]
    exact this
  have d1 : decide ((w : Int) ≥ (m.2.2.length : Int)) = false := by rw [hbl]; exact decide_eq_false (by omega)
  have d2 : decide ((0 : Int) ≤ (w : Int) ∧ (w : Int) < (m.2.2.length : Int)) = true := by rw [hbl]; exact decide_eq_true (by omega)
  unfold F59 G59 t59
  rw [if_neg (by simp), d1, if_neg Bool.false_ne_true]
  simp only [d2, hget, if_true, Int.toNat_natCast]
  cases b <;> cases decide ((w : Int) ∈ fl) <;> rfl
theorem mark_arg (K : Nat) {n : Nat} {t : List Bk} {fl : List Int} {m : El T85} (hs : Sim n t fl m) {x : Int} (hx : ¬ (0 ≤ x ∧ x < ((2 ^ n : Nat) : Int))) (b : Bool) : F59 K x b m = some ((2 : Int), m) := by
  have hbl : m.2.2.length = 2 ^ n := by
    have : List.length m.2.2 = 2 ^ n := by rw [hs.bad, tab_len]
    exact this
  unfold F59 G59 t59
  by_cases c : x < 0
  · rw [if_pos (decide_eq_true c)]
  · rw [if_neg (by simpa using c), if_pos (decide_eq_true (show x ≥ (m.2.2.length : Int) by rw [hbl]; omega))]
theorem play_fail (K : Nat) (hK : 100 ≤ K) {n : Nat} {y : Yard} (h : Ok n y) {m : El T85} (hs : Sim n (tkY y) (flY y) m) (x : Int) :
    ∃ r y' m', F22 K x y = some (r, y') ∧ F59 K x true m = some (r, m') ∧ Ok n y' ∧ Sim n (tkY y') (flY y') m' := by
  have hn := h.rep.le
  by_cases c : 0 ≤ x ∧ x < ((2 ^ n : Nat) : Int)
  · obtain ⟨w, rfl⟩ : ∃ w : Nat, x = (w : Int) := ⟨x.toNat, by omega⟩
    have hw : w < 2 ^ n := by omega
    rw [mark_in K hn hs hw]
    by_cases cx : (w : Int) ∈ flY y
    · exact ⟨_, _, m, fail_twice K hK h hw cx, by rw [if_pos (decide_eq_true cx).symm, if_pos rfl], h, hs⟩
    · obtain ⟨y', g1, g2, g3, g4⟩ := fail_ok K hK h hw cx
      refine ⟨_, _, (m.1, m.2.1, List.set m.2.2 w true), g1, by rw [if_neg (by rw [decide_eq_false cx]; decide)], g2, ?_⟩
      rw [g3, g4]
      refine hs.fl fun v _ => ?_
      rw [mem_insK]
      by_cases c2 : v = w
      · rw [if_pos c2, c2]; simp
      · rw [if_neg c2]
        exact ⟨fun h => h.resolve_left (fun h => c2 (Int.ofNat.inj h)), .inr⟩
  · exact ⟨_, _, m, fail_arg K h c, mark_arg K hs c true, h, hs⟩
theorem play_heal (K : Nat) (hK : 100 ≤ K) {n : Nat} {y : Yard} (h : Ok n y) {m : El T85} (hs : Sim n (tkY y) (flY y) m) (x : Int) :
    ∃ r y' m', F23 K x y = some (r, y') ∧ F59 K x false m = some (r, m') ∧ Ok n y' ∧ Sim n (tkY y') (flY y') m' := by
  have hn := h.rep.le
  by_cases c : 0 ≤ x ∧ x < ((2 ^ n : Nat) : Int)
  · obtain ⟨w, rfl⟩ : ∃ w : Nat, x = (w : Int) := ⟨x.toNat, by omega⟩
    have hw : w < 2 ^ n := by omega
    rw [mark_in K hn hs hw]
    by_cases cx : (w : Int) ∈ flY y
    · obtain ⟨y', g1, g2, g3, g4⟩ := heal_ok K hK h hw cx
      refine ⟨_, _, (m.1, m.2.1, List.set m.2.2 w false), g1, by rw [if_neg (by rw [decide_eq_true cx]; decide)], g2, ?_⟩
      rw [g3, g4]
      refine hs.fl fun v _ => ?_
      rw [mem_delK h.fl.inc (by simpa using cx)]
      by_cases c2 : v = w
      · rw [if_pos c2, c2]; simp
      · rw [if_neg c2]
        exact ⟨fun h => h.1, fun h => ⟨h, fun h => c2 (Int.ofNat.inj h)⟩⟩
    · exact ⟨_, _, m, heal_none K hK h hw cx, by rw [if_pos (decide_eq_false cx).symm, if_neg (by decide)], h, hs⟩
  · exact ⟨_, _, m, heal_arg K h c, mark_arg K hs c false, h, hs⟩
/-! ### any act -/
theorem play (K : Nat) (hK : 100 ≤ K) {n : Nat} {y : Yard} (h : Ok n y) {m : El T85} (hs : Sim n (tkY y) (flY y) m) (x : El T57) :
    ∃ r y' m', F28 K x y = some (r, y') ∧ F29 K x m = some (r, m') ∧ Ok n y' ∧ Sim n (tkY y') (flY y') m' := by
  obtain ⟨r1, y1, m1, a1, b1, c1, d1⟩ := play_take K hK h hs x.2.1
  obtain ⟨r2, y2, m2, a2, b2, c2, d2⟩ := play_at K hK h hs x.2.2 x.2.1
  obtain ⟨r3, y3, m3, a3, b3, c3, d3⟩ := play_give K hK h hs x.2.2
  obtain ⟨r4, y4, m4, a4, b4, c4, d4⟩ := play_fail K hK h hs x.2.2
  obtain ⟨r5, y5, m5, a5, b5, c5, d5⟩ := play_heal K hK h hs x.2.2
  unfold F28 G28 t28 F29 G29 t29
  simp only [a1, a2, a3, a4, a5, b1, b2, b3, b4, b5, Option.bind_some]
  (repeat' split)
  · exact ⟨_, _, _, rfl, rfl, c1, d1⟩
  · exact ⟨_, _, _, rfl, rfl, c1, d1⟩
  · exact ⟨_, _, _, rfl, rfl, c1, d1⟩
  · exact ⟨_, _, _, rfl, rfl, c2, d2⟩
  · exact ⟨_, _, _, rfl, rfl, c3, d3⟩
  · exact ⟨_, _, _, rfl, rfl, c3, d3⟩
  · exact ⟨_, _, _, rfl, rfl, c4, d4⟩
  · exact ⟨_, _, _, rfl, rfl, c5, d5⟩
/-! ### parts of a row by their keys -/
abbrev ltK {α : Type} (key : α → Int) (x : Int) (l : List α) : List α := l.filter fun b => decide (key b < x)
abbrev eqK {α : Type} (key : α → Int) (x : Int) (l : List α) : List α := l.filter fun b => decide (key b = x)
theorem lt_eqK {α : Type} {key : α → Int} {l : List α} (h : IncK key l) (w : Nat) : ltK key (w : Int) l ++ eqK key (w : Int) l = ltK key ((w + 1 : Nat) : Int) l := by
  refine incK_ext (key := key) ?_ (List.Pairwise.sublist List.filter_sublist h) fun a => ?_
  · refine List.pairwise_append.2 ⟨List.Pairwise.sublist List.filter_sublist h, List.Pairwise.sublist List.filter_sublist h, fun a ha b hb => ?_⟩
    have h1 := of_decide_eq_true (List.mem_filter.1 ha).2
    have h2 := of_decide_eq_true (List.mem_filter.1 hb).2
    omega
  · simp only [List.mem_append, List.mem_filter, decide_eq_true_eq]
    constructor
    · rintro (⟨h1, h2⟩ | ⟨h1, h2⟩)
      · exact ⟨h1, by omega⟩
      · exact ⟨h1, by omega⟩
    · rintro ⟨h1, h2⟩
      by_cases c : key a < (w : Int)
      · exact .inl ⟨h1, c⟩
      · exact .inr ⟨h1, by omega⟩
theorem eqK_perm {α : Type} {key : α → Int} {l m : List α} (h : IncK key l) (hp : List.Perm m l) (x : Int) : eqK key x m = eqK key x l := by
  have hp2 : List.Perm (eqK key x m) (eqK key x l) := hp.filter _
  have hs : IncK key (eqK key x l) := List.Pairwise.sublist List.filter_sublist h
  have hx : ∀ a ∈ eqK key x l, key a = x := fun a ha => of_decide_eq_true (List.mem_filter.1 ha).2
  generalize eqK key x l = L at hp2 hs hx
  match L, hp2, hs, hx with
  | [], hp2, _, _ => exact hp2.eq_nil
  | [a], hp2, _, _ => exact List.perm_singleton.1 hp2
  | a :: b :: L, hp2, hs, hx =>
    have h1 := (List.pairwise_cons.1 hs).1 b (by simp)
    have h2 := hx a (by simp)
    have h3 := hx b (by simp)
    omega
theorem ltK_zero {α : Type} {key : α → Int} {l : List α} (h : ∀ a ∈ l, 0 ≤ key a) : ltK key ((0 : Nat) : Int) l = [] := by
  refine List.filter_eq_nil_iff.2 fun a ha => ?_
  have := h a ha
  rw [decide_eq_true_eq]
  omega
theorem ltK_all {α : Type} {key : α → Int} {l : List α} {x : Int} (h : ∀ a ∈ l, key a < x) : ltK key x l = l :=
  List.filter_eq_self.2 fun a ha => decide_eq_true (h a ha)
theorem filter_le {α : Type} {l : List α} {p : α → Bool} {n : Nat} (h : l.length ≤ n) : (l.filter p).length ≤ n := Nat.le_trans (List.length_filter_le _ _) h
/-! ### all taken -/
theorem L31_1_eq (K : Nat) (m : El T85) (hl : List.length m.2.1 ≤ 64) (w : Nat) (r0 : Int → List Bk → Option (List (El T29))) (A : List Bk) (hA : A.length ≤ 64) : ∀ (f : Nat) (pre suf : List Bk), m.2.1 = pre ++ suf → suf.length < f →
    L31_1 K m r0 f (w : Int) (pre.length : Int) (A ++ eqK keyB (w : Int) pre) = r0 (IntKind.i64.wrap ((w : Int) + 1)) (A ++ eqK keyB (w : Int) m.2.1)
  | 0, pre, suf, e, h => by omega
  | f + 1, pre, [], e, h => by
    have := fin e
    simp only [L31_1, b31_1]
    rw [this.1, if_neg Bool.false_ne_true, this.2]
  | f + 1, pre, b :: suf, e, h => by
    obtain ⟨h1, h2, h3, h4, h5, h6⟩ := mid e (zEl T29) (by omega)
    have ih := L31_1_eq K m hl w r0 A hA f (pre ++ [b]) suf h5 (by simpa using h)
    have hpl : (eqK keyB (w : Int) pre).length ≤ 64 := filter_le (by omega)
    simp only [L31_1, b31_1]
    rw [h1, h2, if_pos rfl, if_pos rfl, h3, h4]
    rw [eqK, List.filter_append] at ih
    by_cases c : keyB b = (w : Int)
    · rw [if_pos (show (b.1 == (w : Int)) = true from beq_iff_eq.2 c), if_pos rfl, if_pos (snoc29 (by rw [List.length_append]; omega))]
      have : [b].filter (fun b => decide (keyB b = (w : Int))) = [b] := by simp [c]
      rw [this, ← List.append_assoc] at ih
      exact ih
    · rw [if_neg (show ¬ (b.1 == (w : Int)) = true by rw [beq_iff_eq]; exact c)]
      have : [b].filter (fun b => decide (keyB b = (w : Int))) = [] := by simp [c]
      rw [this, List.append_nil] at ih
      exact ih
theorem L31_0_eq (K : Nat) (hK : 100 ≤ K) {n : Nat} (hn : n ≤ 6) {t : List Bk} {fl : List Int} {m : El T85} (hs : Sim n t fl m) (ht : Tk n t) : ∀ (f w : Nat), 2 ^ n - w < f → w ≤ 2 ^ n → L31_0 K m f (w : Int) (ltK keyB (w : Int) t) = some t
  | 0, w, h, _ => by omega
  | f + 1, w, h, hw => by
    have hpn : 2 ^ n ≤ 64 := pow_le6 hn
    have hml := hs.len ht hn
    have htl := ht.len hn
    have hbl : List.length m.2.2 = 2 ^ n := by rw [hs.bad, tab_len]
    simp only [L31_0, b31_0]
    by_cases c : w < 2 ^ n
    · rw [if_pos (by rw [hbl]; exact decide_eq_true (by omega))]
      have := L31_1_eq K m hml w (L31_0 K m f) (ltK keyB (w : Int) t) (filter_le htl) K [] m.2.1 rfl (by omega)
      rw [show ltK keyB (w : Int) t ++ eqK keyB (w : Int) [] = ltK keyB (w : Int) t from List.append_nil _] at this
      refine Eq.trans this ?_
      rw [i64_in (by omega) (by omega), eqK_perm ht.inc hs.perm, lt_eqK ht.inc]
      exact L31_0_eq K hK hn hs ht f (w + 1) (by omega) (by omega)
    · have : w = 2 ^ n := by omega
      subst this
      rw [if_neg (by rw [hbl]; simp)]
      congr 1
      refine ltK_all fun b hb => ?_
      obtain ⟨k, p, rfl, hk, hp⟩ := ht.blk b hb
      exact Int.ofNat_lt.2 (start_lt hn hk hp).2.2
theorem F31_eq (K : Nat) (hK : 100 ≤ K) {n : Nat} (hn : n ≤ 6) {t : List Bk} {fl : List Int} {m : El T85} (hs : Sim n t fl m) (ht : Tk n t) : F31 K m = some t := by
  have hpn : 2 ^ n ≤ 64 := pow_le6 hn
  have := L31_0_eq K hK hn hs ht K 0 (by omega) (Nat.zero_le _)
  rw [ltK_zero (fun b hb => by obtain ⟨k, p, rfl, _, _⟩ := ht.blk b hb; exact Int.natCast_nonneg _)] at this
  exact this
/-! ### all failed -/
theorem L32_0_eq (K : Nat) (hK : 100 ≤ K) {n : Nat} (hn : n ≤ 6) {t : List Bk} {fl : List Int} {m : El T85} (hs : Sim n t fl m) (hf : Fl n fl) : ∀ (f w : Nat), 2 ^ n - w < f → w ≤ 2 ^ n → L32_0 K m f (w : Int) (ltK idI (w : Int) fl) = some fl
  | 0, w, h, _ => by omega
  | f + 1, w, h, hw => by
    have hpn : 2 ^ n ≤ 64 := pow_le6 hn
    have hfl := hf.len hn
    have hbl : List.length m.2.2 = 2 ^ n := by rw [hs.bad, tab_len]
    have ew : IntKind.i64.wrap ((w : Int) + 1) = ((w + 1 : Nat) : Int) := by rw [i64_in (by omega) (by omega)]; omega
    simp only [L32_0, b32_0]
    by_cases c : w < 2 ^ n
    · have hget : List.getD m.2.2 w (zEl Ty.bool) = decide ((w : Int) ∈ fl) := by
        have : List.getD m.2.2 w false = decide ((w : Int) ∈ fl) := by rw [hs.bad, tab_get c]
        exact this
      have ih := L32_0_eq K hK hn hs hf f (w + 1) (by omega) (by omega)
      rw [← lt_eqK hf.inc] at ih
      rw [if_pos (by rw [hbl]; exact decide_eq_true (by omega)), if_pos (by rw [hbl]; exact decide_eq_true (by omega)), Int.toNat_natCast, hget, ew]
      by_cases cm : (w : Int) ∈ fl
      · have hsn : decide (((ltK idI (w : Int) fl).length + [(w : Int)].length) * Try.prog.types[(3 : Nat)].bytes ≤ (140737488355328 : Nat)) = true := fits3 (show (ltK idI (w : Int) fl).length + 1 ≤ 100000 from Nat.le_trans (Nat.succ_le_succ (filter_le hfl)) (by decide))
        rw [if_pos (decide_eq_true cm), if_pos hsn]
        have : eqK idI (w : Int) fl = [(w : Int)] := by
          refine incK_ext (key := idI) (List.Pairwise.sublist List.filter_sublist hf.inc) (by simp [IncK]) fun a => ?_
          simp only [List.mem_filter, decide_eq_true_eq, List.mem_singleton]
          exact ⟨fun h => h.2, fun h => ⟨by rw [h]; exact cm, h⟩⟩
        rw [this] at ih
        exact ih
      · rw [if_neg (by rw [decide_eq_true_eq]; exact cm)]
        have : eqK idI (w : Int) fl = [] := List.filter_eq_nil_iff.2 fun a ha => by
          rw [decide_eq_true_eq]
          exact fun h => cm (by rw [← show a = (w : Int) from h]; exact ha)
        rw [this, List.append_nil] at ih
        exact ih
    · have : w = 2 ^ n := by omega
      subst this
      rw [if_neg (by rw [hbl]; simp)]
      congr 1
      refine ltK_all fun x hx => ?_
      obtain ⟨v, rfl, hv⟩ := hf.lim x hx
      exact Int.ofNat_lt.2 hv
theorem F32_eq (K : Nat) (hK : 100 ≤ K) {n : Nat} (hn : n ≤ 6) {t : List Bk} {fl : List Int} {m : El T85} (hs : Sim n t fl m) (hf : Fl n fl) : F32 K m = some fl := by
  have hpn : 2 ^ n ≤ 64 := pow_le6 hn
  have := L32_0_eq K hK hn hs hf K 0 (by omega) (Nat.zero_le _)
  rw [ltK_zero (fun x hx => by obtain ⟨v, rfl, _⟩ := hf.lim x hx; exact Int.natCast_nonneg _)] at this
  exact this
/-! ### who holds a worker -/
theorem held_perm {n : Nat} {t l : List Bk} (ht : Tk n t) (hp : List.Perm l t) (x : Int) : heldS l x = heldS t x := by
  cases c : l.find? (fun b => inI b x) with
  | some b =>
    rw [held_of ht (hp.mem_iff.1 (List.mem_of_find?_eq_some c)) (by simpa using List.find?_some c)]
    unfold heldS
    rw [c]
  | none =>
    have : t.find? (fun b => inI b x) = none := List.find?_eq_none.2 fun b hb => List.find?_eq_none.1 c b (hp.mem_iff.2 hb)
    unfold heldS
    rw [c, this]
theorem L33_eq (K : Nat) (hK : 100 ≤ K) {n : Nat} (hn : n ≤ 6) (m : El T85) (hl : List.length m.2.1 ≤ 64) (hm : ∀ b ∈ (m.2.1 : List Bk), isBlk n b) (x : Int) : ∀ (f : Nat) (pre suf : List Bk), m.2.1 = pre ++ suf → suf.length < f → (∀ b ∈ pre, inI b x = false) →
    L33_0 (F55 K) K m x f (pre.length : Int) = some (heldS m.2.1 x)
  | 0, pre, suf, e, h, hp => by omega
  | f + 1, pre, [], e, h, hp => by
    have := fin e
    have hnone : List.find? (fun b => inI b x) m.2.1 = none := by
      rw [List.find?_eq_none, ← this.2]
      intro b hb
      rw [hp b hb]; exact Bool.false_ne_true
    unfold heldS
    rw [hnone]
    simp only [L33_0, b33_0]
    rw [this.1]
    rfl
  | f + 1, pre, b :: suf, e, h, hp => by
    obtain ⟨h1, h2, h3, h4, h5, h6⟩ := mid e (zEl T29) (by omega)
    have hb := hm b (by rw [e]; simp)
    have go : inI b x = false → L33_0 (F55 K) K m x f ((pre ++ [b]).length : Int) = some (heldS m.2.1 x) := fun c =>
      L33_eq K hK hn m hl hm x f (pre ++ [b]) suf h5 (by simpa using h) fun d hd => by
        rcases List.mem_append.1 hd with hd | hd
        · exact hp d hd
        · rw [List.mem_singleton.1 hd]; exact c
    have yes : inI b x = true → heldS m.2.1 x = (b, true) := fun c => by
      have : List.find? (fun b => inI b x) m.2.1 = some b := by
        rw [e, List.find?_append]
        have : pre.find? (fun b => inI b x) = none := by
          rw [List.find?_eq_none]
          intro b hb
          rw [hp b hb]; exact Bool.false_ne_true
        rw [this]
        simp [c]
      unfold heldS
      rw [this]
    obtain ⟨k, p, rfl, hk, hpk⟩ := hb
    obtain ⟨s1, s2, s3⟩ := start_lt hn hk hpk
    have hpe : 2 ^ k ≤ 64 := pow_le6 (by omega)
    have hpo := pos2 k
    have e1 : IntKind.i64.wrap (((p * 2 ^ k : Nat) : Int) + ((2 ^ k : Nat) : Int)) = ((p * 2 ^ k + 2 ^ k : Nat) : Int) := by rw [i64_in (by omega) (by omega)]; omega
    have hii : inI (mkB k p) x = decide (((p * 2 ^ k : Nat) : Int) ≤ x ∧ x < ((p * 2 ^ k : Nat) : Int) + ((2 ^ k : Nat) : Int)) := rfl
    simp only [L33_0, b33_0]
    rw [h1, h2, if_pos rfl, if_pos rfl, h3, h4]
    by_cases c1 : x ≥ ((p * 2 ^ k : Nat) : Int)
    · rw [if_pos (show decide (x ≥ ((p * 2 ^ k : Nat) : Int)) = true from decide_eq_true c1), if_pos rfl, if_pos rfl]
      rw [show F55 K (mkB k p).2 = some ((2 ^ k : Nat) : Int) from F55_eq K hK k (by omega), Option.bind_some]
      by_cases c2 : x < ((p * 2 ^ k + 2 ^ k : Nat) : Int)
      · rw [if_pos (show decide (x < IntKind.i64.wrap (((p * 2 ^ k : Nat) : Int) + ((2 ^ k : Nat) : Int))) = true by rw [e1]; exact decide_eq_true c2), if_pos rfl, yes (by rw [hii]; exact decide_eq_true (by omega))]
      · rw [if_neg (show ¬ decide (x < IntKind.i64.wrap (((p * 2 ^ k : Nat) : Int) + ((2 ^ k : Nat) : Int))) = true by rw [e1, decide_eq_true_eq]; exact c2)]
        exact go (by rw [hii]; exact decide_eq_false (by omega))
    · rw [if_neg (show ¬ decide (x ≥ ((p * 2 ^ k : Nat) : Int)) = true by rw [decide_eq_true_eq]; exact c1)]
      exact go (by rw [hii]; exact decide_eq_false (by omega))
theorem F33_eq (K : Nat) (hK : 100 ≤ K) {n : Nat} (hn : n ≤ 6) {t : List Bk} {fl : List Int} {m : El T85} (hs : Sim n t fl m) (ht : Tk n t) (x : Int) : F33 K m x = some (heldS t x) := by
  have hml := hs.len ht hn
  rw [← held_perm ht hs.perm x]
  exact L33_eq K hK hn m hml (fun b hb => ht.blk b (hs.perm.mem_iff.1 hb)) x K [] m.2.1 rfl (by omega) (fun b hb => by cases hb)
/-! ### what fits -/
theorem F34_eq (K : Nat) (hK : 100 ≤ K) {n : Nat} {y : Yard} (h : Ok n y) {m : El T85} (hs : Sim n (tkY y) (flY y) m) (a : Int) : ∃ b, F13 K y a = some b ∧ F34 K m a = some b := by
  have hn := h.rep.le
  obtain ⟨b, hb, h62⟩ := F62_eq K hK h hs a
  by_cases c : a < 0 ∨ a > (n : Int)
  · refine ⟨false, fits_out K h c, ?_⟩
    unfold F34 G34 t34
    rw [h62, Option.bind_some]
    have : (if decide (a ≥ 0) = true then some (decide (a ≤ m.1)) else some false) = some false := by
      by_cases c1 : a ≥ 0
      · rw [if_pos (decide_eq_true c1), hs.ord, decide_eq_false (by omega)]
      · rw [if_neg (by simpa using c1)]
    rw [this]
    exact ite_self _
  · obtain ⟨k, rfl⟩ : ∃ k : Nat, a = (k : Int) := ⟨a.toNat, by omega⟩
    have hk : k ≤ n := by omega
    have hd : decide ((k : Int) ≤ m.1) = true := by rw [hs.ord]; exact decide_eq_true (by omega)
    refine ⟨fitS n y k, fits_in K hK h hk, ?_⟩
    unfold F34 G34 t34
    rw [h62, Option.bind_some]
    rcases hb with ⟨rfl, b2⟩ | ⟨j, rfl, b2, b3, b4, b5⟩
    · have : fitS n y k = false := fitS_no fun i hi hin => by
        cases ce : frY y i with
        | nil => rfl
        | cons s l =>
          exfalso
          obtain ⟨q, rfl, hq⟩ := ((h.rep.row i hin).mem s).1 (by rw [ce]; simp)
          obtain ⟨m, hm, hme⟩ := List.getElem_of_mem ((mem_frL h.rep).2 ⟨i, q, hin, rfl, hq⟩)
          have := b2 m hm
          simp only [og] at this
          rw [getD_lt hm, hme] at this
          have : (i : Int) < (k : Int) := this
          omega
      rw [this, if_pos (show (-1 : Int) < 0 by decide)]
      rfl
    · have : fitS n y k = true := by
        have hmem : (frL y).getD j (zEl T29) ∈ frL y := by rw [getD_lt b2]; exact List.getElem_mem b2
        obtain ⟨i, p, hi, hkb, hm⟩ := (mem_frL h.rep).1 hmem
        simp only [og] at b3
        rw [hkb] at b3
        have b3 : (k : Int) ≤ (i : Int) := b3
        have hmm := ((h.rep.row i hi).mem' p).2 hm
        exact fitS_yes (by omega) hi fun hnil => by rw [hnil] at hmm; cases hmm
      rw [this, if_neg (show ¬ ((j : Int) < 0) by omega)]
      dsimp only
      rw [if_pos rfl, if_pos (decide_eq_true (by omega)), hd]
theorem L1058_eq (K : Nat) (x : Int) (m : Int × (List (El T29) × List Bool)) : ∀ (f : Nat) (i : Int) (l : List (El T29)), L1058_0 K x m f i l = L58_0 K x m f i l
  | 0, _, _ => rfl
  | f + 1, i, l => by
    simp only [L1058_0, L58_0, b1058_0, b58_0, L1058_eq K x m f]
theorem F1058_eq : F1058 = F58 := by
  funext K x m
  exact L1058_eq K x m K 0 []
theorem L35_eq (K : Nat) (hK : 100 ≤ K) (m0 : El T85) (a : Int) (g : List Int) (hg : g.length ≤ 1000) {n : Nat} : ∀ (f : Nat) (pre suf : List Int) (y : Yard) (m : El T85), g = pre ++ suf → suf.length < f → Ok n y → Sim n (tkY y) (flY y) m →
    ∃ b, Option.bind (giveL K suf y) (fun z => F13 K z a) = some b ∧ L35_0 (F1058 K) (F34 K) K m0 a g f (pre.length : Int) m = some b
  | 0, pre, suf, y, m, e, h, _, _ => by omega
  | f + 1, pre, [], y, m, e, h, hy, hs => by
    have := fin e
    obtain ⟨b, h1, h2⟩ := F34_eq K hK hy hs a
    refine ⟨b, h1, ?_⟩
    simp only [L35_0, b35_0]
    rw [this.1, if_neg Bool.false_ne_true, h2]
    rfl
  | f + 1, pre, x :: suf, y, m, e, h, hy, hs => by
    obtain ⟨h1, h2, h3, h4, h5, h6⟩ := mid e (zEl (Ty.int IntKind.i64)) (by omega)
    obtain ⟨r, y', m', g1, g2, g3, g4⟩ := play_give K hK hy hs x
    obtain ⟨b, i1, i2⟩ := L35_eq K hK m0 a g hg f (pre ++ [x]) suf y' m' h5 (by simpa using h) g3 g4
    refine ⟨b, ?_, ?_⟩
    · show Option.bind (Option.bind (F17 K x y) fun r => giveL K suf r.2) _ = _
      rw [g1]
      exact i1
    · simp only [L35_0, b35_0]
      rw [h1, h2, if_pos rfl, if_pos rfl, h3, F1058_eq, g2, Option.bind_some, h4, ← F1058_eq]
      exact i2
theorem F35_eq (K : Nat) (hK : 2000 ≤ K) {n : Nat} {y : Yard} (h : Ok n y) {m : El T85} (hs : Sim n (tkY y) (flY y) m) (a : Int) (g : List Int) (hg : g.length ≤ 1000) : ∃ b, F20 K y a g = some b ∧ F35 K m a g = some b := by
  rw [F20_eq K hK h a g hg]
  exact L35_eq K (by omega) m a g hg K [] g y m rfl (by omega) h hs
theorem L24v_eq (K : Nat) (l m : List Int) (hl : l.length ≤ 100000) : ∀ (n : Nat) (pre s t : List Int), l = pre ++ s → m = pre ++ t → s.length = t.length → s.length < n →
    L24_0 K l m n (pre.length : Int) = some (decide (s = t))
  | 0, pre, s, t, e, e', hs, h => by omega
  | n + 1, pre, [], t, e, e', hs, h => by
    have := fin e
    have ht : t = [] := List.length_eq_zero_iff.1 hs.symm
    simp only [L24_0, b24_0, this.1, ht]
    rfl
  | n + 1, pre, x :: xs, [], e, e', hs, h => by cases hs
  | n + 1, pre, x :: xs, y :: ys, e, e', hs, h => by
    have hll : l.length = m.length := by rw [e, e', List.length_append, List.length_append, hs]
    obtain ⟨h1, h2, h3, h4, h5, h6⟩ := mid e (zEl (Ty.int IntKind.i64)) (by omega)
    obtain ⟨k1, k2, k3, k4, k5, k6⟩ := mid e' (zEl (Ty.int IntKind.i64)) (by omega)
    by_cases c : x = y
    · subst c
      have ih := L24v_eq K l m hl n (pre ++ [x]) xs ys h5 k5 (by simpa using hs) (by simpa using h)
      simp only [L24_0, b24_0, h1, h2, k2, if_true, h3, k3, h4]
      rw [if_neg (by simp), ih]
      congr 1
      exact decide_eq_decide.2 ⟨fun h => by rw [h], fun h => (List.cons.inj h).2⟩
    · simp only [L24_0, b24_0, h1, h2, k2, if_true, h3, k3]
      rw [if_pos (bne_iff_ne.2 c), decide_eq_false (fun h => c (List.cons.inj h).1)]
theorem F24v_eq (K : Nat) (l m : List Int) (hl : l.length ≤ 100000) (hK : l.length < K) : F24 K l m = some (decide (l = m)) := by
  unfold F24 G24 t24
  by_cases c : l.length = m.length
  · rw [if_neg (by simp [c])]
    exact L24v_eq K l m hl K [] l m rfl rfl c hK
  · rw [if_pos (by rw [bne_iff_ne]; exact fun h => c (Int.ofNat.inj h)), decide_eq_false (fun h => c (by rw [h]))]
theorem L9_3_eq (K : Nat) (n : Int) (l : List (El T57)) (k : Int) (g : List (El (.int .i64))) (r0 : Int → Int → Int → List Int → List Int → List Int → List Int → List Int → List Int → List Int → List Int → List Int → List Int → List Int → List Bk → List Int → List Bk → List Bool → Option Bool) (p13 : Int) (e1 e2 : El T29) (n1 n2 : Int) (A : List Bk) (B : List Bk) (C D : List Bk) (E : List Int) (a0' a1' a2' a3' a4' a5' a6' a7' a8' a9' a10' : List Int) (tk : List Bk) (fl : List Int) (Lm : List Bk) (Bd : List Bool) (hK : 2000 ≤ K) : ∀ (f c : Nat) (G : List Int), G.length ≤ 1000 → G.length < f + c → c ≤ G.length →
    L9_3 (F15 K) (F4025 K) (F4026 K) (F27 K) (F28 K) (F29 K) (F12 K) (F19 K) (F21 K) (F30 K) (F18 K) (F31 K) (F32 K) (F24 K) (F16 K) (F33 K) (F13 K) (F34 K) (F20 K) (F35 K) K n l k g r0 f p13 (c : Int) e1 e2 n1 n2 A B G C D E a0' a1' a2' a3' a4' a5' a6' a7' a8' a9' a10' tk fl Lm Bd = r0 (IntKind.i64.wrap (p13 + 1)) n1 n2 a0' a1' a2' a3' a4' a5' a6' a7' a8' a9' a10' tk fl Lm Bd
  | 0, c, G, h0, h1, h2 => by omega
  | f + 1, c, G, h0, h1, h2 => by
    simp only [L9_3, b9_3]
    by_cases cc : c < G.length
    · rw [if_pos (decide_eq_true (by omega)), if_pos (decide_eq_true (by omega)), Int.toNat_natCast, i64_in (show -9223372036854775808 ≤ (c : Int) + 1 by omega) (by omega)]
      exact L9_3_eq K n l k g r0 p13 e1 e2 n1 n2 A B C D E a0' a1' a2' a3' a4' a5' a6' a7' a8' a9' a10' tk fl Lm Bd hK f (c + 1) _ (by rw [List.length_set]; exact h0) (by rw [List.length_set]; omega) (by rw [List.length_set]; omega)
    · rw [if_neg (by rw [decide_eq_true_eq]; omega)]
theorem L9_2_eq (K : Nat) (n : Int) (l : List (El T57)) (k : Int) (g : List (El (.int .i64))) (r0 : Int → Int → Int → List Int → List Int → List Int → List Int → List Int → List Int → List Int → List Int → List Int → List Int → List Int → List Bk → List Int → List Bk → List Bool → Option Bool) (p13 : Int) (e1 e2 : El T29) (n1 n2 : Int) (A : List Bk) (G : List Int) (C D : List Bk) (E : List Int) (a0' a1' a2' a3' a4' a5' a6' a7' a8' a9' a10' : List Int) (tk : List Bk) (fl : List Int) (Lm : List Bk) (Bd : List Bool) (hG : G.length ≤ 1000) (hK : 2000 ≤ K) : ∀ (f c : Nat) (B : List Bk), B.length ≤ 1000 → B.length < f + c → c ≤ B.length →
    L9_2 (F15 K) (F4025 K) (F4026 K) (F27 K) (F28 K) (F29 K) (F12 K) (F19 K) (F21 K) (F30 K) (F18 K) (F31 K) (F32 K) (F24 K) (F16 K) (F33 K) (F13 K) (F34 K) (F20 K) (F35 K) K n l k g r0 f p13 (c : Int) e1 e2 n1 n2 A B G C D E a0' a1' a2' a3' a4' a5' a6' a7' a8' a9' a10' tk fl Lm Bd = r0 (IntKind.i64.wrap (p13 + 1)) n1 n2 a0' a1' a2' a3' a4' a5' a6' a7' a8' a9' a10' tk fl Lm Bd
  | 0, c, B, h0, h1, h2 => by omega
  | f + 1, c, B, h0, h1, h2 => by
    simp only [L9_2, b9_2]
    by_cases cc : c < B.length
    · rw [if_pos (decide_eq_true (by omega)), if_pos (decide_eq_true (by omega)), Int.toNat_natCast, i64_in (show -9223372036854775808 ≤ (c : Int) + 1 by omega) (by omega)]
      exact L9_2_eq K n l k g r0 p13 e1 e2 n1 n2 A G C D E a0' a1' a2' a3' a4' a5' a6' a7' a8' a9' a10' tk fl Lm Bd hG hK f (c + 1) _ (by rw [List.length_set]; exact h0) (by rw [List.length_set]; omega) (by rw [List.length_set]; omega)
    · rw [if_neg (by rw [decide_eq_true_eq]; omega)]
      exact L9_3_eq K n l k g r0 p13 e1 e2 n1 n2 A B C D E a0' a1' a2' a3' a4' a5' a6' a7' a8' a9' a10' tk fl Lm Bd hK K 0 G hG (by omega) (Nat.zero_le _)
theorem L9_1_eq (K : Nat) (n : Int) (l : List (El T57)) (k : Int) (g : List (El (.int .i64))) (r0 : Int → Int → Int → List Int → List Int → List Int → List Int → List Int → List Int → List Int → List Int → List Int → List Int → List Int → List Bk → List Int → List Bk → List Bool → Option Bool) (p13 : Int) (e1 e2 : El T29) (n1 n2 : Int) (B : List Bk) (G : List Int) (C D : List Bk) (E : List Int) (a0' a1' a2' a3' a4' a5' a6' a7' a8' a9' a10' : List Int) (tk : List Bk) (fl : List Int) (Lm : List Bk) (Bd : List Bool) (hB : B.length ≤ 1000) (hG : G.length ≤ 1000) (hK : 2000 ≤ K) : ∀ (f c : Nat) (A : List Bk), A.length ≤ 1000 → A.length < f + c → c ≤ A.length →
    L9_1 (F15 K) (F4025 K) (F4026 K) (F27 K) (F28 K) (F29 K) (F12 K) (F19 K) (F21 K) (F30 K) (F18 K) (F31 K) (F32 K) (F24 K) (F16 K) (F33 K) (F13 K) (F34 K) (F20 K) (F35 K) K n l k g r0 f p13 (c : Int) e1 e2 n1 n2 A B G C D E a0' a1' a2' a3' a4' a5' a6' a7' a8' a9' a10' tk fl Lm Bd = r0 (IntKind.i64.wrap (p13 + 1)) n1 n2 a0' a1' a2' a3' a4' a5' a6' a7' a8' a9' a10' tk fl Lm Bd
  | 0, c, A, h0, h1, h2 => by omega
  | f + 1, c, A, h0, h1, h2 => by
    simp only [L9_1, b9_1]
    by_cases cc : c < A.length
    · rw [if_pos (decide_eq_true (by omega)), if_pos (decide_eq_true (by omega)), Int.toNat_natCast, i64_in (show -9223372036854775808 ≤ (c : Int) + 1 by omega) (by omega)]
      exact L9_1_eq K n l k g r0 p13 e1 e2 n1 n2 B G C D E a0' a1' a2' a3' a4' a5' a6' a7' a8' a9' a10' tk fl Lm Bd hB hG hK f (c + 1) _ (by rw [List.length_set]; exact h0) (by rw [List.length_set]; omega) (by rw [List.length_set]; omega)
    · rw [if_neg (by rw [decide_eq_true_eq]; omega)]
      exact L9_2_eq K n l k g r0 p13 e1 e2 n1 n2 A G C D E a0' a1' a2' a3' a4' a5' a6' a7' a8' a9' a10' tk fl Lm Bd hG hK K 0 B hB (by omega) (Nat.zero_le _)
theorem L9_0_eq (a : Int) (l : List (El T57)) (k : Int) (g : List (El (.int .i64))) (hg : g.length ≤ 1000) {n : Nat} : ∀ (f i : Nat) (y : Yard) (m : El T85), 80 < f + i → i ≤ 80 → Ok n y → Sim n (tkY y) (flY y) m →
    L9_0 (F15 2000) (F4025 2000) (F4026 2000) (F27 2000) (F28 2000) (F29 2000) (F12 2000) (F19 2000) (F21 2000) (F30 2000) (F18 2000) (F31 2000) (F32 2000) (F24 2000) (F16 2000) (F33 2000) (F13 2000) (F34 2000) (F20 2000) (F35 2000) 2000 a l k g f (i : Int) y.1 m.1 y.2.1 y.2.2.1 y.2.2.2.1 y.2.2.2.2.1 y.2.2.2.2.2.1 y.2.2.2.2.2.2.1 y.2.2.2.2.2.2.2.1 y.2.2.2.2.2.2.2.2.1 y.2.2.2.2.2.2.2.2.2.1 y.2.2.2.2.2.2.2.2.2.2.1 y.2.2.2.2.2.2.2.2.2.2.2.1 y.2.2.2.2.2.2.2.2.2.2.2.2.1 y.2.2.2.2.2.2.2.2.2.2.2.2.2 m.2.1 m.2.2 = some true
  | 0, i, y, m, h, h', _, _ => by omega
  | f + 1, i, y, m, h, h', hy, hs => by
    have hkn : F15 2000 = some true := known_eq
    simp only [L9_0, b9_0]
    by_cases c1 : i < l.length
    · rw [if_pos (decide_eq_true (by omega))]
      by_cases c2 : i < 80
      · have hn := hy.rep.le
        have d3 : decide ((0 : Int) ≤ (i : Int) ∧ (i : Int) < (l.length : Int)) = true := decide_eq_true (by omega)
        obtain ⟨r, y', m', g1, g2, hy', hs'⟩ := play 2000 (by decide) hy hs (l.getD ((i : Int)).toNat (zEl T57))
        have g1' : F28 2000 (l.getD ((i : Int)).toNat (zEl T57)) (y.1, y.2.1, y.2.2.1, y.2.2.2.1, y.2.2.2.2.1, y.2.2.2.2.2.1, y.2.2.2.2.2.2.1, y.2.2.2.2.2.2.2.1, y.2.2.2.2.2.2.2.2.1, y.2.2.2.2.2.2.2.2.2.1, y.2.2.2.2.2.2.2.2.2.2.1, y.2.2.2.2.2.2.2.2.2.2.2.1, y.2.2.2.2.2.2.2.2.2.2.2.2.1, y.2.2.2.2.2.2.2.2.2.2.2.2.2) = some (r, y') := g1
        have g2' : F29 2000 (l.getD ((i : Int)).toNat (zEl T57)) (m.1, m.2.1, m.2.2) = some (r, m') := g2
        have hfr := frL_len hy'.rep
        have htl := hy'.tk.len hn
        have hfl := hy'.fl.len hn
        have a1 := F12_eq 2000 (by decide) hy'
        have a2 := F19_eq 2000 hy'
        have a3 := F21_eq 2000 hy'
        have a4 := F30_eq 2000 (by decide) hy' hs'
        have a5 : F18 2000 (frL y') (frL y') = some true := by rw [F18_eq 2000 _ _ (by omega) (by omega), decide_eq_true rfl]
        have a6 := F31_eq 2000 (by decide) hn hs' hy'.tk
        have a7 : F18 2000 (tkY y') (tkY y') = some true := by rw [F18_eq 2000 _ _ (by omega) (by omega), decide_eq_true rfl]
        have a8 := F32_eq 2000 (by decide) hn hs' hy'.fl
        have a9 : F24 2000 (flY y') (flY y') = some true := by rw [F24v_eq 2000 _ _ (by omega) (by omega), decide_eq_true rfl]
        have a10 := F16_eq 2000 (by decide) hn y' hy'.tk (l.getD ((i : Int)).toNat (zEl T57)).2.2
        have a11 := F33_eq 2000 (by decide) hn hs' hy'.tk (l.getD ((i : Int)).toNat (zEl T57)).2.2
        obtain ⟨b1, a12, a13⟩ := F34_eq 2000 (by decide) hy' hs' k
        obtain ⟨b2, a14, a15⟩ := F35_eq 2000 (by decide) hy' hs' k g hg
        have ei : IntKind.i64.wrap ((i : Int) + 1) = ((i + 1 : Nat) : Int) := by rw [i64_in (by omega) (by omega)]; omega
        generalize heldS (tkY y') (l.getD ((i : Int)).toNat (zEl T57)).2.2 = hd at a10 a11
        rw [if_pos (decide_eq_true (by omega)), if_pos d3, g1', Option.bind_some, if_pos d3, g2', Option.bind_some]
        simp only [Option.bind_some, a1, a2, a3, a4, a5, a6, a7, a8, a9, a10, a11, a12, a13, a14, a15, d3, if_true, bne_self_eq_false, Bool.false_eq_true, if_false, Bool.not_true, beq_self_eq_true, Bool.and_self]
        refine Eq.trans (L9_1_eq 2000 a l k g _ (i : Int) hd.1 hd.1 y'.1 m'.1 (tkY y') (flY y') (frL y') (tkY y') (flY y') y'.2.1 y'.2.2.1 y'.2.2.2.1 y'.2.2.2.2.1 y'.2.2.2.2.2.1 y'.2.2.2.2.2.2.1 y'.2.2.2.2.2.2.2.1 y'.2.2.2.2.2.2.2.2.1 y'.2.2.2.2.2.2.2.2.2.1 y'.2.2.2.2.2.2.2.2.2.2.1 y'.2.2.2.2.2.2.2.2.2.2.2.1 y'.2.2.2.2.2.2.2.2.2.2.2.2.1 y'.2.2.2.2.2.2.2.2.2.2.2.2.2 m'.2.1 m'.2.2 (by omega) (by omega) (by decide) 2000 0 (frL y') (by omega) (by omega) (Nat.zero_le _)) ?_
        rw [ei]
        exact L9_0_eq a l k g hg f (i + 1) y' m' (by omega) (by omega) hy' hs'
      · rw [if_neg (by rw [decide_eq_true_eq]; omega), hkn]
        rfl
    · rw [if_neg (by rw [decide_eq_true_eq]; omega), hkn]
      rfl
theorem new_yard {n : Nat} (hn : n ≤ 6) : ∃ y m, F4025 2000 (n : Int) = some (y, (0 : Int), ()) ∧ F4026 2000 (n : Int) = some (m, (0 : Int), ()) ∧ Ok n y ∧ Sim n (tkY y) (flY y) m := by
  have hm : F4026 2000 (n : Int) = some (((n : Int), [], List.replicate (2 ^ n) false), (0 : Int), ()) := by
    have hp : 2 ^ n ≤ 64 := pow_le6 hn
    have hp0 := pos2 n
    have hb := by4
    have hmul : Try.prog.types[(4 : Nat)].bytes * 2 ^ n ≤ 100 * 64 := Nat.mul_le_mul hb hp
    unfold F4026 G4026 t4026
    rw [if_neg (by rw [decide_eq_true_eq]; omega), if_neg (by rw [decide_eq_true_eq]; omega), F55_eq 2000 (by decide) n (by omega), Option.bind_some, if_pos (decide_eq_true ⟨by omega, Int.le_refl _, by rw [← Int.natCast_mul]; omega, by omega⟩), Int.toNat_natCast]
  have hsim : Sim n [] [] (((n : Int), [], List.replicate (2 ^ n) false) : El T85) := ⟨rfl, by
    show List.replicate (2 ^ n) false = _
    refine List.ext_getElem (by rw [tab_len]; simp) fun i h1 h2 => ?_
    simp [tab], List.Perm.refl _⟩
  rcases six hn with rfl | rfl | rfl | rfl | rfl | rfl | rfl
  · exact ⟨((0 : Int), [(0 : Int)], [], [], [], [], [], [], [], [], [], [], [], []), _, rfl, hm, ok_new (by decide) rfl (fun k => by
      match k with
      | 0 => rfl
      | 1 => rfl
      | 2 => rfl
      | 3 => rfl
      | 4 => rfl
      | 5 => rfl
      | 6 => rfl
      | 7 => rfl
      | 8 => rfl
      | 9 => rfl
      | 10 => rfl
      | k + 11 => simp [frY]) rfl rfl, hsim⟩
  · exact ⟨((1 : Int), [], [(0 : Int)], [], [], [], [], [], [], [], [], [], [], []), _, rfl, hm, ok_new (by decide) rfl (fun k => by
      match k with
      | 0 => rfl
      | 1 => rfl
      | 2 => rfl
      | 3 => rfl
      | 4 => rfl
      | 5 => rfl
      | 6 => rfl
      | 7 => rfl
      | 8 => rfl
      | 9 => rfl
      | 10 => rfl
      | k + 11 => simp [frY]) rfl rfl, hsim⟩
  · exact ⟨((2 : Int), [], [], [(0 : Int)], [], [], [], [], [], [], [], [], [], []), _, rfl, hm, ok_new (by decide) rfl (fun k => by
      match k with
      | 0 => rfl
      | 1 => rfl
      | 2 => rfl
      | 3 => rfl
      | 4 => rfl
      | 5 => rfl
      | 6 => rfl
      | 7 => rfl
      | 8 => rfl
      | 9 => rfl
      | 10 => rfl
      | k + 11 => simp [frY]) rfl rfl, hsim⟩
  · exact ⟨((3 : Int), [], [], [], [(0 : Int)], [], [], [], [], [], [], [], [], []), _, rfl, hm, ok_new (by decide) rfl (fun k => by
      match k with
      | 0 => rfl
      | 1 => rfl
      | 2 => rfl
      | 3 => rfl
      | 4 => rfl
      | 5 => rfl
      | 6 => rfl
      | 7 => rfl
      | 8 => rfl
      | 9 => rfl
      | 10 => rfl
      | k + 11 => simp [frY]) rfl rfl, hsim⟩
  · exact ⟨((4 : Int), [], [], [], [], [(0 : Int)], [], [], [], [], [], [], [], []), _, rfl, hm, ok_new (by decide) rfl (fun k => by
      match k with
      | 0 => rfl
      | 1 => rfl
      | 2 => rfl
      | 3 => rfl
      | 4 => rfl
      | 5 => rfl
      | 6 => rfl
      | 7 => rfl
      | 8 => rfl
      | 9 => rfl
      | 10 => rfl
      | k + 11 => simp [frY]) rfl rfl, hsim⟩
  · exact ⟨((5 : Int), [], [], [], [], [], [(0 : Int)], [], [], [], [], [], [], []), _, rfl, hm, ok_new (by decide) rfl (fun k => by
      match k with
      | 0 => rfl
      | 1 => rfl
      | 2 => rfl
      | 3 => rfl
      | 4 => rfl
      | 5 => rfl
      | 6 => rfl
      | 7 => rfl
      | 8 => rfl
      | 9 => rfl
      | 10 => rfl
      | k + 11 => simp [frY]) rfl rfl, hsim⟩
  · exact ⟨((6 : Int), [], [], [], [], [], [], [(0 : Int)], [], [], [], [], [], []), _, rfl, hm, ok_new (by decide) rfl (fun k => by
      match k with
      | 0 => rfl
      | 1 => rfl
      | 2 => rfl
      | 3 => rfl
      | 4 => rfl
      | 5 => rfl
      | 6 => rfl
      | 7 => rfl
      | 8 => rfl
      | 9 => rfl
      | 10 => rfl
      | k + 11 => simp [frY]) rfl rfl, hsim⟩
theorem buddyPlays (o : Int) (l : List (El T57)) (k : Int) (g : List (El (.int .i64))) (h0 : 0 ≤ o) (h1 : o ≤ 10) : F9 2000 o l k g = some true := by
  have hkn : F15 2000 = some true := known_eq
  unfold F9 G9 t9
  by_cases c : o > 6
  · rw [if_pos (decide_eq_true c), if_pos (decide_eq_true h1), hkn]
    rfl
  · rw [if_neg (by rw [decide_eq_true_eq]; exact c)]
    by_cases c2 : (g.length : Int) > 60
    · rw [if_pos (decide_eq_true c2), hkn]
      rfl
    · rw [if_neg (by rw [decide_eq_true_eq]; exact c2)]
      obtain ⟨n, rfl⟩ : ∃ n : Nat, o = (n : Int) := ⟨o.toNat, by omega⟩
      obtain ⟨y, m, e1, e2, hy, hs⟩ := new_yard (n := n) (by omega)
      have e3 : F27 2000 y = some (n : Int) := by
        show some y.1 = _
        rw [hy.rep.ord]
      rw [e1, Option.bind_some, e2, Option.bind_some]
      simp only [bne_self_eq_false, Bool.false_eq_true, if_false, e3, Option.bind_some]
      exact L9_0_eq (n : Int) l k g (by omega) 2000 0 y m (by omega) (by omega) hy hs
theorem buddyPlays' (o : Int) (l : List (El T57)) (k : Int) (g : List (El (.int .i64))) (h : ¬ (0 ≤ o ∧ o ≤ 10)) : F1009 2000 o l k g = some true := by
  have hkn : F15 2000 = some true := known_eq
  have e1 : F5025 2000 o = some ((), (2 : Int)) := by
    unfold F5025 G5025 t5025
    by_cases c : o < 0
    · rw [if_pos (decide_eq_true c)]
    · rw [if_neg (by rw [decide_eq_true_eq]; exact c), if_pos (decide_eq_true (by omega))]
  have e2 : F5026 2000 o = some ((), (2 : Int)) := by
    unfold F5026 G5026 t5026
    by_cases c : o < 0
    · rw [if_pos (decide_eq_true c)]
    · rw [if_neg (by rw [decide_eq_true_eq]; exact c), if_pos (decide_eq_true (by omega))]
  unfold F1009 G1009 t1009
  simp only [e1, e2, hkn, Option.bind_some]
  by_cases c : o > 6
  · rw [if_pos (decide_eq_true c), if_neg (by rw [decide_eq_true_eq]; omega)]
    split
    · rfl
    · rfl
  · rw [if_neg (by rw [decide_eq_true_eq]; exact c)]
    split
    · rfl
    · rfl
end Go.Proofs.YtiicginipjbloaaE
