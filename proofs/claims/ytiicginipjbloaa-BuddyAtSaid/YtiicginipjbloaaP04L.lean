/- Buddy: the chapter's example; BuddyLeast in plain words. -/
import Derived.Test.YtiicginipjbloaaS04F10
import Derived.Test.YtiicginipjbloaaP04X
set_option linter.all false
namespace Go.Proofs.YtiicginipjbloaaE
open Go Go.Proofs
set_option maxRecDepth 100000
set_option linter.unusedVariables false
/-! ### known -/
abbrev yk0 : Yard := ((3 : Int), [], [], [], [(0 : Int)], [], [], [], [], [], [], [], [], [])
abbrev yk1 : Yard := ((3 : Int), [], [(2 : Int)], [(4 : Int)], [], [], [], [], [], [], [], [], [((0 : Int), (1 : Int))], [])
abbrev yk2 : Yard := ((3 : Int), [(3 : Int)], [], [(4 : Int)], [], [], [], [], [], [], [], [], [((0 : Int), (1 : Int)), ((2 : Int), (0 : Int))], [])
abbrev yk3 : Yard := ((3 : Int), [(3 : Int)], [(6 : Int)], [], [], [], [], [], [], [], [], [], [((0 : Int), (1 : Int)), ((2 : Int), (0 : Int)), ((4 : Int), (1 : Int))], [])
abbrev yk4 : Yard := ((3 : Int), [(3 : Int), (6 : Int)], [], [], [], [], [], [], [], [], [], [], [((0 : Int), (1 : Int)), ((2 : Int), (0 : Int)), ((4 : Int), (1 : Int))], [(7 : Int)])
abbrev yk5 : Yard := ((3 : Int), [(3 : Int), (6 : Int)], [(0 : Int)], [], [], [], [], [], [], [], [], [], [((2 : Int), (0 : Int)), ((4 : Int), (1 : Int))], [(7 : Int)])
theorem k1 : F14 2000 1 yk0 = some (((0 : Int), (0 : Int)), yk1) := by kernel_rfl
theorem k2 : F14 2000 0 yk1 = some (((2 : Int), (0 : Int)), yk2) := by kernel_rfl
theorem k3 : F14 2000 1 yk2 = some (((4 : Int), (0 : Int)), yk3) := by kernel_rfl
theorem k4 : F22 2000 7 yk3 = some ((0 : Int), yk4) := by kernel_rfl
theorem k5 : F17 2000 0 yk4 = some ((0 : Int), yk5) := by kernel_rfl
theorem okk0 : Ok 3 yk0 := ok_new (by decide) rfl (fun k => by
  rcases k with _ | _ | _ | _ | _ | _ | _ | _ | _ | _ | _ | k <;> first | rfl | (rw [if_neg (by omega)]; rfl)) rfl rfl
theorem okk5 : Ok 3 yk5 := by
  obtain ⟨_, _, a1, b1, _⟩ := take_ok 2000 (by decide) okk0 1
  rw [k1] at a1; cases a1
  obtain ⟨_, _, a2, b2, _⟩ := take_ok 2000 (by decide) b1 0
  rw [k2] at a2; cases a2
  obtain ⟨_, _, a3, b3, _⟩ := take_ok 2000 (by decide) b2 1
  rw [k3] at a3; cases a3
  obtain ⟨_, _, a4, b4, _⟩ := fail_any 2000 (by decide) b3 7
  rw [k4] at a4; cases a4
  obtain ⟨_, _, a5, b5, _⟩ := give_ok 2000 (by decide) b4 0
  rw [k5] at a5; cases a5
  exact b5
theorem k6 : F20 2000 yk5 2 [(2 : Int)] = some true := by
  rw [F20_eq 2000 (by decide) okk5 2 [(2 : Int)] (by decide)]
  kernel_rfl
theorem known_eq : F15 2000 = some true := by
  have h : ∀ f : Yard → Int → List Int → Option Bool, G15 (F3025 2000) (F14 2000) (F12 2000) (F18 2000) (F22 2000) (F17 2000) f (F13 2000) 2000 = Option.bind (f yk5 2 [(2 : Int)]) (fun x12 => if x12 = true then Option.bind (F13 2000 yk5 2) (fun x13 => some (!x13)) else some false) := fun f => by kernel_rfl
  refine (h (F20 2000)).trans ?_
  rw [k6]
  kernel_rfl
/-! ### Held -/
theorem held_of {n : Nat} {t : List Bk} (h : Tk n t) {b : Bk} (hb : b ∈ t) {x : Int} (hx : inI b x = true) : heldS t x = (b, true) := by
  unfold heldS
  cases c : t.find? (fun b => inI b x) with
  | none => exact absurd hx (List.find?_eq_none.1 c b hb)
  | some d =>
    have h1 := List.find?_some c
    have h2 := List.mem_of_find?_eq_some c
    rw [h.dis d h2 b hb x h1 hx]
theorem order_of (a : Int) : ∃ k : Nat, k < 6 ∧ IntKind.i64.wrap ((IntKind.u64.wrap a).tmod (6 : Int)) = (k : Int) := by
  have u0 : 0 ≤ IntKind.u64.wrap a := by rw [IntKind.wrap_u64]; omega
  have t0 : Int.tmod (IntKind.u64.wrap a) 6 = IntKind.u64.wrap a % 6 := Int.tmod_eq_emod_of_nonneg u0
  refine ⟨(IntKind.u64.wrap a % 6).toNat, by omega, ?_⟩
  rw [t0, i64_in (by omega) (by omega)]
  omega
open Classical in
theorem fitS_yes {n : Nat} {y : Yard} {o e : Nat} (h1 : o ≤ e) (h2 : e ≤ n) (h3 : frY y e ≠ []) : fitS n y o = true := by
  unfold fitS
  exact decide_eq_true ⟨e, h1, h2, h3⟩
open Classical in
theorem fitS_no {n : Nat} {y : Yard} {o : Nat} (h : ∀ i, o ≤ i → i ≤ n → frY y i = []) : fitS n y o = false := by
  unfold fitS
  exact decide_eq_false fun ⟨i, h1, h2, h3⟩ => h3 (h i h1 h2)
/-! ### BuddyLeast -/
def ordB (b : Bk) : Int := b.2
abbrev og (l : List Bk) (i : Nat) : Int := ordB (l.getD i (zEl T29))
/-- the place of the best block of a row's first ones -/
def Best (l : List Bk) (o : Int) (m : Nat) (b : Int) : Prop :=
  (b = -1 ∧ ∀ i, i < m → og l i < o) ∨
  (∃ j : Nat, b = (j : Int) ∧ j < m ∧ o ≤ og l j ∧ (∀ i, i < m → o ≤ og l i → og l j ≤ og l i) ∧ ∀ i, i < j → o ≤ og l i → og l j < og l i)
theorem best_end {n : Nat} {U : Wk} {y : Yard} (h : Rep n U y) {o : Nat} {b : Int} (hb : Best (frL y) (o : Int) (frL y).length b) :
    (b = -1 ∧ ∀ i, o ≤ i → i ≤ n → frY y i = []) ∨ (∃ j : Nat, b = (j : Int) ∧ j < (frL y).length ∧ ∀ e q : Nat, o ≤ e → e ≤ n → (∀ i, o ≤ i → i < e → frY y i = []) → (frY y e).head? = some ((q * 2 ^ e : Nat) : Int) → (frL y).getD j (zEl T29) = mkB e q) := by
  have hget : ∀ i, i < (frL y).length → (frL y).getD i (zEl T29) ∈ frL y := fun i hi => by rw [getD_lt hi]; exact List.getElem_mem hi
  rcases hb with ⟨h1, h2⟩ | ⟨j, h1, h2, h3, h4, h5⟩
  · left
    refine ⟨h1, fun i hi hin => ?_⟩
    cases c : frY y i with
    | nil => rfl
    | cons s l =>
      exfalso
      obtain ⟨q, rfl, hq⟩ := ((h.row i hin).mem s).1 (by rw [c]; simp)
      obtain ⟨m, hm, hme⟩ := List.getElem_of_mem ((mem_frL h).2 ⟨i, q, hin, rfl, hq⟩)
      have := h2 m hm
      simp only [og] at this
      rw [getD_lt hm, hme] at this
      have : (i : Int) < (o : Int) := this
      omega
  · right
    refine ⟨j, h1, h2, fun e q he hen hemp hhd => ?_⟩
    obtain ⟨k, p, hk, hkb, hkm⟩ := (mem_frL h).1 (hget j h2)
    simp only [og] at h3 h4 h5
    rw [hkb] at h3 h4 h5 ⊢
    have h3 : (o : Int) ≤ (k : Int) := h3
    have hmk : ((p * 2 ^ k : Nat) : Int) ∈ frY y k := ((h.row k hk).mem' p).2 hkm
    have hek : e ≤ k := by
      by_cases c : e ≤ k
      · exact c
      · rw [hemp k (by omega) (by omega)] at hmk
        cases hmk
    have hqm : ((q * 2 ^ e : Nat) : Int) ∈ frY y e := by
      cases c : frY y e with
      | nil => rw [c] at hhd; cases hhd
      | cons s l => rw [c] at hhd; cases hhd; simp
    have hq := ((h.row e hen).mem' q).1 hqm
    obtain ⟨m, hm, hme⟩ := List.getElem_of_mem ((mem_frL h).2 ⟨e, q, hen, rfl, hq⟩)
    have hke : k = e := by
      have := h4 m hm (by rw [getD_lt hm, hme]; show (o : Int) ≤ (e : Int); omega)
      rw [getD_lt hm, hme] at this
      have : (k : Int) ≤ (e : Int) := this
      omega
    subst hke
    have hinc := frL_inc h
    by_cases cm : m < j
    · have := h5 m cm (by rw [getD_lt hm, hme]; show (o : Int) ≤ (k : Int); omega)
      rw [getD_lt hm, hme] at this
      have : (k : Int) < (k : Int) := this
      omega
    · by_cases cmj : m = j
      · subst cmj
        rw [getD_lt hm, hme] at hkb
        exact hkb.symm
      · exfalso
        unfold IncK at hinc
        rw [List.pairwise_iff_getElem] at hinc
        have h6 := hinc j m h2 hm (by omega)
        rw [getD_lt h2] at hkb
        rw [hkb, hme] at h6
        have h6 : ((p * 2 ^ k : Nat) : Int) < ((q * 2 ^ k : Nat) : Int) := h6
        have h7 : ((q * 2 ^ k : Nat) : Int) ≤ ((p * 2 ^ k : Nat) : Int) := by
          cases c : frY y k with
          | nil => rw [c] at hhd; cases hhd
          | cons s l =>
            rw [c] at hhd hmk
            have e1 : s = ((q * 2 ^ k : Nat) : Int) := by cases hhd; rfl
            have hi := (h.row k hk).inc
            rw [c] at hi
            have hi := (List.pairwise_cons.1 hi).1
            rcases List.mem_cons.1 hmk with e2 | e2
            · rw [← e1, ← e2]; exact Int.le_refl _
            · have : idI s < idI ((p * 2 ^ k : Nat) : Int) := hi _ e2
              rw [← e1]
              exact Int.le_of_lt this
        omega
theorem L3_eq (l : List (El T57)) (a : Int) {k : Nat} (hk : k < 6) (hka : IntKind.i64.wrap ((IntKind.u64.wrap a).tmod (6 : Int)) = (k : Int)) (y : Yard) (h : Ok 5 y) : ∀ (f i : Nat) (b : Int), (frL y).length < f + i → i ≤ (frL y).length → Best (frL y) (k : Int) i b →
    L3_0 (F11 2000) (F12 2000) (F13 2000) (F14 2000) (F15 2000) (F16 2000) 2000 l a f b (i : Int) y.1 (frL y) y.2.1 y.2.2.1 y.2.2.2.1 y.2.2.2.2.1 y.2.2.2.2.2.1 y.2.2.2.2.2.2.1 y.2.2.2.2.2.2.2.1 y.2.2.2.2.2.2.2.2.1 y.2.2.2.2.2.2.2.2.2.1 y.2.2.2.2.2.2.2.2.2.2.1 y.2.2.2.2.2.2.2.2.2.2.2.1 y.2.2.2.2.2.2.2.2.2.2.2.2.1 y.2.2.2.2.2.2.2.2.2.2.2.2.2 = some true
  | 0, i, b, hf, hi, hb => by omega
  | f + 1, i, b, hf, hi, hb => by
    have hlen := frL_len h.rep
    have ih := fun b => L3_eq l a hk hka y h f (i + 1) b
    have hkn := known_eq
    simp only [L3_0, b3_0, hka]
    by_cases c : i < (frL y).length
    · have d1 : decide ((i : Int) < ((frL y).length : Int)) = true := decide_eq_true (by omega)
      have d2 : decide ((0 : Int) ≤ (i : Int) ∧ (i : Int) < ((frL y).length : Int)) = true := decide_eq_true (by omega)
      have e : IntKind.i64.wrap ((i : Int) + 1) = ((i + 1 : Nat) : Int) := by rw [i64_in (by omega) (by omega)]; omega
      rw [if_pos d1, if_pos d2, e, Int.toNat_natCast]
      by_cases c2 : og (frL y) i ≥ (k : Int)
      · rw [if_pos (show decide (((frL y).getD i (zEl T29)).2 ≥ (k : Int)) = true from decide_eq_true c2)]
        rcases hb with ⟨rfl, h2⟩ | ⟨j, rfl, h2, h3, h4, h5⟩
        · rw [if_pos (by decide)]
          refine ih _ (by omega) (by omega) (.inr ⟨i, rfl, by omega, c2, fun m hm hmo => ?_, fun m hm hmo => ?_⟩)
          · by_cases e : m = i
            · rw [e]; exact Int.le_refl _
            · have := h2 m (by omega)
              exact absurd hmo (by omega)
          · have := h2 m hm
            exact absurd hmo (by omega)
        · rw [if_neg (by simp), if_pos d2, if_pos (decide_eq_true (by omega)), Int.toNat_natCast]
          by_cases c3 : og (frL y) i < og (frL y) j
          · rw [if_pos (show decide (((frL y).getD i (zEl T29)).2 < ((frL y).getD j (zEl T29)).2) = true from decide_eq_true c3)]
            refine ih _ (by omega) (by omega) (.inr ⟨i, rfl, by omega, c2, fun m hm hmo => ?_, fun m hm hmo => ?_⟩)
            · by_cases e : m = i
              · rw [e]; exact Int.le_refl _
              · have := h4 m (by omega) hmo
                omega
            · have := h4 m hm hmo
              omega
          · rw [if_neg (show ¬ decide (((frL y).getD i (zEl T29)).2 < ((frL y).getD j (zEl T29)).2) = true from fun h => c3 (of_decide_eq_true h))]
            refine ih _ (by omega) (by omega) (.inr ⟨j, rfl, by omega, h3, fun m hm hmo => ?_, h5⟩)
            by_cases e : m = i
            · rw [e]; omega
            · exact h4 m (by omega) hmo
      · rw [if_neg (show ¬ decide (((frL y).getD i (zEl T29)).2 ≥ (k : Int)) = true from fun h => c2 (of_decide_eq_true h))]
        refine ih _ (by omega) (by omega) ?_
        rcases hb with ⟨rfl, h2⟩ | ⟨j, rfl, h2, h3, h4, h5⟩
        · refine .inl ⟨rfl, fun m hm => ?_⟩
          by_cases e : m = i
          · rw [e]; omega
          · exact h2 m (by omega)
        · refine .inr ⟨j, rfl, by omega, h3, fun m hm hmo => ?_, h5⟩
          by_cases e : m = i
          · rw [e] at hmo; exact absurd hmo (by omega)
          · exact h4 m (by omega) hmo
    · have d1 : decide ((i : Int) < ((frL y).length : Int)) = false := decide_eq_false (by omega)
      have ei : i = (frL y).length := by omega
      rw [ei] at hb
      have hfit : F13 2000 (y.1, y.2.1, y.2.2.1, y.2.2.2.1, y.2.2.2.2.1, y.2.2.2.2.2.1, y.2.2.2.2.2.2.1, y.2.2.2.2.2.2.2.1, y.2.2.2.2.2.2.2.2.1, y.2.2.2.2.2.2.2.2.2.1, y.2.2.2.2.2.2.2.2.2.2.1, y.2.2.2.2.2.2.2.2.2.2.2.1, y.2.2.2.2.2.2.2.2.2.2.2.2.1, y.2.2.2.2.2.2.2.2.2.2.2.2.2) (k : Int) = some (fitS 5 y k) := fits_in 2000 (by decide) h (by omega)
      rw [d1, if_neg Bool.false_ne_true, hfit, Option.bind_some]
      have htake := take_in 2000 (by decide) h (k := k) (by omega)
      rcases htake with ⟨e, q, g1, g2, g3, g4, g5, y', g6, g7, g8, g9⟩ | ⟨g1, g2⟩
      · have g6' : F14 2000 (k : Int) (y.1, y.2.1, y.2.2.1, y.2.2.2.1, y.2.2.2.2.1, y.2.2.2.2.2.1, y.2.2.2.2.2.2.1, y.2.2.2.2.2.2.2.1, y.2.2.2.2.2.2.2.2.1, y.2.2.2.2.2.2.2.2.2.1, y.2.2.2.2.2.2.2.2.2.2.1, y.2.2.2.2.2.2.2.2.2.2.2.1, y.2.2.2.2.2.2.2.2.2.2.2.2.1, y.2.2.2.2.2.2.2.2.2.2.2.2.2) = some ((((q * 2 ^ e : Nat) : Int), (0 : Int)), y') := g6
        have hF : fitS 5 y k = true := fitS_yes g1 g2 fun hn => by rw [hn] at g4; cases g4
        rcases best_end h.rep hb with ⟨rfl, b2⟩ | ⟨j, rfl, b2, b3⟩
        · rw [b2 e g1 g2] at g4
          cases g4
        · have hj := b3 e q g1 g2 g3 g4
          have epk : q * 2 ^ (e - k) * 2 ^ k = q * 2 ^ e := by rw [Nat.mul_assoc, ← Nat.pow_add, Nat.sub_add_cancel g1]
          have hheld : heldS (tkY y') ((q * 2 ^ e : Nat) : Int) = (mkB k (q * 2 ^ (e - k)), true) := by
            refine held_of g7.tk (by rw [g8]; exact mem_insK.2 (.inl rfl)) ?_
            rw [← epk]
            exact inI_iff.2 (first_in _ _)
          rw [g6', Option.bind_some, if_neg (by simp)]
          dsimp only
          rw [F16_eq 2000 (by decide) g7.rep.le y' g7.tk, Option.bind_some, hheld, if_pos (by rfl), if_pos hF, if_pos (decide_eq_true (by omega)), Int.toNat_natCast, hj]
          simp only [mkB, epk]
          rw [if_pos (by simp), if_pos trivial, if_pos (by simp), hkn]
          rfl
      · have g2' : F14 2000 (k : Int) (y.1, y.2.1, y.2.2.1, y.2.2.2.1, y.2.2.2.2.1, y.2.2.2.2.2.1, y.2.2.2.2.2.2.1, y.2.2.2.2.2.2.2.1, y.2.2.2.2.2.2.2.2.1, y.2.2.2.2.2.2.2.2.2.1, y.2.2.2.2.2.2.2.2.2.2.1, y.2.2.2.2.2.2.2.2.2.2.2.1, y.2.2.2.2.2.2.2.2.2.2.2.2.1, y.2.2.2.2.2.2.2.2.2.2.2.2.2) = some (((0 : Int), (5 : Int)), y) := g2
        have hF : fitS 5 y k = false := fitS_no g1
        rcases best_end h.rep hb with ⟨rfl, b2⟩ | ⟨j, rfl, b2, b3⟩
        · rw [g2', Option.bind_some, if_pos (by decide), if_pos (by rfl), if_pos (by rfl), hF, if_pos (by rfl), hkn]
          rfl
        · exfalso
          rcases hb with ⟨b4, _⟩ | ⟨j', b4, b5, b6, _⟩
          · omega
          · have hget : (frL y).getD j' (zEl T29) ∈ frL y := by rw [getD_lt b5]; exact List.getElem_mem b5
            obtain ⟨m, p, hm, hmb, hmm⟩ := (mem_frL h.rep).1 hget
            simp only [og] at b6
            rw [hmb] at b6
            have b6 : (k : Int) ≤ (m : Int) := b6
            have := ((h.rep.row m hm).mem' p).2 hmm
            rw [g1 m (by omega) hm] at this
            cases this
theorem buddyLeast (l : List (El T57)) (a : Int) (_ : Gd (.sl T57) l) (_ : (Lit.int .i64 a).wf = true) : F3 2000 l a = some true := by
  obtain ⟨y, h1, h2⟩ := F11_eq 2000 (by decide) l
  obtain ⟨k, hk, hka⟩ := order_of a
  unfold F3 G3 t3
  rw [h1, Option.bind_some]
  dsimp only
  rw [F12_eq 2000 (by decide) h2, Option.bind_some]
  have := frL_len h2.rep
  exact L3_eq l a hk hka y h2 2000 0 (-1) (by omega) (Nat.zero_le _) (.inl ⟨rfl, fun i hi => by omega⟩)
end Go.Proofs.YtiicginipjbloaaE
