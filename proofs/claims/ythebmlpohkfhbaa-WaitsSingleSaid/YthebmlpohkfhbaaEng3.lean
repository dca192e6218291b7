/- The engine, part 3: pure operations do what is told. -/
import Derived.Test.YthebmlpohkfhbaaEng2
set_option linter.all false
namespace Go.Proofs.YthebmlpohkfhbaaE
open Go
set_option linter.unusedVariables false
section
variable {P : Program} {μ : Nat → Value} {S : Nat → Prop} {w : World}

theorem VsOK.drop {l : List AV} {us : List Value} (n : Nat) : VsOK μ S w l us → VsOK μ S w (l.drop n) (us.drop n) := by
  induction n generalizing l us with
  | zero => exact fun h => h
  | succ n ih =>
    cases l with
    | nil => intro h; rw [VsOK] at h; rw [h]; exact rfl
    | cons a l =>
      rintro ⟨u, us', rfl, _, h3⟩
      exact ih h3
theorem VsOK.take {l : List AV} {us : List Value} (n : Nat) : VsOK μ S w l us → VsOK μ S w (l.take n) (us.take n) := by
  induction n generalizing l us with
  | zero => intro h; exact rfl
  | succ n ih =>
    cases l with
    | nil => intro h; rw [VsOK] at h; rw [h]; exact rfl
    | cons a l =>
      rintro ⟨u, us', rfl, h2, h3⟩
      exact ⟨u, us'.take n, rfl, h2, ih h3⟩

theorem part_ok {t : TypeId} {l : List AV} {us : List Value} {off : Nat} (h : VsOK μ S w l us) : (partAV P t l off).sat fun av => ∃ v, (part t us.toArray off).run P w = .ok v w ∧ VOK μ S w av v := by
  unfold partAV
  split
  · rename_i d n hu hn
    split
    · rename_i ha
      refine ⟨.agg ((us.drop off).take n).toArray, ?_, _, rfl, VsOK.take n (VsOK.drop off h)⟩
      simp only [part, Sem.run_bind, run_isAgg hu, ha, Result.andThen_ok, if_true, run_sz hn, Sem.run_pure]
      congr 2
      apply Array.toList_inj.1
      simp [Array.toList_extract, List.extract_eq_take_drop]
    · rename_i ha
      split
      · rename_i a hl
        obtain ⟨u, hu', hv⟩ := VsOK.get h hl
        refine ⟨u, ?_, hv⟩
        have ha' : isAggT P t = false := by simpa using ha
        simp [part, go_sem, run_isAgg hu, ha', hu']
      · trivial
  · trivial

theorem map_ok {ρ : Operand → AV} {ρ' : Operand → Value} (hρ : ∀ x, VOK μ S w (ρ x) (ρ' x)) : ∀ l : List Operand, VsOK μ S w (l.map ρ) (l.map ρ')
  | [] => rfl
  | x :: l => ⟨_, _, rfl, hρ x, map_ok hρ l⟩

theorem goes_val {ρ' : Operand → Value} {op : Op} {av : AV} {v : Value} (he : ∀ o : Oper, o.op = op → execOp ρ' o = pure (.value v)) (h : VOK μ S w av v) : Goes P ρ' op μ S w av := by
  intro o ho
  exact ⟨v, by rw [he o ho]; simp [go_sem], h⟩

theorem add_none (b o n : Nat) : (⟨b, o, none⟩ : Addr).add n = ⟨b, o + n, none⟩ := by
  unfold Addr.add
  split
  · rename_i h; subst h; rfl
  · rfl

theorem extract_row {ty : Ty} {l : List (El ty)} {u : Value} (h : VOK μ S w (.row ty l) u) (a b : Nat) (hab : a ≤ b) (hb : b ≤ l.length) :
    ∃ A c, u = .slice A l.length c ∧ l.length ≤ c ∧ VOK μ S w (.row ty ((l.take b).drop a)) (.slice (if c = a then A else A.map (·.add (a * sz ty))) (b - a) (c - a)) := by
  obtain ⟨A, c, h1, h2, h3, h4⟩ := h
  simp only [List.cons.injEq, and_true] at h1
  have hl : ((l.take b).drop a).length = b - a := by simp only [List.length_drop, List.length_take]; omega
  refine ⟨A, c, h1, h2, (if c = a then A else A.map (·.add (a * sz ty))), c - a, by rw [hl], by rw [hl]; omega, by omega, ?_⟩
  intro i x hx
  have hi : i < b - a := by rw [← hl]; exact (List.getElem?_eq_some_iff.1 hx).1
  have hx' : l[a + i]? = some x := by
    rw [List.getElem?_drop, List.getElem?_take_of_lt (by omega)] at hx
    exact hx
  obtain ⟨bl, o, cs, h5, h6, h7, h8, h9⟩ := h4 (a + i) x hx'
  refine ⟨bl, o + a * sz ty, cs, ?_, h6, h7, h8, ?_⟩
  · rw [if_neg (by omega), h5]
    simp only [Option.map_some, add_none]
  · have e : o + a * sz ty + i * sz ty = o + (a + i) * sz ty := by rw [Nat.add_mul]; omega
    rw [e]
    exact h9

theorem bound_ok {k : IntKind} {n : Int} {y : Nat} {code : BoundsCode} (h0 : 0 ≤ n) (h1 : n ≤ y) : (Instr.sliceBound (.int k n) y code).run P w = .ok n.toNat w := by
  simp [Instr.sliceBound, asIntOf, go_sem, h0, h1]

/-- The bounds of a slice expression without a third one. -/
theorem bounds_ok {isSlice : Bool} {len cap : Nat} {lo hi : Option Value} {a b : Int} {ka kb : IntKind} (hlo : lo = none ∧ a = 0 ∨ lo = some (.int ka a)) (hhi : hi = none ∧ b = len ∨ hi = some (.int kb b)) (h0 : 0 ≤ a) (h1 : a ≤ b) (h2 : b ≤ len) (h3 : len ≤ cap) :
    (Instr.sliceBounds isSlice len cap lo hi none).run P w = .ok (a.toNat, b.toNat, cap) w := by
  have hb : b.toNat ≤ cap := by omega
  rcases hhi with ⟨rfl, rfl⟩ | rfl
  · rcases hlo with ⟨rfl, rfl⟩ | rfl
    · simp [Instr.sliceBounds, go_sem]
    · simp only [Instr.sliceBounds, Sem.run_bind, Sem.run_pure, Result.andThen_ok]
      rw [bound_ok h0 (by omega)]
      simp [go_sem]
  · rcases hlo with ⟨rfl, rfl⟩ | rfl
    · simp only [Instr.sliceBounds, Sem.run_bind, Sem.run_pure, Result.andThen_ok]
      rw [bound_ok (by omega) (by omega)]
      simp [go_sem]
    · simp only [Instr.sliceBounds, Sem.run_bind, Sem.run_pure, Result.andThen_ok]
      rw [bound_ok (by omega) (by omega)]
      simp only [Result.andThen_ok]
      rw [bound_ok h0 (by omega)]
      simp [go_sem]

theorem opt_ok {ρ : Operand → AV} {ρ' : Operand → Value} (hρ : ∀ x, VOK μ S w (ρ x) (ρ' x)) {lo : Option Operand} {k k' : IntKind} {a d : Int} (h : (lo.map ρ).getD (.sc (.int k d)) = .sc (.int k' a)) : lo.map ρ' = none ∧ a = d ∨ lo.map ρ' = some (.int k' a) := by
  cases lo with
  | none =>
    simp only [Option.map_none, Option.getD_none, AV.sc.injEq, Value.int.injEq] at h
    exact .inl ⟨rfl, h.2.symm⟩
  | some x =>
    simp only [Option.map_some, Option.getD_some] at h
    have := hρ x
    rw [h, VOK] at this
    exact .inr (by rw [Option.map_some, this])
end
end Go.Proofs.YthebmlpohkfhbaaE
