/- The engine, part 3: pure operations do what is told. -/
import Derived.Test.YtigekmmdflaeaaaDoorEng2
import Derived.Laws.StructEq
set_option linter.all false
namespace Go.Proofs.YtigekmmdflaeaaaDoorE
open Go
set_option linter.unusedVariables false
section
variable {P : Program} {μ : Nat → Value} {S : Nat → Prop} {w : World}

theorem VsOK.drop {l : List AV} {us : List Value} (n : Nat) : VsOK μ S w l us → VsOK μ S w (l.drop n) (us.drop n) := by
  induction n generalizing l us with
  | zero => exact fun h => h
  | succ n ih =>
    cases l with
    | nil => intro h; rw [VsOK] at h; rw [h]; exact rfl
    | cons a l =>
      rintro ⟨u, us', rfl, _, h3⟩
      exact ih h3
theorem VsOK.take {l : List AV} {us : List Value} (n : Nat) : VsOK μ S w l us → VsOK μ S w (l.take n) (us.take n) := by
  induction n generalizing l us with
  | zero => intro h; exact rfl
  | succ n ih =>
    cases l with
    | nil => intro h; rw [VsOK] at h; rw [h]; exact rfl
    | cons a l =>
      rintro ⟨u, us', rfl, h2, h3⟩
      exact ⟨u, us'.take n, rfl, h2, ih h3⟩

theorem part_ok {t : TypeId} {l : List AV} {us : List Value} {off : Nat} (h : VsOK μ S w l us) : (partAV P t l off).sat fun av => ∃ v, (part t us.toArray off).run P w = .ok v w ∧ VOK μ S w av v := by
  unfold partAV
  split
  · rename_i d n hu hn
    split
    · rename_i ha
      refine ⟨.agg ((us.drop off).take n).toArray, ?_, _, rfl, VsOK.take n (VsOK.drop off h)⟩
      simp only [part, Sem.run_bind, run_isAgg hu, ha, Result.andThen_ok, if_true, run_sz hn, Sem.run_pure]
      congr 2
      apply Array.toList_inj.1
      simp [Array.toList_extract, List.extract_eq_take_drop]
    · rename_i ha
      split
      · rename_i a hl
        obtain ⟨u, hu', hv⟩ := VsOK.get h hl
        refine ⟨u, ?_, hv⟩
        have ha' : isAggT P t = false := by simpa using ha
        simp [part, go_sem, run_isAgg hu, ha', hu']
      · trivial
  · trivial

theorem aggPart_ok {t : TypeId} {l : List AV} {us : List Value} {off : Nat} {a : AV} (h : VsOK μ S w l us) (ha : aggPart P t l off = some a) : ∃ v, (part t us.toArray off).run P w = .ok v w ∧ VOK μ S w a v := by
  have hp := part_ok (P := P) (t := t) (off := off) h
  unfold aggPart at ha
  unfold partAV at hp
  split at ha
  · rename_i d n hu hn
    simp only [hu, hn] at hp
    split at ha
    · rename_i hag
      rw [if_pos hag] at hp
      cases ha
      exact hp
    · rename_i hag
      rw [if_neg hag, ha] at hp
      exact hp
  · cases ha

theorem eqFs_ok {eq : TypeId → AV → AV → Option Bool} {d : Nat} (heq : ∀ {t : TypeId} {a b : AV} {u v : Value} {r : Bool}, eq t a b = some r → VOK μ S w a u → VOK μ S w b v → (Op.equalIn d t u v).run P w = .ok r w) {l m : List AV} {xs ys : List Value} (hl : VsOK μ S w l xs) (hm : VsOK μ S w m ys) :
    ∀ {fs : List Field} {r : Bool}, eqFs P eq fs l m = some r → (Op.eqFields d xs.toArray ys.toArray fs).run P w = .ok r w
  | [], r, h => by
    cases h
    simp [Op.eqFields]
  | f :: fs, r, h => by
    unfold eqFs at h
    split at h
    · rename_i hn
      have hn' : ¬ (f.name ≠ "_") := by simpa using hn
      rw [Op.eqFields, if_neg hn']
      exact eqFs_ok heq hl hm h
    · rename_i hn
      have hn' : f.name ≠ "_" := by simpa using hn
      split at h
      · rename_i a b ha hb
        obtain ⟨u, hu, hva⟩ := aggPart_ok hl ha
        obtain ⟨v, hv, hvb⟩ := aggPart_ok hm hb
        split at h
        · have he := heq h hva hvb
          simp only [Op.eqFields, if_pos hn', Sem.run_bind, hu, hv, he, Result.andThen_ok]
          cases r <;> simp
        · rename_i g gs
          obtain ⟨r1, h1, h⟩ := Option.bind_eq_some_iff.1 h
          obtain ⟨s, h2, h⟩ := Option.bind_eq_some_iff.1 h
          cases h
          have he := heq h1 hva hvb
          have hr := eqFs_ok heq hl hm h2
          rw [Op.eqFields]
          simp only [if_pos hn', Sem.run_bind, hu, hv, he, Result.andThen_ok]
          cases r1
          · simp
          · simpa using hr
      · cases h
theorem eqEs_ok {eq : TypeId → AV → AV → Option Bool} {d : Nat} (heq : ∀ {t : TypeId} {a b : AV} {u v : Value} {r : Bool}, eq t a b = some r → VOK μ S w a u → VOK μ S w b v → (Op.equalIn d t u v).run P w = .ok r w) {l m : List AV} {xs ys : List Value} (hl : VsOK μ S w l xs) (hm : VsOK μ S w m ys) {e : TypeId} {s : Nat} :
    ∀ {k i : Nat} {r : Bool}, eqEs P eq e s k i l m = some r → ∃ c : Option Bool, Sem.run P (forIn (List.range' i k) ((none, ()) : Option Bool × Unit) fun i _ => do
      let a ← part e xs.toArray (i * s)
      let b ← part e ys.toArray (i * s)
      let q ← Op.equalIn d e a b
      if (!q) = true then pure (ForInStep.done (some false, ())) else pure (ForInStep.yield (none, ()))) w = Result.ok (c, ()) w ∧ r = c.getD true
  | 0, i, r, h => by
    unfold eqEs at h
    cases h
    exact ⟨none, by simp, rfl⟩
  | k + 1, i, r, h => by
    unfold eqEs at h
    split at h
    · rename_i a b ha hb
      obtain ⟨u, hu, hva⟩ := aggPart_ok hl ha
      obtain ⟨v, hv, hvb⟩ := aggPart_ok hm hb
      split at h
      · have he := heq h hva hvb
        cases r with
        | true => exact ⟨none, by simp [List.range'_succ, hu, hv, he], rfl⟩
        | false => exact ⟨some false, by simp [List.range'_succ, hu, hv, he], rfl⟩
      · rename_i k'
        obtain ⟨r1, h1, h⟩ := Option.bind_eq_some_iff.1 h
        obtain ⟨t, h2, h⟩ := Option.bind_eq_some_iff.1 h
        cases h
        have he := heq h1 hva hvb
        obtain ⟨c, h3, h4⟩ := eqEs_ok heq hl hm h2
        cases r1 with
        | false => exact ⟨some false, by simp [List.range'_succ, hu, hv, he], rfl⟩
        | true =>
          refine ⟨c, ?_, by simpa using h4⟩
          rw [List.range'_succ, List.forIn_cons]
          simp only [Sem.run_bind, hu, hv, he, Result.andThen_ok, Bool.not_true, Bool.false_eq_true, if_false, Sem.run_pure]
          exact h3
    · cases h
theorem eqAV_ok {m : Nat} : ∀ {n : Nat} {t : TypeId} {a b : AV} {u v : Value} {r : Bool}, eqAV P n t a b = some r → VOK μ S w a u → VOK μ S w b v → (Op.equalIn (n + m) t u v).run P w = .ok r w
  | 0, t, a, b, u, v, r, h, _, _ => by cases h
  | n + 1, t, a, b, u, v, r, h, hu, hv => by
    have e : n + 1 + m = (n + m) + 1 := by omega
    rw [e]
    unfold eqAV at h
    split at h
    · rename_i k0 ht
      split at h
      · rename_i k x k' y
        split at h
        · rename_i hk
          subst hk
          cases h
          rw [VOK] at hu hv
          rw [hu, hv]
          exact run_equalIn_int w _ t _ _ _ _ ht
        · cases h
      · cases h
    · rename_i ht
      split at h
      · cases h
        rw [VOK] at hu hv
        rw [hu, hv]
        exact equalIn_bool ht _
      · cases h
    · rename_i ht
      split at h
      · cases h
        rw [VOK] at hu hv
        rw [hu, hv]
        exact run_equalIn_string w _ t _ _ ht
      · cases h
    · rename_i fs ht
      split at h
      · rename_i l1 l2
        split at h
        · rename_i hp
          obtain ⟨xs, rfl, hx⟩ := hu
          obtain ⟨ys, rfl, hy⟩ := hv
          have hf : P.fieldsOf t = fs := by simp [Program.fieldsOf, ht]
          rw [run_equalIn_struct (P := P) w _ t xs.toArray ys.toArray (by rw [hf]; exact ht) hp, hf]
          exact eqFs_ok (fun h1 h2 h3 => eqAV_ok h1 h2 h3) hx hy h
        · cases h
      · cases h
    · rename_i len e0 ht
      split at h
      · rename_i l1 l2
        split at h
        · rename_i s hs
          obtain ⟨xs, rfl, hx⟩ := hu
          obtain ⟨ys, rfl, hy⟩ := hv
          obtain ⟨c, h1, rfl⟩ := eqEs_ok (fun h1 h2 h3 => eqAV_ok (m := m) h1 h2 h3) hx hy h
          simp only [Op.equalIn, Sem.run_bind, run_underlying ht, run_sz hs, Result.andThen_ok, Std.Legacy.Range.forIn_eq_forIn_range', Std.Legacy.Range.size, Nat.sub_zero, Nat.add_sub_cancel, Nat.div_one]
          rw [h1]
          cases c <;> rfl
        · cases h
      · cases h
    · cases h

theorem bin_ok {ρ' : Operand → Value} {op : BinOp} {t t' : TypeId} {x y : Operand} {a b : AV} (hx : VOK μ S w a (ρ' x)) (hy : VOK μ S w b (ρ' y)) : (binPR P op t a b).sat (Goes P ρ' (.binOp op t x y t') μ S w) := by
  have he : ∀ o : Oper, o.op = .binOp op t x y t' → execOp ρ' o = (do pure (.value (← (do eqGuard op t x y (ρ' x) (ρ' y); binOp op t (ρ' x) (ρ' y))))) := by
    intro o ho; simp only [execOp, ho]
  unfold binPR
  split
  · rename_i k a k' b
    rw [VOK] at hx hy
    have main : ∀ {r : PR}, (r.sat fun av => ∃ v, (binOp op t (.int k a) (.int k' b)).run P w = .ok v w ∧ VOK μ S w av v) → r.sat (Goes P ρ' (.binOp op t x y t') μ S w) := by
      intro r hr
      refine PR.sat_mono (fun av h => ?_) hr
      obtain ⟨v, h1, h2⟩ := h
      exact goes_of he ⟨v, by rw [hx, hy]; simp [go_sem, guard_int, h1], h2⟩
    split
    · exact main shiftBin_ok
    · exact main shiftBin_ok
    · rename_i h1 h2
      split
      · rename_i e; subst e; exact main (intBin_ok h1 h2)
      · trivial
  · rw [VOK] at hx hy
    refine PR.sat_mono (fun av h => ?_) (strBin_ok (t := t) (P := P) (μ := μ) (S := S) (w := w))
    obtain ⟨v, h1, h2⟩ := h
    exact goes_of he ⟨v, by rw [hx, hy]; simp [go_sem, guard_str, h1], h2⟩
  · rw [VOK] at hx hy
    split
    · rename_i hu
      exact goes_of he ⟨_, by rw [hx, hy]; simp [go_sem, guard_bool, binOp, equal_of (equalIn_bool hu)], rfl⟩
    · rename_i hu
      exact goes_of he ⟨_, by rw [hx, hy]; simp [go_sem, guard_bool, binOp, equal_of (equalIn_bool hu)], rfl⟩
    · trivial
  · rename_i l m
    obtain ⟨xs, hx1, hx2⟩ := id hx
    obtain ⟨ys, hy1, hy2⟩ := id hy
    split
    · rename_i hg
      split
      · rename_i r hr
        have hq := eqAV_ok (w := w) (m := 9980) hr hx hy
        rw [hx1, hy1] at hq
        refine goes_of he ⟨.bool r, ?_, rfl⟩
        rw [hx1, hy1]
        simp only [Sem.run_bind, run_eqGuard_agg w .eql t x y _ _ hg, Result.andThen_ok, run_eql_struct]
        rw [hq]
        rfl
      · trivial
    · rename_i hg
      split
      · rename_i r hr
        have hq := eqAV_ok (w := w) (m := 9980) hr hx hy
        rw [hx1, hy1] at hq
        refine goes_of he ⟨.bool (!r), ?_, rfl⟩
        rw [hx1, hy1]
        simp only [Sem.run_bind, run_eqGuard_agg w .neq t x y _ _ hg, Result.andThen_ok, run_neq_struct]
        rw [hq]
        rfl
      · trivial
    · trivial
  · rw [VOK] at hx hy
    split
    · rename_i hu
      exact goes_of he ⟨_, by rw [hx, hy]; simp [go_sem, guard_sl, binOp, equal_of (equalIn_sl0 hu)], rfl⟩
    · rename_i hu
      exact goes_of he ⟨_, by rw [hx, hy]; simp [go_sem, guard_sl, binOp, equal_of (equalIn_sl0 hu)], rfl⟩
    · trivial
  · rw [VOK] at hx hy
    split
    · rename_i hu
      exact goes_of he ⟨_, by rw [hx, hy]; simp [go_sem, guard_ptr, binOp, equal_of (equalIn_nil hu)], rfl⟩
    · rename_i hu
      exact goes_of he ⟨_, by rw [hx, hy]; simp [go_sem, guard_ptr, binOp, equal_of (equalIn_nil hu)], rfl⟩
    · trivial
  · rw [VOK] at hy
    split
    · rename_i hu hp
      obtain ⟨ad, had⟩ := isPtr_ok hp hx
      exact goes_of he ⟨_, by rw [had, hy]; simp [go_sem, guard_ptr, binOp, equal_of (equalIn_ptr hu)], rfl⟩
    · rename_i hu hp
      obtain ⟨ad, had⟩ := isPtr_ok hp hx
      exact goes_of he ⟨_, by rw [had, hy]; simp [go_sem, guard_ptr, binOp, equal_of (equalIn_ptr hu)], rfl⟩
    · trivial
  · trivial
theorem map_ok {ρ : Operand → AV} {ρ' : Operand → Value} (hρ : ∀ x, VOK μ S w (ρ x) (ρ' x)) : ∀ l : List Operand, VsOK μ S w (l.map ρ) (l.map ρ')
  | [] => rfl
  | x :: l => ⟨_, _, rfl, hρ x, map_ok hρ l⟩

theorem goes_val {ρ' : Operand → Value} {op : Op} {av : AV} {v : Value} (he : ∀ o : Oper, o.op = op → execOp ρ' o = pure (.value v)) (h : VOK μ S w av v) : Goes P ρ' op μ S w av := by
  intro o ho
  exact ⟨v, by rw [he o ho]; simp [go_sem], h⟩

theorem add_none (b o n : Nat) : (⟨b, o, none⟩ : Addr).add n = ⟨b, o + n, none⟩ := by
  unfold Addr.add
  split
  · rename_i h; subst h; rfl
  · rfl

theorem extract_row {ty : Ty} {l : List (El ty)} {u : Value} (h : VOK μ S w (.row ty l) u) (a b : Nat) (hab : a ≤ b) (hb : b ≤ l.length) :
    ∃ A c, u = .slice A l.length c ∧ l.length ≤ c ∧ VOK μ S w (.row ty ((l.take b).drop a)) (.slice (if c = a then A else A.map (·.add (a * sz ty))) (b - a) (c - a)) := by
  obtain ⟨A, c, h1, h2, h3, h4⟩ := h
  simp only [List.cons.injEq, and_true] at h1
  have hl : ((l.take b).drop a).length = b - a := by simp only [List.length_drop, List.length_take]; omega
  refine ⟨A, c, h1, h2, (if c = a then A else A.map (·.add (a * sz ty))), c - a, by rw [hl], by rw [hl]; omega, by omega, ?_⟩
  intro i x hx
  have hi : i < b - a := by rw [← hl]; exact (List.getElem?_eq_some_iff.1 hx).1
  have hx' : l[a + i]? = some x := by
    rw [List.getElem?_drop, List.getElem?_take_of_lt (by omega)] at hx
    exact hx
  obtain ⟨bl, o, cs, h5, h6, h7, h8, h9⟩ := h4 (a + i) x hx'
  refine ⟨bl, o + a * sz ty, cs, ?_, h6, h7, h8, ?_⟩
  · rw [if_neg (by omega), h5]
    simp only [Option.map_some, add_none]
  · have e : o + a * sz ty + i * sz ty = o + (a + i) * sz ty := by rw [Nat.add_mul]; omega
    rw [e]
    exact h9

theorem bound_ok {k : IntKind} {n : Int} {y : Nat} {code : BoundsCode} (h0 : 0 ≤ n) (h1 : n ≤ y) : (Instr.sliceBound (.int k n) y code).run P w = .ok n.toNat w := by
  simp [Instr.sliceBound, asIntOf, go_sem, h0, h1]

/-- The bounds of a slice expression without a third one. -/
theorem bounds_ok {isSlice : Bool} {len cap : Nat} {lo hi : Option Value} {a b : Int} {ka kb : IntKind} (hlo : lo = none ∧ a = 0 ∨ lo = some (.int ka a)) (hhi : hi = none ∧ b = len ∨ hi = some (.int kb b)) (h0 : 0 ≤ a) (h1 : a ≤ b) (h2 : b ≤ len) (h3 : len ≤ cap) :
    (Instr.sliceBounds isSlice len cap lo hi none).run P w = .ok (a.toNat, b.toNat, cap) w := by
  have hb : b.toNat ≤ cap := by omega
  rcases hhi with ⟨rfl, rfl⟩ | rfl
  · rcases hlo with ⟨rfl, rfl⟩ | rfl
    · simp [Instr.sliceBounds, go_sem]
    · simp only [Instr.sliceBounds, Sem.run_bind, Sem.run_pure, Result.andThen_ok]
      rw [bound_ok h0 (by omega)]
      simp [go_sem]
  · rcases hlo with ⟨rfl, rfl⟩ | rfl
    · simp only [Instr.sliceBounds, Sem.run_bind, Sem.run_pure, Result.andThen_ok]
      rw [bound_ok (by omega) (by omega)]
      simp [go_sem]
    · simp only [Instr.sliceBounds, Sem.run_bind, Sem.run_pure, Result.andThen_ok]
      rw [bound_ok (by omega) (by omega)]
      simp only [Result.andThen_ok]
      rw [bound_ok h0 (by omega)]
      simp [go_sem]

theorem opt_ok {ρ : Operand → AV} {ρ' : Operand → Value} (hρ : ∀ x, VOK μ S w (ρ x) (ρ' x)) {lo : Option Operand} {k k' : IntKind} {a d : Int} (h : (lo.map ρ).getD (.sc (.int k d)) = .sc (.int k' a)) : lo.map ρ' = none ∧ a = d ∨ lo.map ρ' = some (.int k' a) := by
  cases lo with
  | none =>
    simp only [Option.map_none, Option.getD_none, AV.sc.injEq, Value.int.injEq] at h
    exact .inl ⟨rfl, h.2.symm⟩
  | some x =>
    simp only [Option.map_some, Option.getD_some] at h
    have := hρ x
    rw [h, VOK] at this
    exact .inr (by rw [Option.map_some, this])
end
end Go.Proofs.YtigekmmdflaeaaaDoorE
