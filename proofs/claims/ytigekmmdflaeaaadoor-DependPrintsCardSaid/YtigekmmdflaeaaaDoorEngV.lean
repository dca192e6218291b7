/- The engine: regions that draw in which loads come late: behind stores into other variables. -/
import Derived.Test.YtigekmmdflaeaaaDoorEngL
set_option linter.all false
namespace Go.Proofs.YtigekmmdflaeaaaDoorE
open Go
set_option linter.unusedVariables false
/-- whatever Hs tells, H tells -/
def subH (Hs H : Hp) : Prop := ∀ id B, lk Hs id = some B → lk H id = some B
theorem subH_refl (H : Hp) : subH H H := fun _ _ h => h
theorem subH_rm {Hs H : Hp} (h : subH Hs H) (i : Nat) : subH (rm i Hs) H := fun id B hb => by
  by_cases e : id = i
  · subst e
    rw [lk_rm_same] at hb
    cases hb
  · rw [lk_rm_other e] at hb
    exact h id B hb
/-! ### names that nothing mentions -/
def nnB (d : Nat) : ABlk → Bool
  | .box _ cells => nns d cells
  | _ => true
def freshH (d : Nat) : Hp → Bool
  | [] => true
  | (i, B) :: H => match Nat.beq i d with
    | true => false
    | false => match nnB d B with
      | true => freshH d H
      | false => false
theorem freshH_lk {d : Nat} : ∀ {H : Hp}, freshH d H = true → ∀ i B, lk H i = some B → i ≠ d ∧ keepB (but d) B = B
  | [], h, i, B, hl => by cases hl
  | (j, B') :: H, h, i, B, hl => by
    unfold freshH at h
    split at h
    · cases h
    rename_i hj
    split at h
    rotate_left
    · cases h
    rename_i hB
    by_cases e : i = j
    · subst e
      have : B' = B := by
        have h2 : lk ((i, B') :: H) i = some B' := by simp [lk]
        rw [h2] at hl
        exact Option.some.inj hl
      subst this
      refine ⟨fun e => ?_, ?_⟩
      · subst e
        simp at hj
      · cases B' with
        | box T cells =>
          show ABlk.box T (keeps (but d) cells) = _
          rw [keeps_nn hB]
        | arr e t l => rfl
        | mp kt vt m => rfl
    · rw [lk_cons_other e] at hl
      exact freshH_lk h i B hl
theorem sub_new {Hs H H1 : Hp} {d : Nat} {B : ABlk} (hs : subH Hs H) (hf : freshH d Hs = true) (h1 : ∀ i B, lk Hs i = some B → lk H1 i = lk H i) : subH Hs ((d, B) :: keepH (but d) (rm d H1)) := fun i B' hb => by
  obtain ⟨g1, g2⟩ := freshH_lk hf i B' hb
  rw [lk_cons_other g1, lk_keepH, lk_rm_other g1, h1 i B' hb, hs i B' hb]
  show some (keepB (but d) B') = _
  rw [g2]
/-- may it come late? -/
def lateK (P : Program) (o : Oper) (ρ : Operand → AV) : Bool := match pureOp P o.op ρ with
  | .no => match o.op with
    | .load _ _ => true
    | .indexAddr _ _ _ => true
    | .buildSlice _ _ _ => true
    | .build _ _ => true
    | .call c => match c.callee with
      | .builtin .len => true
      | .value f => match ρ f with
        | .fn _ caps => noIds (c.args.toList.map ρ ++ caps)
        | _ => false
      | _ => false
    | .binOp _ _ _ _ _ => true
    | .unOp _ _ _ => true
    | .fieldAddr _ _ _ => true
    | .convert _ _ _ => true
    | _ => false
  | _ => true
/-- an operation of the tail that leaves what Hs tells as it is -/
def tailK (P : Program) (Hs : Hp) (o : Oper) (ρ : Operand → AV) (id : Nat) : Bool := match pureOp P o.op ρ with
  | .no => match o.op with
    | .alloc _ => freshH id Hs
    | .box _ _ => freshH id Hs
    | .build _ _ => true
    | .store _ p _ => match ρ p with
      | .ptr i _ => (lk Hs i).isNone
      | _ => false
    | _ => false
  | _ => true
section
variable {R : Type}
/-- the late ones, asked of what the tail leaves alone -/
def evLates (P : Program) (T : Tab) (Hs : Hp) (ops : Array Oper) (fin : List AV) : List Nat → (Unit → Option R) → Option R
  | [], k => k ()
  | j :: l, k => match ops[j]? with
    | some o => match lateK P o (rho (o.looksAt ops) fin) with
      | true => evQg P T Hs ops o fin fun _ => evLates P T Hs ops fin l k
      | false => none
    | none => none
noncomputable def evXs3 (P : Program) (base : Nat) (ops : Array Oper) (LS : List Nat) (Hs : Hp) : List Oper → St → (St → Option R) → Option R
  | [], st, k => k st
  | o :: l, st, k => match o.guard with
    | some _ => none
    | none => match tailK P Hs o (rho (o.looksAt ops) st.tm) (base + o.dst.getD 0) with
      | false => none
      | true => match evX P st.H o (rho (o.looksAt ops) st.tm) (base + o.dst.getD 0) with
        | .no => none
        | .go c av H' g => if c = true then (match goneOK g LS st.tm with
          | true => evXs3 P base ops LS Hs l ⟨putA (tmGone st.tm g) o.dst av, H'⟩ k
          | false => none) else none
/-- what is stored into -/
def storedL (tm : List AV) : List Oper → Hp → Hp
  | [], H => H
  | o :: l, H => match o.op with
    | .store _ p _ => match evl tm p with
      | .ptr i _ => storedL tm l (rm i H)
      | _ => storedL tm l H
    | _ => storedL tm l H
theorem storedL_sub (tm : List AV) : ∀ (l : List Oper) {Hs H : Hp}, subH Hs H → subH (storedL tm l Hs) H
  | [], _, _, h => h
  | o :: l, _, _, h => by
    unfold storedL
    split
    · split
      · exact storedL_sub tm l (subH_rm h _)
      · exact storedL_sub tm l h
    · exact storedL_sub tm l h
def latesOK3 (ops : Array Oper) (lates : List Nat) : Bool := lates.all fun j => match ops[j]? with
  | some o => lateLooks ops j o ops.toList 0
  | none => false
def drawOK3 (ops : Array Oper) (n : Nat) : Bool :=
  Region.noSelect ops && edgesOK ops.toList 0 && allLooks ops ops.toList 0 && tail2OK (ancs ops.toList []) n ops.size (lateL (ancs ops.toList []) n ops.size) && latesOK3 ops (lateL (ancs ops.toList []) n ops.size)
/-- all late ones bare, and of no kind that asks what things hold -/
def bareP (ops : Array Oper) (lates : List Nat) : Bool := lates.all fun j => match ops[j]? with
  | some o => (match o.guard with
    | none => true
    | some _ => false) && (match o.op with
    | .load _ _ => false
    | .indexAddr _ _ _ => true
    | .call _ => false
    | _ => true)
  | none => false
noncomputable def evDraw3 (P : Program) (T : Tab) (base : Nat) (ops : Array Oper) (st : St) (k : St → Option R) : Option R :=
  match drawOK ops (quietN ops.toList) || bareP ops (lateL (ancs ops.toList []) (quietN ops.toList) ops.size) with
  | true => evDraw2 P T base ops st k
  | false => match drawOK3 ops (quietN ops.toList) with
    | true => evQs P T st.H ops (ops.toList.take (quietN ops.toList)) st.tm fun tm =>
      evLates P T (storedL tm (ops.toList.drop (quietN ops.toList)) st.H) ops tm (lateL (ancs ops.toList []) (quietN ops.toList) ops.size) fun _ =>
        evXs3 P base ops (lateS ops (lateL (ancs ops.toList []) (quietN ops.toList) ops.size)) (storedL tm (ops.toList.drop (quietN ops.toList)) st.H) (ops.toList.drop (quietN ops.toList)) ⟨tm, st.H⟩ k
    | false => none
end
/-! ### that this is sound -/
section
variable {P : Program} {T : Tab} {D : Cx} {F : Fr D} {R : Type} {base : Nat} {ops : Array Oper}
theorem evH_mono {Hs H : Hp} (hs : subH Hs H) {o : Oper} {ρ : Operand → AV} {c : Bool} {av : AV} {H1 : Hp} {g : Option Nat} (hk : (∃ t p, o.op = .load t p) ∨ (∃ t x i, o.op = .indexAddr t x i) ∨ ∃ cl, o.op = .call cl ∧ cl.callee = .builtin .len)
    (h : evH P Hs o.op ρ 0 = .go c av H1 g) : evH P H o.op ρ 0 = .go c av H g := by
  rcases hk with ⟨t, p, e⟩ | ⟨t, x, i, e⟩ | ⟨cl, e, hcal⟩
  · rw [e] at h ⊢
    simp only [evH] at h ⊢
    cases hp : ρ p <;> rw [hp] at h <;> simp only at h ⊢ <;> try (cases h; done)
    · rename_i i off
      cases hl : lk Hs i with
      | none => rw [hl] at h; cases h
      | some B =>
        rw [hl] at h
        rw [hs i B hl]
        cases B <;> simp only at h ⊢ <;> try (cases h; done)
        split at h
        · cases h; rfl
        · cases h
    · split at h
      · cases h; rfl
      · cases h
    · rename_i i n s off
      cases hl : lk Hs i with
      | none => rw [hl] at h; cases h
      | some B =>
        rw [hl] at h
        rw [hs i B hl]
        cases B <;> simp only at h ⊢ <;> try (cases h; done)
        split at h
        · rename_i hsz
          rw [if_pos hsz]
          split at h
          · cases h; rfl
          · cases h
        · cases h
  · rw [e] at h ⊢
    simp only [evH] at h ⊢
    split at h
    · rename_i j kd n e0 hx hi hu
      cases hl : lk Hs j with
      | none => rw [hl] at h; split at h <;> simp_all
      | some B =>
        rw [hl] at h
        rw [hs j B hl]
        split at h
        · rename_i e1 ty l s h1 h2
          cases h1
          split at h
          · rename_i hsz
            rw [if_pos hsz]
            cases h
            rfl
          · cases h
        · cases h
    · rename_i j i0 s0 off kd n len e0 hx hi hu
      cases hl : lk Hs j with
      | none => rw [hl] at h; split at h <;> simp_all
      | some B =>
        rw [hl] at h
        rw [hs j B hl]
        split at h
        · rename_i e1 ty l s h1 h2
          cases h1
          split at h
          · rename_i hsz
            rw [if_pos hsz]
            cases h
            rfl
          · cases h
        · cases h
    · cases h
  · rw [e] at h ⊢
    simp only [evH, hcal] at h ⊢
    split at h
    · rename_i j e0 hx hu
      cases hl : lk Hs j with
      | none => rw [hl] at h; cases h
      | some B =>
        rw [hl] at h
        rw [hs j B hl]
        cases B <;> simp only at h ⊢ <;> try (cases h; done)
        cases h
        rfl
    · cases h
theorem evQ_mono {Hs H : Hp} (hs : subH Hs H) {o : Oper} {ρ : Operand → AV} {r : AV} (hk : lateK P o ρ = true) (h : evQ P T Hs o ρ some = some r) : evQ P T H o ρ some = some r := by
  unfold evQ at h ⊢
  unfold lateK at hk
  cases hp : pureOp P o.op ρ with
  | ok av => rw [hp] at h; exact h
  | chk c av => rw [hp] at h; exact h
  | no =>
    rw [hp] at h hk
    simp only at h hk ⊢
    split at hk
    · rename_i t p e
      rw [e] at h ⊢
      simp only at h ⊢
      rw [← e] at h ⊢
      split at h
      · rename_i c av H1 g hv
        rw [evH_mono hs (.inl ⟨t, p, e⟩) hv]
        exact h
      · cases h
    · rename_i t x i e
      rw [e] at h ⊢
      simp only at h ⊢
      rw [← e] at h ⊢
      split at h
      · rename_i c av H1 g hv
        rw [evH_mono hs (.inr (.inl ⟨t, x, i, e⟩)) hv]
        exact h
      · cases h
    · rename_i t n ps e
      rw [e] at h ⊢
      exact h
    · rename_i t ps e
      rw [e] at h ⊢
      simp only [evG] at h ⊢
      cases ha : buildAV P t (List.map (fun p => (p.fst, ρ p.snd)) ps.toList) with
      | some a => rw [ha] at h; exact h
      | none => rw [ha] at h; cases h
    · rename_i cl e
      split at hk
      · rename_i hcal
        rw [e] at h ⊢
        simp only [hcal] at h ⊢
        rw [← e] at h ⊢
        split at h
        · rename_i c av H1 g hv
          rw [evH_mono hs (.inr (.inr ⟨cl, e, hcal⟩)) hv]
          exact h
        · cases h
      · rename_i f hcal
        split at hk
        · rename_i g caps hf
          rw [e] at h ⊢
          simp only [hcal, hf] at h ⊢
          rw [views_same Hs hk] at h
          rw [views_same H hk]
          exact h
        · cases hk
      · cases hk
    iterate 4 (rename_i e; rw [e] at h; cases h)
    · cases hk
theorem VQ_mono {Hs H : Hp} (hs : subH Hs H) {o : Oper} {tm : List AV} {r : AV} (hk : lateK P o (rho (o.looksAt ops) tm) = true) (h : VQ P T ops Hs o tm r) : VQ P T ops H o tm r := by
  rcases h with ⟨hg, h1⟩ | ⟨j, want, t, b, hg, hsl, ht, h1⟩ | h
  · exact .inl ⟨hg, evQ_mono hs hk h1⟩
  · refine .inr (.inl ⟨j, want, t, b, hg, hsl, ht, ?_⟩)
    rcases h1 with ⟨q1, q2⟩ | q
    · exact .inl ⟨q1, evQ_mono hs hk q2⟩
    · exact .inr q
  · exact .inr (.inr h)
theorem VQ_det {H : Hp} {o : Oper} {tm : List AV} {r r' : AV} (h : VQ P T ops H o tm r) (h' : VQ P T ops H o tm r') : r = r' := by
  rcases h with ⟨hg, h1⟩ | ⟨j, want, t, b, hg, hsl, ht, h1⟩ | ⟨j, want, t, l, hg, hsl, ht, rfl⟩ <;> rcases h' with ⟨hg', h1'⟩ | ⟨j', want', t', b', hg', hsl', ht', h1'⟩ | ⟨j', want', t', l', hg', hsl', ht', rfl⟩
  · rw [h1] at h1'; exact Option.some.inj h1'
  · rw [hg] at hg'; cases hg'
  · rw [hg] at hg'; cases hg'
  · rw [hg] at hg'; cases hg'
  · rw [hg] at hg'
    cases hg'
    rw [hsl] at hsl'
    cases hsl'
    rw [ht] at ht'
    cases ht'
    rcases h1 with ⟨q1, q2⟩ | ⟨q1, q2⟩ <;> rcases h1' with ⟨p1, p2⟩ | ⟨p1, p2⟩
    · rw [q2] at p2; exact Option.some.inj p2
    · exact absurd q1 p1
    · exact absurd p1 q1
    · rw [q2, p2]
  · rw [hg] at hg'
    cases hg'
    rw [hsl] at hsl'
    cases hsl'
    rw [ht] at ht'
    cases ht'
  · rw [hg] at hg'; cases hg'
  · rw [hg] at hg'
    cases hg'
    rw [hsl] at hsl'
    cases hsl'
    rw [ht] at ht'
    cases ht'
  · rfl
theorem tail_sub {Hs H H' : Hp} {o : Oper} {ρ : Operand → AV} {id : Nat} {c : Bool} {av : AV} {g : Option Nat} (hs : subH Hs H) (hk : tailK P Hs o ρ id = true) (h : evX P H o ρ id = .go c av H' g) : subH Hs H' := by
  unfold tailK at hk
  unfold evX at h
  cases hp : pureOp P o.op ρ with
  | ok av' => rw [hp] at h; cases h; exact hs
  | chk c' av' => rw [hp] at h; cases h; exact hs
  | no =>
    rw [hp] at h hk
    simp only at h hk
    split at hk
    · rename_i ty e
      rw [e] at h
      split at h
      · cases h
      · simp only [evH] at h
        split at h
        · rename_i hz
          repeat' split at hz
          all_goals first
            | (cases hz; done)
            | (cases hz; cases h; exact sub_new hs hk (fun _ _ _ => rfl))
        · simp only [evG] at h
          repeat' split at h
          all_goals first
            | (cases h; done)
            | (cases h; exact sub_new hs hk (fun _ _ _ => rfl))
    · rename_i ty x e
      rw [e] at h
      split at h
      · cases h
      · simp only [evH] at h
        split at h
        · rename_i hz
          split at hz
          · cases hz; cases h
            exact sub_new hs hk (fun _ _ _ => rfl)
          · cases hz
        · simp [evG] at h
    · rename_i t ps e
      rw [e] at h
      split at h
      · cases h
      · simp only [evH, evG] at h
        split at h
        · cases h; exact hs
        · cases h
    · rename_i t p x e
      split at hk
      · rename_i i off hρ
        split at h
        · cases h
        · split at h
          · rename_i c1 av1 H1 g1 hv
            cases h
            rw [e] at hv
            simp only [evH, hρ] at hv
            have : ∀ id B, lk Hs id = some B → id ≠ i := fun id B hb e => by
              subst e
              rw [hb] at hk
              cases hk
            repeat' split at hv
            all_goals first
              | cases hv; done
              | (cases hv
                 intro id B hb
                 rw [lk_cons_other (this id B hb), lk_rm_other (this id B hb)]
                 exact hs id B hb)
          · exfalso
            rw [e] at h
            simp [evG] at h
      · cases hk
    · cases hk
theorem evLates_ok {Hs : Hp} {fin : List AV} {res : R} {k : Unit → Option R} : ∀ {l : List Nat}, evLates P T Hs ops fin l k = some res → k () = some res ∧ ∀ j, j ∈ l → ∀ o, ops[j]? = some o → lateK P o (rho (o.looksAt ops) fin) = true ∧ ∃ r, VQ P T ops Hs o fin r
  | [], h => ⟨h, fun j hj => by cases hj⟩
  | j :: l, h => by
    unfold evLates at h
    split at h
    rotate_left
    · cases h
    rename_i o ho
    split at h
    rotate_left
    · cases h
    rename_i hk
    obtain ⟨av, h1, h2⟩ := evQg_nat h
    obtain ⟨h3, h4⟩ := evLates_ok h2
    refine ⟨h3, fun i hi p hp => ?_⟩
    rcases List.mem_cons.1 hi with e | e
    · subst e
      rw [ho] at hp
      cases hp
      exact ⟨hk, av, h1⟩
    · exact h4 i e p hp
variable {n : Nat} {A : List (List Nat)} {lates LS : List Nat}
structure Lates3 (ops : Array Oper) (n : Nat) (A : List (List Nat)) (lates LS : List Nat) : Prop where
  lt : ∀ j, j ∈ lates → j < n
  tail : ∀ i, n ≤ i → i < ops.size → ∀ j, j < i → j ∈ A.getD i [] ∨ j ∈ lates
  looks : ∀ j, j ∈ lates → ∀ o, ops[j]? = some o → ∀ i p d, ops[i]? = some p → p.dst = some d → d ∈ o.looksAt ops → i < j
  inL : ∀ j, j ∈ lates → ∀ o, ops[j]? = some o → (∀ s, s ∈ o.looksAt ops → s ∈ LS) ∧ ∀ d, o.dst = some d → d ∈ LS
/-- Behind the first of the tail's operations. -/
theorem late_any3 (hTab : CallOK D P T) {Hs : Hp} (hF : Facts ops ops.size A) (hX : Lates3 ops n A lates LS) {res : R} {kt : St → Option R} {Q : Exit → Act → World → Prop} (hk : ∀ st' a' w', Gam F st' a' w' → kt st' = some res → Q .normal a' w') : ∀ (fuel : Nat) (listed : Array Bool) (k : Nat) (st : St) (tm : List AV) (a : Act) (w : World),
    Lk ops listed → n ≤ k → k ≤ ops.size → (∀ i, n ≤ i → (lst listed i ↔ i < k)) → (∀ i, i < n → ¬ lst listed i → i ∈ lates) → unl ops.size listed ≤ fuel →
    subH Hs st.H → (∀ i, i < n → ¬ lst listed i → ∀ o, ops[i]? = some o → ∃ r, (lateK P o (rho (o.looksAt ops) st.tm) = true ∧ VQ P T ops Hs o st.tm r) ∧ ∀ d : Nat, o.dst = some d → st.tm[d]? = some r ∨ st.tm.length ≤ d) →
    tm.length = st.tm.length → (∀ s : Nat, (∃ i o, i < n ∧ ¬ lst listed i ∧ ops[i]? = some o ∧ o.dst = some s) ∨ tm[s]? = st.tm[s]?) →
    evXs3 P base ops LS Hs (ops.toList.drop k) st kt = some res → Gam F ⟨tm, st.H⟩ a w → wpAny P .any ops Q fuel listed a w := by
  have fin : ∀ (listed : Array Bool) (k : Nat) (st : St) (tm : List AV) (a : Act) (w : World), k ≤ ops.size → (∀ i, i < ops.size → lst listed i) → (∀ i, n ≤ i → (lst listed i ↔ i < k)) → n ≤ k → (∀ s : Nat, (∃ i o, i < n ∧ ¬ lst listed i ∧ ops[i]? = some o ∧ o.dst = some s) ∨ tm[s]? = st.tm[s]?) →
      evXs3 P base ops LS Hs (ops.toList.drop k) st kt = some res → Gam F ⟨tm, st.H⟩ a w → Q .normal a w := by
    intro listed k st tm a w hks hall hl hnk hag h hG
    have e : k = ops.size := by
      rcases Nat.lt_or_ge k ops.size with h' | h'
      · exact absurd ((hl k hnk).1 (hall k h')) (by omega)
      · omega
    subst e
    rw [List.drop_eq_nil_of_le (by simp)] at h
    have et : tm = st.tm := List.ext_getElem? fun s => by
      rcases hag s with ⟨i, o, _, h2, h3, _⟩ | h'
      · exact absurd (hall i (Array.getElem?_eq_some_iff.1 h3).1) h2
      · exact h'
    subst et
    exact hk _ _ _ hG h
  intro fuel
  induction fuel with
  | zero =>
    intro listed k st tm a w hL hnk hks hl hnl hu hsub hp hlen hag h hG
    have hall : ∀ i, i < ops.size → lst listed i := fun i hi => unl_zero (m := ops.size) (by omega) hi
    refine ⟨?_, fin listed k st tm a w hks hall hl hnk hag h hG⟩
    apply List.eq_nil_iff_forall_not_mem.2
    intro j hj
    obtain ⟨h1, o, ho, _⟩ := (ready_spec hF hL).1 hj
    exact h1 (hall j (Array.getElem?_eq_some_iff.1 ho).1)
  | succ fuel ih =>
    intro listed k st tm a w hL hnk hks hl hnl hu hsub hp hlen hag h hG
    refine ⟨fun hnil => ?_, fun j hj => ?_⟩
    · refine fin listed k st tm a w hks (fun i hi => ?_) hl hnk hag h hG
      by_cases hli : lst listed i
      · exact hli
      · exact absurd hnil (least_ready hF hL i hi hli)
    · obtain ⟨h1, o, ho, he⟩ := (ready_spec hF hL).1 hj
      obtain ⟨hL', hs⟩ := Lk.set hF hL hj
      have hlt := (Array.getElem?_eq_some_iff.1 ho).1
      have hu' : unl ops.size (listed.setIfInBounds j true) ≤ fuel := by
        have := unl_set hlt hs h1
        omega
      simp only [wpOp, ho]
      by_cases hjn : j < n
      · have hjl := hnl j hjn h1
        obtain ⟨r, hr, hrd⟩ := hp j hjn h1 o ho
        have hsame : ∀ s, s ∈ o.looksAt ops → st.tm[s]? = tm[s]? := fun s hs' => by
          rcases hag s with ⟨i, p, h2, h3, h4, h5⟩ | h'
          · have hij := hX.looks j hjl o ho i p s h4 h5 hs'
            rcases (hF.looks ho h4 (by omega) s h5).2 hs' with ⟨_, g2⟩ | ⟨g1, _⟩
            · obtain ⟨ed, g3, rfl⟩ := hasEdge_iff.1 g2
              exact absurd (he ed g3) h3
            · omega
          · exact h'.symm
        refine VQ_op hTab (VQ_congr (VQ_mono hsub hr.1 hr.2) hsame) hG (fun a' w' hG' => ih _ k st (putA tm o.dst r) a' w' hL' hnk hks (fun i hi => ?_) (fun i hi hni => hnl i hi (fun hh => hni ((lst_set hs i).2 (.inl hh)))) hu' hsub (fun i hi hni => hp i hi (fun hh => hni ((lst_set hs i).2 (.inl hh)))) (by rw [putA_length]; exact hlen) (fun s => ?_) h hG')
        · rw [lst_set hs, ← hl i hi]
          exact ⟨fun hh => hh.resolve_right (by omega), .inl⟩
        · by_cases hds : o.dst = some s
          · right
            rw [hds]
            rcases hrd s hds with h6 | h6
            · rw [h6, putA_get_same]
              have := (List.getElem?_eq_some_iff.1 h6).1
              omega
            · rw [List.getElem?_eq_none (by rw [putA_length]; omega), List.getElem?_eq_none h6]
          · rcases hag s with ⟨i, p, h2, h3, h4, h5⟩ | h'
            · left
              refine ⟨i, p, h2, fun hh => ?_, h4, h5⟩
              rcases (lst_set hs i).1 hh with h6 | h6
              · exact h3 h6
              · subst h6
                rw [ho] at h4
                cases h4
                exact hds h5
            · right
              rw [putA_get_ne hds]; exact h'
      · have hjk : j = k := by
          rcases Nat.lt_trichotomy j k with h' | h' | h'
          · exact absurd ((hl j (by omega)).2 h') h1
          · exact h'
          · rcases hX.tail j (by omega) hlt k h' with g | g
            · exact absurd ((hl k hnk).1 (anc_listed hF hL (j + 1) j (by omega) ho he k g)) (by omega)
            · have := hX.lt k g; omega
        subst hjk
        rw [drop_get (get_list ho)] at h
        unfold evXs3 at h
        split at h
        · cases h
        rename_i hg
        split at h
        · cases h
        rename_i htk
        split at h
        · cases h
        rename_i c av H' g hev
        split at h
        rotate_left
        · cases h
        rename_i hc
        split at h
        rotate_left
        · cases h
        rename_i hgone
        have hsame : rho (o.looksAt ops) tm = rho (o.looksAt ops) st.tm := rho_congr fun s hs' => by
          rcases hag s with ⟨i, p, h2, h3, h4, h5⟩ | h'
          · rcases (hF.looks ho h4 (by omega) s h5).2 hs' with ⟨_, g2⟩ | ⟨g1, _⟩
            · obtain ⟨ed, g3, rfl⟩ := hasEdge_iff.1 g2
              exact absurd (he ed g3) h3
            · omega
          · exact h'
        obtain ⟨μ, S, hI, hV, hD⟩ := hG
        have hst := evX_ok (F := F) (a := a) (tm := tm) hI hV (rho_ok (rs := o.looksAt ops) hV) (by rw [hsame]; exact hev) hc
        refine bare_op hg (step_wp hst hD (fun a' w' hG' => ih _ (j + 1) ⟨putA (tmGone st.tm g) o.dst av, H'⟩ (putA (tmGone tm g) o.dst av) a' w' hL' (by omega) (by omega) (fun i hi => ?_) (fun i hi hni => hnl i hi (fun hh => hni ((lst_set hs i).2 (.inl hh)))) hu' (tail_sub hsub htk hev) (fun i hi hni p hpi => ?_) ?_ (fun s => ?_) h hG'))
        · rw [lst_set hs, hl i hi]
          omega
        · have hni' : ¬ lst listed i := fun hh => hni ((lst_set hs i).2 (.inl hh))
          have hil := hnl i hi hni'
          obtain ⟨r, hr, hrd⟩ := hp i hi hni' p hpi
          obtain ⟨q1, q2⟩ := hX.inL i hil p hpi
          have e0 : ∀ s, s ∈ p.looksAt ops → (putA (tmGone st.tm g) o.dst av)[s]? = st.tm[s]? := fun s hs' => by
            rw [putA_get_ne (fun hd => by have := hX.looks i hil p hpi j o s ho hd hs'; omega)]
            exact gone_get hgone (q1 s hs')
          have e1 : rho (p.looksAt ops) (putA (tmGone st.tm g) o.dst av) = rho (p.looksAt ops) st.tm := rho_congr e0
          refine ⟨r, ⟨by rw [e1]; exact hr.1, VQ_congr hr.2 fun s hs' => (e0 s hs').symm⟩, fun d hd => ?_⟩
          have hne : o.dst ≠ some d := fun hod => (hF.looks hpi ho (by omega) d hod).1 hd
          show (putA (tmGone st.tm g) o.dst av)[d]? = some r ∨ (putA (tmGone st.tm g) o.dst av).length ≤ d
          rw [putA_get_ne hne, gone_get hgone (q2 d hd), putA_length, gone_len]
          exact hrd d hd
        · rw [putA_length, putA_length, gone_len, gone_len]; exact hlen
        · rcases hag s with ⟨i, p, h2, h3, h4, h5⟩ | h'
          · left
            refine ⟨i, p, h2, fun hh => ?_, h4, h5⟩
            rcases (lst_set hs i).1 hh with h6 | h6
            · exact h3 h6
            · omega
          · right
            show (putA (tmGone tm g) o.dst av)[s]? = (putA (tmGone st.tm g) o.dst av)[s]?
            by_cases hds : o.dst = some s
            · rw [hds]
              by_cases hsl : s < tm.length
              · rw [putA_get_same (by rw [gone_len]; exact hsl), putA_get_same (by rw [gone_len]; omega)]
              · rw [List.getElem?_eq_none (by rw [putA_length, gone_len]; omega), List.getElem?_eq_none (by rw [putA_length, gone_len]; omega)]
            · rw [putA_get_ne hds, putA_get_ne hds]
              exact gone_congr h'
/-- What is quiet ahead, some of it late. -/
theorem main_any3 (hTab : CallOK D P T) {Hs : Hp} (hF : Facts ops ops.size A) (hX : Lates3 ops n A lates LS) (hnm : n ≤ ops.size) {H : Hp} {tm0 rs fin : List AV} {r : R} {k : St → Option R} {Q : Exit → Act → World → Prop} (hk : ∀ st' a' w', Gam F st' a' w' → k st' = some r → Q .normal a' w')
    (hfin : JJ ops n tm0 rs (· < n) fin) (hat : ∀ j o, j < n → ops[j]? = some o → ∃ tmj r, rs[j]? = some r ∧ JJ ops n tm0 rs (· < j) tmj ∧ VQ P T ops H o tmj r)
    (hsub : subH Hs H) (hpl : ∀ j, j ∈ lates → ∀ o, ops[j]? = some o → lateK P o (rho (o.looksAt ops) fin) = true ∧ ∃ r, VQ P T ops Hs o fin r)
    (hev : evXs3 P base ops LS Hs (ops.toList.drop n) ⟨fin, H⟩ k = some r) : ∀ (fuel : Nat) (listed : Array Bool) (tm : List AV) (a : Act) (w : World),
    Lk ops listed → (∀ j, lst listed j → j < n) → unl ops.size listed ≤ fuel → JJ ops n tm0 rs (lst listed) tm → Gam F ⟨tm, H⟩ a w → wpAny P .any ops Q fuel listed a w := by
  have hd : ∀ (i j : Nat) (o p : Oper) (s : Nat), ops[i]? = some o → ops[j]? = some p → o.dst = some s → p.dst = some s → i = j := by
    intro i j o p s h1 h2 h3 h4
    by_cases e : i = j
    · exact e
    · exact absurd h3 (hF.looks h1 h2 e s h4).1
  have go : ∀ (fuel : Nat) (listed : Array Bool) (tm : List AV) (a : Act) (w : World), (∀ j, j < n → j ∉ lates → lst listed j) → Lk ops listed → (∀ j, lst listed j → j < n) → unl ops.size listed ≤ fuel → JJ ops n tm0 rs (lst listed) tm → Gam F ⟨tm, H⟩ a w → wpAny P .any ops Q fuel listed a w := by
    intro fuel listed tm a w hall hL hl hu hJ hG
    refine late_any3 (base := base) hTab hF hX hk fuel listed n ⟨fin, H⟩ tm a w hL (Nat.le_refl _) hnm (fun i hi => ⟨fun hh => by have := hl i hh; omega, fun hh => by omega⟩) (fun i hi hni => Classical.byContradiction fun hh => hni (hall i hi hh)) hu hsub (fun i hi hni o ho => ?_) (hJ.1.trans hfin.1.symm) (fun s => ?_) hev hG
    · have hil : i ∈ lates := Classical.byContradiction fun hh => hni (hall i hi hh)
      obtain ⟨tmi, q, hq, hJi, hVi⟩ := hat i o hi ho
      have hsame : ∀ s, s ∈ o.looksAt ops → tmi[s]? = fin[s]? := fun s hs => hJi.eq hfin hd fun p o' hp ho' hd' => ⟨fun _ => hp, fun _ => hX.looks i hil o ho p o' s ho' hd' hs⟩
      obtain ⟨hk1, q', hq'⟩ := hpl i hil o ho
      have hqq : q = q' := VQ_det (VQ_congr hVi hsame) (VQ_mono hsub hk1 hq')
      subst hqq
      refine ⟨q, ⟨hk1, hq'⟩, fun d hdd => ?_⟩
      · rcases hfin.2 d with ⟨i', o', r', h2, h3, h4, h5, h6, h7⟩ | ⟨h2, _⟩
        · have : i' = i := hd i' i o' o d h4 ho h5 hdd
          subst this
          rw [hq] at h6
          cases h6
          by_cases hlen : d < tm0.length
          · exact .inl (h7 hlen)
          · right
            show fin.length ≤ d
            rw [hfin.1]; omega
        · exact absurd hdd (h2 i o hi hi ho)
    · by_cases hex : ∃ i o, i < n ∧ ¬ lst listed i ∧ ops[i]? = some o ∧ o.dst = some s
      · exact .inl hex
      · right
        refine hJ.eq hfin hd fun i o hi ho hds => ⟨fun _ => hi, fun _ => ?_⟩
        exact Classical.byContradiction fun hh => hex ⟨i, o, hi, hh, ho, hds⟩
  intro fuel
  induction fuel with
  | zero =>
    intro listed tm a w hL hl hu hJ hG
    exact go 0 listed tm a w (fun j hj _ => unl_zero (m := ops.size) (by omega) (by omega)) hL hl hu hJ hG
  | succ fuel ih =>
    intro listed tm a w hL hl hu hJ hG
    by_cases hall : ∀ j, j < n → j ∉ lates → lst listed j
    · exact go (fuel + 1) listed tm a w hall hL hl hu hJ hG
    · simp only [Classical.not_forall] at hall
      obtain ⟨u, hu1, hu0, hu2⟩ := hall
      refine ⟨fun hnil => absurd hnil (least_ready hF hL u (by omega) hu2), fun i hi => ?_⟩
      obtain ⟨h1, o, ho, he⟩ := (ready_spec hF hL).1 hi
      have hlt := (Array.getElem?_eq_some_iff.1 ho).1
      have hin : i < n := by
        rcases Nat.lt_or_ge i n with h' | h'
        · exact h'
        · rcases hX.tail i h' hlt u (by omega) with g | g
          · exact absurd (anc_listed hF hL (i + 1) i (by omega) ho he u g) hu2
          · exact absurd g hu0
      obtain ⟨hL', hs⟩ := Lk.set hF hL hi
      obtain ⟨tmi, q, hq, hJi, hVi⟩ := hat i o hin ho
      have hV : VQ P T ops H o tm q := VQ_congr hVi fun s hs => hJi.eq hJ hd (fun j p hj hp hpd => by
        by_cases e : i = j
        · subst e
          exact ⟨fun h => by omega, fun h => absurd h h1⟩
        · rcases (hF.looks ho hp e s hpd).2 hs with ⟨g1, g2⟩ | ⟨g1, g2⟩
          · obtain ⟨ed, g3, rfl⟩ := hasEdge_iff.1 g2
            exact ⟨fun _ => he ed g3, fun _ => g1⟩
          · refine ⟨fun h => by omega, fun h => ?_⟩
            obtain ⟨ed, g3, g4⟩ := hasEdge_iff.1 g2
            have := hL.closed j p h hp ed g3
            rw [g4] at this
            exact absurd this h1)
      simp only [wpOp, ho]
      refine VQ_op hTab hV hG (fun a' w' hG' => ih _ _ a' w' hL' (fun j hj => ?_) ?_ (hJ.step hin ho hq (lst_set hs)) hG')
      · rcases (lst_set hs j).1 hj with h | rfl
        · exact hl j h
        · exact hin
      · have := unl_set hlt hs h1
        omega
theorem drawOK3_ok {n : Nat} (h : drawOK3 ops n = true) : ∃ A, A = ancs ops.toList [] ∧ Facts ops ops.size A ∧ Lates3 ops n A (lateL A n ops.size) (lateS ops (lateL A n ops.size)) := by
  unfold drawOK3 at h
  simp only [Bool.and_eq_true] at h
  obtain ⟨⟨⟨⟨_, h1⟩, h2⟩, h4⟩, h5⟩ := h
  refine ⟨ancs ops.toList [], rfl, ⟨fun ho e he => ?_, fun {i j o p} ho hp hne d hd => ?_, fun ho j hj => ?_, fun i g1 g2 => by omega⟩, ⟨fun j hj => ?_, fun i g1 g2 j hj => ?_, fun j hj o ho i p d hp hd hm => ?_, fun j hj o ho => ⟨fun s hs => ?_, fun d hd => ?_⟩⟩⟩
  · have := edgesOK_ok h1 (get_list ho) e he
    omega
  · have h5 := allLooks_ok h2 (get_list ho)
    have := looksOK_ok h5 (get_list hp) (by omega) d hd
    simpa using this
  · rename_i i o
    have := ancs_closed ops.toList [] i o (get_list ho) j (by simpa using hj)
    simpa using this
  · exact List.mem_range.1 (List.mem_filter.1 hj).1
  · have := List.all_eq_true.1 h4 i (List.mem_range.2 g2)
    rw [Bool.or_eq_true] at this
    rcases this with h6 | h6
    · have h6 := Nat.le_of_ble_eq_true h6
      omega
    · have h7 := List.all_eq_true.1 h6 j (List.mem_range.2 hj)
      rw [Bool.or_eq_true] at h7
      exact h7.imp memL_iff.1 memL_iff.1
  · have := List.all_eq_true.1 h5 j hj
    rw [ho] at this
    dsimp only at this
    have := lateLooks_ok this (get_list hp) hd hm
    omega
  · exact List.mem_flatMap.2 ⟨j, hj, by rw [ho]; exact List.mem_append.2 (.inr hs)⟩
  · exact List.mem_flatMap.2 ⟨j, hj, by rw [ho]; simp only; rw [hd]; simp⟩
theorem evDraw3_ok (hm : P.follows .mixedOrders = true) (hTab : CallOK D P T) {id : Nat} {st : St} {a : Act} {w : World} {r : R} {k : St → Option R} {Q : Exit → Act → World → Prop}
    (h : evDraw3 P T base ops st k = some r) (hG : Gam F st a w) (hk : ∀ st' a' w', Gam F st' a' w' → k st' = some r → Q .normal a' w') : (Code.region id ops true).wp P Q a w := by
  unfold evDraw3 at h
  split at h
  · exact evDraw2_ok hm hTab h hG hk
  split at h
  · rename_i hok
    obtain ⟨A, hA, hF, hX⟩ := drawOK3_ok hok
    obtain ⟨rs, fin, hC, hev⟩ := evQs_chain h
    obtain ⟨hev, hpl⟩ := evLates_ok hev
    have hql : ∀ l : List Oper, quietN l ≤ l.length := by
      intro l
      induction l with
      | nil => exact Nat.le_refl _
      | cons o l ih =>
        unfold quietN
        split
        · omega
        · simp only [List.length_cons]; omega
    have hnm : quietN ops.toList ≤ ops.size := by simpa using hql ops.toList
    have hJ0 : ∀ L : Nat → Prop, (∀ j, ¬ L j) → JJ ops (quietN ops.toList) st.tm rs L st.tm := fun L hL => ⟨rfl, fun s => .inr ⟨fun i o _ hl => absurd hl (hL i), rfl⟩⟩
    obtain ⟨h1, h2⟩ := chain_at (n := quietN ops.toList) (tm0 := st.tm) (rs := rs) (i := 0) hC (fun j o hj => by
      rw [List.getElem?_take] at hj
      split at hj
      · simpa using hj
      · cases hj) (by simp [hnm]) (fun j => by simp) (hJ0 _ (by omega))
    have hno : ∀ j, ¬ lst (Array.replicate ops.size false) j := by
      intro j hj
      unfold lst at hj
      by_cases hlt : j < ops.size
      · simp [hlt] at hj
      · simp [hlt] at hj
    rw [← hA] at hev hpl
    have hsub := storedL_sub fin (ops.toList.drop (quietN ops.toList)) (subH_refl st.H)
    refine wp_region_any hm (main_any3 (base := base) hTab hF hX hnm (fin := fin) (rs := rs) (tm0 := st.tm) hk h1 (fun j o hj ho => h2 j o (Nat.zero_le _) hj ho) hsub hpl hev ops.size _ st.tm a _ ⟨by simp, fun j o hj => absurd hj (hno j)⟩ (fun j hj => absurd hj (hno j)) ?_ (hJ0 _ hno) ?_)
    · exact Nat.le_trans List.countP_le_length (by simp)
    · exact Gam.drew hG
  · cases h
end
end Go.Proofs.YtigekmmdflaeaaaDoorE
