/- The engine: regions that draw their order. -/
import Derived.Test.YtigekmmdflaeaaaDoorEng10
import Derived.Orders
set_option linter.all false
namespace Go.Proofs.YtigekmmdflaeaaaDoorE
open Go
set_option linter.unusedVariables false

def memL (i : Nat) : List Nat → Bool
  | [] => false
  | j :: l => match Nat.beq i j with
    | true => true
    | false => memL i l
theorem memL_iff {i : Nat} : ∀ {l : List Nat}, memL i l = true ↔ i ∈ l
  | [] => by simp [memL]
  | j :: l => by
    unfold memL
    cases h : Nat.beq i j with
    | true => simp [Nat.eq_of_beq_eq_true h]
    | false =>
      have : i ≠ j := fun e => by subst e; simp at h
      simp [this, memL_iff (l := l)]

/-- operands, seen only where the operation looks -/
def rho (rs : List Nat) (tm : List AV) : Operand → AV
  | .tmp t => match memL t rs with
    | true => tm.getD t .top
    | false => .top
  | x => evl tm x

section
variable {R : Type}
/-- An operation that leaves what is there alone; a new array is only read from here on. -/
def evQ (P : Program) (T : Tab) (H : Hp) (o : Oper) (ρ : Operand → AV) (k : AV → Option R) : Option R :=
  match pureOp P o.op ρ with
  | .ok av => k av
  | .chk c av => if c = true then k av else none
  | .no => match o.op with
    | .load _ _ => match evH P H o.op ρ 0 with
      | .go c av _ _ => if c = true then k av else none
      | .no => none
    | .indexAddr _ _ _ => match evH P H o.op ρ 0 with
      | .go c av _ _ => if c = true then k av else none
      | .no => none
    | .build _ _ => match evG P H o.op ρ 0 with
      | .go c av _ _ => if c = true then k av else none
      | .no => none
    | .buildSlice t len parts => match evG P [] (.buildSlice t len parts) ρ 0 with
      | .go c _ ((0, .arr e ty l) :: []) _ => if c = true then k (.row ty l) else none
      | _ => none
    | .call c => match c.callee with
      | .builtin .len => match evH P H o.op ρ 0 with
        | .go c av _ _ => if c = true then k av else none
        | .no => none
      | .value f => match ρ f with
        | .fn g caps => match noIds (viewAs H (c.args.toList.map ρ ++ caps)) with
          | true => match T g (viewAs H (c.args.toList.map ρ ++ caps)) with
            | some out => out.o.bind fun x => match noIds (c.args.toList.map ρ ++ caps) || (flatA (out.f x 0) && flatB (out.nb x)) with
              | true => match out.nb x with
                | none => match noId (out.f x 0) with
                  | true => k (out.f x 0)
                  | false => none
                | some (.arr e t l) => match noId (frz 0 t l (out.f x 0)) with
                  | true => k (frz 0 t l (out.f x 0))
                  | false => none
                | _ => none
              | false => none
            | none => none
          | false => none
        | _ => none
      | _ => none
    | _ => none

def evQg (P : Program) (T : Tab) (H : Hp) (ops : Array Oper) (o : Oper) (tm : List AV) (k : List AV → Option R) : Option R :=
  match o.guard with
  | none => match idxOf P o.op tm with
    | some (s, kd, n, len) => splitN len 0 n fun m => evQ P T H o (rho (o.looksAt ops) (tm.set s (I kd m))) fun av => k (putA (tm.set s (I kd m)) o.dst av)
    | none => evQ P T H o (rho (o.looksAt ops) tm) fun av => k (putA tm o.dst av)
  | some (j, want) => match guardSlot ops j with
    | some t => match tm[t]? with
      | some (.sc (.bool b)) =>
        if b = true then match want with
          | true => evQ P T H o (rho (o.looksAt ops) (tm.set t (B true))) fun av => k (putA (tm.set t (B true)) o.dst av)
          | false => k (putA (tm.set t (B true)) o.dst (.sc undef))
        else match want with
          | true => k (putA (tm.set t (B false)) o.dst (.sc undef))
          | false => evQ P T H o (rho (o.looksAt ops) (tm.set t (B false))) fun av => k (putA (tm.set t (B false)) o.dst av)
      | some (.sc (.tuple _)) => k (putA tm o.dst (.sc undef))
      | _ => none
    | none => none

noncomputable def evQs (P : Program) (T : Tab) (H : Hp) (ops : Array Oper) : List Oper → List AV → (List AV → Option R) → Option R
  | [], tm, k => k tm
  | o :: l, tm, k => evQg P T H ops o tm fun tm' => evQs P T H ops l tm' k
end

/-! ### what may be said of the order -/
/-- the edges that bind, whatever the compiler -/
def bed (o : Oper) : List Edge := o.after.toList.filter (Region.binds .any)
def hasEdge (o : Oper) (j : Nat) : Bool := (bed o).any fun e => Nat.beq e.on j
/-- for each operation: some that come ahead of it -/
def unL : List Nat → List Nat → List Nat
  | [], s => s
  | j :: l, s => match memL j s with
    | true => unL l s
    | false => unL l (j :: s)
def ancE (acc : List (List Nat)) : List Nat → List Nat → List Nat
  | [], s => s
  | j :: l, s => match memL j s with
    | true => ancE acc l s
    | false => ancE acc l (j :: unL (acc.getD j []) s)
def ancs : List Oper → List (List Nat) → List (List Nat)
  | [], acc => acc
  | o :: l, acc => ancs l (acc ++ [ancE acc ((bed o).map (·.on)).reverse []])
theorem unL_mem {j : Nat} : ∀ (l s : List Nat), j ∈ unL l s → j ∈ l ∨ j ∈ s
  | [], s, h => .inr h
  | x :: l, s, h => by
    unfold unL at h
    split at h
    · rcases unL_mem l s h with h | h
      · exact .inl (List.mem_cons_of_mem _ h)
      · exact .inr h
    · rcases unL_mem l _ h with h | h
      · exact .inl (List.mem_cons_of_mem _ h)
      · rcases List.mem_cons.1 h with rfl | h
        · exact .inl List.mem_cons_self
        · exact .inr h
theorem ancE_mem {acc : List (List Nat)} {j : Nat} : ∀ (l s : List Nat), j ∈ ancE acc l s → j ∈ s ∨ j ∈ l ∨ ∃ i ∈ l, j ∈ acc.getD i []
  | [], s, h => .inl h
  | x :: l, s, h => by
    unfold ancE at h
    split at h
    · rcases ancE_mem l s h with h | h | ⟨i, hi, h⟩
      · exact .inl h
      · exact .inr (.inl (List.mem_cons_of_mem _ h))
      · exact .inr (.inr ⟨i, List.mem_cons_of_mem _ hi, h⟩)
    · rcases ancE_mem l _ h with h | h | ⟨i, hi, h⟩
      · rcases List.mem_cons.1 h with rfl | h
        · exact .inr (.inl List.mem_cons_self)
        · rcases unL_mem _ _ h with h | h
          · exact .inr (.inr ⟨x, List.mem_cons_self, h⟩)
          · exact .inl h
      · exact .inr (.inl (List.mem_cons_of_mem _ h))
      · exact .inr (.inr ⟨i, List.mem_cons_of_mem _ hi, h⟩)
theorem ancs_get : ∀ (l : List Oper) (acc : List (List Nat)) (i : Nat), i < acc.length → (ancs l acc).getD i [] = acc.getD i []
  | [], _, _, _ => rfl
  | o :: l, acc, i, h => by
    unfold ancs
    rw [ancs_get l _ i (by simp; omega)]
    simp [List.getD_eq_getElem?_getD, List.getElem?_append_left h]
theorem ancs_closed : ∀ (l : List Oper) (acc : List (List Nat)) (k : Nat) (o : Oper), l[k]? = some o → ∀ j, j ∈ (ancs l acc).getD (acc.length + k) [] → (∃ e ∈ bed o, e.on = j) ∨ ∃ e ∈ bed o, j ∈ (ancs l acc).getD e.on []
  | [], acc, k, o, h, j, hj => by simp at h
  | o' :: l, acc, 0, o, h, j, hj => by
    have e : o' = o := by simpa using h
    subst e
    have e1 : (ancs (o' :: l) acc).getD (acc.length + 0) [] = ancE acc ((bed o').map (·.on)).reverse [] := by
      unfold ancs
      rw [ancs_get l _ _ (by simp)]
      simp [List.getD_eq_getElem?_getD]
    rw [e1] at hj
    rcases ancE_mem _ _ hj with h | h | ⟨i, hi, h⟩
    · cases h
    · obtain ⟨e, he, h⟩ := List.mem_map.1 (List.mem_reverse.1 h)
      exact .inl ⟨e, he, h⟩
    · obtain ⟨e, he, rfl⟩ := List.mem_map.1 (List.mem_reverse.1 hi)
      refine .inr ⟨e, he, ?_⟩
      by_cases c : e.on < acc.length
      · unfold ancs
        rw [ancs_get l _ _ (by simp; omega)]
        simp only [List.getD_eq_getElem?_getD, List.getElem?_append_left c] at h ⊢
        exact h
      · rw [List.getD_eq_getElem?_getD, List.getElem?_eq_none (by omega)] at h
        cases h
  | o' :: l, acc, k + 1, o, h, j, hj => by
    have h' : l[k]? = some o := by simpa using h
    have := ancs_closed l (acc ++ [ancE acc ((bed o').map (·.on)).reverse []]) k o h' j
    rw [show (acc ++ [ancE acc ((bed o').map (·.on)).reverse []]).length + k = acc.length + (k + 1) by simp; omega] at this
    exact this hj
def edgesOK : List Oper → Nat → Bool
  | [], _ => true
  | o :: l, i => ((bed o).all fun e => Nat.blt e.on i) && edgesOK l (i + 1)
/-- j, k: numbers; whatever o (number i) looks at is written ahead of it, or behind it -/
def looksOK (ops : Array Oper) (o : Oper) (i : Nat) : List Oper → Nat → Bool
  | [], _ => true
  | p :: l, j => (match p.dst with
      | none => true
      | some d => match Nat.beq i j with
        | true => true
        | false => (match o.dst with
            | some d' => !(Nat.beq d d')
            | none => true) && (match memL d (o.looksAt ops) with
            | false => true
            | true => match Nat.blt j i with
              | true => hasEdge o j
              | false => hasEdge p i)) && looksOK ops o i l (j + 1)
def allLooks (ops : Array Oper) : List Oper → Nat → Bool
  | [], _ => true
  | o :: l, i => looksOK ops o i ops.toList 0 && allLooks ops l (i + 1)
/-- from number n on each one waits for all ahead of it -/
def closedOK (A : List (List Nat)) : List Oper → Nat → Bool
  | [], _ => true
  | o :: l, i => ((A.getD i []).all fun j => hasEdge o j || (bed o).any fun e => memL j (A.getD e.on [])) && closedOK A l (i + 1)
def tailOK (A : List (List Nat)) (m : Nat) : Nat → Nat → Bool
  | 0, _ => true
  | f + 1, i => match Nat.blt i m with
    | true => ((List.range i).all fun j => memL j (A.getD i [])) && tailOK A m f (i + 1)
    | false => true
def drawOK (ops : Array Oper) (n : Nat) : Bool :=
  Region.noSelect ops && edgesOK ops.toList 0 && allLooks ops ops.toList 0 && tailOK (ancs ops.toList []) ops.size ops.size n

/-- How many operations may come in whatever order. -/
def isX (o : Oper) : Bool := match o.op with
  | .store _ _ _ | .alloc _ | .box _ _ | .makeSlice _ _ _ => true
  | .slice _ _ _ _ (some _) => true
  | .call c => match c.callee with
    | .builtin .append => true
    | _ => false
  | _ => false
def quietN : List Oper → Nat
  | [] => 0
  | o :: l => match isX o with
    | true => 0
    | false => quietN l + 1

section
variable {R : Type}
noncomputable def evDraw (P : Program) (T : Tab) (base : Nat) (ops : Array Oper) (st : St) (k : St → Option R) : Option R :=
  match drawOK ops (quietN ops.toList) with
  | true => evQs P T st.H ops (ops.toList.take (quietN ops.toList)) st.tm fun tm => evOps P T base ops (ops.toList.drop (quietN ops.toList)) ⟨tm, st.H⟩ k
  | false => none
end

section
variable {P : Program} {T : Tab} {D : Cx} {F : Fr D} {R : Type} {base : Nat} {ops : Array Oper}

/-- What a quiet operation leaves: its answer told, all else as it was. -/
def QOK (P : Program) {D : Cx} (F : Fr D) (H : Hp) (o : Oper) (tm : List AV) (av : AV) : Prop :=
  ∀ (a : Act) (w : World) (next : Act → World → Prop) (Q : Exit → Act → World → Prop), Gam F ⟨tm, H⟩ a w → (∀ a' w', Gam F ⟨putA tm o.dst av, H⟩ a' w' → next a' w') → o.wp P a w next Q

theorem rho_ok {μ : Nat → Value} {S : Nat → Prop} {w : World} {tm : List AV} {a : Act} {rs : List Nat} (h : VsOK μ S w tm a.tmps.toList) (x : Operand) : VOK μ S w (rho rs tm x) (a.eval x) := by
  cases x with
  | tmp t =>
    simp only [rho]
    cases memL t rs with
    | true => exact evl_ok h (.tmp t)
    | false => trivial
  | const v => exact evl_ok h (.const v)
  | global g => exact evl_ok h (.global g)
  | func f => exact evl_ok h (.func f)

/-- The direct form: what an operation's answer is. -/
theorem evQ_nat {H : Hp} {o : Oper} {ρ : Operand → AV} {k : AV → Option R} {r : R} (h : evQ P T H o ρ k = some r) : ∃ av, evQ P T H o ρ some = some av ∧ k av = some r := by
  unfold evQ at h ⊢
  have ifs : ∀ {c : Bool} {av : AV}, (if c = true then k av else none) = some r → ∃ av', (if c = true then some av else none) = some av' ∧ k av' = some r := by
    intro c av h
    split at h
    · rename_i hc; exact ⟨av, by simp [hc], h⟩
    · cases h
  split at h
  · exact ⟨_, rfl, h⟩
  · exact ifs h
  · split at h
    · split at h
      · exact ifs h
      · cases h
    · split at h
      · exact ifs h
      · cases h
    · split at h
      · exact ifs h
      · cases h
    · split at h
      · exact ifs h
      · cases h
    · split at h
      · split at h
        · exact ifs h
        · cases h
      · split at h
        · split at h
          · split at h
            · rename_i out ho
              obtain ⟨x, hx, h⟩ := Option.bind_eq_some_iff.1 h
              rw [hx]
              simp only [Option.bind_some]
              split at h
              · split at h
                · split at h
                  · exact ⟨_, rfl, h⟩
                  · cases h
                · split at h
                  · exact ⟨_, rfl, h⟩
                  · cases h
                · cases h
              · cases h
            · cases h
          · cases h
        · cases h
      · cases h
    · cases h

theorem load_same {T : TypeId} {p : Operand} {H H' : Hp} {ρ : Operand → AV} {id : Nat} {c : Bool} {av : AV} {g : Option Nat} (h : evH P H (.load T p) ρ id = .go c av H' g) : H' = H ∧ g = none := by
  simp only [evH] at h
  repeat' split at h
  all_goals first
    | (cases h; exact ⟨rfl, rfl⟩)
    | cases h
theorem index_same {t : TypeId} {x i : Operand} {H H' : Hp} {ρ : Operand → AV} {id : Nat} {c : Bool} {av : AV} {g : Option Nat} (h : evH P H (.indexAddr t x i) ρ id = .go c av H' g) : H' = H ∧ g = none := by
  simp only [evH] at h
  repeat' split at h
  all_goals first
    | (cases h; exact ⟨rfl, rfl⟩)
    | cases h
theorem len_same {cl : Call} (hcal : cl.callee = .builtin .len) {H H' : Hp} {ρ : Operand → AV} {id : Nat} {c : Bool} {av : AV} {g : Option Nat} (h : evH P H (.call cl) ρ id = .go c av H' g) : H' = H ∧ g = none := by
  simp only [evH, hcal] at h
  repeat' split at h
  all_goals first
    | (cases h; exact ⟨rfl, rfl⟩)
    | cases h
theorem build_same {t : TypeId} {parts : Array (Nat × Operand)} {H H' : Hp} {ρ : Operand → AV} {id : Nat} {c : Bool} {av : AV} {g : Option Nat} (h : evG P H (.build t parts) ρ id = .go c av H' g) : H' = H ∧ g = none := by
  simp only [evG] at h
  repeat' split at h
  all_goals first
    | (cases h; exact ⟨rfl, rfl⟩)
    | cases h

/-- More is read only. -/
theorem grow_inv {w' : World} {μ : Nat → Value} {S S' : Nat → Prop} {H : Hp} {w : World} (hI : Inv F μ S H w) (hb : Bel D w w') (hS : ∀ b, S b → S' b) (hS2 : ∀ b, S' b → (S b ∨ w.heap.size ≤ b) ∧ b < w'.heap.size) : Inv F μ S' H w' := call_inv hI hb hS hS2

theorem frz_res {u : Value} {S' S2 : Nat → Prop} {w : World} {e : TypeId} {t : Ty} {l : List (El t)} {av : AV} {v : Value} (hSS : ∀ b, S' b → S2 b) (hb : ∀ b, bof u = some b → S2 b) (hB : BOK (fun _ => u) S' w 0 (.arr e t l)) (hv : VOK (fun _ => u) S' w av v) : VOK (fun _ => u) S2 w (frz 0 t l av) v := by
  refine VOK.frz (id := 0) hSS ?_ hv
  exact Rd.mono (fun b h => h.elim (hSS b) (hb b)) (Nat.le_refl _) (fun _ _ => rfl) (arr_row hB)

theorem evQ_ok (hTab : CallOK D P T) {H : Hp} {o : Oper} {rs : List Nat} {tm : List AV} {av : AV} (h : evQ P T H o (rho rs tm) some = some av) : QOK P F H o tm av := by
  intro a w next Q hG hn
  obtain ⟨μ, S, hI, hV, hD⟩ := hG
  have hρ := rho_ok (a := a) (rs := rs) hV
  have hp := pureOp_ok (P := P) (op := o.op) hρ
  have pure : ∀ {v : Value}, (execOp a.eval o).run P w = .ok (.value v) w → VOK μ S w av v → o.wp P a w next Q := fun hr hv =>
    upon_of hr (.inl rfl) (hn _ _ (Gam.put (st := ⟨tm, H⟩) hI hV hD hv))
  have stepped : ∀ {H' : Hp} {g : Option Nat}, Step P F o.op a w (tmGone tm g) H' av → H' = H ∧ g = none → o.wp P a w next Q := by
    rintro H' g hs ⟨rfl, rfl⟩
    exact step_wp hs hD hn
  unfold evQ at h
  split at h
  · rename_i av' hpo
    cases h
    rw [hpo] at hp
    obtain ⟨v, hr, hv⟩ := hp o rfl
    exact pure hr hv
  · rename_i c av' hpo
    rw [hpo] at hp
    split at h
    · rename_i hc
      cases h
      obtain ⟨v, hr, hv⟩ := hp hc o rfl
      exact pure hr hv
    · cases h
  · split at h
    · rename_i t p ho
      split at h
      · rename_i c av' H' g hev
        split at h
        · rename_i hc
          cases h
          rw [ho] at hev
          exact stepped (by rw [ho]; exact evH_load hI hV hρ hev hc) (load_same hev)
        · cases h
      · cases h
    · rename_i t x i ho
      split at h
      · rename_i c av' H' g hev
        split at h
        · rename_i hc
          cases h
          rw [ho] at hev
          exact stepped (by rw [ho]; exact evH_index hI hV hρ hev hc) (index_same hev)
        · cases h
      · cases h
    · rename_i t parts ho
      split at h
      · rename_i c av' H' g hev
        split at h
        · rename_i hc
          cases h
          rw [ho] at hev
          exact stepped (by rw [ho]; exact evG_build hI hV hρ hev hc) (build_same hev)
        · cases h
      · cases h
    · rename_i t len parts ho
      split at h
      · rename_i c av' e ty l g hev
        split at h
        · rename_i hc
          cases h
          obtain ⟨e', ty', l', vs, _, h2, _, _, h6, hmax, h7, hr⟩ := buildSlice_run hρ hev
          simp only [keepH, rm, List.cons.injEq, Prod.mk.injEq, true_and, and_true] at h2
          cases h2
          -- the new block is read only
          have hb : Bel D w (w.alloc (.cells vs e)) := ⟨⟨rfl, rfl, rfl, by simp, fun k hk => heap_alloc_lt w _ hk⟩, fun _ => Nat.le_refl _⟩
          have hI2 : Inv F μ (fun b => S b ∨ b = w.heap.size) H (w.alloc (.cells vs e)) := call_inv hI hb (fun b h => .inl h) (fun b h => by
            rcases h with h | rfl
            · exact ⟨.inl h, by have := hI.Slt b h; simp; omega⟩
            · exact ⟨.inr (Nat.le_refl _), by simp⟩)
          have hSw : ∀ b, S b → (w.alloc (.cells vs e)).heap[b]? = w.heap[b]? := fun b h => heap_alloc_lt w _ (hI.Slt b h)
          have hv : VOK μ (fun b => S b ∨ b = w.heap.size) (w.alloc (.cells vs e)) (.row ty l) (.slice (some ⟨w.heap.size, 0, none⟩) len len) := by
            refine ⟨some ⟨w.heap.size, 0, none⟩, len, by rw [h6], by omega, hmax, fun i x hx => ?_⟩
            obtain ⟨cs, h8, h9⟩ := RdL.get h7 hx
            refine ⟨w.heap.size, 0, cs, rfl, .inr rfl, by simp, Rd.mono (fun b h => .inl h) (by simp) hSw h8, fun j u hu => ?_⟩
            rw [Nat.zero_add]
            have := h9 j u hu
            simp only [World.cell?_alloc_new]
            rw [← Array.getElem?_toList]
            exact this
          exact upon_of (hr o ho) (.inl rfl) (hn _ _ ⟨μ, _, hI2, putA_ok (VsOK.mono (fun b h => .inl h) (by simp) hSw hV) hv, by rw [put_defers]; exact hD⟩)
        · cases h
      · cases h
    · rename_i c ho
      split at h
      · rename_i hcal
        split at h
        · rename_i c' av' H' g hev
          split at h
          · rename_i hc
            cases h
            rw [ho] at hev
            exact stepped (by rw [ho]; exact evH_len hcal hI hV hρ hev hc) (len_same hcal hev)
          · cases h
        · cases h
      · rename_i f hcal
        split at h
        · rename_i g caps hf
          split at h
          · rename_i hno
            split at h
            · rename_i out hout
              obtain ⟨x, hx, h⟩ := Option.bind_eq_some_iff.1 h
              split at h
              · rename_i hchk
                refine call_core hTab ho hcal hf hno hout hx hchk hI hρ ?_
                intro v u S2 w' hb hI' hS2 hv2 hB
                have hSw : ∀ b, S b → w'.heap[b]? = w.heap[b]? := fun b h => hb.block b (hI.Slt b h)
                split at h
                · rename_i hnb
                  split at h
                  · rename_i hn'
                    cases h
                    exact hn _ _ ⟨μ, _, hI', putA_ok (VsOK.mono (fun b h => .inl h) hb.size hSw hV) (noId_ok hn' hv2), by rw [put_defers]; exact hD⟩
                  · cases h
                · rename_i e t l hnb
                  split at h
                  · rename_i hn'
                    cases h
                    have hBB := hB _ hnb
                    have hul : ∀ b, bof u = some b → b < w'.heap.size := fun b hbu => bof_lt (μ := fun _ => u) (id := 0) (B := .arr e t l) (by
                      rcases hBB.1 with h | ⟨b, c, us, rest, h1, h2⟩
                      · exact .inl h
                      · exact .inr ⟨b, c, us, rest, h1, h2⟩) hbu
                    have hI2 : Inv F μ (fun b => S b ∨ (w.heap.size ≤ b ∧ (S2 b ∨ bof u = some b))) H w' := call_inv hI hb (fun b h => .inl h) (fun b h => by
                      rcases h with h | ⟨h1, h2⟩
                      · exact ⟨.inl h, Nat.lt_of_lt_of_le (hI.Slt b h) hb.size⟩
                      · exact ⟨.inr h1, h2.elim (hS2 b) (hul b)⟩)
                    have hv3 : VOK (fun _ => u) (fun b => S b ∨ (w.heap.size ≤ b ∧ (S2 b ∨ bof u = some b))) w' (frz 0 t l (out.f x 0)) v :=
                      frz_res (e := e) (fun b h => h.imp (fun h => h) (fun h => ⟨h.1, .inl h.2⟩)) (fun b hbu => .inr ⟨(hBB.2 b hbu).1, .inr hbu⟩) hBB.1 hv2
                    exact hn _ _ ⟨μ, _, hI2, putA_ok (VsOK.mono (fun b h => .inl h) hb.size hSw hV) (noId_ok hn' hv3), by rw [put_defers]; exact hD⟩
                  · cases h
                · cases h
              · cases h
            · cases h
          · cases h
        · cases h
      · cases h
    · cases h

/-! ### whatever the order -/
/-- What operation o leaves, from slots tm. -/
def VQ (P : Program) (T : Tab) (ops : Array Oper) (H : Hp) (o : Oper) (tm : List AV) (r : AV) : Prop :=
  (o.guard = none ∧ evQ P T H o (rho (o.looksAt ops) tm) some = some r) ∨
  (∃ j want t b, o.guard = some (j, want) ∧ guardSlot ops j = some t ∧ tm[t]? = some (.sc (.bool b)) ∧ ((b = want ∧ evQ P T H o (rho (o.looksAt ops) tm) some = some r) ∨ (b ≠ want ∧ r = .sc undef))) ∨
  ∃ j want t l, o.guard = some (j, want) ∧ guardSlot ops j = some t ∧ tm[t]? = some (.sc (.tuple l)) ∧ r = .sc undef

def Chain (P : Program) (T : Tab) (ops : Array Oper) (H : Hp) : List Oper → List AV → List AV → List AV → Prop
  | [], tm, rs, fin => rs = [] ∧ fin = tm
  | o :: l, tm, rs, fin => ∃ r rs', rs = r :: rs' ∧ VQ P T ops H o tm r ∧ Chain P T ops H l (putA tm o.dst r) rs' fin

theorem set_self {tm : List AV} {t : Nat} {x : AV} (h : tm[t]? = some x) : tm.set t x = tm := by
  apply List.ext_getElem?
  intro j
  by_cases hj : t = j
  · subst hj
    rw [List.getElem?_set_self (List.getElem?_eq_some_iff.1 h).1, h]
  · rw [List.getElem?_set_ne hj]

theorem set_self' {tm : List AV} {t : Nat} {x : AV} (h : tm[t]? = some x) : tm.set t x = tm := set_self h
theorem evQg_nat {H : Hp} {o : Oper} {tm : List AV} {k : List AV → Option R} {r : R} (h : evQg P T H ops o tm k = some r) : ∃ av, VQ P T ops H o tm av ∧ k (putA tm o.dst av) = some r := by
  unfold evQg at h
  split at h
  · rename_i hg
    split at h
    · rename_i s kd n len hix
      obtain ⟨m, e0, h3⟩ := splitN_ok h
      have e : tm.set s (I kd m) = tm := set_self' (by rw [← e0]; exact idxOf_ok hix)
      rw [e] at h3
      obtain ⟨av, h1, h2⟩ := evQ_nat h3
      exact ⟨av, .inl ⟨hg, h1⟩, h2⟩
    · obtain ⟨av, h1, h2⟩ := evQ_nat h
      exact ⟨av, .inl ⟨hg, h1⟩, h2⟩
  · rename_i j want hg
    split at h
    · rename_i t hs
      split at h
      · rename_i b ht
        split at h
        · rename_i hb
          subst hb
          have e : tm.set t (B true) = tm := set_self ht
          rw [e] at h
          cases want with
          | true =>
            obtain ⟨av, h1, h2⟩ := evQ_nat h
            exact ⟨av, .inr (.inl ⟨j, true, t, true, hg, hs, ht, .inl ⟨rfl, h1⟩⟩), h2⟩
          | false => exact ⟨.sc undef, .inr (.inl ⟨j, false, t, true, hg, hs, ht, .inr ⟨by simp, rfl⟩⟩), h⟩
        · rename_i hb
          have hb' : b = false := by simpa using hb
          subst hb'
          have e : tm.set t (B false) = tm := set_self ht
          rw [e] at h
          cases want with
          | true => exact ⟨.sc undef, .inr (.inl ⟨j, true, t, false, hg, hs, ht, .inr ⟨by simp, rfl⟩⟩), h⟩
          | false =>
            obtain ⟨av, h1, h2⟩ := evQ_nat h
            exact ⟨av, .inr (.inl ⟨j, false, t, false, hg, hs, ht, .inl ⟨rfl, h1⟩⟩), h2⟩
      · rename_i l ht
        exact ⟨.sc undef, .inr (.inr ⟨j, want, t, l, hg, hs, ht, rfl⟩), h⟩
      · cases h
    · cases h

theorem evQs_chain {H : Hp} {r : R} {k : List AV → Option R} : ∀ {l : List Oper} {tm : List AV}, evQs P T H ops l tm k = some r → ∃ rs fin, Chain P T ops H l tm rs fin ∧ k fin = some r
  | [], tm, h => ⟨[], tm, ⟨rfl, rfl⟩, h⟩
  | o :: l, tm, h => by
    obtain ⟨av, h1, h2⟩ := evQg_nat h
    obtain ⟨rs, fin, h3, h4⟩ := evQs_chain h2
    exact ⟨av :: rs, fin, ⟨av, rs, rfl, h1, h3⟩, h4⟩

/-- one operation of the region -/
theorem VQ_op (hTab : CallOK D P T) {H : Hp} {o : Oper} {tm : List AV} {r : AV} (h : VQ P T ops H o tm r) {a : Act} {w : World} {K : Act → World → Prop} {Q : Exit → Act → World → Prop} (hG : Gam F ⟨tm, H⟩ a w) (hK : ∀ a' w', Gam F ⟨putA tm o.dst r, H⟩ a' w' → K a' w') :
    if Region.wanted o (yielded ops a.tmps) then o.wp P a w K Q ∨ (o.asks P a w ∧ LetsOut Q) else K (a.put o.dst undef) w := by
  rcases h with ⟨hg, h1⟩ | ⟨j, want, t, b, hg, hs, ht, h1⟩ | ⟨j, want, t, l, hg, hs, ht, rfl⟩
  · have : Region.wanted o (yielded ops a.tmps) = true := by simp [Region.wanted, hg]
    rw [if_pos this]
    exact .inl (evQ_ok hTab h1 a w K Q hG hK)
  · obtain ⟨μ, S, hI, hV, hD⟩ := hG
    obtain ⟨u, hu, hv⟩ := VsOK.get hV ht
    rw [VOK] at hv
    subst hv
    have hy : yielded ops a.tmps j = some b := by
      unfold guardSlot at hs
      rw [Array.getElem?_toList] at hu
      simp only [yielded, hs, Option.bind_some, hu]
    have hwant : Region.wanted o (yielded ops a.tmps) = (b == want) := by
      simp only [Region.wanted, hg, hy]
      cases b <;> cases want <;> rfl
    rw [hwant]
    rcases h1 with ⟨rfl, h2⟩ | ⟨hne, rfl⟩
    · rw [if_pos (by simp)]
      exact .inl (evQ_ok hTab h2 a w K Q ⟨μ, S, hI, hV, hD⟩ hK)
    · rw [if_neg (by simpa using hne)]
      exact hK _ _ ⟨μ, S, hI, putA_ok (av := .sc undef) hV rfl, by rw [put_defers]; exact hD⟩
  · obtain ⟨μ, S, hI, hV, hD⟩ := hG
    obtain ⟨u, hu, hv⟩ := VsOK.get hV ht
    rw [VOK] at hv
    subst hv
    have hy : yielded ops a.tmps j = none := by
      unfold guardSlot at hs
      rw [Array.getElem?_toList] at hu
      simp only [yielded, hs, Option.bind_some, hu]
    have hwant : Region.wanted o (yielded ops a.tmps) = false := by
      simp [Region.wanted, hg, hy]
    rw [hwant, if_neg (by simp)]
    exact hK _ _ ⟨μ, S, hI, putA_ok (av := .sc undef) hV rfl, by rw [put_defers]; exact hD⟩

theorem rho_congr {rs : List Nat} {tm tm' : List AV} (h : ∀ s, s ∈ rs → tm[s]? = tm'[s]?) : rho rs tm = rho rs tm' := by
  funext x
  cases x with
  | tmp t =>
    simp only [rho]
    cases hm : memL t rs with
    | true =>
      have := h t (memL_iff.1 hm)
      simp only [List.getD_eq_getElem?_getD, this]
    | false => rfl
  | const v => rfl
  | global g => rfl
  | func f => rfl

theorem VQ_congr {H : Hp} {o : Oper} {tm tm' : List AV} {r : AV} (h : VQ P T ops H o tm r) (he : ∀ s, s ∈ o.looksAt ops → tm[s]? = tm'[s]?) : VQ P T ops H o tm' r := by
  have hr := rho_congr he
  rcases h with ⟨hg, h1⟩ | ⟨j, want, t, b, hg, hs, ht, h1⟩ | ⟨j, want, t, l, hg, hs, ht, rfl⟩
  · exact .inl ⟨hg, by rw [← hr]; exact h1⟩
  · refine .inr (.inl ⟨j, want, t, b, hg, hs, ?_, ?_⟩)
    · rw [← he t ?_]
      · exact ht
      · unfold Oper.looksAt
        unfold guardSlot at hs
        simp [hg, hs]
    · rw [← hr]; exact h1
  · refine .inr (.inr ⟨j, want, t, l, hg, hs, ?_, rfl⟩)
    rw [← he t ?_]
    · exact ht
    · unfold Oper.looksAt
      unfold guardSlot at hs
      simp [hg, hs]

/-! what the looked-at Bools say -/
theorem edgesOK_ok : ∀ {l : List Oper} {i : Nat}, edgesOK l i = true → ∀ {j : Nat} {o : Oper}, l[j]? = some o → ∀ e ∈ bed o, e.on < i + j
  | [], i, _, j, o, hj, e, he => by simp at hj
  | p :: l, i, h, j, o, hj, e, he => by
    simp only [edgesOK, Bool.and_eq_true, List.all_eq_true] at h
    cases j with
    | zero =>
      simp only [List.getElem?_cons_zero, Option.some.injEq] at hj
      subst hj
      have := h.1 e he
      have hb := (Nat.blt_eq.mp this)
      omega
    | succ j =>
      have := edgesOK_ok h.2 (j := j) (by simpa using hj) e he
      omega

theorem hasEdge_iff {o : Oper} {j : Nat} : hasEdge o j = true ↔ ∃ e ∈ bed o, e.on = j := by
  unfold hasEdge
  rw [List.any_eq_true]
  constructor
  · rintro ⟨e, he, h⟩
    exact ⟨e, he, Nat.eq_of_beq_eq_true h⟩
  · rintro ⟨e, he, h⟩
    exact ⟨e, he, by rw [h]; simp⟩

theorem looksOK_ok {o : Oper} {i : Nat} : ∀ {l : List Oper} {j0 : Nat}, looksOK ops o i l j0 = true → ∀ {j : Nat} {p : Oper}, l[j]? = some p → i ≠ j0 + j → ∀ d, p.dst = some d → o.dst ≠ some d ∧ (d ∈ o.looksAt ops → (j0 + j < i ∧ hasEdge o (j0 + j) = true) ∨ (i < j0 + j ∧ hasEdge p i = true))
  | [], j0, _, j, p, hj, _, _, _ => by simp at hj
  | q :: l, j0, h, j, p, hj, hne, d, hd => by
    simp only [looksOK, Bool.and_eq_true] at h
    cases j with
    | zero =>
      simp only [List.getElem?_cons_zero, Option.some.injEq] at hj
      subst hj
      have h1 := h.1
      rw [hd] at h1
      simp only at h1
      have hij : Nat.beq i j0 = false := by
        cases hb : Nat.beq i j0 with
        | false => rfl
        | true => exact absurd (Nat.eq_of_beq_eq_true hb) hne
      rw [hij] at h1
      simp only [Bool.and_eq_true] at h1
      refine ⟨?_, fun hl => ?_⟩
      · intro ho
        rw [ho] at h1
        simp at h1
      · have h2 := h1.2
        rw [memL_iff.2 hl] at h2
        simp only at h2
        cases hb : Nat.blt j0 i with
        | true =>
          rw [hb] at h2
          exact .inl ⟨by have := (Nat.blt_eq.mp hb); omega, h2⟩
        | false =>
          rw [hb] at h2
          refine .inr ⟨?_, h2⟩
          have : ¬ j0 < i := fun hh => by rw [(Nat.blt_eq.mpr hh)] at hb; cases hb
          simp only [Nat.add_zero] at hne
          omega
    | succ j =>
      have := looksOK_ok h.2 (j := j) (p := p) (by simpa using hj) (by omega) d hd
      rw [show j0 + (j + 1) = j0 + 1 + j by omega]
      exact this
theorem allLooks_ok : ∀ {l : List Oper} {i0 : Nat}, allLooks ops l i0 = true → ∀ {i : Nat} {o : Oper}, l[i]? = some o → looksOK ops o (i0 + i) ops.toList 0 = true
  | [], i0, _, i, o, hi => by simp at hi
  | p :: l, i0, h, i, o, hi => by
    simp only [allLooks, Bool.and_eq_true] at h
    cases i with
    | zero =>
      simp only [List.getElem?_cons_zero, Option.some.injEq] at hi
      subst hi
      exact h.1
    | succ i =>
      have := allLooks_ok h.2 (i := i) (o := o) (by simpa using hi)
      rwa [show i0 + (i + 1) = i0 + 1 + i by omega]
theorem closedOK_ok {A : List (List Nat)} : ∀ {l : List Oper} {i0 : Nat}, closedOK A l i0 = true → ∀ {i : Nat} {o : Oper}, l[i]? = some o → ∀ j, j ∈ A.getD (i0 + i) [] → (∃ e ∈ bed o, e.on = j) ∨ ∃ e ∈ bed o, j ∈ A.getD e.on []
  | [], i0, _, i, o, hi, _, _ => by simp at hi
  | p :: l, i0, h, i, o, hi, j, hj => by
    simp only [closedOK, Bool.and_eq_true, List.all_eq_true] at h
    cases i with
    | zero =>
      simp only [List.getElem?_cons_zero, Option.some.injEq] at hi
      subst hi
      have := h.1 j (by simpa using hj)
      rw [Bool.or_eq_true] at this
      rcases this with h1 | h1
      · exact .inl (hasEdge_iff.1 h1)
      · obtain ⟨e, he, h2⟩ := List.any_eq_true.1 h1
        exact .inr ⟨e, he, memL_iff.1 h2⟩
    | succ i =>
      exact closedOK_ok h.2 (i := i) (o := o) (by simpa using hi) j (by rwa [show i0 + 1 + i = i0 + (i + 1) by omega])
theorem tailOK_ok {A : List (List Nat)} {m : Nat} : ∀ {f i0 : Nat}, tailOK A m f i0 = true → ∀ i, i0 ≤ i → i < m → i < i0 + f → ∀ j, j < i → j ∈ A.getD i []
  | 0, i0, _, i, h1, h2, h3, j, hj => by omega
  | f + 1, i0, h, i, h1, h2, h3, j, hj => by
    simp only [tailOK] at h
    have hlt : i0 < m := by omega
    rw [(Nat.blt_eq.mpr hlt)] at h
    simp only [Bool.and_eq_true, List.all_eq_true, List.mem_range] at h
    by_cases e : i0 = i
    · subst e
      exact memL_iff.1 (h.1 j hj)
    · exact tailOK_ok h.2 i (by omega) h2 (by omega) j hj
end
end Go.Proofs.YtigekmmdflaeaaaDoorE
