/- The engine, part 12: a function's code and its contract. -/
import Derived.Test.YtigekmmdflaeaaaDoorEng11
set_option linter.all false
namespace Go.Proofs.YtigekmmdflaeaaaDoorE
open Go
set_option linter.unusedVariables false
section
variable {P : Program} {T : Tab} {D : Cx} {F : Fr D} {R : Type} {base K : Nat}

def resSem (tmps : Array Value) : ResultVar → Sem Value
  | .tmp t => pure (tmps.getD t undef)
  | .cell a t => do loadVar t (← asAddr (tmps.getD a undef))

theorem getD_ok {μ : Nat → Value} {S : Nat → Prop} {w : World} {tm : List AV} {a : Act} (h : VsOK μ S w tm a.tmps.toList) (t : Nat) : VOK μ S w (tm.getD t .top) (a.tmps.getD t undef) := evl_ok h (.tmp t)

theorem res_ok {μ : Nat → Value} {S : Nat → Prop} {w : World} {st : St} {a : Act} (hI : Inv F μ S st.H w) (hV : VsOK μ S w st.tm a.tmps.toList) : ∀ {l : List ResultVar} {r : List AV}, resAV P st l = some r →
    ∃ vs, (l.mapM (resSem a.tmps)).run P w = .ok vs w ∧ VsOK μ S w r vs
  | [], r, h => by
    cases h
    exact ⟨[], by simp [go_sem], rfl⟩
  | .tmp t :: l, r, h => by
    simp only [resAV] at h
    obtain ⟨r', h1, h2⟩ := Option.bind_eq_some_iff.1 h
    cases h2
    obtain ⟨vs, h3, h4⟩ := res_ok hI hV h1
    refine ⟨a.tmps.getD t undef :: vs, ?_, _, _, rfl, getD_ok hV t, h4⟩
    rw [List.mapM_cons]
    simp only [Sem.run_bind, resSem, Sem.run_pure, Result.andThen_ok, h3]
  | .cell p t :: l, r, h => by
    simp only [resAV] at h
    split at h
    · rename_i i off hp
      split at h
      · rename_i T' cells hk
        split at h
        · rename_i av hl
          obtain ⟨r', h1, h2⟩ := Option.bind_eq_some_iff.1 h
          cases h2
          obtain ⟨vs, h3, h4⟩ := res_ok hI hV h1
          have hv := getD_ok hV p
          rw [hp] at hv
          obtain ⟨b, h5, h6⟩ := hv
          obtain ⟨b', us, h7, h8, h9⟩ := hI.blk i _ hk
          rw [h5] at h7
          cases h7
          obtain ⟨v, h10, h11⟩ := load_ok hl h9 (cellsAt_heap h8)
          rw [Nat.zero_add] at h10
          refine ⟨v :: vs, ?_, _, _, rfl, h11, h4⟩
          rw [List.mapM_cons]
          have h12 : (loadVar t ⟨b, off, none⟩).run P w = .ok v w := by
            have := h10
            simp only [Instr.loadAt, Instr.sureAddr, Sem.run_bind, Sem.run_pure, Result.andThen_ok] at this
            exact this
          simp only [Sem.run_bind, resSem, h6, asAddr, Sem.run_pure, Result.andThen_ok, h12, h3]
        · cases h
      · cases h
    · cases h

theorem results_run {fn : Func} {a : Act} {w : World} {μ : Nat → Value} {S : Nat → Prop} {st : St} {l : List AV} (hI : Inv F μ S st.H w) (hV : VsOK μ S w st.tm a.tmps.toList) (h : resAV P st fn.results.toList = some l) :
    ∃ v, (results fn a.tmps).run P w = .ok v w ∧ VOK μ S w (resOne l) v := by
  obtain ⟨vs, h1, h2⟩ := res_ok (P := P) hI hV h
  have h3 : (fn.results.mapM (resSem a.tmps)).run P w = .ok vs.toArray w := by
    rw [Array.mapM_eq_mapM_toList]
    simp [h1, go_sem]
  refine ⟨if hs : vs.toArray.size = 1 then vs.toArray[0] else .tuple vs.toArray, ?_, ?_⟩
  · have : (results fn a.tmps) = (do let vs ← fn.results.mapM (resSem a.tmps); pure (if h : vs.size = 1 then vs[0] else .tuple vs)) := by
      unfold results
      congr 1
    rw [this]
    simp only [Sem.run_bind, h3, Result.andThen_ok, Sem.run_pure]
  · have hl := VsOK.len h2
    match l, vs, h2, hl with
    | [av], [v], h2, _ =>
      obtain ⟨u, us, he, hu, _⟩ := h2
      cases he
      exact hu
    | [], [], h2, _ => exact ⟨[], rfl, rfl⟩
    | a1 :: a2 :: l, v1 :: v2 :: vs, h2, _ =>
      rw [dif_neg (by simp)]
      exact ⟨_, rfl, h2⟩

theorem VsOK.tops_rep {μ : Nat → Value} {S : Nat → Prop} {w : World} : ∀ n, VsOK μ S w (List.replicate n .top) (List.replicate n undef)
  | 0 => rfl
  | n + 1 => ⟨undef, List.replicate n undef, rfl, trivial, VsOK.tops_rep n⟩

theorem evFun_ok (hTab : CallOK D P T) {f : FuncId} {fn : Func} {la : List (List Tidy)} {args : List AV} {H : Hp} {k : AV → Hp → Option R} {r : R} {w : World} {vals : List Value} {μ : Nat → Value} {S : Nat → Prop}
    (hf : P.funcs[f]? = some fn) (h : evFun P T base K fn la args H k = some r) (hI : Inv F μ S H w) (hV : VsOK μ S w args vals) :
    Calls P f vals.toArray w fun e w' => ∃ v av H' μ' S', e = .returned v ∧ Inv F μ' S' H' w' ∧ VOK μ' S' w' av v ∧ k av H' = some r := by
  unfold evFun at h
  split at h
  · rename_i c hb
    replace h := caseT_ok h
    refine calls_of_wp hf hb (evCode_ok hTab h ⟨μ, S, hI, ?_, rfl⟩ ?_)
    · simp only [Array.toList_append, List.toList_toArray, Array.toList_replicate, List.size_toArray, VsOK.len hV]
      exact VsOK.append hV (VsOK.tops_rep _)
    · intro x st a' w' hG hk
      have fin : ∀ {l : List AV}, resAV P (atEnd c la st) fn.results.toList = some l → k (resOne l) (atEnd c la st).H = some r → a'.defers = [] ∧ ∃ v, (results fn a'.tmps).run P w' = .ok v w' ∧ ∃ v' av H' μ' S', Ending.returned v = .returned v' ∧ Inv F μ' S' H' w' ∧ VOK μ' S' w' av v' ∧ k av H' = some r := by
        intro l hl hk'
        obtain ⟨μ', S', hI', hV', hD'⟩ := Gam.atEnd (c := c) (la := la) hG
        obtain ⟨v, h1, h2⟩ := results_run (P := P) (fn := fn) hI' hV' hl
        exact ⟨hD', v, h1, v, resOne l, (atEnd c la st).H, μ', S', rfl, hI', h2, hk'⟩
      cases x with
      | exit j => cases hk
      | norm =>
        dsimp only at hk
        split at hk
        · rename_i l hl; exact fin hl hk
        · cases hk
      | ret =>
        dsimp only at hk
        split at hk
        · rename_i l hl; exact fin hl hk
        · cases hk
  · cases h

/-! ### what a result is -/
/-- How a function's result is told. -/
structure Dec (α : Type) where
  k : AV → Hp → Option α
  f : α → Nat → AV
  nb : α → Option ABlk
  ok : ∀ {D : Cx} {F : Fr D} {av : AV} {H : Hp} {x : α} {μ : Nat → Value} {S : Nat → Prop} {w : World} {v : Value}, (∀ b, ¬ F.O b) → k av H = some x → Inv F μ S H w → VOK μ S w av v →
    ∃ u, (∀ id, VOK (fun _ => u) S w (f x id) v) ∧ ∀ B, nb x = some B → (∀ id, BOK (fun _ => u) S w id B) ∧ ∀ b, bof u = some b → F.w0.heap.size ≤ b ∧ ¬ S b

/-- plain values -/
structure Sd (α : Type) where
  k : AV → Option α
  f : α → AV
  ok : ∀ {av : AV} {x : α} {μ μ' : Nat → Value} {S : Nat → Prop} {w : World} {v : Value}, k av = some x → VOK μ S w av v → VOK μ' S w (f x) v

def sdInt (k : IntKind) : Sd Int where
  k := fun av => match av with
    | .sc (.int k' n) => if k' = k then some n else none
    | _ => none
  f := fun n => I k n
  ok := by
    intro av x μ μ' S w v h hv
    split at h
    · split at h
      · rename_i e; cases h; subst e; exact hv
      · cases h
    · cases h
def sdBool : Sd Bool where
  k := fun av => match av with
    | .sc (.bool b) => some b
    | _ => none
  f := fun b => B b
  ok := by
    intro av x μ μ' S w v h hv
    split at h
    · cases h; exact hv
    · cases h
def sdStr : Sd ByteArray where
  k := fun av => match av with
    | .sc (.string s) => some s
    | _ => none
  f := fun s => .sc (.string s)
  ok := by
    intro av x μ μ' S w v h hv
    split at h
    · cases h; exact hv
    · cases h
/-- a struct of data -/
def sdAgg (t : Ty) : Sd (El t) where
  k := fun av => match av with
    | .agg l => match ofCells t l with
      | some (x, []) => some x
      | _ => none
    | _ => none
  f := fun x => .agg (cellsOf t x)
  ok := by
    intro av x μ μ' S w v h hv
    split at h
    · rename_i l
      split at h
      · rename_i y hy
        cases h
        obtain ⟨us, rfl, hus⟩ := hv
        obtain ⟨u1, u2, h1, h2, h3⟩ := ofCells_ok hy hus
        rw [VsOK] at h3
        rw [h3, List.append_nil] at h1
        subst h1
        exact ⟨_, rfl, Rd.cells h2⟩
      · cases h
    · cases h
def sdRow (t : Ty) : Sd (List (El t)) where
  k := fun av => match av with
    | .row t' l => if h : t'.eq t = true then some (Ty.of_eq h ▸ l) else none
    | .sc (.slice none 0 0) => some []
    | _ => none
  f := fun l => .row t l
  ok := by
    intro av x μ μ' S w v h hv
    split at h
    · split at h
      · rename_i he
        cases Ty.of_eq he
        cases h
        exact hv
      · cases h
    · cases h
      rw [VOK] at hv
      exact ⟨none, 0, by rw [hv]; rfl, Nat.le_refl _, by simp, fun i x hx => by simp at hx⟩
    · cases h

def dec1 {α : Type} (s : Sd α) : Dec α where
  k := fun av _ => s.k av
  f := fun x _ => s.f x
  nb := fun _ => none
  ok := fun _ h _ hv => ⟨undef, fun _ => s.ok h hv, fun B hB => by cases hB⟩
def dec2 {α β : Type} (s : Sd α) (t : Sd β) : Dec (α × β) where
  k := fun av _ => match av with
    | .tup [a, b] => (s.k a).bind fun x => (t.k b).bind fun y => some (x, y)
    | _ => none
  f := fun x _ => .tup [s.f x.1, t.f x.2]
  nb := fun _ => none
  ok := by
    intro D F av H x μ S w v _ h hI hv
    split at h
    · rename_i a b
      obtain ⟨x1, h1, h2⟩ := Option.bind_eq_some_iff.1 h
      obtain ⟨x2, h3, h4⟩ := Option.bind_eq_some_iff.1 h2
      cases h4
      obtain ⟨us, rfl, u1, us1, rfl, hu1, u2, us2, rfl, hu2, hu3⟩ := hv
      exact ⟨undef, fun _ => ⟨_, rfl, u1, _, rfl, s.ok h1 hu1, u2, _, rfl, t.ok h3 hu2, hu3⟩, fun B hB => by cases hB⟩
    · cases h
def dec3 {α β γ : Type} (s : Sd α) (t : Sd β) (q : Sd γ) : Dec (α × β × γ) where
  k := fun av _ => match av with
    | .tup [a, b, c] => (s.k a).bind fun x => (t.k b).bind fun y => (q.k c).bind fun z => some (x, y, z)
    | _ => none
  f := fun x _ => .tup [s.f x.1, t.f x.2.1, q.f x.2.2]
  nb := fun _ => none
  ok := by
    intro D F av H x μ S w v _ h hI hv
    split at h
    · rename_i a b c
      obtain ⟨x1, h1, h2⟩ := Option.bind_eq_some_iff.1 h
      obtain ⟨x2, h3, h4⟩ := Option.bind_eq_some_iff.1 h2
      obtain ⟨x3, h5, h6⟩ := Option.bind_eq_some_iff.1 h4
      cases h6
      obtain ⟨us, rfl, u1, us1, rfl, hu1, u2, us2, rfl, hu2, u3, us3, rfl, hu3, hu4⟩ := hv
      exact ⟨undef, fun _ => ⟨_, rfl, u1, _, rfl, s.ok h1 hu1, u2, _, rfl, t.ok h3 hu2, u3, _, rfl, q.ok h5 hu3, hu4⟩, fun B hB => by cases hB⟩
    · cases h

/-- an array of the callee's own -/
def ownK (e : TypeId) (t : Ty) (av : AV) (H : Hp) : Option (List (El t)) := match av with
  | .own i => match lk H i with
    | some (.arr e' t' l) => if h : t'.eq t = true then if e' = e then some (Ty.of_eq h ▸ l) else none else none
    | _ => none
  | .sc (.slice none 0 0) => some []
  | _ => none
theorem ownK_ok {e : TypeId} {t : Ty} {av : AV} {H : Hp} {l : List (El t)} {μ : Nat → Value} {S : Nat → Prop} {w : World} {v : Value} (hO : ∀ b, ¬ F.O b) (h : ownK e t av H = some l) (hI : Inv F μ S H w) (hv : VOK μ S w av v) :
    (∀ id, VOK (fun _ => v) S w (.own id) v) ∧ (∀ id, BOK (fun _ => v) S w id (.arr e t l)) ∧ ∀ b, bof v = some b → F.w0.heap.size ≤ b ∧ ¬ S b := by
  unfold ownK at h
  split at h
  · rename_i i
    split at h
    · rename_i e' t' l' hk
      split at h
      · rename_i he
        split at h
        · rename_i hee
          subst hee
          cases Ty.of_eq he
          cases h
          have hv' : v = μ i := hv.1
          have hb := hI.blk i _ hk
          refine ⟨fun id => ⟨rfl, hv.2⟩, fun id => ?_, fun b hb' => ?_⟩
          · rcases hb with ⟨A, h1, h2⟩ | ⟨b, c, us, rest, h1, h2⟩
            · exact .inl ⟨A, hv'.trans h1, h2⟩
            · exact .inr ⟨b, c, us, rest, hv'.trans h1, h2⟩
          · rw [hv'] at hb'
            have := hI.notS i _ hk b hb'
            exact ⟨this.2.resolve_right (hO b), this.1⟩
        · cases h
      · cases h
    · cases h
  · cases h
    rw [VOK] at hv
    subst hv
    exact ⟨fun id => ⟨rfl, _, _, _, rfl⟩, fun id => .inl ⟨none, rfl, rfl⟩, fun b hb => by simp [bof] at hb⟩
  · cases h
def decOwn (e : TypeId) (t : Ty) : Dec (List (El t)) where
  k := fun av H => ownK e t av H
  f := fun _ id => .own id
  nb := fun l => some (.arr e t l)
  ok := by
    intro D F av H x μ S w v hO h hI hv
    obtain ⟨h1, h2, h3⟩ := ownK_ok hO h hI hv
    exact ⟨v, h1, fun B hB => by cases hB; exact ⟨h2, h3⟩⟩
/-- a struct of three, whose last is an array of the callee's own -/
def decAg3 {α β : Type} (s : Sd α) (q : Sd β) (e : TypeId) (t : Ty) : Dec (α × β × List (El t)) where
  k := fun av H => match av with
    | .agg [a, b, c] => (s.k a).bind fun x => (q.k b).bind fun y => (ownK e t c H).bind fun l => some (x, y, l)
    | _ => none
  f := fun x id => .agg [s.f x.1, q.f x.2.1, .own id]
  nb := fun x => some (.arr e t x.2.2)
  ok := by
    intro D F av H x μ S w v hO h hI hv
    split at h
    · rename_i a b c
      obtain ⟨x1, h1, h2⟩ := Option.bind_eq_some_iff.1 h
      obtain ⟨x2, h3, h4⟩ := Option.bind_eq_some_iff.1 h2
      obtain ⟨x3, h5, h6⟩ := Option.bind_eq_some_iff.1 h4
      cases h6
      obtain ⟨us, rfl, u1, us1, rfl, hu1, u2, us2, rfl, hu2, u3, us3, rfl, hu3, hu4⟩ := hv
      obtain ⟨q1, q2, q3⟩ := ownK_ok hO h5 hI hu3
      exact ⟨u3, fun id => ⟨_, rfl, u1, _, rfl, s.ok h1 hu1, u2, _, rfl, q.ok h3 hu2, u3, _, rfl, q1 id, hu4⟩, fun B hB => by cases hB; exact ⟨q2, q3⟩⟩
    · cases h
def decOwn2 {β : Type} (e : TypeId) (t : Ty) (s : Sd β) : Dec (List (El t) × β) where
  k := fun av H => match av with
    | .tup [a, b] => (ownK e t a H).bind fun l => (s.k b).bind fun y => some (l, y)
    | _ => none
  f := fun x id => .tup [.own id, s.f x.2]
  nb := fun x => some (.arr e t x.1)
  ok := by
    intro D F av H x μ S w v hO h hI hv
    split at h
    · rename_i a b
      obtain ⟨x1, h1, h2⟩ := Option.bind_eq_some_iff.1 h
      obtain ⟨x2, h3, h4⟩ := Option.bind_eq_some_iff.1 h2
      cases h4
      obtain ⟨us, rfl, u1, us1, rfl, hu1, u2, us2, rfl, hu2, hu3⟩ := hv
      obtain ⟨q1, q2, q3⟩ := ownK_ok hO h1 hI hu1
      exact ⟨u1, fun id => ⟨_, rfl, u1, _, rfl, q1 id, u2, _, rfl, s.ok h3 hu2, hu3⟩, fun B hB => by cases hB; exact ⟨q2, q3⟩⟩
    · cases h

/-- A call's contract, of a function that is given data alone. -/
def Has (D : Cx) (P : Program) (g : FuncId) (args : List AV) {α : Type} (d : Dec α) (x : α) : Prop :=
  ∀ (S : Nat → Prop) (w : World) (vals : List Value), (∀ b, S b → b < w.heap.size) → VsOK (fun _ => undef) S w args vals → D.hy w →
    Calls P g vals.toArray w fun e w' => ∃ v u S', e = .returned v ∧ Bel D w w' ∧ (∀ b, S b → S' b) ∧ (∀ b, S' b → (S b ∨ w.heap.size ≤ b) ∧ b < w'.heap.size) ∧
      (∀ id, VOK (fun _ => u) S' w' (d.f x id) v) ∧ ∀ B, d.nb x = some B → (∀ id, BOK (fun _ => u) S' w' id B) ∧ ∀ b, bof u = some b → w.heap.size ≤ b ∧ ¬ S' b

/-- What the evaluator comes to, the machine does. -/
theorem has_of {g : FuncId} {fn : Func} {la : List (List Tidy)} {args : List AV} {α : Type} {d : Dec α} {x : α} (hTab : CallOK D P T) (hf : P.funcs[g]? = some fn) (h : evFun P T 0 K fn la args [] d.k = some x) : Has D P g args d x := by
  intro S w vals hS hV hhy
  have hI : Inv (⟨w, fun _ => False, S, fun _ => none, fun _ _ => rfl⟩ : Fr D) (fun _ => undef) S [] w :=
    ⟨fun id B h => by simp [lk] at h, fun i j Bi Bj h => by simp [lk] at h, fun i B h => by simp [lk] at h, hS, fun b h => h, fun b h => .inl h, fun b _ _ => rfl, Nat.le_refl _, rfl, rfl, rfl, fun _ => Nat.le_refl _, fun i v B h => (by cases h), hhy, fun b _ h => h⟩
  refine (evFun_ok hTab hf h hI hV).mono ?_
  rintro e w' ⟨v, av, H', μ', S', rfl, hI', hv, hk⟩
  obtain ⟨u, h1, h2⟩ := d.ok (fun b h => h) hk hI' hv
  refine ⟨v, u, S', rfl, ⟨⟨hI'.os, hI'.tape, hI'.output, hI'.size, fun k hk => hI'.frame k hk (fun h => h)⟩, hI'.drawn⟩, hI'.S0, fun b hb => ⟨?_, hI'.Slt b hb⟩, h1, h2⟩
  rcases hI'.Sfrom b hb with h | h | h
  · exact .inl h
  · exact h.elim
  · exact .inr h

/-! ### tables -/
def Tab.none : Tab := ⟨fun _ _ => Option.none, fun _ _ _ _ _ => Option.none, fun _ => Option.none, fun _ => false⟩
/-- One more function in a table. -/
def Tab.add (T : Tab) (g : FuncId) (s : List AV → Option Out) : Tab := ⟨fun f args => match Nat.beq f g with
  | true => match s args with
    | some o => some o
    | none => T f args
  | false => T f args, T.w, T.g, T.v⟩
theorem none_ok : CallOK D P Tab.none := ⟨fun g args out h => (by cases h), fun g args out x h => (by cases h), fun g e t l args out h => (by cases h), fun g s args H out h => (by cases h)⟩
def out {α : Type} (d : Dec α) (o : Option α) : Option Out := some ⟨α, o, d.f, d.nb⟩

/-- a function that may be entered -/
def Enters (P : Program) (g : FuncId) : Prop := ∀ vals w, (callFunc g vals).run P w = .ok (.enter g vals) w

/-- One more function in a table, of those that turn the array that they are given. -/
def Tab.addW (T : Tab) (g : FuncId) (s : TypeId → (t : Ty) → List (El t) → List AV → Option (OutW t)) : Tab := ⟨T.f, fun f e t l args => match Nat.beq f g with
  | true => s e t l args
  | false => T.w f e t l args, T.g, fun f => match Nat.beq f g with
  | true => true
  | false => T.v f⟩
def RowW (D : Cx) (P : Program) (g : FuncId) (s : TypeId → (t : Ty) → List (El t) → List AV → Option (OutW t)) : Prop :=
  ∀ e t l args out l', s e t l args = some out → out.o = some l' → WHasE e D P g t l l' args out.ret
/-- What is asked of one function's row. -/
def RowOK (D : Cx) (P : Program) (g : FuncId) (s : List AV → Option Out) : Prop :=
  ∀ args o, s args = some o → ∃ (α : Type) (d : Dec α) (r : Option α), o = ⟨α, r, d.f, d.nb⟩ ∧ ∀ x, r = some x → Has D P g args d x
theorem add_ok {g : FuncId} {s : List AV → Option Out} (h : CallOK D P T) (he : Enters P g) (hs : RowOK D P g s) : CallOK D P (T.add g s) := by
  refine ⟨fun f args o ho vals w => ?_, fun f args o x ho hx => ?_, h.2.2⟩
  · unfold Tab.add at ho
    dsimp only at ho
    split at ho
    · rename_i hfg
      rw [Nat.eq_of_beq_eq_true hfg]
      exact he vals w
    · exact h.1 f args o ho vals w
  · unfold Tab.add at ho
    dsimp only at ho
    split at ho
    · rename_i hfg
      split at ho
      · rename_i o' hs'
        cases ho
        rw [Nat.eq_of_beq_eq_true hfg]
        obtain ⟨α, d, r, rfl, hr⟩ := hs args _ hs'
        exact hr x hx
      · exact h.2.1 f args o x ho hx
    · exact h.2.1 f args o x ho hx
theorem addW_ok {g : FuncId} {s : TypeId → (t : Ty) → List (El t) → List AV → Option (OutW t)} (h : CallOK D P T) (he : Enters P g) (hs : RowW D P g s) : CallOK D P (T.addW g s) := by
  refine ⟨h.1, h.2.1, fun f e t l args out ho => ?_, h.2.2.2⟩
  unfold Tab.addW at ho
  dsimp only at ho
  split at ho
  · rename_i hfg
    rw [Nat.eq_of_beq_eq_true hfg]
    exact ⟨he, fun l' hl' => hs e t l args out l' ho hl'⟩
  · exact h.2.2.1 f e t l args out ho
/-- A function whose new arrays are to be had under names, in regions that draw. -/
def Tab.mark (T : Tab) (g : FuncId) : Tab := ⟨T.f, T.w, T.g, fun f => match Nat.beq f g with
  | true => true
  | false => T.v f⟩
theorem mark_ok {g : FuncId} (h : CallOK D P T) : CallOK D P (T.mark g) := ⟨h.1, h.2.1, h.2.2.1, h.2.2.2⟩
/-- One more function in a table, of those that turn what lies under names. -/
def Tab.addG (T : Tab) (g : FuncId) (s : List AV → Hp → Option OutG) : Tab := ⟨T.f, T.w, fun f => match Nat.beq f g with
  | true => some s
  | false => T.g f, T.v⟩
def RowG (D : Cx) (P : Program) (g : FuncId) (s : List AV → Hp → Option OutG) : Prop :=
  ∀ args H out x, s args H = some out → out.o = some x → GHas D P g args H (out.res x)
theorem addG_ok {g : FuncId} {s : List AV → Hp → Option OutG} (h : CallOK D P T) (he : Enters P g) (hs : RowG D P g s) : CallOK D P (T.addG g s) := by
  refine ⟨h.1, h.2.1, h.2.2.1, fun f s' args H out hf ho => ?_⟩
  unfold Tab.addG at hf
  dsimp only at hf
  split at hf
  · rename_i hfg
    rw [Nat.eq_of_beq_eq_true hfg]
    cases hf
    exact ⟨he, fun x hx => hs args H out x ho hx⟩
  · exact h.2.2.2 f s' args H out hf ho
end
end Go.Proofs.YtigekmmdflaeaaaDoorE
