/- The engine, part 10: operations in a row, code, loops. -/
import Derived.Test.YthebmlpohkfhbaaEng9
import Derived.LoopN
import Derived.Scope
set_option linter.all false
namespace Go.Proofs.YthebmlpohkfhbaaE
open Go
set_option linter.unusedVariables false

mutual
def ownsA : AV → List Nat
  | .own j => [j]
  | .agg l => ownsAs l
  | .tup l => ownsAs l
  | _ => []
def ownsAs : List AV → List Nat
  | [] => []
  | a :: l => ownsA a ++ ownsAs l
end

def freezeAll : List Nat → St → St
  | [], st => st
  | j :: l, st => freezeAll l (freeze j st)

/-- What is read only from here on, for this operation's sake. -/
def preF (op : Op) (st : St) : St := match op with
  | .slice _ x _ _ none => match evl st.tm x with
    | .own j => freeze j st
    | _ => st
  | .convert _ _ x => match evl st.tm x with
    | .own j => freeze j st
    | _ => st
  | .buildSlice _ _ parts => freezeAll (ownsAs (parts.toList.map fun p => evl st.tm p.2)) st
  | .store _ p x => match evl st.tm p with
    | .optr _ _ _ _ => freezeAll (ownsA (evl st.tm x)) st
    | _ => st
  | _ => st

section
variable {R : Type}

def evCall (T : Tab) (dst : Option Nat) (c : Call) (st : St) (id : Nat) (k : St → Option R) : Option R :=
  match c.callee with
  | .value f => match evl st.tm f with
    | .fn g caps => match noIds (viewAs st.H (c.args.toList.map (evl st.tm) ++ caps)) with
      | true => match T g (viewAs st.H (c.args.toList.map (evl st.tm) ++ caps)) with
        | some out => out.o.bind fun x => match onlyId id (out.f x id), noIds (c.args.toList.map (evl st.tm) ++ caps) || (flatA (out.f x id) && flatB (out.nb x)) with
          | true, true => match out.nb x with
            | none => match noId (out.f x id) with
              | true => k ⟨putA st.tm dst (out.f x id), st.H⟩
              | false => none
            | some B => match onlyB id B with
              | true => k ⟨putA (keeps (but id) st.tm) dst (out.f x id), (id, B) :: keepH (but id) (rm id st.H)⟩
              | false => none
          | _, _ => none
        | none => none
      | false => none
    | _ => none
  | _ => none

def evOp0 (P : Program) (T : Tab) (base : Nat) (o : Oper) (st0 : St) (k : St → Option R) : Option R :=
  let st := preF o.op st0
  let id := base + o.dst.getD 0
  match pureOp P o.op (evl st.tm) with
  | .ok av => k ⟨putA st.tm o.dst av, st.H⟩
  | .chk c av => if c = true then k ⟨putA st.tm o.dst av, st.H⟩ else none
  | .no => match evH P st.H o.op (evl st.tm) id with
    | .go c av H g => if c = true then k ⟨putA (tmGone st.tm g) o.dst av, H⟩ else none
    | .no => match evG P st.H o.op (evl st.tm) id with
      | .go c av H g => if c = true then k ⟨putA (tmGone st.tm g) o.dst av, H⟩ else none
      | .no => match o.op with
        | .call c => evCall T o.dst c st id k
        | _ => none

/-- an index into an array of a length that is fixed, place by place -/
def idxOf (P : Program) (op : Op) (tm : List AV) : Option (Nat × IntKind × Int × Nat) := match op with
  | .indexAddr t _ (.tmp s) => match P.underlying t, tm[s]? with
    | some (.array len _), some (.sc (.int k n)) => some (s, k, n, len)
    | _, _ => none
  | .index t _ (.tmp s) => match P.underlying t, tm[s]? with
    | some (.array len _), some (.sc (.int k n)) => some (s, k, n, len)
    | _, _ => none
  | _ => none
def splitN : Nat → Nat → Int → (Nat → Option R) → Option R
  | 0, _, _, _ => none
  | f + 1, m, n, k => if n = (m : Int) then k m else splitN f (m + 1) n k
def evOp (P : Program) (T : Tab) (base : Nat) (o : Oper) (st : St) (k : St → Option R) : Option R :=
  match idxOf P o.op st.tm with
  | some (s, kd, n, len) => splitN len 0 n fun m => evOp0 P T base o ⟨st.tm.set s (I kd m), st.H⟩ k
  | none => evOp0 P T base o st k

/-- where a guard's answer lies -/
def guardSlot (ops : Array Oper) (j : Nat) : Option Nat := (ops[j]?).bind (·.dst)

def evGuard (P : Program) (T : Tab) (base : Nat) (ops : Array Oper) (o : Oper) (st : St) (k : St → Option R) : Option R :=
  match o.guard with
  | none => evOp P T base o st k
  | some (j, want) => match guardSlot ops j with
    | some t => match st.tm[t]? with
      | some (.sc (.bool b)) =>
        if b = true then match want with
          | true => evOp P T base o ⟨st.tm.set t (B true), st.H⟩ k
          | false => k ⟨putA (st.tm.set t (B true)) o.dst (.sc undef), st.H⟩
        else match want with
          | true => k ⟨putA (st.tm.set t (B false)) o.dst (.sc undef), st.H⟩
          | false => evOp P T base o ⟨st.tm.set t (B false), st.H⟩ k
      | some (.sc (.tuple _)) => k ⟨putA st.tm o.dst (.sc undef), st.H⟩
      | _ => none
    | none => none

def evOps (P : Program) (T : Tab) (base : Nat) (ops : Array Oper) : List Oper → St → (St → Option R) → Option R
  | [], st, k => k st
  | o :: l, st, k => evGuard P T base ops o st fun st' => evOps P T base ops l st' k
end

section
variable {P : Program} {T : Tab} {F : Fr} {R : Type} {base : Nat}

theorem Gam.freezeAll {a : Act} {w : World} : ∀ {l : List Nat} {st : St}, Gam F st a w → Gam F (freezeAll l st) a w
  | [], st, h => h
  | j :: l, st, h => Gam.freezeAll (l := l) (Gam.freeze h j)
theorem Gam.pre {op : Op} {st : St} {a : Act} {w : World} (h : Gam F st a w) : Gam F (preF op st) a w := by
  unfold preF
  split
  · split
    · exact h.freeze _
    · exact h
  · split
    · exact h.freeze _
    · exact h
  · exact Gam.freezeAll h
  · split
    · exact Gam.freezeAll h
    · exact h
  · exact h

theorem upon_of {o : Oper} {a : Act} {w w' : World} {nx : Next} {v : Value} {next : Act → World → Prop} {Q : Exit → Act → World → Prop} (hr : (execOp a.eval o).run P w = .ok nx w') (hx : nx = .value v ∨ nx = .skip ∧ v = undef) (h : next (a.put o.dst v) w') : o.wp P a w next Q := by
  unfold Oper.wp
  rw [hr]
  rcases hx with rfl | ⟨rfl, rfl⟩
  · exact h
  · exact h

theorem step_wp {o : Oper} {a : Act} {w : World} {tm : List AV} {H : Hp} {av : AV} {next : Act → World → Prop} {Q : Exit → Act → World → Prop} (hs : Step P F o.op a w tm H av) (hD : a.defers = [])
    (h : ∀ a' w', Gam F ⟨putA tm o.dst av, H⟩ a' w' → next a' w') : o.wp P a w next Q := by
  obtain ⟨nx, v, w', μ, S, hr, hx, hI, hT, hv⟩ := hs o rfl
  exact upon_of hr hx (h _ _ ⟨μ, S, hI, putA_ok hT hv, by rw [put_defers]; exact hD⟩)

theorem evH_ok {op : Op} {H H' : Hp} {tm : List AV} {a : Act} {w : World} {μ : Nat → Value} {S : Nat → Prop} {id : Nat} {c : Bool} {av : AV} {g : Option Nat} (hI : Inv F μ S H w) (hT : VsOK μ S w tm a.tmps.toList) {ρ : Operand → AV} (hρ : ∀ x, VOK μ S w (ρ x) (a.eval x))
    (h : evH P H op ρ id = .go c av H' g) (hc : c = true) : Step P F op a w (tmGone tm g) H' av := by
  cases op with
  | alloc T => exact evH_alloc hI hT hρ h hc
  | box T x => exact evH_box hI hT hρ h hc
  | load T p => exact evH_load hI hT hρ h hc
  | store T p x => exact evH_store hI hT hρ h hc
  | indexAddr t x i => exact evH_index hI hT hρ h hc
  | call cl =>
    cases hcal : cl.callee with
    | builtin b => cases b <;> first | exact evH_len hcal hI hT hρ h hc | simp [evH, hcal] at h
    | value f => simp [evH, hcal] at h
    | invoke r m => simp [evH, hcal] at h
  | _ => simp [evH] at h

theorem evG_ok {op : Op} {H H' : Hp} {tm : List AV} {a : Act} {w : World} {μ : Nat → Value} {S : Nat → Prop} {id : Nat} {c : Bool} {av : AV} {g : Option Nat} (hI : Inv F μ S H w) (hT : VsOK μ S w tm a.tmps.toList) {ρ : Operand → AV} (hρ : ∀ x, VOK μ S w (ρ x) (a.eval x))
    (h : evG P H op ρ id = .go c av H' g) (hc : c = true) : Step P F op a w (tmGone tm g) H' av := by
  cases op with
  | build t parts => exact evG_build hI hT hρ h hc
  | buildSlice t n parts => exact evG_buildSlice hI hT hρ h hc
  | makeSlice t l c => exact evG_make hI hT hρ h hc
  | slice t x lo hi mx =>
    cases lo with
    | some _ => simp [evG] at h
    | none => cases hi with
      | none => simp [evG] at h
      | some hi => cases mx with
        | none => simp [evG] at h
        | some mx => exact evG_slice hI hT hρ h hc
  | call cl => exact evG_append hI hT hρ h hc
  | _ => simp [evG] at h

/-- What stands behind a call, whatever sees its operands. -/
theorem call_core (hTab : CallOK P T) {o : Oper} {c : Call} (ho : o.op = .call c) {f : Operand} (hcal : c.callee = .value f) {ρ : Operand → AV} {g : FuncId} {caps : List AV} (hf : ρ f = .fn g caps) {H : Hp} {out : Out} {x : out.α}
    (hno : noIds (viewAs H (c.args.toList.map ρ ++ caps)) = true) (hout : T g (viewAs H (c.args.toList.map ρ ++ caps)) = some out) (hx : out.o = some x) {id : Nat}
    (hchk : (noIds (c.args.toList.map ρ ++ caps) || (flatA (out.f x id) && flatB (out.nb x))) = true) {a : Act} {w : World} {μ : Nat → Value} {S : Nat → Prop} (hI : Inv F μ S H w) (hρ : ∀ x, VOK μ S w (ρ x) (a.eval x)) {next : Act → World → Prop} {Q : Exit → Act → World → Prop}
    (hk : ∀ (v u : Value) (S2 : Nat → Prop) (w' : World), Go.RowKit.Below w.heap.size w w' → Inv F μ (fun b => S b ∨ (w.heap.size ≤ b ∧ S2 b)) H w' → (∀ b, S2 b → b < w'.heap.size) → VOK (fun _ => u) (fun b => S b ∨ (w.heap.size ≤ b ∧ S2 b)) w' (out.f x id) v →
      (∀ B, out.nb x = some B → BOK (fun _ => u) (fun b => S b ∨ (w.heap.size ≤ b ∧ S2 b)) w' id B ∧ ∀ b, bof u = some b → w.heap.size ≤ b ∧ ¬ S2 b) → next (a.put o.dst v) w') : o.wp P a w next Q := by
  have hfv := hρ f
  rw [hf] at hfv
  obtain ⟨us, hfe, hus⟩ := hfv
  have hargs : VsOK μ S w (c.args.toList.map ρ ++ caps) (c.args.toList.map a.eval ++ us) := VsOK.append (map_ok hρ _) hus
  have hSH : ∀ b, SH μ S H b → b < w.heap.size := by
    rintro b (hb | ⟨j, B, hj, hb⟩)
    · exact hI.Slt b hb
    · exact bof_lt (hI.blk j B hj) hb
  have hrun : (execOp a.eval o).run P w = .ok (.enter g (c.args.toList.map a.eval ++ us).toArray) w := by
    have he := hTab.1 g _ out hout (#[] ++ c.args.map a.eval ++ us.toArray) w
    have e2 : (#[] ++ c.args.map a.eval ++ us.toArray) = (c.args.toList.map a.eval ++ us).toArray := by
      apply Array.toList_inj.1
      simp
    rw [e2] at he
    simp only [execOp, ho, resolve, hcal, Sem.run_bind, Sem.run_pure, Result.andThen_ok, Deferred.ofValue, hfe, invoke, e2, he]
  -- the callee sees no names
  have fin : ∀ (S1 : Nat → Prop), (∀ b, S1 b → b < w.heap.size) → VsOK (fun _ => undef) S1 w (viewAs H (c.args.toList.map ρ ++ caps)) (c.args.toList.map a.eval ++ us) →
      (∀ (u : Value) (S2 : Nat → Prop) (w' : World) (v : Value), (∀ b, S2 b → (S1 b ∨ w.heap.size ≤ b) ∧ b < w'.heap.size) → VOK (fun _ => u) S2 w' (out.f x id) v → VOK (fun _ => u) (fun b => S b ∨ (w.heap.size ≤ b ∧ S2 b)) w' (out.f x id) v) →
      (∀ (u : Value) (S2 : Nat → Prop) (w' : World) (B : ABlk), (∀ b, S2 b → (S1 b ∨ w.heap.size ≤ b) ∧ b < w'.heap.size) → out.nb x = some B → BOK (fun _ => u) S2 w' id B → BOK (fun _ => u) (fun b => S b ∨ (w.heap.size ≤ b ∧ S2 b)) w' id B) →
      o.wp P a w next Q := by
    intro S1 hlt hvs hfv hfb
    have hc := hTab.2 g _ out x hout hx S1 w _ hlt hvs
    unfold Oper.wp
    rw [hrun]
    refine hc.mono ?_
    rintro e w' ⟨v, u, S2, rfl, hb, hs1, hs2, hv, hB⟩
    have hI' : Inv F μ (fun b => S b ∨ (w.heap.size ≤ b ∧ S2 b)) H w' := call_inv hI hb (fun b h => .inl h) (fun b h => by
      rcases h with h | ⟨h1, h2⟩
      · exact ⟨.inl h, Nat.lt_of_lt_of_le (hI.Slt b h) hb.size⟩
      · exact ⟨.inr h1, (hs2 b h2).2⟩)
    show next (a.put o.dst v) w'
    exact hk v u S2 w' hb hI' (fun b h => (hs2 b h).2) (hfv u S2 w' v hs2 (hv id)) (fun B hnb => ⟨hfb u S2 w' B hs2 hnb ((hB B hnb).1 id), (hB B hnb).2⟩)
  cases hni : noIds (c.args.toList.map ρ ++ caps) with
  | true =>
    refine fin S hI.Slt (by rw [views_same H hni]; exact noIds_ok hni hargs) ?_ ?_
    · intro u S2 w' v hs2 hv
      exact VOK.mono (fun b hb => ((hs2 b hb).1).imp (fun h => h) (fun h => ⟨h, hb⟩)) (Nat.le_refl _) (fun _ _ => rfl) hv
    · intro u S2 w' B hs2 hnb hB
      exact BOK.mono (fun b hb => ((hs2 b hb).1).imp (fun h => h) (fun h => ⟨h, hb⟩)) (Nat.le_refl _) (fun _ _ => rfl) (fun _ _ => rfl) hB
  | false =>
    rw [hni, Bool.false_or, Bool.and_eq_true] at hchk
    refine fin (SH μ S H) hSH (noIds_ok hno (viewAs_ok hI hargs)) ?_ ?_
    · intro u S2 w' v hs2 hv
      exact flatA_ok hchk.1 hv
    · intro u S2 w' B hs2 hnb hB
      exact flatB_ok (by rw [← hnb]; exact hchk.2) hB

theorem evCall_ok (hTab : CallOK P T) {o : Oper} {c : Call} (ho : o.op = .call c) {st : St} {a : Act} {w : World} {id : Nat} {k : St → Option R} {r : R} {next : Act → World → Prop} {Q : Exit → Act → World → Prop}
    (h : evCall T o.dst c st id k = some r) (hG : Gam F st a w) (hk : ∀ st' a' w', Gam F st' a' w' → k st' = some r → next a' w') : o.wp P a w next Q := by
  obtain ⟨μ, S, hI, hV, hD⟩ := hG
  unfold evCall at h
  split at h
  · rename_i f hcal
    split at h
    · rename_i g caps hf
      split at h
      · rename_i hno
        split at h
        · rename_i out hout
          obtain ⟨x, hx, h⟩ := Option.bind_eq_some_iff.1 h
          split at h
          · rename_i h1 h2
            refine call_core hTab ho hcal hf hno hout hx h2 hI (evl_ok hV) ?_
            intro v u S2 w' hb hI' hS2 hv2 hB
            have hSw : ∀ b, S b → w'.heap[b]? = w.heap[b]? := fun b h => hb.block b (hI.Slt b h)
            split at h
            · rename_i hnb
              split at h
              · rename_i hn
                exact hk ⟨putA st.tm o.dst (out.f x id), st.H⟩ _ _ ⟨μ, _, hI', putA_ok (VsOK.mono (fun b h => .inl h) hb.size hSw hV) (noId_ok hn hv2), by rw [put_defers]; exact hD⟩ h
              · cases h
            · rename_i B hnb
              split at h
              · rename_i hob
                have hBB := hB B hnb
                have hBk2 : BOK (upd μ id u) (fun b => S b ∨ (w.heap.size ≤ b ∧ S2 b)) w' id B := onlyB_ok (upd_same μ id u) hob hBB.1
                have hI2 := name_inv (id := id) (u := u) (n := w.heap.size) hI' hI.size (fun j Bj hj b hbj => bof_lt (hI.blk j Bj hj) hbj) hBk2 (fun b hbu => ⟨(hBB.2 b hbu).1, fun hs => by
                  rcases hs with hs | hs
                  · have := hI.Slt b hs
                    have := (hBB.2 b hbu).1
                    omega
                  · exact (hBB.2 b hbu).2 hs.2⟩)
                have hμ : ∀ j, but id j = true → upd μ id u j = μ j := fun j hj => upd_other μ u (but_iff.1 hj)
                exact hk ⟨putA (keeps (but id) st.tm) o.dst (out.f x id), (id, B) :: keepH (but id) (rm id st.H)⟩ _ _ ⟨upd μ id u, _, hI2, putA_ok (VsOK.keep hμ (fun b h => .inl h) hb.size hSw hV) (onlyId_ok (upd_same μ id u) h1 hv2), by rw [put_defers]; exact hD⟩ h
              · cases h
          · cases h
        · cases h
      · cases h
    · cases h
  · cases h

theorem evOp0_ok (hTab : CallOK P T) {o : Oper} {st : St} {a : Act} {w : World} {k : St → Option R} {r : R} {next : Act → World → Prop} {Q : Exit → Act → World → Prop}
    (h : evOp0 P T base o st k = some r) (hG : Gam F st a w) (hk : ∀ st' a' w', Gam F st' a' w' → k st' = some r → next a' w') : o.wp P a w next Q := by
  have hG' := Gam.pre (op := o.op) hG
  unfold evOp0 at h
  generalize preF o.op st = st1 at h hG'
  dsimp only at h
  obtain ⟨μ, S, hI, hV, hD⟩ := hG'
  have hp := pureOp_ok (P := P) (op := o.op) (evl_ok (a := a) hV)
  split at h
  · rename_i av hpo
    rw [hpo] at hp
    obtain ⟨v, hr, hv⟩ := hp o rfl
    exact upon_of hr (.inl rfl) (hk _ _ _ (Gam.put hI hV hD hv) h)
  · rename_i c av hpo
    rw [hpo] at hp
    split at h
    · rename_i hc
      obtain ⟨v, hr, hv⟩ := hp hc o rfl
      exact upon_of hr (.inl rfl) (hk _ _ _ (Gam.put hI hV hD hv) h)
    · cases h
  · split at h
    · rename_i c av H g hev
      split at h
      · rename_i hc
        exact step_wp (evH_ok hI hV (evl_ok hV) hev hc) hD (fun a' w' hG => hk _ _ _ hG h)
      · cases h
    · split at h
      · rename_i c av H g hev
        split at h
        · rename_i hc
          exact step_wp (evG_ok hI hV (evl_ok hV) hev hc) hD (fun a' w' hG => hk _ _ _ hG h)
        · cases h
      · split at h
        · rename_i c hoc
          exact evCall_ok hTab hoc h ⟨μ, S, hI, hV, hD⟩ hk
        · cases h

theorem splitN_ok {k : Nat → Option R} {r : R} {n : Int} : ∀ {f m : Nat}, splitN f m n k = some r → ∃ m' : Nat, n = (m' : Int) ∧ k m' = some r
  | 0, m, h => by cases h
  | f + 1, m, h => by
    unfold splitN at h
    split at h
    · rename_i e
      exact ⟨m, e, h⟩
    · exact splitN_ok h
theorem idxOf_ok {op : Op} {tm : List AV} {s : Nat} {kd : IntKind} {n : Int} {len : Nat} (h : idxOf P op tm = some (s, kd, n, len)) : tm[s]? = some (I kd n) := by
  unfold idxOf at h
  split at h
  · split at h
    · rename_i h1; cases h; exact h1
    · cases h
  · split at h
    · rename_i h1; cases h; exact h1
    · cases h
  · cases h
theorem evOp_ok (hTab : CallOK P T) {o : Oper} {st : St} {a : Act} {w : World} {k : St → Option R} {r : R} {next : Act → World → Prop} {Q : Exit → Act → World → Prop}
    (h : evOp P T base o st k = some r) (hG : Gam F st a w) (hk : ∀ st' a' w', Gam F st' a' w' → k st' = some r → next a' w') : o.wp P a w next Q := by
  unfold evOp at h
  split at h
  · rename_i s kd n len hi
    obtain ⟨m, rfl, h2⟩ := splitN_ok h
    have hs := idxOf_ok hi
    have e : st.tm.set s (I kd m) = st.tm := by
      apply List.ext_getElem?
      intro j
      by_cases hj : s = j
      · subst hj
        rw [List.getElem?_set_self (List.getElem?_eq_some_iff.1 hs).1, hs]
      · rw [List.getElem?_set_ne hj]
    rw [e] at h2
    exact evOp0_ok hTab h2 hG hk
  · exact evOp0_ok hTab h hG hk

theorem set_same_ok {μ : Nat → Value} {S : Nat → Prop} {w : World} {tm : List AV} {us : List Value} {t : Nat} {b : Bool} (h : VsOK μ S w tm us) (ht : tm[t]? = some (.sc (.bool b))) : VsOK μ S w (tm.set t (B b)) us := by
  have hs := VsOK.set (i := t) (a := B b) (u := .bool b) rfl h
  obtain ⟨u, hu, hv⟩ := VsOK.get h ht
  rw [VOK] at hv
  subst hv
  have e : us.set t (.bool b) = us := by
    apply List.ext_getElem?
    intro j
    by_cases hj : t = j
    · subst hj
      rw [List.getElem?_set_self (List.getElem?_eq_some_iff.1 hu).1, hu]
    · rw [List.getElem?_set_ne hj]
  rwa [e] at hs

theorem evGuard_ok (hTab : CallOK P T) {ops : Array Oper} {o : Oper} {st : St} {a : Act} {w : World} {k : St → Option R} {r : R} {K : Act → World → Prop} {Q : Exit → Act → World → Prop}
    (h : evGuard P T base ops o st k = some r) (hG : Gam F st a w) (hk : ∀ st' a' w', Gam F st' a' w' → k st' = some r → K a' w') :
    if Region.wanted o (yielded ops a.tmps) then o.wp P a w K Q ∨ (o.asks P a w ∧ LetsOut Q) else K (a.put o.dst undef) w := by
  unfold evGuard at h
  split at h
  · rename_i hg
    have : Region.wanted o (yielded ops a.tmps) = true := by simp [Region.wanted, hg]
    rw [if_pos this]
    exact .inl (evOp_ok hTab h hG hk)
  · rename_i j want hg
    split at h
    · rename_i t hslot
      split at h
      · rename_i b ht
        obtain ⟨μ, S, hI, hV, hD⟩ := hG
        obtain ⟨u, hu, hv⟩ := VsOK.get hV ht
        rw [VOK] at hv
        subst hv
        have hy : yielded ops a.tmps j = some b := by
          unfold guardSlot at hslot
          rw [Array.getElem?_toList] at hu
          simp only [yielded, hslot, Option.bind_some, hu]
        have hset : ∀ b', b = b' → Gam F ⟨st.tm.set t (B b'), st.H⟩ a w := by
          rintro b' rfl
          exact ⟨μ, S, hI, set_same_ok hV ht, hD⟩
        have hwant : Region.wanted o (yielded ops a.tmps) = (b == want) := by
          simp only [Region.wanted, hg, hy]
          cases b <;> cases want <;> rfl
        have skip : ∀ b', b = b' → k ⟨putA (st.tm.set t (B b')) o.dst (.sc undef), st.H⟩ = some r → K (a.put o.dst undef) w := by
          intro b' hb' hkk
          obtain ⟨μ', S', hI', hV', hD'⟩ := hset b' hb'
          exact hk ⟨putA (st.tm.set t (B b')) o.dst (.sc undef), st.H⟩ _ _ ⟨μ', S', hI', putA_ok (av := .sc undef) hV' rfl, by rw [put_defers]; exact hD'⟩ hkk
        rw [hwant]
        split at h
        · rename_i hb
          subst hb
          cases want with
          | true => exact .inl (evOp_ok hTab h (hset true rfl) hk)
          | false => exact skip true rfl h
        · rename_i hb
          have hb' : b = false := by simpa using hb
          subst hb'
          cases want with
          | true => exact skip false rfl h
          | false => exact .inl (evOp_ok hTab h (hset false rfl) hk)
      · rename_i l ht
        obtain ⟨μ, S, hI, hV, hD⟩ := hG
        obtain ⟨u, hu, hv⟩ := VsOK.get hV ht
        rw [VOK] at hv
        subst hv
        have hy : yielded ops a.tmps j = none := by
          unfold guardSlot at hslot
          rw [Array.getElem?_toList] at hu
          simp only [yielded, hslot, Option.bind_some, hu]
        have hwant : Region.wanted o (yielded ops a.tmps) = false := by
          simp [Region.wanted, hg, hy]
        rw [hwant]
        exact hk ⟨putA st.tm o.dst (.sc undef), st.H⟩ _ _ ⟨μ, S, hI, putA_ok (av := .sc undef) hV rfl, by rw [put_defers]; exact hD⟩ h
      · cases h
    · cases h

theorem evOps_ok (hTab : CallOK P T) {ops : Array Oper} {r : R} {Q : Exit → Act → World → Prop} : ∀ {l : List Oper} {st : St} {a : Act} {w : World} {k : St → Option R},
    evOps P T base ops l st k = some r → Gam F st a w → (∀ st' a' w', Gam F st' a' w' → k st' = some r → Q .normal a' w') → wpList P ops Q l a w
  | [], st, a, w, k, h, hG, hk => hk _ _ _ hG h
  | o :: l, st, a, w, k, h, hG, hk => by
    unfold evOps at h
    unfold wpList
    exact evGuard_ok hTab h hG (fun st' a' w' hG' h' => evOps_ok hTab h' hG' hk)
end
end Go.Proofs.YthebmlpohkfhbaaE
