/- The engine, part 10: operations in a row, code, loops. -/
import Derived.Test.YtigekmmdflaeaaaDoorEngG
import Derived.LoopN
import Derived.Scope
set_option linter.all false
namespace Go.Proofs.YtigekmmdflaeaaaDoorE
open Go
set_option linter.unusedVariables false

mutual
def ownsA : AV → List Nat
  | .own j => [j]
  | .agg l => ownsAs l
  | .tup l => ownsAs l
  | _ => []
def ownsAs : List AV → List Nat
  | [] => []
  | a :: l => ownsA a ++ ownsAs l
end

def freezeAll : List Nat → St → St
  | [], st => st
  | j :: l, st => freezeAll l (freeze j st)

/-- What is read only from here on, for this operation's sake. -/
def preF (op : Op) (st : St) : St := match op with
  | .slice _ x _ _ none => match evl st.tm x with
    | .own j => freeze j st
    | _ => st
  | .convert _ _ x => match evl st.tm x with
    | .own j => freeze j st
    | _ => st
  | .buildSlice _ _ parts => freezeAll (ownsAs (parts.toList.map fun p => evl st.tm p.2)) st
  | .store _ p x => match evl st.tm p with
    | .optr _ _ _ _ => freezeAll (ownsA (evl st.tm x)) st
    | _ => st
  | _ => st

section
variable {R : Type}

/-- a call that turns an array of the caller's own -/
structure WT where
  j : Nat
  e : TypeId
  t : Ty
  out : OutW t
def wtry (T : Tab) (H : Hp) (g : FuncId) (args caps : List AV) : Option WT := match args with
  | .own j :: rest => match lk H j with
    | some (.arr e t l) => match flatT t, noIds (viewAs (rm j H) (rest ++ caps)) with
      | true, true => match T.w g e t l (viewAs (rm j H) (rest ++ caps)) with
        | some out => some ⟨j, e, t, out⟩
        | none => none
      | _, _ => none
    | _ => none
  | _ => none
def evCall (T : Tab) (dst : Option Nat) (c : Call) (st : St) (id : Nat) (k : St → Option R) : Option R :=
  match c.callee with
  | .value f => match evl st.tm f with
    | .fn g caps => match gtry T st.H g (c.args.toList.map (evl st.tm) ++ caps) with
     | some gt => gt.out.o.bind fun x => match gt.out.c with
       | none => gfin gt.js gt.m dst id st (gt.out.f1 x) k
       | some cc => if cc x = true then gfin gt.js gt.m dst id st (gt.out.f1 x) k else gfin gt.js gt.m dst id st (gt.out.f2 x) k
     | none => match wtry T st.H g (c.args.toList.map (evl st.tm)) caps with
     | some wt => wt.out.o.bind fun l' => match wt.out.ret with
       | false => k ⟨putA st.tm dst (.sc (.tuple #[])), (wt.j, .arr wt.e wt.t l') :: rm wt.j st.H⟩
       | true => k ⟨putA (keeps (but id) st.tm) dst (.own id), (id, .arr wt.e wt.t l') :: keepH (but id) (rm id (rm wt.j st.H))⟩
     | none => match noIds (viewAs st.H (c.args.toList.map (evl st.tm) ++ caps)) with
      | true => match T g (viewAs st.H (c.args.toList.map (evl st.tm) ++ caps)) with
        | some out => out.o.bind fun x => match onlyId id (out.f x id), noIds (c.args.toList.map (evl st.tm) ++ caps) || (flatA (out.f x id) && flatB (out.nb x)) with
          | true, true => match out.nb x with
            | none => match noId (out.f x id) with
              | true => k ⟨putA st.tm dst (out.f x id), st.H⟩
              | false => none
            | some B => match onlyB id B with
              | true => k ⟨putA (keeps (but id) st.tm) dst (out.f x id), (id, B) :: keepH (but id) (rm id st.H)⟩
              | false => none
          | _, _ => none
        | none => none
      | false => none
    | _ => none
  | _ => none

def evOp0 (P : Program) (T : Tab) (base : Nat) (o : Oper) (st0 : St) (k : St → Option R) : Option R :=
  let st := preF o.op st0
  let id := base + o.dst.getD 0
  match pureOp P o.op (evl st.tm) with
  | .ok av => k ⟨putA st.tm o.dst av, st.H⟩
  | .chk c av => if c = true then k ⟨putA st.tm o.dst av, st.H⟩ else none
  | .no => match Nat.blt id 2000000 with
   | false => none
   | true => match evH P st.H o.op (evl st.tm) id with
    | .go c av H g => if c = true then k ⟨putA (tmGone st.tm g) o.dst av, H⟩ else none
    | .no => match evG P st.H o.op (evl st.tm) id with
      | .go c av H g => if c = true then k ⟨putA (tmGone st.tm g) o.dst av, H⟩ else none
      | .no => match evM P st.H o.op (evl st.tm) id with
        | .go c av H g => if c = true then k ⟨putA (tmGone st.tm g) o.dst av, H⟩ else none
        | .no => match o.op with
          | .call c => evCall T o.dst c st id k
          | _ => none

/-- an index into an array of a length that is fixed, place by place -/
def idxOf (P : Program) (op : Op) (tm : List AV) : Option (Nat × IntKind × Int × Nat) := match op with
  | .indexAddr t x (.tmp s) => match P.underlying t, tm[s]? with
    | some (.array len e), some (.sc (.int k n)) => match arrOwn (match x with
        | .tmp p => (tm[p]?).getD .top
        | _ => .top) ((szT P e).getD 0) len with
      | true => none
      | false => some (s, k, n, len)
    | _, _ => none
  | .index t _ (.tmp s) => match P.underlying t, tm[s]? with
    | some (.array len _), some (.sc (.int k n)) => some (s, k, n, len)
    | _, _ => none
  | _ => none
def splitN : Nat → Nat → Int → (Nat → Option R) → Option R
  | 0, _, _, _ => none
  | f + 1, m, n, k => if n = (m : Int) then k m else splitN f (m + 1) n k
/-- what two ways come to, if they come to the same -/
theorem both_ex (R : Type) : ∃ f : Option R → Option R → Option R, (∀ a b r, f a b = some r → a = some r ∧ b = some r) ∧ ∀ a, f a a = a := by
  classical
  refine ⟨fun a b => if a = b then a else none, fun a b r h => ?_, fun a => if_pos rfl⟩
  dsimp only at h
  split at h
  · rename_i e; exact ⟨h, e ▸ h⟩
  · cases h
noncomputable def both (a b : Option R) : Option R := Classical.choose (both_ex R) a b
theorem both_some {a b : Option R} {r : R} (h : both a b = some r) : a = some r ∧ b = some r := (Classical.choose_spec (both_ex R)).1 a b r h
theorem both_same (a : Option R) : both a a = a := (Classical.choose_spec (both_ex R)).2 a

/-- a row held against nil: how long it is; eq or not -/
def nilCmp (P : Program) (op : Op) (st : St) : Option (Bool × Nat) := match op with
  | .binOp b t x (.const (.slice none 0 0)) _ => match P.underlying t with
    | some (.slice _) => match b with
      | .eql => match evl st.tm x with
        | .row _ l => some (true, l.length)
        | .own j => match lk st.H j with
          | some (.arr _ _ l) => some (true, l.length)
          | _ => none
        | _ => none
      | .neq => match evl st.tm x with
        | .row _ l => some (false, l.length)
        | .own j => match lk st.H j with
          | some (.arr _ _ l) => some (false, l.length)
          | _ => none
        | _ => none
      | _ => none
    | _ => none
  | _ => none
def neg (b : Bool) : Bool := match b with
  | true => false
  | false => true
noncomputable def evOp (P : Program) (T : Tab) (base : Nat) (o : Oper) (st : St) (k : St → Option R) : Option R :=
  match idxOf P o.op st.tm with
  | some (s, kd, n, len) => splitN len 0 n fun m => evOp0 P T base o ⟨st.tm.set s (I kd m), st.H⟩ k
  | none => match nilCmp P o.op st with
    | some (e, n) => if n = 0 then both (k ⟨putA st.tm o.dst (B e), st.H⟩) (k ⟨putA st.tm o.dst (B (neg e)), st.H⟩) else k ⟨putA st.tm o.dst (B (neg e)), st.H⟩
    | none => evOp0 P T base o st k

/-- where a guard's answer lies -/
def guardSlot (ops : Array Oper) (j : Nat) : Option Nat := (ops[j]?).bind (·.dst)

noncomputable def evGuard (P : Program) (T : Tab) (base : Nat) (ops : Array Oper) (o : Oper) (st : St) (k : St → Option R) : Option R :=
  match o.guard with
  | none => evOp P T base o st k
  | some (j, want) => match guardSlot ops j with
    | some t => match st.tm[t]? with
      | some (.sc (.bool b)) =>
        if b = true then match want with
          | true => evOp P T base o ⟨st.tm.set t (B true), st.H⟩ k
          | false => k ⟨putA (st.tm.set t (B true)) o.dst (.sc undef), st.H⟩
        else match want with
          | true => k ⟨putA (st.tm.set t (B false)) o.dst (.sc undef), st.H⟩
          | false => evOp P T base o ⟨st.tm.set t (B false), st.H⟩ k
      | some (.sc (.tuple _)) => k ⟨putA st.tm o.dst (.sc undef), st.H⟩
      | _ => none
    | none => none

noncomputable def evOps (P : Program) (T : Tab) (base : Nat) (ops : Array Oper) : List Oper → St → (St → Option R) → Option R
  | [], st, k => k st
  | o :: l, st, k => evGuard P T base ops o st fun st' => evOps P T base ops l st' k
end

section
variable {P : Program} {T : Tab} {D : Cx} {F : Fr D} {R : Type} {base : Nat}

theorem Gam.freezeAll {a : Act} {w : World} : ∀ {l : List Nat} {st : St}, Gam F st a w → Gam F (freezeAll l st) a w
  | [], st, h => h
  | j :: l, st, h => Gam.freezeAll (l := l) (Gam.freeze h j)
theorem Gam.pre {op : Op} {st : St} {a : Act} {w : World} (h : Gam F st a w) : Gam F (preF op st) a w := by
  unfold preF
  split
  · split
    · exact h.freeze _
    · exact h
  · split
    · exact h.freeze _
    · exact h
  · exact Gam.freezeAll h
  · split
    · exact Gam.freezeAll h
    · exact h
  · exact h

theorem upon_of {o : Oper} {a : Act} {w w' : World} {nx : Next} {v : Value} {next : Act → World → Prop} {Q : Exit → Act → World → Prop} (hr : (execOp a.eval o).run P w = .ok nx w') (hx : nx = .value v ∨ nx = .skip ∧ v = undef) (h : next (a.put o.dst v) w') : o.wp P a w next Q := by
  unfold Oper.wp
  rw [hr]
  rcases hx with rfl | ⟨rfl, rfl⟩
  · exact h
  · exact h

theorem step_wp {o : Oper} {a : Act} {w : World} {tm : List AV} {H : Hp} {av : AV} {next : Act → World → Prop} {Q : Exit → Act → World → Prop} (hs : Step P F o.op a w tm H av) (hD : a.defers = [])
    (h : ∀ a' w', Gam F ⟨putA tm o.dst av, H⟩ a' w' → next a' w') : o.wp P a w next Q := by
  obtain ⟨nx, v, w', μ, S, hr, hx, hI, hT, hv⟩ := hs o rfl
  exact upon_of hr hx (h _ _ ⟨μ, S, hI, putA_ok hT hv, by rw [put_defers]; exact hD⟩)

theorem evH_ok {op : Op} {H H' : Hp} {tm : List AV} {a : Act} {w : World} {μ : Nat → Value} {S : Nat → Prop} {id : Nat} {c : Bool} {av : AV} {g : Option Nat} (hI : Inv F μ S H w) (hd : F.fix id = none) (hT : VsOK μ S w tm a.tmps.toList) {ρ : Operand → AV} (hρ : ∀ x, VOK μ S w (ρ x) (a.eval x))
    (h : evH P H op ρ id = .go c av H' g) (hc : c = true) : Step P F op a w (tmGone tm g) H' av := by
  cases op with
  | alloc T => exact evH_alloc hI hd hT hρ h hc
  | box T x => exact evH_box hI hd hT hρ h hc
  | load T p => exact evH_load hI hT hρ h hc
  | store T p x => exact evH_store hI hT hρ h hc
  | indexAddr t x i => exact evH_index hI hT hρ h hc
  | call cl =>
    cases hcal : cl.callee with
    | builtin b => cases b <;> first | exact evH_len hcal hI hT hρ h hc | simp [evH, hcal] at h
    | value f => simp [evH, hcal] at h
    | invoke r m => simp [evH, hcal] at h
  | _ => simp [evH] at h

theorem evG_ok {op : Op} {H H' : Hp} {tm : List AV} {a : Act} {w : World} {μ : Nat → Value} {S : Nat → Prop} {id : Nat} {c : Bool} {av : AV} {g : Option Nat} (hI : Inv F μ S H w) (hd : F.fix id = none) (hT : VsOK μ S w tm a.tmps.toList) {ρ : Operand → AV} (hρ : ∀ x, VOK μ S w (ρ x) (a.eval x))
    (h : evG P H op ρ id = .go c av H' g) (hc : c = true) : Step P F op a w (tmGone tm g) H' av := by
  cases op with
  | alloc T => exact evG_alloc hI hd hT hρ h hc
  | build t parts => exact evG_build hI hT hρ h hc
  | buildSlice t n parts => exact evG_buildSlice hI hd hT hρ h hc
  | makeSlice t l c => exact evG_make hI hd hT hρ h hc
  | slice t x lo hi mx =>
    cases lo with
    | some _ => simp [evG] at h
    | none => cases hi with
      | none => simp [evG] at h
      | some hi => cases mx with
        | none => simp [evG] at h
        | some mx => exact evG_slice hI hd hT hρ h hc
  | call cl => exact evG_append hI hd hT hρ h hc
  | _ => simp [evG] at h

/-- What stands behind a call, whatever sees its operands. -/
theorem call_core (hTab : CallOK D P T) {o : Oper} {c : Call} (ho : o.op = .call c) {f : Operand} (hcal : c.callee = .value f) {ρ : Operand → AV} {g : FuncId} {caps : List AV} (hf : ρ f = .fn g caps) {H : Hp} {out : Out} {x : out.α}
    (hno : noIds (viewAs H (c.args.toList.map ρ ++ caps)) = true) (hout : T g (viewAs H (c.args.toList.map ρ ++ caps)) = some out) (hx : out.o = some x) {id : Nat}
    (hchk : (noIds (c.args.toList.map ρ ++ caps) || (flatA (out.f x id) && flatB (out.nb x))) = true) {a : Act} {w : World} {μ : Nat → Value} {S : Nat → Prop} (hI : Inv F μ S H w) (hρ : ∀ x, VOK μ S w (ρ x) (a.eval x)) {next : Act → World → Prop} {Q : Exit → Act → World → Prop}
    (hk : ∀ (v u : Value) (S2 : Nat → Prop) (w' : World), Bel D w w' → Inv F μ (fun b => S b ∨ (w.heap.size ≤ b ∧ S2 b)) H w' → (∀ b, S2 b → b < w'.heap.size) → VOK (fun _ => u) (fun b => S b ∨ (w.heap.size ≤ b ∧ S2 b)) w' (out.f x id) v →
      (∀ B, out.nb x = some B → BOK (fun _ => u) (fun b => S b ∨ (w.heap.size ≤ b ∧ S2 b)) w' id B ∧ ∀ b, bof u = some b → w.heap.size ≤ b ∧ ¬ S2 b) → next (a.put o.dst v) w') : o.wp P a w next Q := by
  have hfv := hρ f
  rw [hf] at hfv
  obtain ⟨us, hfe, hus⟩ := hfv
  have hargs : VsOK μ S w (c.args.toList.map ρ ++ caps) (c.args.toList.map a.eval ++ us) := VsOK.append (map_ok hρ _) hus
  have hSH : ∀ b, SH μ S H b → b < w.heap.size := by
    rintro b (hb | ⟨j, B, hj, hb⟩)
    · exact hI.Slt b hb
    · exact bof_lt (hI.blk j B hj) hb
  have hrun : (execOp a.eval o).run P w = .ok (.enter g (c.args.toList.map a.eval ++ us).toArray) w := by
    have he := hTab.1 g _ out hout (#[] ++ c.args.map a.eval ++ us.toArray) w
    have e2 : (#[] ++ c.args.map a.eval ++ us.toArray) = (c.args.toList.map a.eval ++ us).toArray := by
      apply Array.toList_inj.1
      simp
    rw [e2] at he
    simp only [execOp, ho, resolve, hcal, Sem.run_bind, Sem.run_pure, Result.andThen_ok, Deferred.ofValue, hfe, invoke, e2, he]
  -- the callee sees no names
  have fin : ∀ (S1 : Nat → Prop), (∀ b, S1 b → b < w.heap.size) → VsOK (fun _ => undef) S1 w (viewAs H (c.args.toList.map ρ ++ caps)) (c.args.toList.map a.eval ++ us) →
      (∀ (u : Value) (S2 : Nat → Prop) (w' : World) (v : Value), (∀ b, S2 b → (S1 b ∨ w.heap.size ≤ b) ∧ b < w'.heap.size) → VOK (fun _ => u) S2 w' (out.f x id) v → VOK (fun _ => u) (fun b => S b ∨ (w.heap.size ≤ b ∧ S2 b)) w' (out.f x id) v) →
      (∀ (u : Value) (S2 : Nat → Prop) (w' : World) (B : ABlk), (∀ b, S2 b → (S1 b ∨ w.heap.size ≤ b) ∧ b < w'.heap.size) → out.nb x = some B → BOK (fun _ => u) S2 w' id B → BOK (fun _ => u) (fun b => S b ∨ (w.heap.size ≤ b ∧ S2 b)) w' id B) →
      o.wp P a w next Q := by
    intro S1 hlt hvs hfv hfb
    have hc := hTab.2.1 g _ out x hout hx S1 w _ hlt hvs hI.hyw
    unfold Oper.wp
    rw [hrun]
    refine hc.mono ?_
    rintro e w' ⟨v, u, S2, rfl, hb, hs1, hs2, hv, hB⟩
    have hI' : Inv F μ (fun b => S b ∨ (w.heap.size ≤ b ∧ S2 b)) H w' := call_inv hI hb (fun b h => .inl h) (fun b h => by
      rcases h with h | ⟨h1, h2⟩
      · exact ⟨.inl h, Nat.lt_of_lt_of_le (hI.Slt b h) hb.size⟩
      · exact ⟨.inr h1, (hs2 b h2).2⟩)
    show next (a.put o.dst v) w'
    exact hk v u S2 w' hb hI' (fun b h => (hs2 b h).2) (hfv u S2 w' v hs2 (hv id)) (fun B hnb => ⟨hfb u S2 w' B hs2 hnb ((hB B hnb).1 id), (hB B hnb).2⟩)
  cases hni : noIds (c.args.toList.map ρ ++ caps) with
  | true =>
    refine fin S hI.Slt (by rw [views_same H hni]; exact noIds_ok hni hargs) ?_ ?_
    · intro u S2 w' v hs2 hv
      exact VOK.mono (fun b hb => ((hs2 b hb).1).imp (fun h => h) (fun h => ⟨h, hb⟩)) (Nat.le_refl _) (fun _ _ => rfl) hv
    · intro u S2 w' B hs2 hnb hB
      exact BOK.mono (fun b hb => ((hs2 b hb).1).imp (fun h => h) (fun h => ⟨h, hb⟩)) (Nat.le_refl _) (fun _ _ => rfl) (fun _ _ => rfl) hB
  | false =>
    rw [hni, Bool.false_or, Bool.and_eq_true] at hchk
    refine fin (SH μ S H) hSH (noIds_ok hno (viewAs_ok hI hargs)) ?_ ?_
    · intro u S2 w' v hs2 hv
      exact flatA_ok hchk.1 hv
    · intro u S2 w' B hs2 hnb hB
      exact flatB_ok (by rw [← hnb]; exact hchk.2) hB

theorem wtry_ok {H : Hp} {g : FuncId} {args caps : List AV} {wt : WT} (h : wtry T H g args caps = some wt) : ∃ rest l, args = .own wt.j :: rest ∧ lk H wt.j = some (.arr wt.e wt.t l) ∧ flatT wt.t = true ∧ noIds (viewAs (rm wt.j H) (rest ++ caps)) = true ∧ T.w g wt.e wt.t l (viewAs (rm wt.j H) (rest ++ caps)) = some wt.out := by
  unfold wtry at h
  split at h
  · rename_i j rest
    split at h
    · rename_i e t l hk
      split at h
      · rename_i h1 h2
        split at h
        · rename_i out ho
          cases h
          exact ⟨rest, l, rfl, hk, h1, h2, ho⟩
        · cases h
      · cases h
    · cases h
  · cases h

theorem arr_flat {μ μ' : Nat → Value} {S S' : Nat → Prop} {w : World} {i j : Nat} {e : TypeId} {t : Ty} {l : List (El t)} (hf : flatT t = true) (hμ : μ' j = μ i) (h : BOK μ S w i (.arr e t l)) : BOK μ' S' w j (.arr e t l) := by
  rcases h with ⟨A, h1, h2⟩ | ⟨b, c, us, rest, h1, h2, h3, h4, h5, h6⟩
  · exact .inl ⟨A, hμ.trans h1, h2⟩
  · exact .inr ⟨b, c, us, rest, hμ.trans h1, h2, h3, h4, h5, flatL_ok hf h6⟩

theorem evW_ok (hTab : CallOK D P T) {o : Oper} {c : Call} (ho : o.op = .call c) {f : Operand} (hcal : c.callee = .value f) {st : St} {a : Act} {w : World} {id : Nat} (hd : F.fix id = none) {ρ : Operand → AV} (hρ : ∀ (μ : Nat → Value) (S : Nat → Prop), VsOK μ S w st.tm a.tmps.toList → ∀ x, VOK μ S w (ρ x) (a.eval x)) {g : FuncId} {caps : List AV} (hf : ρ f = .fn g caps) {wt : WT} (hw : wtry T st.H g (c.args.toList.map ρ) caps = some wt)
    {k : St → Option R} {r : R} {next : Act → World → Prop} {Q : Exit → Act → World → Prop}
    (h : (wt.out.o.bind fun l' => match wt.out.ret with
       | false => k ⟨putA st.tm o.dst (.sc (.tuple #[])), (wt.j, .arr wt.e wt.t l') :: rm wt.j st.H⟩
       | true => k ⟨putA (keeps (but id) st.tm) o.dst (.own id), (id, .arr wt.e wt.t l') :: keepH (but id) (rm id (rm wt.j st.H))⟩) = some r)
    (hG : Gam F st a w) (hk : ∀ st' a' w', Gam F st' a' w' → k st' = some r → next a' w') : o.wp P a w next Q := by
  obtain ⟨μ, S, hI, hV, hD⟩ := hG
  obtain ⟨rest, l, hargs, hlk, hft, hno, hTw⟩ := wtry_ok hw
  obtain ⟨l', hl', h⟩ := Option.bind_eq_some_iff.1 h
  have hcon := hTab.2.2.1 g wt.e wt.t l _ wt.out hTw
  have hfv := hρ μ S hV f
  rw [hf] at hfv
  obtain ⟨us, hfe, hus⟩ := hfv
  have hav : VsOK μ S w (c.args.toList.map ρ ++ caps) (c.args.toList.map a.eval ++ us) := VsOK.append (map_ok (hρ μ S hV) _) hus
  rw [hargs] at hav
  obtain ⟨v, vals, hvs, hv0, hvr⟩ := hav
  rw [VOK] at hv0
  have hBj := hI.blk wt.j _ hlk
  have hId := hI.drop wt.j
  have hSlt : ∀ b, SH μ S (rm wt.j st.H) b → b < w.heap.size := by
    rintro b (hb | ⟨i, B, hi, hb⟩)
    · exact hI.Slt b hb
    · exact bof_lt (hId.blk i B hi) hb
  have hrun : (execOp a.eval o).run P w = .ok (.enter g (v :: vals).toArray) w := by
    have he := hcon.1 (#[] ++ c.args.map a.eval ++ us.toArray) w
    have e2 : (#[] ++ c.args.map a.eval ++ us.toArray) = (v :: vals).toArray := by
      apply Array.toList_inj.1
      rw [← hvs]
      simp
    rw [e2] at he
    simp only [execOp, ho, resolve, hcal, Sem.run_bind, Sem.run_pure, Result.andThen_ok, Deferred.ofValue, hfe, invoke, e2, he]
  have hnj : ∀ i B, lk (rm wt.j st.H) i = some B → i ≠ wt.j ∧ lk st.H i = some B := by
    intro i B hi
    by_cases e : i = wt.j
    · rw [e, lk_rm_same] at hi; cases hi
    · exact ⟨e, by rwa [lk_rm_other e] at hi⟩
  have hvS : ∀ b, bof v = some b → ¬ SH μ S (rm wt.j st.H) b := by
    rintro b hb (hs | ⟨i, B, hi, hbi⟩)
    · rw [hv0.1] at hb
      exact (hI.notS _ _ hlk b hb).1 hs
    · rw [hv0.1] at hb
      have := hnj i B hi
      exact hI.apart i wt.j B _ this.2 hlk this.1 b hbi hb
  have hcall := hcon.2 l' hl' (SH μ S (rm wt.j st.H)) w v vals hSlt (arr_flat hft hv0.1 hBj) hvS (noIds_ok hno (viewAs_ok hId hvr)) hI.hyw (fun b hb => hI.hyb hlk (by rw [← hv0.1]; exact hb))
  unfold Oper.wp
  rw [hrun]
  refine hcall.mono ?_
  rintro ex w' ⟨v', S', rfl, hret, hbut, hs1, hs2, hB', hv'⟩
  have hsz := hbut.size
  have hS2 : ∀ b, (S b ∨ (w.heap.size ≤ b ∧ S' b)) → (S b ∨ w.heap.size ≤ b) ∧ b < w'.heap.size := by
    rintro b (hb | ⟨h1, h2⟩)
    · exact ⟨.inl hb, Nat.lt_of_lt_of_le (hI.Slt b hb) hsz⟩
    · exact ⟨.inr h1, (hs2 b h2).2⟩
  have hvS' : ∀ b, bof v = some b → ¬ S b ∧ (F.w0.heap.size ≤ b ∨ F.O b) := by
    intro b hb
    rw [hv0.1] at hb
    exact hI.notS _ _ hlk b hb
  have hI2 : Inv F μ (fun b => S b ∨ (w.heap.size ≤ b ∧ S' b)) (rm wt.j st.H) w' := but_inv hId hbut hvS' (fun i B hi b hbi hbv => by
    rw [hv0.1] at hbv
    have := hnj i B hi
    exact hI.apart i wt.j B _ this.2 hlk this.1 b hbi hbv) (fun b h => .inl h) hS2
  have hSw : ∀ b, S b → w'.heap[b]? = w.heap[b]? := fun b hb => hbut.block b (hI.Slt b hb) (fun e => (hvS' b e).1 hb)
  have hVm : VsOK μ (fun b => S b ∨ (w.heap.size ≤ b ∧ S' b)) w' st.tm a.tmps.toList := VsOK.mono (fun b h => .inl h) hsz hSw hV
  show next (a.put o.dst _) w'
  split at h
  · rename_i hr
    have hvv := hret hr
    subst hvv
    simp only [hr]
    have hlt' : ∀ b, bof v' = some b → b < w.heap.size := fun b hb => by rw [hv0.1] at hb; exact bof_lt hBj hb
    have hI3 := Inv.again (d := wt.j) (B0 := .arr wt.e wt.t l') (B := .arr wt.e wt.t l') hI2 (arr_flat hft hv0.1.symm hB') (fun b hb => by
      have hb' : bof v' = some b := by rw [hv0.1]; exact hb
      refine ⟨?_, (hvS' b hb').2⟩
      rintro (hs | ⟨h1, _⟩)
      · exact (hvS' b hb').1 hs
      · have := hlt' b hb'; omega) (fun x hx => hI.fixd wt.j x _ hx hlk) (fun i Bi hi hne b hbi hbj => hI.apart i wt.j Bi _ hi hlk hne b hbi hbj) 
    exact hk ⟨putA st.tm o.dst (.sc (.tuple #[])), (wt.j, .arr wt.e wt.t l') :: rm wt.j st.H⟩ _ _ ⟨μ, _, hI3, putA_ok (av := .sc (.tuple #[])) hVm rfl, by rw [put_defers]; exact hD⟩ h
  · rename_i hr
    simp only [hr]
    have hμ : ∀ i, but id i = true → upd μ id v' i = μ i := fun i hi => upd_other μ _ (but_iff.1 hi)
    have hVk : VsOK (upd μ id v') (fun b => S b ∨ (w.heap.size ≤ b ∧ S' b)) w' (keeps (but id) st.tm) a.tmps.toList := VsOK.keep hμ (fun b h => .inl h) hsz hSw hV
    rcases hB' with ⟨A, h1, h2⟩ | ⟨b, c', us', rest', h1, h2, h3, h4, h5, h6⟩
    · have h1' : v' = .slice A 0 0 := h1
      subst h1'
      have hI3 := hI2.nil id hd wt.e wt.t A
      rw [h2] at h
      exact hk ⟨putA (keeps (but id) st.tm) o.dst (.own id), (id, .arr wt.e wt.t []) :: keepH (but id) (rm id (rm wt.j st.H))⟩ _ _ ⟨_, _, hI3, putA_ok hVk ⟨(upd_same _ _ _).symm, A, 0, 0, rfl⟩, by rw [put_defers]; exact hD⟩ h
    · have h1' : v' = .slice (some ⟨b, 0, none⟩) l'.length (c' + 1) := h1
      have hbv' : bof v' = some b := by rw [h1']; rfl
      have hnew := hv' b hbv'
      have hI3 := hI2.give id hd b v' (.arr wt.e wt.t l') (fun i Bi hi hbi => by
        have hi' := hnj i Bi hi
        rcases hnew.1 with h7 | h7
        · rw [hv0.1] at h7
          exact hI.apart i wt.j Bi _ hi'.2 hlk hi'.1 b hbi h7
        · have := bof_lt (hI.blk i Bi hi'.2) hbi
          omega) (by
        rintro (hs | ⟨_, hs⟩)
        · rcases hnew.1 with h7 | h7
          · exact (hvS' b h7).1 hs
          · have := hI.Slt b hs; omega
        · exact hnew.2 hs) (by
        rcases hnew.1 with h7 | h7
        · exact (hvS' b h7).2
        · exact .inl (Nat.le_trans hI.size h7)) (w' := w') (fun _ _ => rfl) rfl rfl rfl rfl (Nat.le_refl _) hbv' (fun _ => arr_flat hft (upd_same μ id v') (show BOK (fun _ => v') S' w' id (.arr wt.e wt.t l') from .inr ⟨b, c', us', rest', h1, h2, h3, h4, h5, h6⟩))
      exact hk ⟨putA (keeps (but id) st.tm) o.dst (.own id), (id, .arr wt.e wt.t l') :: keepH (but id) (rm id (rm wt.j st.H))⟩ _ _ ⟨_, _, hI3, putA_ok hVk ⟨(upd_same _ _ _).symm, _, _, _, h1'⟩, by rw [put_defers]; exact hD⟩ h

theorem evCall_ok (hTab : CallOK D P T) {o : Oper} {c : Call} (ho : o.op = .call c) {st : St} {a : Act} {w : World} {id : Nat} (hd : F.fix id = none) {k : St → Option R} {r : R} {next : Act → World → Prop} {Q : Exit → Act → World → Prop}
    (h : evCall T o.dst c st id k = some r) (hG : Gam F st a w) (hk : ∀ st' a' w', Gam F st' a' w' → k st' = some r → next a' w') : o.wp P a w next Q := by
  obtain ⟨μ, S, hI, hV, hD⟩ := hG
  unfold evCall at h
  split at h
  · rename_i f hcal
    split at h
    · rename_i g caps hf
      split at h
      · rename_i gt hgt
        exact evG_call hTab ho hd hcal hf hgt h ⟨μ, S, hI, hV, hD⟩ hk
      split at h
      · rename_i wt hwt
        exact evW_ok hTab ho hcal hd (fun μ S hV => evl_ok hV) hf hwt h ⟨μ, S, hI, hV, hD⟩ hk
      split at h
      · rename_i hno
        split at h
        · rename_i out hout
          obtain ⟨x, hx, h⟩ := Option.bind_eq_some_iff.1 h
          split at h
          · rename_i h1 h2
            refine call_core hTab ho hcal hf hno hout hx h2 hI (evl_ok hV) ?_
            intro v u S2 w' hb hI' hS2 hv2 hB
            have hSw : ∀ b, S b → w'.heap[b]? = w.heap[b]? := fun b h => hb.block b (hI.Slt b h)
            split at h
            · rename_i hnb
              split at h
              · rename_i hn
                exact hk ⟨putA st.tm o.dst (out.f x id), st.H⟩ _ _ ⟨μ, _, hI', putA_ok (VsOK.mono (fun b h => .inl h) hb.size hSw hV) (noId_ok hn hv2), by rw [put_defers]; exact hD⟩ h
              · cases h
            · rename_i B hnb
              split at h
              · rename_i hob
                have hBB := hB B hnb
                have hBk2 : BOK (upd μ id u) (fun b => S b ∨ (w.heap.size ≤ b ∧ S2 b)) w' id B := onlyB_ok (upd_same μ id u) hob hBB.1
                have hI2 := name_inv (id := id) (u := u) (n := w.heap.size) hd hI' hI.size (fun j Bj hj b hbj => bof_lt (hI.blk j Bj hj) hbj) hBk2 (fun b hbu => ⟨(hBB.2 b hbu).1, fun hs => by
                  rcases hs with hs | hs
                  · have := hI.Slt b hs
                    have := (hBB.2 b hbu).1
                    omega
                  · exact (hBB.2 b hbu).2 hs.2⟩)
                have hμ : ∀ j, but id j = true → upd μ id u j = μ j := fun j hj => upd_other μ u (but_iff.1 hj)
                exact hk ⟨putA (keeps (but id) st.tm) o.dst (out.f x id), (id, B) :: keepH (but id) (rm id st.H)⟩ _ _ ⟨upd μ id u, _, hI2, putA_ok (VsOK.keep hμ (fun b h => .inl h) hb.size hSw hV) (onlyId_ok (upd_same μ id u) h1 hv2), by rw [put_defers]; exact hD⟩ h
              · cases h
          · cases h
        · cases h
      · cases h
    · cases h
  · cases h

theorem evOp0_ok (hTab : CallOK D P T) {o : Oper} {st : St} {a : Act} {w : World} {k : St → Option R} {r : R} {next : Act → World → Prop} {Q : Exit → Act → World → Prop}
    (h : evOp0 P T base o st k = some r) (hG : Gam F st a w) (hk : ∀ st' a' w', Gam F st' a' w' → k st' = some r → next a' w') : o.wp P a w next Q := by
  have hG' := Gam.pre (op := o.op) hG
  unfold evOp0 at h
  generalize preF o.op st = st1 at h hG'
  dsimp only at h
  obtain ⟨μ, S, hI, hV, hD⟩ := hG'
  have hp := pureOp_ok (P := P) (op := o.op) (evl_ok (a := a) hV)
  split at h
  · rename_i av hpo
    rw [hpo] at hp
    obtain ⟨v, hr, hv⟩ := hp o rfl
    exact upon_of hr (.inl rfl) (hk _ _ _ (Gam.put hI hV hD hv) h)
  · rename_i c av hpo
    rw [hpo] at hp
    split at h
    · rename_i hc
      obtain ⟨v, hr, hv⟩ := hp hc o rfl
      exact upon_of hr (.inl rfl) (hk _ _ _ (Gam.put hI hV hD hv) h)
    · cases h
  · split at h
    · cases h
    rename_i hid
    have hd := F.low _ hid
    split at h
    · rename_i c av H g hev
      split at h
      · rename_i hc
        exact step_wp (evH_ok hI hd hV (evl_ok hV) hev hc) hD (fun a' w' hG => hk _ _ _ hG h)
      · cases h
    · split at h
      · rename_i c av H g hev
        split at h
        · rename_i hc
          exact step_wp (evG_ok hI hd hV (evl_ok hV) hev hc) hD (fun a' w' hG => hk _ _ _ hG h)
        · cases h
      split at h
      · rename_i c av H g hev
        split at h
        · exact step_wp (evM_ok hI hd hV (evl_ok hV) hev) hD (fun a' w' hG => hk _ _ _ hG h)
        · cases h
      · split at h
        · rename_i c hoc
          exact evCall_ok hTab hoc hd h ⟨μ, S, hI, hV, hD⟩ hk
        · cases h

theorem splitN_ok {k : Nat → Option R} {r : R} {n : Int} : ∀ {f m : Nat}, splitN f m n k = some r → ∃ m' : Nat, n = (m' : Int) ∧ k m' = some r
  | 0, m, h => by cases h
  | f + 1, m, h => by
    unfold splitN at h
    split at h
    · rename_i e
      exact ⟨m, e, h⟩
    · exact splitN_ok h
theorem idxOf_ok {op : Op} {tm : List AV} {s : Nat} {kd : IntKind} {n : Int} {len : Nat} (h : idxOf P op tm = some (s, kd, n, len)) : tm[s]? = some (I kd n) := by
  unfold idxOf at h
  split at h
  · split at h
    · rename_i h1
      split at h
      · cases h
      · cases h; exact h1
    · cases h
  · split at h
    · rename_i h1; cases h; exact h1
    · cases h
  · cases h
theorem nil_ok {o : Oper} {st : St} {a : Act} {w : World} {e : Bool} {n : Nat} (h : nilCmp P o.op st = some (e, n)) (hG : Gam F st a w) : ∃ b : Bool, (n ≠ 0 → b = neg e) ∧ (b = e ∨ b = neg e) ∧ (execOp a.eval o).run P w = .ok (.value (.bool b)) w := by
  obtain ⟨μ, S, hI, hV, hD⟩ := hG
  -- what the operand is
  have key : ∀ {x : Operand} {m : Nat}, ((∃ t l, evl st.tm x = .row t l ∧ l.length = m) ∨ ∃ j e' t' l, evl st.tm x = .own j ∧ lk st.H j = some (.arr e' t' l) ∧ l.length = m) → ∃ A c, a.eval x = .slice A m c ∧ (m ≠ 0 → A.isNone = false) := by
    rintro x m (⟨t, l, h1, rfl⟩ | ⟨j, e', t', l, h1, h2, rfl⟩)
    · have hx := evl_ok (a := a) hV x
      rw [h1] at hx
      obtain ⟨A, c, h3, _, _, h6⟩ := hx
      simp only [List.cons.injEq, and_true] at h3
      refine ⟨A, c, h3, fun hm => ?_⟩
      cases l with
      | nil => exact absurd rfl hm
      | cons y l =>
        obtain ⟨b, o', _, h7, _⟩ := h6 0 y rfl
        rw [h7]; rfl
    · have hx := evl_ok (a := a) hV x
      rw [h1] at hx
      obtain ⟨hx1, _⟩ := hx
      rcases hI.blk j _ h2 with ⟨A, h3, h4⟩ | ⟨b, c, us, rest, h3, _⟩
      · rw [h3] at hx1
        exact ⟨A, 0, by rw [hx1, h4]; rfl, fun hm => absurd (by rw [h4]; rfl) hm⟩
      · rw [h3] at hx1
        exact ⟨_, _, hx1, fun _ => rfl⟩
  unfold nilCmp at h
  split at h
  · rename_i b t x y hop
    split at h
    · rename_i el hu
      split at h
      · -- eq
        have hh : e = true ∧ ((∃ t l, evl st.tm x = .row t l ∧ l.length = n) ∨ ∃ j e' t' l, evl st.tm x = .own j ∧ lk st.H j = some (.arr e' t' l) ∧ l.length = n) := by
          split at h
          · rename_i t' l hr
            cases h
            exact ⟨rfl, .inl ⟨t', l, hr, rfl⟩⟩
          · rename_i j hr
            split at h
            · rename_i e' t' l hk
              cases h
              exact ⟨rfl, .inr ⟨j, e', t', l, hr, hk, rfl⟩⟩
            · cases h
          · cases h
        obtain ⟨rfl, hh⟩ := hh
        obtain ⟨A, c, h1, h2⟩ := key hh
        refine ⟨A.isNone, h2, by cases A.isNone <;> simp [neg], ?_⟩
        simp only [execOp, hop]
        show ((do pure (.value (← (do eqGuard .eql t x (.const (.slice none 0 0)) (a.eval x) (.slice none 0 0); binOp .eql t (a.eval x) (.slice none 0 0))))) : Sem Next).run P w = _
        rw [h1]
        simp [go_sem, guard_sl, binOp, equal_of (equalIn_sl1 hu)]
      · -- neq
        have hh : e = false ∧ ((∃ t l, evl st.tm x = .row t l ∧ l.length = n) ∨ ∃ j e' t' l, evl st.tm x = .own j ∧ lk st.H j = some (.arr e' t' l) ∧ l.length = n) := by
          split at h
          · rename_i t' l hr
            cases h
            exact ⟨rfl, .inl ⟨t', l, hr, rfl⟩⟩
          · rename_i j hr
            split at h
            · rename_i e' t' l hk
              cases h
              exact ⟨rfl, .inr ⟨j, e', t', l, hr, hk, rfl⟩⟩
            · cases h
          · cases h
        obtain ⟨rfl, hh⟩ := hh
        obtain ⟨A, c, h1, h2⟩ := key hh
        refine ⟨!A.isNone, fun hm => by rw [h2 hm]; rfl, by cases A.isNone <;> simp [neg], ?_⟩
        simp only [execOp, hop]
        show ((do pure (.value (← (do eqGuard .neq t x (.const (.slice none 0 0)) (a.eval x) (.slice none 0 0); binOp .neq t (a.eval x) (.slice none 0 0))))) : Sem Next).run P w = _
        rw [h1]
        simp [go_sem, guard_sl, binOp, equal_of (equalIn_sl1 hu)]
      · cases h
    · cases h
  · cases h

theorem evOp_ok (hTab : CallOK D P T) {o : Oper} {st : St} {a : Act} {w : World} {k : St → Option R} {r : R} {next : Act → World → Prop} {Q : Exit → Act → World → Prop}
    (h : evOp P T base o st k = some r) (hG : Gam F st a w) (hk : ∀ st' a' w', Gam F st' a' w' → k st' = some r → next a' w') : o.wp P a w next Q := by
  unfold evOp at h
  split at h
  · rename_i s kd n len hi
    obtain ⟨m, rfl, h2⟩ := splitN_ok h
    have hs := idxOf_ok hi
    have e : st.tm.set s (I kd m) = st.tm := by
      apply List.ext_getElem?
      intro j
      by_cases hj : s = j
      · subst hj
        rw [List.getElem?_set_self (List.getElem?_eq_some_iff.1 hs).1, hs]
      · rw [List.getElem?_set_ne hj]
    rw [e] at h2
    exact evOp0_ok hTab h2 hG hk
  split at h
  · rename_i e n hn
    obtain ⟨b, h1, h2, h3⟩ := nil_ok hn hG
    have fin : ∀ b', b = b' → k ⟨putA st.tm o.dst (B b'), st.H⟩ = some r → o.wp P a w next Q := by
      rintro b' rfl hkk
      obtain ⟨μ, S, hI, hV, hD⟩ := hG
      exact upon_of h3 (.inl rfl) (hk _ _ _ (Gam.put hI hV hD (av := B b) (v := .bool b) rfl) hkk)
    split at h
    · obtain ⟨k1, k2⟩ := both_some h
      rcases h2 with h2 | h2
      · exact fin e h2 k1
      · exact fin (neg e) h2 k2
    · rename_i hn0
      exact fin (neg e) (h1 hn0) h
  · exact evOp0_ok hTab h hG hk

theorem set_same_ok {μ : Nat → Value} {S : Nat → Prop} {w : World} {tm : List AV} {us : List Value} {t : Nat} {b : Bool} (h : VsOK μ S w tm us) (ht : tm[t]? = some (.sc (.bool b))) : VsOK μ S w (tm.set t (B b)) us := by
  have hs := VsOK.set (i := t) (a := B b) (u := .bool b) rfl h
  obtain ⟨u, hu, hv⟩ := VsOK.get h ht
  rw [VOK] at hv
  subst hv
  have e : us.set t (.bool b) = us := by
    apply List.ext_getElem?
    intro j
    by_cases hj : t = j
    · subst hj
      rw [List.getElem?_set_self (List.getElem?_eq_some_iff.1 hu).1, hu]
    · rw [List.getElem?_set_ne hj]
  rwa [e] at hs

theorem evGuard_ok (hTab : CallOK D P T) {ops : Array Oper} {o : Oper} {st : St} {a : Act} {w : World} {k : St → Option R} {r : R} {K : Act → World → Prop} {Q : Exit → Act → World → Prop}
    (h : evGuard P T base ops o st k = some r) (hG : Gam F st a w) (hk : ∀ st' a' w', Gam F st' a' w' → k st' = some r → K a' w') :
    if Region.wanted o (yielded ops a.tmps) then o.wp P a w K Q ∨ (o.asks P a w ∧ LetsOut Q) else K (a.put o.dst undef) w := by
  unfold evGuard at h
  split at h
  · rename_i hg
    have : Region.wanted o (yielded ops a.tmps) = true := by simp [Region.wanted, hg]
    rw [if_pos this]
    exact .inl (evOp_ok hTab h hG hk)
  · rename_i j want hg
    split at h
    · rename_i t hslot
      split at h
      · rename_i b ht
        obtain ⟨μ, S, hI, hV, hD⟩ := hG
        obtain ⟨u, hu, hv⟩ := VsOK.get hV ht
        rw [VOK] at hv
        subst hv
        have hy : yielded ops a.tmps j = some b := by
          unfold guardSlot at hslot
          rw [Array.getElem?_toList] at hu
          simp only [yielded, hslot, Option.bind_some, hu]
        have hset : ∀ b', b = b' → Gam F ⟨st.tm.set t (B b'), st.H⟩ a w := by
          rintro b' rfl
          exact ⟨μ, S, hI, set_same_ok hV ht, hD⟩
        have hwant : Region.wanted o (yielded ops a.tmps) = (b == want) := by
          simp only [Region.wanted, hg, hy]
          cases b <;> cases want <;> rfl
        have skip : ∀ b', b = b' → k ⟨putA (st.tm.set t (B b')) o.dst (.sc undef), st.H⟩ = some r → K (a.put o.dst undef) w := by
          intro b' hb' hkk
          obtain ⟨μ', S', hI', hV', hD'⟩ := hset b' hb'
          exact hk ⟨putA (st.tm.set t (B b')) o.dst (.sc undef), st.H⟩ _ _ ⟨μ', S', hI', putA_ok (av := .sc undef) hV' rfl, by rw [put_defers]; exact hD'⟩ hkk
        rw [hwant]
        split at h
        · rename_i hb
          subst hb
          cases want with
          | true => exact .inl (evOp_ok hTab h (hset true rfl) hk)
          | false => exact skip true rfl h
        · rename_i hb
          have hb' : b = false := by simpa using hb
          subst hb'
          cases want with
          | true => exact skip false rfl h
          | false => exact .inl (evOp_ok hTab h (hset false rfl) hk)
      · rename_i l ht
        obtain ⟨μ, S, hI, hV, hD⟩ := hG
        obtain ⟨u, hu, hv⟩ := VsOK.get hV ht
        rw [VOK] at hv
        subst hv
        have hy : yielded ops a.tmps j = none := by
          unfold guardSlot at hslot
          rw [Array.getElem?_toList] at hu
          simp only [yielded, hslot, Option.bind_some, hu]
        have hwant : Region.wanted o (yielded ops a.tmps) = false := by
          simp [Region.wanted, hg, hy]
        rw [hwant]
        exact hk ⟨putA st.tm o.dst (.sc undef), st.H⟩ _ _ ⟨μ, S, hI, putA_ok (av := .sc undef) hV rfl, by rw [put_defers]; exact hD⟩ h
      · cases h
    · cases h

theorem evOps_ok (hTab : CallOK D P T) {ops : Array Oper} {r : R} {Q : Exit → Act → World → Prop} : ∀ {l : List Oper} {st : St} {a : Act} {w : World} {k : St → Option R},
    evOps P T base ops l st k = some r → Gam F st a w → (∀ st' a' w', Gam F st' a' w' → k st' = some r → Q .normal a' w') → wpList P ops Q l a w
  | [], st, a, w, k, h, hG, hk => hk _ _ _ hG h
  | o :: l, st, a, w, k, h, hG, hk => by
    unfold evOps at h
    unfold wpList
    exact evGuard_ok hTab h hG (fun st' a' w' hG' h' => evOps_ok hTab h' hG' hk)
end
end Go.Proofs.YtigekmmdflaeaaaDoorE
