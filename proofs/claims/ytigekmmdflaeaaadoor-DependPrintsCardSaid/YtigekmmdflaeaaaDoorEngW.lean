/- The engine: regions that draw, with calls that own, or turn, an array among what draws; what is quiet may stand anywhere. -/
import Derived.Test.YtigekmmdflaeaaaDoorEngV
set_option linter.all false
namespace Go.Proofs.YtigekmmdflaeaaaDoorE
open Go
set_option linter.unusedVariables false
/-! ### one operation of those that draw -/
section
variable {R : Type}
noncomputable def evY (P : Program) (T : Tab) (Hs H : Hp) (o : Oper) (ρ : Operand → AV) (id : Nat) (k : Option Nat → AV → Hp → Option R) : Option R :=
  match o.op with
  | .call c => match c.callee with
    | .value f => match Nat.blt id 2000000, ρ f with
      | true, .fn g caps => match wtry T H g (c.args.toList.map ρ) caps with
        | some wt => match (lk Hs wt.j).isNone with
          | true => wt.out.o.bind fun l' => match wt.out.ret with
            | false => k none (.sc (.tuple #[])) ((wt.j, .arr wt.e wt.t l') :: rm wt.j H)
            | true => match freshH id Hs with
              | true => k (some id) (.own id) ((id, .arr wt.e wt.t l') :: keepH (but id) (rm id (rm wt.j H)))
              | false => none
          | false => none
        | none => match noIds (viewAs H (c.args.toList.map ρ ++ caps)) with
          | true => match T g (viewAs H (c.args.toList.map ρ ++ caps)) with
            | some out => out.o.bind fun x => match onlyId id (out.f x id), noIds (c.args.toList.map ρ ++ caps) || (flatA (out.f x id) && flatB (out.nb x)) with
              | true, true => match out.nb x with
                | none => match noId (out.f x id) with
                  | true => k none (out.f x id) H
                  | false => none
                | some B => match onlyB id B, freshH id Hs with
                  | true, true => k (some id) (out.f x id) ((id, B) :: keepH (but id) (rm id H))
                  | _, _ => none
              | _, _ => none
            | none => none
          | false => none
      | _, _ => none
    | .builtin .append => match evG P H o.op ρ id, c.args.toList.map ρ with
      | .go cc av H' g, s :: _ => match Nat.blt id 2000000, freshH id Hs with
        | true, true => match s with
          | .own j => match (lk Hs j).isNone with
            | true => if cc = true then k g av H' else none
            | false => none
          | .sc (.slice none 0 0) => if cc = true then k g av H' else none
          | _ => none
        | _, _ => none
      | _, _ => none
    | _ => none
  | .alloc _ => match freshH id Hs, evX P H o ρ id with
    | true, .go cc av H' g => if cc = true then k g av H' else none
    | _, _ => none
  | .box _ _ => match freshH id Hs, evX P H o ρ id with
    | true, .go cc av H' g => if cc = true then k g av H' else none
    | _, _ => none
  | _ => match evX P H o ρ id, tailK P Hs o ρ id with
    | .go cc av H' g, true => if cc = true then k g av H' else none
    | _, _ => none
noncomputable def evYs (P : Program) (T : Tab) (base : Nat) (ops : Array Oper) (LS : List Nat) (Hs : Hp) : List Nat → St → (St → Option R) → Option R
  | [], st, k => k st
  | t :: l, st, k => match ops[t]? with
    | some o => match o.guard with
      | some _ => none
      | none => evY P T Hs st.H o (rho (o.looksAt ops) st.tm) (base + o.dst.getD 0) fun g av H' => match goneOK g LS st.tm with
        | true => evYs P T base ops LS Hs l ⟨putA (tmGone st.tm g) o.dst av, H'⟩ k
        | false => none
    | none => none
/-- the quiet ones, in the text's own order -/
noncomputable def evQt (P : Program) (T : Tab) (H : Hp) (ops : Array Oper) (tl : List Nat) : List Oper → Nat → List AV → (List AV → Option R) → Option R
  | [], _, tm, k => k tm
  | o :: l, i, tm, k => match memL i tl with
    | true => evQt P T H ops tl l (i + 1) tm k
    | false => evQg P T H ops o tm fun tm' => evQt P T H ops tl l (i + 1) tm' k
end
/-! ### which draw, and in which order -/
def isT (o : Oper) : Bool := match o.op with
  | .store _ _ _ | .alloc _ | .box _ _ | .makeSlice _ _ _ | .assign _ => true
  | .slice _ _ _ _ (some _) => true
  | .call c => match c.callee with
    | .builtin .append => true
    | .value _ => true
    | _ => false
  | _ => false
/-- those that draw, and those that must stand behind one of them -/
def tailL (A : List (List Nat)) : List Oper → Nat → List Nat → List Nat
  | [], _, _ => []
  | o :: l, i, d => match isT o || (A.getD i []).any (fun j => memL j d) with
    | true => i :: tailL A l (i + 1) (i :: d)
    | false => tailL A l (i + 1) d
/-- each behind all ahead of it -/
def chainOK (A : List (List Nat)) : List Nat → List Nat → Bool
  | _, [] => true
  | d, t :: l => (d.all fun j => memL j (A.getD t [])) && chainOK A (d ++ [t]) l
def lateT (A : List (List Nat)) (tl : List Nat) (m : Nat) : List Nat := (List.range m).filter fun j => !(memL j tl) && tl.any fun t => !(memL j (A.getD t []))
/-- what a quiet one looks at no quiet one behind it writes; no quiet one stands behind one that draws -/
def quietLooks (ops : Array Oper) (tl : List Nat) (A : List (List Nat)) : Bool := (List.range ops.size).all fun j => memL j tl || match ops[j]? with
  | some o => (tl.all fun t => !(memL t (A.getD j []))) && (List.range ops.size).all fun i => memL i tl || Nat.blt i j || (match ops[i]? with
    | some p => match p.dst with
      | some d => !(memL d (o.looksAt ops))
      | none => true
    | none => true)
  | none => true
def drawOK4 (ops : Array Oper) (tl : List Nat) (A : List (List Nat)) : Bool :=
  Region.noSelect ops && edgesOK ops.toList 0 && allLooks ops ops.toList 0 && chainOK A [] tl && quietLooks ops tl A && tl.all fun t => Nat.blt t ops.size
/-- what those that draw take -/
def takenL (P : Program) (ops : Array Oper) (tm : List AV) : List Nat → Hp → Hp
  | [], H => H
  | t :: l, H => match ops[t]? with
    | some o => match pureOp P o.op (evl tm) with
      | .ok av => takenL P ops (putA tm o.dst av) l H
      | .chk _ av => takenL P ops (putA tm o.dst av) l H
      | .no => match o.op with
        | .store _ p _ => match evl tm p with
          | .ptr i _ => takenL P ops tm l (rm i H)
          | _ => takenL P ops tm l H
        | .call c => match c.args.toList with
          | x :: _ => match evl tm x with
            | .own j => takenL P ops tm l (rm j H)
            | _ => takenL P ops tm l H
          | [] => takenL P ops tm l H
        | _ => takenL P ops tm l H
    | none => takenL P ops tm l H
theorem takenL_sub (P : Program) (ops : Array Oper) : ∀ (l : List Nat) {tm : List AV} {Hs H : Hp}, subH Hs H → subH (takenL P ops tm l Hs) H
  | [], _, _, _, h => h
  | t :: l, _, _, _, h => by
    unfold takenL
    (repeat' split)
    all_goals first
      | exact takenL_sub P ops l (subH_rm h _)
      | exact takenL_sub P ops l h
def hasW (T : Tab) : List Oper → Bool
  | [] => false
  | o :: l => match o.op with
    | .call c => match c.callee with
      | .value (.func g) => match T.v g with
        | true => true
        | false => hasW T l
      | _ => hasW T l
    | _ => hasW T l
section
variable {R : Type}
noncomputable def evDrawW (P : Program) (T : Tab) (base : Nat) (ops : Array Oper) (st : St) (k : St → Option R) : Option R :=
  match drawOK4 ops (tailL (ancs ops.toList []) ops.toList 0 []) (ancs ops.toList []) with
  | true => evQt P T st.H ops (tailL (ancs ops.toList []) ops.toList 0 []) ops.toList 0 st.tm fun tm =>
    evLates P T (takenL P ops tm (tailL (ancs ops.toList []) ops.toList 0 []) st.H) ops tm (lateT (ancs ops.toList []) (tailL (ancs ops.toList []) ops.toList 0 []) ops.size) fun _ =>
      evYs P T base ops (lateS ops (lateT (ancs ops.toList []) (tailL (ancs ops.toList []) ops.toList 0 []) ops.size)) (takenL P ops tm (tailL (ancs ops.toList []) ops.toList 0 []) st.H) (tailL (ancs ops.toList []) ops.toList 0 []) ⟨tm, st.H⟩ k
  | false => none
/-- the place of the first call that turns things under names -/
def gN (T : Tab) : List Oper → Option Nat
  | [] => none
  | o :: l => match o.op with
    | .call c => match c.callee with
      | .value (.func g) => match T.g g with
        | some _ => some 0
        | none => (gN T l).map (· + 1)
      | _ => (gN T l).map (· + 1)
    | _ => (gN T l).map (· + 1)
noncomputable def evDraw4 (P : Program) (T : Tab) (base : Nat) (ops : Array Oper) (st : St) (k : St → Option R) : Option R :=
  match gN T ops.toList with
  | some n => evDrawN P T base ops n st k
  | none => match hasW T ops.toList with
  | true => evDrawW P T base ops st k
  | false => match drawOK ops (quietN ops.toList) || drawOK2 ops (quietN ops.toList) || drawOK3 ops (quietN ops.toList) with
    | true => evDraw3 P T base ops st k
    | false => evDrawW P T base ops st k
end
/-! ### that this is sound -/
section
variable {P : Program} {T : Tab} {D : Cx} {F : Fr D} {R : Type} {base : Nat} {ops : Array Oper}
theorem evY_ok (hTab : CallOK D P T) {Hs H : Hp} {o : Oper} {ρ : Operand → AV} {id : Nat} {k : Option Nat → AV → Hp → Option R} {r : R} (h : evY P T Hs H o ρ id k = some r) (hs : subH Hs H) :
    ∃ g av H', k g av H' = some r ∧ subH Hs H' ∧ ∀ (tm : List AV) (a : Act) (w : World) (next : Act → World → Prop) (Q : Exit → Act → World → Prop), Gam F ⟨tm, H⟩ a w → (∀ (μ : Nat → Value) (S : Nat → Prop), VsOK μ S w tm a.tmps.toList → ∀ x, VOK μ S w (ρ x) (a.eval x)) →
      (∀ a' w', Gam F ⟨putA (tmGone tm g) o.dst av, H'⟩ a' w' → next a' w') → o.wp P a w next Q := by
  have rest : (match evX P H o ρ id, tailK P Hs o ρ id with
    | .go cc av H' g, true => if cc = true then k g av H' else none
    | _, _ => none) = some r → ∃ g av H', k g av H' = some r ∧ subH Hs H' ∧ ∀ (tm : List AV) (a : Act) (w : World) (next : Act → World → Prop) (Q : Exit → Act → World → Prop), Gam F ⟨tm, H⟩ a w → (∀ (μ : Nat → Value) (S : Nat → Prop), VsOK μ S w tm a.tmps.toList → ∀ x, VOK μ S w (ρ x) (a.eval x)) →
      (∀ a' w', Gam F ⟨putA (tmGone tm g) o.dst av, H'⟩ a' w' → next a' w') → o.wp P a w next Q := by
    intro h
    split at h
    rotate_left
    · cases h
    rename_i cc av H' g hev htk
    split at h
    rotate_left
    · cases h
    rename_i hc
    refine ⟨g, av, H', h, tail_sub hs htk hev, fun tm a w next Q hG hρ hn => ?_⟩
    obtain ⟨μ, S, hI, hV, hD⟩ := hG
    exact step_wp (evX_ok hI hV (hρ μ S hV) hev hc) hD hn
  unfold evY at h
  split at h
  · rename_i c ho
    split at h
    · rename_i f hcal
      split at h
      · rename_i g caps hid hf
        have hd := F.low _ hid
        split at h
        · rename_i wt hwt
          split at h
          rotate_left
          · cases h
          rename_i hsj
          obtain ⟨l', hl', h⟩ := Option.bind_eq_some_iff.1 h
          have hne : ∀ i B, lk Hs i = some B → i ≠ wt.j := fun i B hb e => by
            subst e
            rw [hb] at hsj
            cases hsj
          split at h
          · rename_i hret
            refine ⟨none, _, _, h, fun i B hb => ?_, fun tm a w next Q hG hρ hn => ?_⟩
            · rw [lk_cons_other (hne i B hb), lk_rm_other (hne i B hb)]
              exact hs i B hb
            · refine evW_ok (k := fun st' => some st') (r := ⟨putA tm o.dst (.sc (.tuple #[])), (wt.j, .arr wt.e wt.t l') :: rm wt.j H⟩) hTab ho hcal hd (st := ⟨tm, H⟩) hρ hf hwt (by rw [hl', Option.bind_some]; simp only [hret]) hG (fun st' a' w' hG' e => ?_)
              cases e
              exact hn a' w' hG'
          · rename_i hret
            split at h
            rotate_left
            · cases h
            rename_i hfr
            refine ⟨some id, _, _, h, sub_new hs hfr (fun i B hb => lk_rm_other (hne i B hb) _), fun tm a w next Q hG hρ hn => ?_⟩
            refine evW_ok (k := fun st' => some st') (r := ⟨putA (keeps (but id) tm) o.dst (.own id), (id, .arr wt.e wt.t l') :: keepH (but id) (rm id (rm wt.j H))⟩) hTab ho hcal hd (st := ⟨tm, H⟩) hρ hf hwt (by rw [hl', Option.bind_some]; simp only [hret]) hG (fun st' a' w' hG' e => ?_)
            cases e
            exact hn a' w' hG'
        · split at h
          rotate_left
          · cases h
          rename_i hno
          split at h
          rotate_left
          · cases h
          rename_i out hout
          obtain ⟨x, hx, h⟩ := Option.bind_eq_some_iff.1 h
          split at h
          rotate_left
          · cases h
          rename_i h1 h2
          split at h
          · rename_i hnb
            split at h
            rotate_left
            · cases h
            rename_i hn'
            refine ⟨none, _, _, h, hs, fun tm a w next Q hG hρ hn => ?_⟩
            obtain ⟨μ, S, hI, hV, hD⟩ := hG
            refine call_core hTab ho hcal hf hno hout hx h2 hI (hρ μ S hV) ?_
            intro v u S2 w' hb hI' hS2 hv2 hB
            have hSw : ∀ b, S b → w'.heap[b]? = w.heap[b]? := fun b h => hb.block b (hI.Slt b h)
            exact hn _ _ ⟨μ, _, hI', putA_ok (VsOK.mono (fun b h => .inl h) hb.size hSw hV) (noId_ok hn' hv2), by rw [put_defers]; exact hD⟩
          · rename_i B hnb
            split at h
            rotate_left
            · cases h
            rename_i hob hfr
            refine ⟨some id, _, _, h, sub_new hs hfr (fun _ _ _ => rfl), fun tm a w next Q hG hρ hn => ?_⟩
            obtain ⟨μ, S, hI, hV, hD⟩ := hG
            refine call_core hTab ho hcal hf hno hout hx h2 hI (hρ μ S hV) ?_
            intro v u S2 w' hb hI' hS2 hv2 hB
            have hSw : ∀ b, S b → w'.heap[b]? = w.heap[b]? := fun b h => hb.block b (hI.Slt b h)
            have hBB := hB B hnb
            have hBk2 : BOK (upd μ id u) (fun b => S b ∨ (w.heap.size ≤ b ∧ S2 b)) w' id B := onlyB_ok (upd_same μ id u) hob hBB.1
            have hI2 := name_inv (id := id) (u := u) (n := w.heap.size) hd hI' hI.size (fun j Bj hj b hbj => bof_lt (hI.blk j Bj hj) hbj) hBk2 (fun b hbu => ⟨(hBB.2 b hbu).1, fun hs => by
              rcases hs with hs | hs
              · have := hI.Slt b hs
                have := (hBB.2 b hbu).1
                omega
              · exact (hBB.2 b hbu).2 hs.2⟩)
            have hμ : ∀ j, but id j = true → upd μ id u j = μ j := fun j hj => upd_other μ u (but_iff.1 hj)
            exact hn _ _ ⟨upd μ id u, _, hI2, putA_ok (VsOK.keep hμ (fun b h => .inl h) hb.size hSw hV) (onlyId_ok (upd_same μ id u) h1 hv2), by rw [put_defers]; exact hD⟩
      · cases h
    · rename_i hcal
      split at h
      rotate_left
      · cases h
      rename_i cc av H' g s l hev hargs
      split at h
      rotate_left
      · cases h
      rename_i hid hfr
      have hd := F.low _ hid
      have fin : (cc = true → k g av H' = some r → subH Hs H' → ∃ g av H', k g av H' = some r ∧ subH Hs H' ∧ ∀ (tm : List AV) (a : Act) (w : World) (next : Act → World → Prop) (Q : Exit → Act → World → Prop), Gam F ⟨tm, H⟩ a w → (∀ (μ : Nat → Value) (S : Nat → Prop), VsOK μ S w tm a.tmps.toList → ∀ x, VOK μ S w (ρ x) (a.eval x)) →
          (∀ a' w', Gam F ⟨putA (tmGone tm g) o.dst av, H'⟩ a' w' → next a' w') → o.wp P a w next Q) := fun hc hk hsub => ⟨g, av, H', hk, hsub, fun tm a w next Q hG hρ hn => by
        obtain ⟨μ, S, hI, hV, hD⟩ := hG
        exact step_wp (evG_ok hI hd hV (hρ μ S hV) hev hc) hD hn⟩
      rw [ho] at hev
      simp only [evG, hcal] at hev
      split at hev
      rotate_left
      · cases hev
      rename_i s' x' t t' hcal' hargs' hat
      rw [hargs'] at hargs
      simp only [List.map_cons, List.cons.injEq] at hargs
      split at hev
      rotate_left
      · cases hev
      split at hev
      rotate_left
      · cases hev
      split at hev
      rotate_left
      · cases hev
      split at hev
      rotate_left
      · cases hev
      rw [hargs.1] at hev
      split at h
      · rename_i j
        split at h
        rotate_left
        · cases h
        rename_i hsj
        split at h
        rotate_left
        · cases h
        rename_i hc
        simp only at hev
        split at hev
        rotate_left
        · cases hev
        split at hev
        rotate_left
        · cases hev
        split at hev
        rotate_left
        · cases hev
        cases hev
        refine fin hc h (sub_new hs hfr (fun i B hb => lk_rm_other (fun e => ?_) _))
        subst e
        rw [hb] at hsj
        cases hsj
      · split at h
        rotate_left
        · cases h
        rename_i hc
        simp only at hev
        cases hev
        exact fin hc h (sub_new hs hfr (fun _ _ _ => rfl))
      · cases h
    · cases h
  · rename_i ty ho
    split at h
    rotate_left
    · cases h
    rename_i cc av H' g hfr hev
    split at h
    rotate_left
    · cases h
    rename_i hc
    refine ⟨g, av, H', h, ?_, fun tm a w next Q hG hρ hn => ?_⟩
    · unfold evX at hev
      rw [ho] at hev
      simp only [pureOp] at hev
      split at hev
      · cases hev
      · simp only [evH] at hev
        split at hev
        · rename_i hz
          repeat' split at hz
          all_goals first
            | (cases hz; done)
            | (cases hz; cases hev; exact sub_new hs hfr (fun _ _ _ => rfl))
        · simp only [evG] at hev
          repeat' split at hev
          all_goals first
            | (cases hev; done)
            | (cases hev; exact sub_new hs hfr (fun _ _ _ => rfl))
    · obtain ⟨μ, S, hI, hV, hD⟩ := hG
      exact step_wp (evX_ok hI hV (hρ μ S hV) hev hc) hD hn
  · rename_i ty x ho
    split at h
    rotate_left
    · cases h
    rename_i cc av H' g hfr hev
    split at h
    rotate_left
    · cases h
    rename_i hc
    refine ⟨g, av, H', h, ?_, fun tm a w next Q hG hρ hn => ?_⟩
    · unfold evX at hev
      rw [ho] at hev
      simp only [pureOp] at hev
      split at hev
      · cases hev
      · simp only [evH] at hev
        split at hev
        · rename_i hz
          split at hz
          · cases hz; cases hev
            exact sub_new hs hfr (fun _ _ _ => rfl)
          · cases hz
        · simp [evG] at hev
    · obtain ⟨μ, S, hI, hV, hD⟩ := hG
      exact step_wp (evX_ok hI hV (hρ μ S hV) hev hc) hD hn
  · exact rest h
variable {A : List (List Nat)} {lates LS tl : List Nat}
structure LatesW (ops : Array Oper) (tl : List Nat) (A : List (List Nat)) (lates LS : List Nat) : Prop where
  chain : ∀ d t l, tl = d ++ t :: l → ∀ j, j ∈ d → j ∈ A.getD t []
  lt : ∀ t, t ∈ tl → t < ops.size
  nd : ∀ d t l, tl = d ++ t :: l → t ∉ d
  tail : ∀ t, t ∈ tl → ∀ j, j < ops.size → j ∉ tl → j ∈ A.getD t [] ∨ j ∈ lates
  looks : ∀ j o, j ∉ tl → ops[j]? = some o → ∀ i p d, i ∉ tl → ops[i]? = some p → p.dst = some d → d ∈ o.looksAt ops → i < j
  free : ∀ j, j < ops.size → j ∉ tl → ∀ t, t ∈ tl → t ∉ A.getD j []
  inL : ∀ j, j ∈ lates → ∀ o, ops[j]? = some o → (∀ s, s ∈ o.looksAt ops → s ∈ LS) ∧ ∀ d, o.dst = some d → d ∈ LS
/-- The whole: quiet ones wherever they may stand, the others in their order. -/
theorem main_anyW (hTab : CallOK D P T) {Hs : Hp} (hF : Facts ops ops.size A) (hA : ∀ i o, ops[i]? = some o → ∀ e ∈ bed o, e.on ∈ A.getD i []) (hX : LatesW ops tl A lates LS) {res : R} {kt : St → Option R} {Q : Exit → Act → World → Prop} (hk : ∀ st' a' w', Gam F st' a' w' → kt st' = some res → Q .normal a' w')
    {H0 : Hp} (hs0 : subH Hs H0) : ∀ (fuel : Nat) (listed : Array Bool) (dn rem : List Nat) (st : St) (tm : List AV) (a : Act) (w : World),
    Lk ops listed → tl = dn ++ rem → (∀ i, i ∈ tl → (lst listed i ↔ i ∈ dn)) → unl ops.size listed ≤ fuel →
    (dn = [] ∧ st.H = H0 ∨ ∀ i, i < ops.size → i ∉ tl → ¬ lst listed i → i ∈ lates) → subH Hs st.H →
    (∀ i, i ∉ tl → ¬ lst listed i → ∀ o, ops[i]? = some o → ∃ r, (i ∈ lates → lateK P o (rho (o.looksAt ops) st.tm) = true ∧ VQ P T ops Hs o st.tm r) ∧ (dn = [] → VQ P T ops H0 o st.tm r) ∧ ∀ d : Nat, o.dst = some d → st.tm[d]? = some r ∨ st.tm.length ≤ d) →
    tm.length = st.tm.length → (∀ s : Nat, (∃ i o, i ∉ tl ∧ ¬ lst listed i ∧ ops[i]? = some o ∧ o.dst = some s) ∨ tm[s]? = st.tm[s]?) →
    evYs P T base ops LS Hs rem st kt = some res → Gam F ⟨tm, st.H⟩ a w → wpAny P .any ops Q fuel listed a w := by
  have fin : ∀ (listed : Array Bool) (dn rem : List Nat) (st : St) (tm : List AV) (a : Act) (w : World), tl = dn ++ rem → (∀ i, i < ops.size → lst listed i) → (∀ i, i ∈ tl → (lst listed i ↔ i ∈ dn)) → (∀ s : Nat, (∃ i o, i ∉ tl ∧ ¬ lst listed i ∧ ops[i]? = some o ∧ o.dst = some s) ∨ tm[s]? = st.tm[s]?) →
      evYs P T base ops LS Hs rem st kt = some res → Gam F ⟨tm, st.H⟩ a w → Q .normal a w := by
    intro listed dn rem st tm a w htl hall hl hag h hG
    have e : rem = [] := by
      cases rem with
      | nil => rfl
      | cons t l =>
        have ht : t ∈ tl := by rw [htl]; simp
        exact absurd ((hl t ht).1 (hall t (hX.lt t ht))) (hX.nd dn t l htl)
    subst e
    have et : tm = st.tm := List.ext_getElem? fun s => by
      rcases hag s with ⟨i, o, _, h2, h3, _⟩ | h'
      · exact absurd (hall i (Array.getElem?_eq_some_iff.1 h3).1) h2
      · exact h'
    subst et
    exact hk _ _ _ hG h
  intro fuel
  induction fuel with
  | zero =>
    intro listed dn rem st tm a w hL htl hl hu hph hsub hp hlen hag h hG
    have hall : ∀ i, i < ops.size → lst listed i := fun i hi => unl_zero (m := ops.size) (by omega) hi
    refine ⟨?_, fin listed dn rem st tm a w htl hall hl hag h hG⟩
    apply List.eq_nil_iff_forall_not_mem.2
    intro j hj
    obtain ⟨h1, o, ho, _⟩ := (ready_spec hF hL).1 hj
    exact h1 (hall j (Array.getElem?_eq_some_iff.1 ho).1)
  | succ fuel ih =>
    intro listed dn rem st tm a w hL htl hl hu hph hsub hp hlen hag h hG
    refine ⟨fun hnil => ?_, fun j hj => ?_⟩
    · refine fin listed dn rem st tm a w htl (fun i hi => ?_) hl hag h hG
      by_cases hli : lst listed i
      · exact hli
      · exact absurd hnil (least_ready hF hL i hi hli)
    · obtain ⟨h1, o, ho, he⟩ := (ready_spec hF hL).1 hj
      obtain ⟨hL', hs⟩ := Lk.set hF hL hj
      have hlt := (Array.getElem?_eq_some_iff.1 ho).1
      have hu' : unl ops.size (listed.setIfInBounds j true) ≤ fuel := by
        have := unl_set hlt hs h1
        omega
      simp only [wpOp, ho]
      -- what it looks at is as it will be
      have hsame : ∀ s, s ∈ o.looksAt ops → st.tm[s]? = tm[s]? := fun s hs' => by
        rcases hag s with ⟨i, p, h2, h3, h4, h5⟩ | h'
        · by_cases hij : i = j
          · subst hij
            by_cases hjt : i ∈ tl
            · exact absurd hjt h2
            · have := hX.looks i o hjt ho i p s h2 h4 h5 hs'
              omega
          · rcases (hF.looks ho h4 (fun e => hij e.symm) s h5).2 hs' with ⟨_, g2⟩ | ⟨g1, g2⟩
            · obtain ⟨ed, g3, rfl⟩ := hasEdge_iff.1 g2
              exact absurd (he ed g3) h3
            · -- a quiet one behind it that writes what it looks at
              by_cases hjt : j ∈ tl
              · obtain ⟨ed, g3, g4⟩ := hasEdge_iff.1 g2
                exact absurd (g4 ▸ hA i p h4 ed g3) (hX.free i (Array.getElem?_eq_some_iff.1 h4).1 h2 j hjt)
              · have := hX.looks j o hjt ho i p s h2 h4 h5 hs'
                omega
        · exact h'.symm
      by_cases hjt : j ∈ tl
      · -- one that draws
        cases rem with
        | nil =>
          rw [List.append_nil] at htl
          exact absurd ((hl j hjt).2 (htl ▸ hjt)) h1
        | cons t l =>
          have hjk : j = t := by
            rw [htl, List.mem_append] at hjt
            rcases hjt with g | g
            · exact absurd ((hl j (by rw [htl]; exact List.mem_append.2 (.inl g))).2 g) h1
            · rcases List.mem_cons.1 g with g | g
              · exact g
              · obtain ⟨l1, l2, rfl⟩ := List.append_of_mem g
                have ht : t ∈ tl := by rw [htl]; simp
                have hd : t ∈ A.getD j [] := hX.chain (dn ++ t :: l1) j l2 (by rw [htl]; simp) t (by simp)
                exact absurd ((hl t ht).1 (anc_listed hF hL (j + 1) j (by omega) ho he t hd)) (hX.nd dn t _ htl)
          subst hjk
          unfold evYs at h
          rw [ho] at h
          simp only at h
          split at h
          · cases h
          rename_i hg
          obtain ⟨g, av, H', h, hsub', hstep⟩ := evY_ok (F := F) hTab h hsub
          split at h
          rotate_left
          · cases h
          rename_i hgone
          have hpend : ∀ i, i < ops.size → i ∉ tl → ¬ lst listed i → i ∈ lates := fun i hi hit hni => by
            rcases hX.tail j hjt i hi hit with g | g
            · exact absurd (anc_listed hF hL (j + 1) j (by omega) ho he i g) hni
            · exact g
          have hne2 : ∀ i, i ∉ tl → ¬ lst (listed.setIfInBounds j true) i → ¬ lst listed i := fun i _ hni hh => hni ((lst_set hs i).2 (.inl hh))
          have hrs : rho (o.looksAt ops) st.tm = rho (o.looksAt ops) tm := rho_congr hsame
          refine bare_op hg (hstep tm a w _ _ hG (fun μ S hV x => by rw [hrs]; exact rho_ok hV x) (fun a' w' hG' => ih _ (dn ++ [j]) l ⟨putA (tmGone st.tm g) o.dst av, H'⟩ (putA (tmGone tm g) o.dst av) a' w' hL' (by rw [htl]; simp) (fun i hi => ?_) hu' (.inr fun i hi hit hni => hpend i hi hit (hne2 i hit hni)) hsub' (fun i hit hni p hpi => ?_) ?_ (fun s => ?_) h hG'))
          · rw [lst_set hs, hl i hi, List.mem_append, List.mem_singleton]
          · have hni' := hne2 i hit hni
            have hil := hpend i (Array.getElem?_eq_some_iff.1 hpi).1 hit hni'
            obtain ⟨r, hr, _, hrd⟩ := hp i hit hni' p hpi
            obtain ⟨q1, q2⟩ := hX.inL i hil p hpi
            have hij : i ≠ j := fun e => hit (e ▸ hjt)
            have e0 : ∀ s, s ∈ p.looksAt ops → (putA (tmGone st.tm g) o.dst av)[s]? = st.tm[s]? := fun s hs' => by
              rw [putA_get_ne (fun hd => ?_)]
              · exact gone_get hgone (q1 s hs')
              · rcases (hF.looks hpi ho hij s hd).2 hs' with ⟨_, g2⟩ | ⟨g1, g2⟩
                · obtain ⟨ed, g3, g4⟩ := hasEdge_iff.1 g2
                  exact absurd (g4 ▸ hA i p hpi ed g3) (hX.free i (Array.getElem?_eq_some_iff.1 hpi).1 hit j hjt)
                · obtain ⟨ed, g3, g4⟩ := hasEdge_iff.1 g2
                  exact hni' (g4 ▸ he ed g3)
            have e1 : rho (p.looksAt ops) (putA (tmGone st.tm g) o.dst av) = rho (p.looksAt ops) st.tm := rho_congr e0
            refine ⟨r, fun _ => ⟨by rw [e1]; exact (hr hil).1, VQ_congr (hr hil).2 fun s hs' => (e0 s hs').symm⟩, fun hd0 => by simp at hd0, fun d hd => ?_⟩
            have hne : o.dst ≠ some d := fun hod => (hF.looks hpi ho hij d hod).1 hd
            show (putA (tmGone st.tm g) o.dst av)[d]? = some r ∨ (putA (tmGone st.tm g) o.dst av).length ≤ d
            rw [putA_get_ne hne, gone_get hgone (q2 d hd), putA_length, gone_len]
            exact hrd d hd
          · rw [putA_length, putA_length, gone_len, gone_len]; exact hlen
          · rcases hag s with ⟨i, p, h2, h3, h4, h5⟩ | h'
            · left
              refine ⟨i, p, h2, fun hh => ?_, h4, h5⟩
              rcases (lst_set hs i).1 hh with h6 | h6
              · exact h3 h6
              · exact h2 (h6 ▸ hjt)
            · right
              show (putA (tmGone tm g) o.dst av)[s]? = (putA (tmGone st.tm g) o.dst av)[s]?
              by_cases hds : o.dst = some s
              · rw [hds]
                by_cases hsl : s < tm.length
                · rw [putA_get_same (by rw [gone_len]; exact hsl), putA_get_same (by rw [gone_len]; omega)]
                · rw [List.getElem?_eq_none (by rw [putA_length, gone_len]; omega), List.getElem?_eq_none (by rw [putA_length, gone_len]; omega)]
              · rw [putA_get_ne hds, putA_get_ne hds]
                exact gone_congr h'
      · -- a quiet one
        obtain ⟨r, hr, hr0, hrd⟩ := hp j hjt h1 o ho
        have hV : VQ P T ops st.H o st.tm r := by
          rcases hph with ⟨g1, g2⟩ | g
          · rw [g2]; exact hr0 g1
          · have := hr (g j hlt hjt h1)
            exact VQ_mono hsub this.1 this.2
        refine VQ_op hTab (VQ_congr hV hsame) hG (fun a' w' hG' => ih _ dn rem st (putA tm o.dst r) a' w' hL' htl (fun i hi => ?_) hu' ?_ hsub (fun i hit hni => hp i hit (fun hh => hni ((lst_set hs i).2 (.inl hh)))) (by rw [putA_length]; exact hlen) (fun s => ?_) h hG')
        · rw [lst_set hs, ← hl i hi]
          exact ⟨fun hh => hh.resolve_right (fun e => hjt (e ▸ hi)), .inl⟩
        · exact hph.imp (fun g => g) (fun g i hi hit hni => g i hi hit (fun hh => hni ((lst_set hs i).2 (.inl hh))))
        · by_cases hds : o.dst = some s
          · right
            rw [hds]
            rcases hrd s hds with h6 | h6
            · rw [h6, putA_get_same]
              have := (List.getElem?_eq_some_iff.1 h6).1
              omega
            · rw [List.getElem?_eq_none (by rw [putA_length]; omega), List.getElem?_eq_none h6]
          · rcases hag s with ⟨i, p, h2, h3, h4, h5⟩ | h'
            · left
              refine ⟨i, p, h2, fun hh => ?_, h4, h5⟩
              rcases (lst_set hs i).1 hh with h6 | h6
              · exact h3 h6
              · subst h6
                rw [ho] at h4
                cases h4
                exact hds h5
            · right
              rw [putA_get_ne hds]; exact h'
/-- the quiet ones in the text's own order -/
theorem evQt_fin {H : Hp} {A : List (List Nat)} {tl : List Nat} (hF : Facts ops ops.size A) (hlk : ∀ j o, j ∉ tl → ops[j]? = some o → ∀ i p d, i ∉ tl → ops[i]? = some p → p.dst = some d → d ∈ o.looksAt ops → i < j) {res : R} {k : List AV → Option R} :
    ∀ {l : List Oper} {i : Nat} {tm : List AV}, l = ops.toList.drop i → evQt P T H ops tl l i tm k = some res → ∃ fin, k fin = some res ∧ fin.length = tm.length ∧ (∀ s : Nat, (∃ j o, i ≤ j ∧ j ∉ tl ∧ ops[j]? = some o ∧ o.dst = some s) ∨ fin[s]? = tm[s]?) ∧
      ∀ j o, i ≤ j → j ∉ tl → ops[j]? = some o → ∃ r, VQ P T ops H o fin r ∧ ∀ d : Nat, o.dst = some d → fin[d]? = some r ∨ fin.length ≤ d
  | [], i, tm, hl, h => by
    refine ⟨tm, h, rfl, fun s => .inr rfl, fun j o hj _ ho => ?_⟩
    have hlt := (Array.getElem?_eq_some_iff.1 ho).1
    have : (ops.toList.drop i).length = 0 := by rw [← hl]; rfl
    simp at this
    omega
  | o :: l, i, tm, hl, h => by
    have hoi : ops[i]? = some o := by
      have h2 : (ops.toList.drop i)[0]? = some o := by rw [← hl]; rfl
      rw [List.getElem?_drop] at h2
      simpa using h2
    have hl' : l = ops.toList.drop (i + 1) := by
      rw [← List.drop_drop, ← hl]
      rfl
    unfold evQt at h
    split at h
    · rename_i hit
      have hit' := memL_iff.1 hit
      obtain ⟨fin, h1, h2, h3, h4⟩ := evQt_fin hF hlk hl' h
      refine ⟨fin, h1, h2, fun s => (h3 s).imp (fun ⟨j, p, a, b⟩ => ⟨j, p, by omega, b⟩) (fun g => g), fun j p hj hjt hp => ?_⟩
      by_cases e : j = i
      · exact absurd hit' (e ▸ hjt)
      · exact h4 j p (by omega) hjt hp
    · rename_i hit
      have hit' : i ∉ tl := fun hh => by rw [memL_iff.2 hh] at hit; cases hit
      obtain ⟨av, hV, h⟩ := evQg_nat h
      obtain ⟨fin, h1, h2, h3, h4⟩ := evQt_fin hF hlk hl' h
      refine ⟨fin, h1, by rw [h2, putA_length], fun s => ?_, fun j p hj hjt hp => ?_⟩
      · rcases h3 s with ⟨j, p, a, b⟩ | g
        · exact .inl ⟨j, p, by omega, b⟩
        · by_cases hd : o.dst = some s
          · exact .inl ⟨i, o, Nat.le_refl _, hit', hoi, hd⟩
          · exact .inr (by rw [g, putA_get_ne hd])
      · by_cases e : j = i
        · subst e
          rw [hoi] at hp
          cases hp
          refine ⟨av, VQ_congr hV fun s hs => ?_, fun d hd => ?_⟩
          · rcases h3 s with ⟨q, p, a, b, c, d⟩ | g
            · have := hlk j o hit' hoi q p s b c d hs
              omega
            · rw [g, putA_get_ne (fun hd => by have := hlk j o hit' hoi j o s hit' hoi hd hs; omega)]
          · rcases h3 d with ⟨q, p, a, b, c, e⟩ | g
            · exact absurd hd ((hF.looks hoi c (by omega) d e).1)
            · by_cases hlt : d < tm.length
              · left
                rw [g, hd, putA_get_same hlt]
              · right
                rw [h2, putA_length]
                omega
        · exact h4 j p (by omega) hjt hp
theorem unL_sub {j : Nat} : ∀ (l s : List Nat), j ∈ s → j ∈ unL l s
  | [], s, h => h
  | x :: l, s, h => by
    unfold unL
    split
    · exact unL_sub l s h
    · exact unL_sub l _ (List.mem_cons_of_mem _ h)
theorem ancE_sub {acc : List (List Nat)} {j : Nat} : ∀ (l s : List Nat), j ∈ s ∨ j ∈ l → j ∈ ancE acc l s
  | [], s, h => by
    rcases h with h | h
    · exact h
    · cases h
  | x :: l, s, h => by
    unfold ancE
    split
    · rename_i hm
      refine ancE_sub l s ?_
      rcases h with h | h
      · exact .inl h
      · rcases List.mem_cons.1 h with e | h
        · subst e
          exact .inl (memL_iff.1 hm)
        · exact .inr h
    · refine ancE_sub l _ ?_
      rcases h with h | h
      · exact .inl (List.mem_cons_of_mem _ (unL_sub _ _ h))
      · rcases List.mem_cons.1 h with e | h
        · subst e
          exact .inl List.mem_cons_self
        · exact .inr h
theorem ancs_sub : ∀ (l : List Oper) (acc : List (List Nat)) (k : Nat) (o : Oper), l[k]? = some o → ∀ e ∈ bed o, e.on ∈ (ancs l acc).getD (acc.length + k) []
  | [], acc, k, o, h, e, he => by simp at h
  | p :: l, acc, 0, o, h, e, he => by
    simp only [List.getElem?_cons_zero, Option.some.injEq] at h
    subst h
    unfold ancs
    rw [ancs_get l _ _ (by simp)]
    simp only [List.getD_eq_getElem?_getD, Nat.add_zero, List.getElem?_concat_length, Option.getD_some]
    exact ancE_sub _ _ (.inr (List.mem_reverse.2 (List.mem_map.2 ⟨e, he, rfl⟩)))
  | p :: l, acc, k + 1, o, h, e, he => by
    unfold ancs
    have := ancs_sub l (acc ++ [ancE acc ((bed p).map (·.on)).reverse []]) k o (by simpa using h) e he
    rw [List.length_append, List.length_singleton, show acc.length + 1 + k = acc.length + (k + 1) by omega] at this
    exact this
theorem chainOK_ok {A : List (List Nat)} : ∀ {l d : List Nat}, chainOK A d l = true → ∀ d' t l', l = d' ++ t :: l' → ∀ j, j ∈ d ++ d' → j ∈ A.getD t []
  | [], d, h, d', t, l', e, j, hj => by simp at e
  | x :: l, d, h, d', t, l', e, j, hj => by
    unfold chainOK at h
    rw [Bool.and_eq_true] at h
    cases d' with
    | nil =>
      simp only [List.nil_append, List.cons.injEq] at e
      rw [← e.1]
      rw [List.append_nil] at hj
      exact memL_iff.1 (List.all_eq_true.1 h.1 j hj)
    | cons y d' =>
      simp only [List.cons_append, List.cons.injEq] at e
      refine chainOK_ok h.2 d' t l' e.2 j ?_
      rw [← e.1] at hj
      simpa using hj
theorem tailL_ge {A : List (List Nat)} : ∀ {l : List Oper} {i t : Nat} {d : List Nat}, t ∈ tailL A l i d → i ≤ t
  | [], i, t, d, h => by cases h
  | o :: l, i, t, d, h => by
    unfold tailL at h
    split at h
    · rcases List.mem_cons.1 h with e | h
      · omega
      · have := tailL_ge h; omega
    · have := tailL_ge h; omega
theorem tailL_nd {A : List (List Nat)} : ∀ {l : List Oper} {i : Nat} {d0 : List Nat} (d : List Nat) (t : Nat) (r : List Nat), tailL A l i d0 = d ++ t :: r → t ∉ d
  | [], i, d0, d, t, r, e => by simp [tailL] at e
  | o :: l, i, d0, d, t, r, e => by
    unfold tailL at e
    split at e
    · cases d with
      | nil => simp
      | cons y d =>
        simp only [List.cons_append, List.cons.injEq] at e
        intro hm
        rcases List.mem_cons.1 hm with e2 | hm
        · have : t ∈ tailL A l (i + 1) (i :: d0) := by rw [e.2]; simp
          have := tailL_ge this
          omega
        · exact tailL_nd d t r e.2 hm
    · exact tailL_nd d t r e
theorem evDrawW_ok (hm : P.follows .mixedOrders = true) (hTab : CallOK D P T) {id : Nat} {st : St} {a : Act} {w : World} {r : R} {k : St → Option R} {Q : Exit → Act → World → Prop}
    (h : evDrawW P T base ops st k = some r) (hG : Gam F st a w) (hk : ∀ st' a' w', Gam F st' a' w' → k st' = some r → Q .normal a' w') : (Code.region id ops true).wp P Q a w := by
  unfold evDrawW at h
  split at h
  rotate_left
  · cases h
  rename_i hok
  unfold drawOK4 at hok
  simp only [Bool.and_eq_true] at hok
  obtain ⟨⟨⟨⟨⟨_, h1⟩, h2⟩, h3⟩, h4⟩, h5⟩ := hok
  have hF : Facts ops ops.size (ancs ops.toList []) := ⟨fun ho e he => by
      have := edgesOK_ok h1 (get_list ho) e he
      omega, fun {i j o p} ho hp hne d hd => by
      have h5 := allLooks_ok h2 (get_list ho)
      have := looksOK_ok h5 (get_list hp) (by omega) d hd
      simpa using this, fun {i o} ho j hj => by
      have := ancs_closed ops.toList [] i o (get_list ho) j (by simpa using hj)
      simpa using this, fun i g1 g2 => by omega⟩
  have hA : ∀ i o, ops[i]? = some o → ∀ e ∈ bed o, e.on ∈ (ancs ops.toList []).getD i [] := fun i o ho e he => by
    have := ancs_sub ops.toList [] i o (get_list ho) e he
    simpa using this
  have hQ : ∀ j o, j ∉ tailL (ancs ops.toList []) ops.toList 0 [] → ops[j]? = some o → (∀ t, t ∈ tailL (ancs ops.toList []) ops.toList 0 [] → t ∉ (ancs ops.toList []).getD j []) ∧ ∀ i p d, i ∉ tailL (ancs ops.toList []) ops.toList 0 [] → ops[i]? = some p → p.dst = some d → d ∈ o.looksAt ops → i < j := fun j o hj ho => by
    have hlt := (Array.getElem?_eq_some_iff.1 ho).1
    have h6 := List.all_eq_true.1 h4 j (List.mem_range.2 hlt)
    rw [ho] at h6
    simp only [Bool.or_eq_true, Bool.and_eq_true] at h6
    have h6 := h6.resolve_left (fun hh => hj (memL_iff.1 hh))
    refine ⟨fun t ht hh => ?_, fun i p d hi hp hd hl => ?_⟩
    · have := List.all_eq_true.1 h6.1 t ht
      rw [memL_iff.2 hh] at this
      cases this
    · have h7 := List.all_eq_true.1 h6.2 i (List.mem_range.2 (Array.getElem?_eq_some_iff.1 hp).1)
      rw [hp] at h7
      simp only [hd, Bool.or_eq_true] at h7
      rcases h7 with (h7 | h7) | h7
      · exact absurd (memL_iff.1 h7) hi
      · exact Nat.le_of_ble_eq_true h7
      · rw [memL_iff.2 hl] at h7
        cases h7
  have hX : LatesW ops (tailL (ancs ops.toList []) ops.toList 0 []) (ancs ops.toList []) (lateT (ancs ops.toList []) (tailL (ancs ops.toList []) ops.toList 0 []) ops.size) (lateS ops (lateT (ancs ops.toList []) (tailL (ancs ops.toList []) ops.toList 0 []) ops.size)) := ⟨fun d t l e j hj => chainOK_ok h3 d t l e j (by simpa using hj), fun t ht => Nat.le_of_ble_eq_true (List.all_eq_true.1 h5 t ht), fun d t l e => tailL_nd d t l e, fun t ht j hj hjt => by
      by_cases hm : j ∈ (ancs ops.toList []).getD t []
      · exact .inl hm
      · right
        unfold lateT
        rw [List.mem_filter]
        refine ⟨List.mem_range.2 hj, ?_⟩
        rw [Bool.and_eq_true]
        refine ⟨?_, List.any_eq_true.2 ⟨t, ht, ?_⟩⟩
        · cases e : memL j (tailL (ancs ops.toList []) ops.toList 0 []) with
          | true => exact absurd (memL_iff.1 e) hjt
          | false => rfl
        · cases e : memL j ((ancs ops.toList []).getD t []) with
          | true => exact absurd (memL_iff.1 e) hm
          | false => rfl, fun j o hj ho => (hQ j o hj ho).2, fun j hj hjt t ht => (hQ j ops[j] hjt (Array.getElem?_eq_getElem hj)).1 t ht, fun j hj o ho => ⟨fun s hs => List.mem_flatMap.2 ⟨j, hj, by rw [ho]; exact List.mem_append.2 (.inr hs)⟩, fun d hd => List.mem_flatMap.2 ⟨j, hj, by rw [ho]; simp only; rw [hd]; simp⟩⟩⟩
  obtain ⟨fin, h, hlen, hag, hat⟩ := evQt_fin hF (fun j o hj ho => (hQ j o hj ho).2) (by simp) h
  obtain ⟨h, hpl⟩ := evLates_ok h
  have hsub := takenL_sub P ops (tailL (ancs ops.toList []) ops.toList 0 []) (tm := fin) (subH_refl st.H)
  have hno : ∀ j, ¬ lst (Array.replicate ops.size false) j := by
    intro j hj
    unfold lst at hj
    by_cases hlt : j < ops.size
    · simp [hlt] at hj
    · simp [hlt] at hj
  refine wp_region_any hm (main_anyW (base := base) hTab hF hA hX hk hsub ops.size _ [] (tailL (ancs ops.toList []) ops.toList 0 []) ⟨fin, st.H⟩ st.tm a _ ⟨by simp, fun j o hj => absurd hj (hno j)⟩ rfl (fun i _ => ⟨fun hh => absurd hh (hno i), fun hh => by cases hh⟩) ?_ (.inl ⟨rfl, rfl⟩) hsub (fun i hit _ o ho => ?_) hlen.symm (fun s => ?_) h ?_)
  · exact Nat.le_trans List.countP_le_length (by simp)
  · obtain ⟨r, h6, h7⟩ := hat i o (Nat.zero_le _) hit ho
    refine ⟨r, fun hil => ?_, fun _ => h6, h7⟩
    obtain ⟨g1, r', g2⟩ := hpl i hil o ho
    have : r = r' := VQ_det h6 (VQ_mono hsub g1 g2)
    subst this
    exact ⟨g1, g2⟩
  · rcases hag s with ⟨j, o, _, b, c, d⟩ | g
    · exact .inl ⟨j, o, b, hno j, c, d⟩
    · exact .inr g.symm
  · exact Gam.drew hG
theorem evDraw4_ok (hm : P.follows .mixedOrders = true) (hTab : CallOK D P T) {id : Nat} {st : St} {a : Act} {w : World} {r : R} {k : St → Option R} {Q : Exit → Act → World → Prop}
    (h : evDraw4 P T base ops st k = some r) (hG : Gam F st a w) (hk : ∀ st' a' w', Gam F st' a' w' → k st' = some r → Q .normal a' w') : (Code.region id ops true).wp P Q a w := by
  unfold evDraw4 at h
  split at h
  · exact evDrawN_ok hm hTab h hG hk
  split at h
  · exact evDrawW_ok hm hTab h hG hk
  · split at h
    · exact evDraw3_ok hm hTab h hG hk
    · exact evDrawW_ok hm hTab h hG hk
end
end Go.Proofs.YtigekmmdflaeaaaDoorE
