/- The engine: regions that draw, with pure operations that may come late. -/
import Derived.Test.YtigekmmdflaeaaaDoorEngE
set_option linter.all false
namespace Go.Proofs.YtigekmmdflaeaaaDoorE
open Go
set_option linter.unusedVariables false
/-! ### what names an AV has -/
mutual
/-- does not name d -/
def nn (d : Nat) : AV → Bool
  | .own j | .ptr j _ | .optr j _ _ _ | .mp j => match Nat.beq j d with
    | true => false
    | false => true
  | .agg l => nns d l
  | .tup l => nns d l
  | .fn _ l => nns d l
  | _ => true
def nns (d : Nat) : List AV → Bool
  | [] => true
  | a :: l => match nn d a with
    | true => nns d l
    | false => false
end
mutual
theorem keep_nn {d : Nat} : ∀ {a : AV}, nn d a = true → keep (but d) a = a
  | .own j, h => by
    have h : (match Nat.beq j d with | true => false | false => true) = true := h
    show (if but d j = true then AV.own j else .top) = _
    split at h
    · cases h
    · rename_i e; rw [if_pos (by unfold but; rw [e]; rfl)]
  | .ptr j off, h => by
    have h : (match Nat.beq j d with | true => false | false => true) = true := h
    show (if but d j = true then AV.ptr j off else .top) = _
    split at h
    · cases h
    · rename_i e; rw [if_pos (by unfold but; rw [e]; rfl)]
  | .optr j i s off, h => by
    have h : (match Nat.beq j d with | true => false | false => true) = true := h
    show (if but d j = true then AV.optr j i s off else .top) = _
    split at h
    · cases h
    · rename_i e; rw [if_pos (by unfold but; rw [e]; rfl)]
  | .mp j, h => by
    have h : (match Nat.beq j d with | true => false | false => true) = true := h
    show (if but d j = true then AV.mp j else .top) = _
    split at h
    · cases h
    · rename_i e; rw [if_pos (by unfold but; rw [e]; rfl)]
  | .agg l, h => by show AV.agg (keeps (but d) l) = _; rw [keeps_nn (l := l) h]
  | .tup l, h => by show AV.tup (keeps (but d) l) = _; rw [keeps_nn (l := l) h]
  | .fn f l, h => by show AV.fn f (keeps (but d) l) = _; rw [keeps_nn (l := l) h]
  | .top, h => rfl
  | .sc v, h => rfl
  | .row t l, h => rfl
  | .eptr t x off, h => rfl
theorem keeps_nn {d : Nat} : ∀ {l : List AV}, nns d l = true → keeps (but d) l = l
  | [], h => rfl
  | a :: l, h => by
    unfold nns at h
    split at h
    · rename_i e
      show keep (but d) a :: keeps (but d) l = _
      rw [keep_nn e, keeps_nn h]
    · cases h
end
theorem keeps_get (p : Nat → Bool) : ∀ (l : List AV) (s : Nat), (keeps p l)[s]? = (l[s]?).map (keep p)
  | [], s => by simp [keeps]
  | a :: l, 0 => by simp [keeps]
  | a :: l, s + 1 => by
    show (keep p a :: keeps p l)[s + 1]? = _
    simp [keeps_get p l s]
theorem keeps_len (p : Nat → Bool) : ∀ (l : List AV), (keeps p l).length = l.length
  | [] => rfl
  | a :: l => by
    show (keep p a :: keeps p l).length = _
    simp [keeps_len p l]
/-- a name that is given up is none of those in these slots -/
def goneOK (g : Option Nat) (LS : List Nat) (tm : List AV) : Bool := match g with
  | none => true
  | some d => LS.all fun s => nn d (tm.getD s .top)
theorem gone_get {g : Option Nat} {LS : List Nat} {tm : List AV} (h : goneOK g LS tm = true) {s : Nat} (hs : s ∈ LS) : (tmGone tm g)[s]? = tm[s]? := by
  cases g with
  | none => rfl
  | some d =>
    have := List.all_eq_true.1 h s hs
    show (keeps (but d) tm)[s]? = tm[s]?
    rw [keeps_get]
    rw [List.getD_eq_getElem?_getD] at this
    cases e : tm[s]? with
    | none => rfl
    | some a =>
      rw [e] at this
      show some (keep (but d) a) = some a
      rw [keep_nn (a := a) this]
theorem gone_congr {g : Option Nat} {tm tm' : List AV} {s : Nat} (h : tm[s]? = tm'[s]?) : (tmGone tm g)[s]? = (tmGone tm' g)[s]? := by
  cases g with
  | none => exact h
  | some d =>
    show (keeps (but d) tm)[s]? = (keeps (but d) tm')[s]?
    rw [keeps_get, keeps_get, h]
theorem gone_len {g : Option Nat} {tm : List AV} : (tmGone tm g).length = tm.length := by
  cases g with
  | none => rfl
  | some d => exact keeps_len _ _
/-! ### one operation behind the quiet ones -/
def evX (P : Program) (H : Hp) (o : Oper) (ρ : Operand → AV) (id : Nat) : OR := match pureOp P o.op ρ with
  | .ok av => .go true av H none
  | .chk c av => .go c av H none
  | .no => match Nat.blt id 2000000 with
    | false => .no
    | true => match evH P H o.op ρ id with
      | .go c av H' g => .go c av H' g
      | .no => evG P H o.op ρ id
section
variable {R : Type}
noncomputable def evXs (P : Program) (base : Nat) (ops : Array Oper) (LS : List Nat) : List Oper → St → (St → Option R) → Option R
  | [], st, k => k st
  | o :: l, st, k => match o.guard with
    | some _ => none
    | none => match evX P st.H o (rho (o.looksAt ops) st.tm) (base + o.dst.getD 0) with
      | .no => none
      | .go c av H' g => if c = true then (match goneOK g LS st.tm with
        | true => evXs P base ops LS l ⟨putA (tmGone st.tm g) o.dst av, H'⟩ k
        | false => none) else none
/-! ### what is looked at -/
/-- those of the first n that need not come ahead of all others -/
def lateL (A : List (List Nat)) (n m : Nat) : List Nat := (List.range n).filter fun j => (List.range m).any fun i => Nat.ble n i && !(memL j (A.getD i []))
def tail2OK (A : List (List Nat)) (n m : Nat) (lates : List Nat) : Bool := (List.range m).all fun i => Nat.blt i n || (List.range i).all fun j => memL j (A.getD i []) || memL j lates
/-- what a late one looks at is written ahead of it -/
def lateLooks (ops : Array Oper) (j : Nat) (o : Oper) : List Oper → Nat → Bool
  | [], _ => true
  | p :: l, i => (match p.dst with
    | none => true
    | some d => match memL d (o.looksAt ops) with
      | false => true
      | true => Nat.blt i j) && lateLooks ops j o l (i + 1)
def latesOK (ops : Array Oper) (lates : List Nat) : Bool := lates.all fun j => match ops[j]? with
  | some o => match o.guard with
    | none => lateLooks ops j o ops.toList 0
    | some _ => false
  | none => false
def lateS (ops : Array Oper) (lates : List Nat) : List Nat := lates.flatMap fun j => match ops[j]? with
  | some o => (match o.dst with | some d => [d] | none => []) ++ o.looksAt ops
  | none => []
def purL (P : Program) (ops : Array Oper) (lates : List Nat) (tm : List AV) : Bool := lates.all fun j => match ops[j]? with
  | some o => match pureOp P o.op (rho (o.looksAt ops) tm) with
    | .no => false
    | _ => true
  | none => false
def drawOK2 (ops : Array Oper) (n : Nat) : Bool :=
  Region.noSelect ops && edgesOK ops.toList 0 && allLooks ops ops.toList 0 && tail2OK (ancs ops.toList []) n ops.size (lateL (ancs ops.toList []) n ops.size) && latesOK ops (lateL (ancs ops.toList []) n ops.size)
noncomputable def evDraw2 (P : Program) (T : Tab) (base : Nat) (ops : Array Oper) (st : St) (k : St → Option R) : Option R :=
  match drawOK ops (quietN ops.toList) with
  | true => evDraw P T base ops st k
  | false => match drawOK2 ops (quietN ops.toList) with
    | true => evQs P T st.H ops (ops.toList.take (quietN ops.toList)) st.tm fun tm => match purL P ops (lateL (ancs ops.toList []) (quietN ops.toList) ops.size) tm with
      | true => evXs P base ops (lateS ops (lateL (ancs ops.toList []) (quietN ops.toList) ops.size)) (ops.toList.drop (quietN ops.toList)) ⟨tm, st.H⟩ k
      | false => none
    | false => none
end
/-! ### that this is sound -/
section
variable {P : Program} {T : Tab} {D : Cx} {F : Fr D} {R : Type} {base : Nat} {ops : Array Oper}
theorem evX_ok {H H' : Hp} {o : Oper} {tm : List AV} {ρ : Operand → AV} {a : Act} {w : World} {μ : Nat → Value} {S : Nat → Prop} {id : Nat} {c : Bool} {av : AV} {g : Option Nat} (hI : Inv F μ S H w) (hT : VsOK μ S w tm a.tmps.toList) (hρ : ∀ x, VOK μ S w (ρ x) (a.eval x))
    (h : evX P H o ρ id = .go c av H' g) (hc : c = true) : Step P F o.op a w (tmGone tm g) H' av := by
  have hp := pureOp_ok (P := P) (op := o.op) (ρ' := a.eval) hρ
  unfold evX at h
  split at h
  · rename_i av' hpo
    cases h
    rw [hpo] at hp
    intro o' ho
    obtain ⟨v, hr, hv⟩ := hp o' ho
    exact ⟨_, v, w, μ, S, hr, .inl rfl, hI, hT, hv⟩
  · rename_i c' av' hpo
    cases h
    rw [hpo] at hp
    intro o' ho
    obtain ⟨v, hr, hv⟩ := hp hc o' ho
    exact ⟨_, v, w, μ, S, hr, .inl rfl, hI, hT, hv⟩
  · split at h
    · cases h
    · rename_i hid
      have hd := F.low _ hid
      split at h
      · rename_i hev
        cases h
        exact evH_ok hI hd hT hρ hev hc
      · exact evG_ok hI hd hT hρ h hc
/-- a pure operation's answer -/
def PureIs (P : Program) (o : Oper) (ρ : Operand → AV) (r : AV) : Prop := pureOp P o.op ρ = .ok r ∨ ∃ c, pureOp P o.op ρ = .chk c r ∧ c = true
theorem pure_QOK {H : Hp} {o : Oper} {rs : List Nat} {tm : List AV} {r : AV} (h : PureIs P o (rho rs tm) r) : QOK P F H o tm r := by
  rintro a w next Q ⟨μ, S, hI, hV, hD⟩ hn
  have hp := pureOp_ok (P := P) (op := o.op) (ρ' := a.eval) (rho_ok (rs := rs) hV)
  rcases h with h | ⟨c, h, hc⟩
  · rw [h] at hp
    obtain ⟨v, hr, hv⟩ := hp o rfl
    exact upon_of hr (.inl rfl) (hn _ _ (Gam.put hI hV hD hv))
  · rw [h] at hp
    obtain ⟨v, hr, hv⟩ := hp hc o rfl
    exact upon_of hr (.inl rfl) (hn _ _ (Gam.put hI hV hD hv))
theorem bare_op {o : Oper} (hg : o.guard = none) {a : Act} {w : World} {K : Act → World → Prop} {Q : Exit → Act → World → Prop} (h : o.wp P a w K Q) :
    if Region.wanted o (yielded ops a.tmps) then o.wp P a w K Q ∨ (o.asks P a w ∧ LetsOut Q) else K (a.put o.dst undef) w := by
  have hw : Region.wanted o (yielded ops a.tmps) = true := by simp [Region.wanted, hg]
  rw [if_pos hw]
  exact .inl h
variable {n : Nat} {A : List (List Nat)} {lates LS : List Nat}
structure Lates (ops : Array Oper) (n : Nat) (A : List (List Nat)) (lates LS : List Nat) : Prop where
  lt : ∀ j, j ∈ lates → j < n
  tail : ∀ i, n ≤ i → i < ops.size → ∀ j, j < i → j ∈ A.getD i [] ∨ j ∈ lates
  bare : ∀ j, j ∈ lates → ∀ o, ops[j]? = some o → o.guard = none
  looks : ∀ j, j ∈ lates → ∀ o, ops[j]? = some o → ∀ i p d, ops[i]? = some p → p.dst = some d → d ∈ o.looksAt ops → i < j
  inL : ∀ j, j ∈ lates → ∀ o, ops[j]? = some o → (∀ s, s ∈ o.looksAt ops → s ∈ LS) ∧ ∀ d, o.dst = some d → d ∈ LS
/-- Behind the first of the tail's operations. -/
theorem late_any (hF : Facts ops ops.size A) (hX : Lates ops n A lates LS) {res : R} {kt : St → Option R} {Q : Exit → Act → World → Prop} (hk : ∀ st' a' w', Gam F st' a' w' → kt st' = some res → Q .normal a' w') : ∀ (fuel : Nat) (listed : Array Bool) (k : Nat) (st : St) (tm : List AV) (a : Act) (w : World),
    Lk ops listed → n ≤ k → k ≤ ops.size → (∀ i, n ≤ i → (lst listed i ↔ i < k)) → (∀ i, i < n → ¬ lst listed i → i ∈ lates) → unl ops.size listed ≤ fuel →
    (∀ i, i < n → ¬ lst listed i → ∀ o, ops[i]? = some o → ∃ r, PureIs P o (rho (o.looksAt ops) st.tm) r ∧ ∀ d : Nat, o.dst = some d → st.tm[d]? = some r ∨ st.tm.length ≤ d) →
    tm.length = st.tm.length → (∀ s : Nat, (∃ i o, i < n ∧ ¬ lst listed i ∧ ops[i]? = some o ∧ o.dst = some s) ∨ tm[s]? = st.tm[s]?) →
    evXs P base ops LS (ops.toList.drop k) st kt = some res → Gam F ⟨tm, st.H⟩ a w → wpAny P .any ops Q fuel listed a w := by
  have fin : ∀ (listed : Array Bool) (k : Nat) (st : St) (tm : List AV) (a : Act) (w : World), k ≤ ops.size → (∀ i, i < ops.size → lst listed i) → (∀ i, n ≤ i → (lst listed i ↔ i < k)) → n ≤ k → (∀ s : Nat, (∃ i o, i < n ∧ ¬ lst listed i ∧ ops[i]? = some o ∧ o.dst = some s) ∨ tm[s]? = st.tm[s]?) →
      evXs P base ops LS (ops.toList.drop k) st kt = some res → Gam F ⟨tm, st.H⟩ a w → Q .normal a w := by
    intro listed k st tm a w hks hall hl hnk hag h hG
    have e : k = ops.size := by
      rcases Nat.lt_or_ge k ops.size with h' | h'
      · exact absurd ((hl k hnk).1 (hall k h')) (by omega)
      · omega
    subst e
    rw [List.drop_eq_nil_of_le (by simp)] at h
    have et : tm = st.tm := List.ext_getElem? fun s => by
      rcases hag s with ⟨i, o, _, h2, h3, _⟩ | h'
      · exact absurd (hall i (Array.getElem?_eq_some_iff.1 h3).1) h2
      · exact h'
    subst et
    exact hk _ _ _ hG h
  intro fuel
  induction fuel with
  | zero =>
    intro listed k st tm a w hL hnk hks hl hnl hu hp hlen hag h hG
    have hall : ∀ i, i < ops.size → lst listed i := fun i hi => unl_zero (m := ops.size) (by omega) hi
    refine ⟨?_, fin listed k st tm a w hks hall hl hnk hag h hG⟩
    apply List.eq_nil_iff_forall_not_mem.2
    intro j hj
    obtain ⟨h1, o, ho, _⟩ := (ready_spec hF hL).1 hj
    exact h1 (hall j (Array.getElem?_eq_some_iff.1 ho).1)
  | succ fuel ih =>
    intro listed k st tm a w hL hnk hks hl hnl hu hp hlen hag h hG
    refine ⟨fun hnil => ?_, fun j hj => ?_⟩
    · refine fin listed k st tm a w hks (fun i hi => ?_) hl hnk hag h hG
      by_cases hli : lst listed i
      · exact hli
      · exact absurd hnil (least_ready hF hL i hi hli)
    · obtain ⟨h1, o, ho, he⟩ := (ready_spec hF hL).1 hj
      obtain ⟨hL', hs⟩ := Lk.set hF hL hj
      have hlt := (Array.getElem?_eq_some_iff.1 ho).1
      have hu' : unl ops.size (listed.setIfInBounds j true) ≤ fuel := by
        have := unl_set hlt hs h1
        omega
      simp only [wpOp, ho]
      by_cases hjn : j < n
      · have hjl := hnl j hjn h1
        have hg := hX.bare j hjl o ho
        obtain ⟨r, hr, hrd⟩ := hp j hjn h1 o ho
        have hsame : rho (o.looksAt ops) tm = rho (o.looksAt ops) st.tm := rho_congr fun s hs' => by
          rcases hag s with ⟨i, p, h2, h3, h4, h5⟩ | h'
          · have hij := hX.looks j hjl o ho i p s h4 h5 hs'
            rcases (hF.looks ho h4 (by omega) s h5).2 hs' with ⟨_, g2⟩ | ⟨g1, _⟩
            · obtain ⟨ed, g3, rfl⟩ := hasEdge_iff.1 g2
              exact absurd (he ed g3) h3
            · omega
          · exact h'
        refine bare_op hg (pure_QOK (rs := o.looksAt ops) (by rw [hsame]; exact hr) a w _ Q hG (fun a' w' hG' => ih _ k st (putA tm o.dst r) a' w' hL' hnk hks (fun i hi => ?_) (fun i hi hni => hnl i hi (fun hh => hni ((lst_set hs i).2 (.inl hh)))) hu' (fun i hi hni => hp i hi (fun hh => hni ((lst_set hs i).2 (.inl hh)))) (by rw [putA_length]; exact hlen) (fun s => ?_) h hG'))
        · rw [lst_set hs, ← hl i hi]
          exact ⟨fun hh => hh.resolve_right (by omega), .inl⟩
        · by_cases hds : o.dst = some s
          · right
            rw [hds]
            rcases hrd s hds with h6 | h6
            · rw [h6, putA_get_same]
              have := (List.getElem?_eq_some_iff.1 h6).1
              omega
            · rw [List.getElem?_eq_none (by rw [putA_length]; omega), List.getElem?_eq_none h6]
          · rcases hag s with ⟨i, p, h2, h3, h4, h5⟩ | h'
            · left
              refine ⟨i, p, h2, fun hh => ?_, h4, h5⟩
              rcases (lst_set hs i).1 hh with h6 | h6
              · exact h3 h6
              · subst h6
                rw [ho] at h4
                cases h4
                exact hds h5
            · right
              rw [putA_get_ne hds]; exact h'
      · have hjk : j = k := by
          rcases Nat.lt_trichotomy j k with h' | h' | h'
          · exact absurd ((hl j (by omega)).2 h') h1
          · exact h'
          · rcases hX.tail j (by omega) hlt k h' with g | g
            · exact absurd ((hl k hnk).1 (anc_listed hF hL (j + 1) j (by omega) ho he k g)) (by omega)
            · have := hX.lt k g; omega
        subst hjk
        rw [drop_get (get_list ho)] at h
        unfold evXs at h
        split at h
        · cases h
        rename_i hg
        split at h
        · cases h
        rename_i c av H' g hev
        split at h
        rotate_left
        · cases h
        rename_i hc
        split at h
        rotate_left
        · cases h
        rename_i hgone
        have hsame : rho (o.looksAt ops) tm = rho (o.looksAt ops) st.tm := rho_congr fun s hs' => by
          rcases hag s with ⟨i, p, h2, h3, h4, h5⟩ | h'
          · rcases (hF.looks ho h4 (by omega) s h5).2 hs' with ⟨_, g2⟩ | ⟨g1, _⟩
            · obtain ⟨ed, g3, rfl⟩ := hasEdge_iff.1 g2
              exact absurd (he ed g3) h3
            · omega
          · exact h'
        obtain ⟨μ, S, hI, hV, hD⟩ := hG
        have hst := evX_ok (F := F) (a := a) (tm := tm) hI hV (rho_ok (rs := o.looksAt ops) hV) (by rw [hsame]; exact hev) hc
        refine bare_op hg (step_wp hst hD (fun a' w' hG' => ih _ (j + 1) ⟨putA (tmGone st.tm g) o.dst av, H'⟩ (putA (tmGone tm g) o.dst av) a' w' hL' (by omega) (by omega) (fun i hi => ?_) (fun i hi hni => hnl i hi (fun hh => hni ((lst_set hs i).2 (.inl hh)))) hu' (fun i hi hni p hpi => ?_) ?_ (fun s => ?_) h hG'))
        · rw [lst_set hs, hl i hi]
          omega
        · have hni' : ¬ lst listed i := fun hh => hni ((lst_set hs i).2 (.inl hh))
          have hil := hnl i hi hni'
          obtain ⟨r, hr, hrd⟩ := hp i hi hni' p hpi
          obtain ⟨q1, q2⟩ := hX.inL i hil p hpi
          have e1 : rho (p.looksAt ops) (putA (tmGone st.tm g) o.dst av) = rho (p.looksAt ops) st.tm := rho_congr fun s hs' => by
            rw [putA_get_ne (fun hd => by have := hX.looks i hil p hpi j o s ho hd hs'; omega)]
            exact gone_get hgone (q1 s hs')
          refine ⟨r, by rw [e1]; exact hr, fun d hd => ?_⟩
          have hne : o.dst ≠ some d := fun hod => (hF.looks hpi ho (by omega) d hod).1 hd
          show (putA (tmGone st.tm g) o.dst av)[d]? = some r ∨ (putA (tmGone st.tm g) o.dst av).length ≤ d
          rw [putA_get_ne hne, gone_get hgone (q2 d hd), putA_length, gone_len]
          exact hrd d hd
        · rw [putA_length, putA_length, gone_len, gone_len]; exact hlen
        · rcases hag s with ⟨i, p, h2, h3, h4, h5⟩ | h'
          · left
            refine ⟨i, p, h2, fun hh => ?_, h4, h5⟩
            rcases (lst_set hs i).1 hh with h6 | h6
            · exact h3 h6
            · omega
          · right
            show (putA (tmGone tm g) o.dst av)[s]? = (putA (tmGone st.tm g) o.dst av)[s]?
            by_cases hds : o.dst = some s
            · rw [hds]
              by_cases hsl : s < tm.length
              · rw [putA_get_same (by rw [gone_len]; exact hsl), putA_get_same (by rw [gone_len]; omega)]
              · rw [List.getElem?_eq_none (by rw [putA_length, gone_len]; omega), List.getElem?_eq_none (by rw [putA_length, gone_len]; omega)]
            · rw [putA_get_ne hds, putA_get_ne hds]
              exact gone_congr h'
/-- What is quiet ahead, some of it late. -/
theorem main_any2 (hTab : CallOK D P T) (hF : Facts ops ops.size A) (hX : Lates ops n A lates LS) (hnm : n ≤ ops.size) {H : Hp} {tm0 rs fin : List AV} {r : R} {k : St → Option R} {Q : Exit → Act → World → Prop} (hk : ∀ st' a' w', Gam F st' a' w' → k st' = some r → Q .normal a' w')
    (hfin : JJ ops n tm0 rs (· < n) fin) (hat : ∀ j o, j < n → ops[j]? = some o → ∃ tmj r, rs[j]? = some r ∧ JJ ops n tm0 rs (· < j) tmj ∧ VQ P T ops H o tmj r)
    (hpl : ∀ j, j ∈ lates → ∀ o, ops[j]? = some o → pureOp P o.op (rho (o.looksAt ops) fin) ≠ .no)
    (hev : evXs P base ops LS (ops.toList.drop n) ⟨fin, H⟩ k = some r) : ∀ (fuel : Nat) (listed : Array Bool) (tm : List AV) (a : Act) (w : World),
    Lk ops listed → (∀ j, lst listed j → j < n) → unl ops.size listed ≤ fuel → JJ ops n tm0 rs (lst listed) tm → Gam F ⟨tm, H⟩ a w → wpAny P .any ops Q fuel listed a w := by
  have hd : ∀ (i j : Nat) (o p : Oper) (s : Nat), ops[i]? = some o → ops[j]? = some p → o.dst = some s → p.dst = some s → i = j := by
    intro i j o p s h1 h2 h3 h4
    by_cases e : i = j
    · exact e
    · exact absurd h3 (hF.looks h1 h2 e s h4).1
  have go : ∀ (fuel : Nat) (listed : Array Bool) (tm : List AV) (a : Act) (w : World), (∀ j, j < n → j ∉ lates → lst listed j) → Lk ops listed → (∀ j, lst listed j → j < n) → unl ops.size listed ≤ fuel → JJ ops n tm0 rs (lst listed) tm → Gam F ⟨tm, H⟩ a w → wpAny P .any ops Q fuel listed a w := by
    intro fuel listed tm a w hall hL hl hu hJ hG
    refine late_any (base := base) hF hX hk fuel listed n ⟨fin, H⟩ tm a w hL (Nat.le_refl _) hnm (fun i hi => ⟨fun hh => by have := hl i hh; omega, fun hh => by omega⟩) (fun i hi hni => Classical.byContradiction fun hh => hni (hall i hi hh)) hu (fun i hi hni o ho => ?_) (hJ.1.trans hfin.1.symm) (fun s => ?_) hev hG
    · have hil : i ∈ lates := Classical.byContradiction fun hh => hni (hall i hi hh)
      obtain ⟨tmi, q, hq, hJi, hVi⟩ := hat i o hi ho
      have hsame : rho (o.looksAt ops) tmi = rho (o.looksAt ops) fin := rho_congr fun s hs => hJi.eq hfin hd fun p o' hp ho' hd' => ⟨fun _ => hp, fun _ => hX.looks i hil o ho p o' s ho' hd' hs⟩
      have hg := hX.bare i hil o ho
      have hevq : evQ P T H o (rho (o.looksAt ops) tmi) some = some q := by
        rcases hVi with ⟨_, h⟩ | ⟨j, want, t, b, h, _⟩ | ⟨j, want, t, l, h, _⟩
        · exact h
        · rw [hg] at h; cases h
        · rw [hg] at h; cases h
      rw [hsame] at hevq
      have hno := hpl i hil o ho
      refine ⟨q, ?_, fun d hdd => ?_⟩
      · unfold evQ at hevq
        split at hevq
        · rename_i av h; cases hevq; exact .inl h
        · rename_i c av h
          split at hevq
          · rename_i hc; cases hevq; exact .inr ⟨c, h, hc⟩
          · cases hevq
        · rename_i h; exact absurd h hno
      · rcases hfin.2 d with ⟨i', o', r', h2, h3, h4, h5, h6, h7⟩ | ⟨h2, _⟩
        · have : i' = i := hd i' i o' o d h4 ho h5 hdd
          subst this
          rw [hq] at h6
          cases h6
          by_cases hlen : d < tm0.length
          · exact .inl (h7 hlen)
          · right
            show fin.length ≤ d
            rw [hfin.1]; omega
        · exact absurd hdd (h2 i o hi hi ho)
    · by_cases hex : ∃ i o, i < n ∧ ¬ lst listed i ∧ ops[i]? = some o ∧ o.dst = some s
      · exact .inl hex
      · right
        refine hJ.eq hfin hd fun i o hi ho hds => ⟨fun _ => hi, fun _ => ?_⟩
        exact Classical.byContradiction fun hh => hex ⟨i, o, hi, hh, ho, hds⟩
  intro fuel
  induction fuel with
  | zero =>
    intro listed tm a w hL hl hu hJ hG
    exact go 0 listed tm a w (fun j hj _ => unl_zero (m := ops.size) (by omega) (by omega)) hL hl hu hJ hG
  | succ fuel ih =>
    intro listed tm a w hL hl hu hJ hG
    by_cases hall : ∀ j, j < n → j ∉ lates → lst listed j
    · exact go (fuel + 1) listed tm a w hall hL hl hu hJ hG
    · simp only [Classical.not_forall] at hall
      obtain ⟨u, hu1, hu0, hu2⟩ := hall
      refine ⟨fun hnil => absurd hnil (least_ready hF hL u (by omega) hu2), fun i hi => ?_⟩
      obtain ⟨h1, o, ho, he⟩ := (ready_spec hF hL).1 hi
      have hlt := (Array.getElem?_eq_some_iff.1 ho).1
      have hin : i < n := by
        rcases Nat.lt_or_ge i n with h' | h'
        · exact h'
        · rcases hX.tail i h' hlt u (by omega) with g | g
          · exact absurd (anc_listed hF hL (i + 1) i (by omega) ho he u g) hu2
          · exact absurd g hu0
      obtain ⟨hL', hs⟩ := Lk.set hF hL hi
      obtain ⟨tmi, q, hq, hJi, hVi⟩ := hat i o hin ho
      have hV : VQ P T ops H o tm q := VQ_congr hVi fun s hs => hJi.eq hJ hd (fun j p hj hp hpd => by
        by_cases e : i = j
        · subst e
          exact ⟨fun h => by omega, fun h => absurd h h1⟩
        · rcases (hF.looks ho hp e s hpd).2 hs with ⟨g1, g2⟩ | ⟨g1, g2⟩
          · obtain ⟨ed, g3, rfl⟩ := hasEdge_iff.1 g2
            exact ⟨fun _ => he ed g3, fun _ => g1⟩
          · refine ⟨fun h => by omega, fun h => ?_⟩
            obtain ⟨ed, g3, g4⟩ := hasEdge_iff.1 g2
            have := hL.closed j p h hp ed g3
            rw [g4] at this
            exact absurd this h1)
      simp only [wpOp, ho]
      refine VQ_op hTab hV hG (fun a' w' hG' => ih _ _ a' w' hL' (fun j hj => ?_) ?_ (hJ.step hin ho hq (lst_set hs)) hG')
      · rcases (lst_set hs j).1 hj with h | rfl
        · exact hl j h
        · exact hin
      · have := unl_set hlt hs h1
        omega
theorem lateLooks_ok {j : Nat} {o : Oper} : ∀ {l : List Oper} {i0 : Nat}, lateLooks ops j o l i0 = true → ∀ {i : Nat} {p : Oper} {d : Nat}, l[i]? = some p → p.dst = some d → d ∈ o.looksAt ops → i0 + i < j
  | [], i0, h, i, p, d, hp, hd, hm => by simp at hp
  | q :: l, i0, h, 0, p, d, hp, hd, hm => by
    cases hp
    unfold lateLooks at h
    simp only [Bool.and_eq_true] at h
    have h1 := h.1
    rw [hd] at h1
    dsimp only at h1
    rw [memL_iff.2 hm] at h1
    exact Nat.le_of_ble_eq_true h1
  | q :: l, i0, h, i + 1, p, d, hp, hd, hm => by
    unfold lateLooks at h
    simp only [Bool.and_eq_true] at h
    have := lateLooks_ok h.2 (by simpa using hp) hd hm
    omega
theorem drawOK2_ok {n : Nat} (h : drawOK2 ops n = true) : ∃ A, A = ancs ops.toList [] ∧ Facts ops ops.size A ∧ Lates ops n A (lateL A n ops.size) (lateS ops (lateL A n ops.size)) := by
  unfold drawOK2 at h
  simp only [Bool.and_eq_true] at h
  obtain ⟨⟨⟨⟨_, h1⟩, h2⟩, h4⟩, h5⟩ := h
  refine ⟨ancs ops.toList [], rfl, ⟨fun ho e he => ?_, fun {i j o p} ho hp hne d hd => ?_, fun ho j hj => ?_, fun i g1 g2 => by omega⟩, ⟨fun j hj => ?_, fun i g1 g2 j hj => ?_, fun j hj o ho => ?_, fun j hj o ho i p d hp hd hm => ?_, fun j hj o ho => ⟨fun s hs => ?_, fun d hd => ?_⟩⟩⟩
  · have := edgesOK_ok h1 (get_list ho) e he
    omega
  · have h5 := allLooks_ok h2 (get_list ho)
    have := looksOK_ok h5 (get_list hp) (by omega) d hd
    simpa using this
  · rename_i i o
    have := ancs_closed ops.toList [] i o (get_list ho) j (by simpa using hj)
    simpa using this
  · exact List.mem_range.1 (List.mem_filter.1 hj).1
  · have := List.all_eq_true.1 h4 i (List.mem_range.2 g2)
    rw [Bool.or_eq_true] at this
    rcases this with h6 | h6
    · have h6 := Nat.le_of_ble_eq_true h6
      omega
    · have h7 := List.all_eq_true.1 h6 j (List.mem_range.2 hj)
      rw [Bool.or_eq_true] at h7
      exact h7.imp memL_iff.1 memL_iff.1
  · have := List.all_eq_true.1 h5 j hj
    rw [ho] at this
    dsimp only at this
    split at this
    · rename_i hg; exact hg
    · cases this
  · have := List.all_eq_true.1 h5 j hj
    rw [ho] at this
    dsimp only at this
    split at this
    · have := lateLooks_ok this (get_list hp) hd hm
      omega
    · cases this
  · exact List.mem_flatMap.2 ⟨j, hj, by rw [ho]; exact List.mem_append.2 (.inr hs)⟩
  · exact List.mem_flatMap.2 ⟨j, hj, by rw [ho]; simp only; rw [hd]; simp⟩
theorem evDraw2_ok (hm : P.follows .mixedOrders = true) (hTab : CallOK D P T) {id : Nat} {st : St} {a : Act} {w : World} {r : R} {k : St → Option R} {Q : Exit → Act → World → Prop}
    (h : evDraw2 P T base ops st k = some r) (hG : Gam F st a w) (hk : ∀ st' a' w', Gam F st' a' w' → k st' = some r → Q .normal a' w') : (Code.region id ops true).wp P Q a w := by
  unfold evDraw2 at h
  split at h
  · exact evDraw_ok hm hTab h hG hk
  split at h
  · rename_i hok
    obtain ⟨A, hA, hF, hX⟩ := drawOK2_ok hok
    obtain ⟨rs, fin, hC, hev⟩ := evQs_chain h
    split at hev
    rotate_left
    · cases hev
    rename_i hpl
    have hql : ∀ l : List Oper, quietN l ≤ l.length := by
      intro l
      induction l with
      | nil => exact Nat.le_refl _
      | cons o l ih =>
        unfold quietN
        split
        · omega
        · simp only [List.length_cons]; omega
    have hnm : quietN ops.toList ≤ ops.size := by simpa using hql ops.toList
    have hJ0 : ∀ L : Nat → Prop, (∀ j, ¬ L j) → JJ ops (quietN ops.toList) st.tm rs L st.tm := fun L hL => ⟨rfl, fun s => .inr ⟨fun i o _ hl => absurd hl (hL i), rfl⟩⟩
    obtain ⟨h1, h2⟩ := chain_at (n := quietN ops.toList) (tm0 := st.tm) (rs := rs) (i := 0) hC (fun j o hj => by
      rw [List.getElem?_take] at hj
      split at hj
      · simpa using hj
      · cases hj) (by simp [hnm]) (fun j => by simp) (hJ0 _ (by omega))
    have hno : ∀ j, ¬ lst (Array.replicate ops.size false) j := by
      intro j hj
      unfold lst at hj
      by_cases hlt : j < ops.size
      · simp [hlt] at hj
      · simp [hlt] at hj
    rw [← hA] at hev hpl
    refine wp_region_any hm (main_any2 (base := base) hTab hF hX hnm (fin := fin) (rs := rs) (tm0 := st.tm) hk h1 (fun j o hj ho => h2 j o (Nat.zero_le _) hj ho) (fun j hj o ho => ?_) hev ops.size _ st.tm a _ ⟨by simp, fun j o hj => absurd hj (hno j)⟩ (fun j hj => absurd hj (hno j)) ?_ (hJ0 _ hno) ?_)
    · have := List.all_eq_true.1 hpl j hj
      rw [ho] at this
      dsimp only at this
      intro hh
      rw [hh] at this
      cases this
    · exact Nat.le_trans List.countP_le_length (by simp)
    · exact Gam.drew hG
  · cases h
end
end Go.Proofs.YtigekmmdflaeaaaDoorE
