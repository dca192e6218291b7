/- The engine: regions that draw their order, the region's law. -/
import Derived.Test.YtigekmmdflaeaaaDoorEngD
set_option linter.all false
namespace Go.Proofs.YtigekmmdflaeaaaDoorE
open Go
set_option linter.unusedVariables false

section
variable {P : Program} {T : Tab} {D : Cx} {F : Fr D} {R : Type} {base : Nat} {ops : Array Oper}

theorem putA_get_ne {tm : List AV} {d : Option Nat} {av : AV} {s : Nat} (h : d ≠ some s) : (putA tm d av)[s]? = tm[s]? := by
  cases d with
  | none => rfl
  | some t => exact List.getElem?_set_ne (fun e => h (by rw [e]))
theorem putA_get_same {tm : List AV} {av : AV} {s : Nat} (h : s < tm.length) : (putA tm (some s) av)[s]? = some av := List.getElem?_set_self h
theorem putA_length {tm : List AV} {d : Option Nat} {av : AV} : (putA tm d av).length = tm.length := by
  cases d with
  | none => rfl
  | some t => simp [putA]

/-- slot by slot: an operation that was listed wrote it, or none did -/
def JJ (ops : Array Oper) (n : Nat) (tm0 rs : List AV) (L : Nat → Prop) (tm : List AV) : Prop :=
  tm.length = tm0.length ∧ ∀ s, (∃ i o r, i < n ∧ L i ∧ ops[i]? = some o ∧ o.dst = some s ∧ rs[i]? = some r ∧ (s < tm0.length → tm[s]? = some r)) ∨ ((∀ i o, i < n → L i → ops[i]? = some o → o.dst ≠ some s) ∧ tm[s]? = tm0[s]?)

theorem JJ.step {n : Nat} {tm0 rs tm : List AV} {L L' : Nat → Prop} (h : JJ ops n tm0 rs L tm) {i : Nat} {o : Oper} {r : AV} (hi : i < n) (ho : ops[i]? = some o) (hr : rs[i]? = some r) (hL : ∀ j, L' j ↔ L j ∨ j = i) : JJ ops n tm0 rs L' (putA tm o.dst r) := by
  refine ⟨putA_length.trans h.1, fun s => ?_⟩
  by_cases hd : o.dst = some s
  · refine .inl ⟨i, o, r, hi, (hL i).2 (.inr rfl), ho, hd, hr, fun hs => ?_⟩
    rw [hd]
    exact putA_get_same (by rw [h.1]; exact hs)
  · rw [putA_get_ne hd]
    rcases h.2 s with ⟨j, p, q, h1, h2, h3, h4, h5, h6⟩ | ⟨h1, h2⟩
    · exact .inl ⟨j, p, q, h1, (hL j).2 (.inl h2), h3, h4, h5, h6⟩
    · refine .inr ⟨fun j p hj hl hp => ?_, h2⟩
      rcases (hL j).1 hl with h | rfl
      · exact h1 j p hj h hp
      · rw [ho] at hp
        cases hp
        exact hd

theorem JJ.eq {n : Nat} {tm0 rs tm tm' : List AV} {L L' : Nat → Prop} (h : JJ ops n tm0 rs L tm) (h' : JJ ops n tm0 rs L' tm')
    (hd : ∀ (i j : Nat) (o p : Oper) (s : Nat), ops[i]? = some o → ops[j]? = some p → o.dst = some s → p.dst = some s → i = j) {s : Nat} (hs : ∀ (i : Nat) (o : Oper), i < n → ops[i]? = some o → o.dst = some s → (L i ↔ L' i)) : tm[s]? = tm'[s]? := by
  by_cases hlt : s < tm0.length
  · rcases h.2 s with ⟨i, o, r, h1, h2, h3, h4, h5, h6⟩ | ⟨h1, h2⟩
    · rcases h'.2 s with ⟨j, p, q, g1, g2, g3, g4, g5, g6⟩ | ⟨g1, g2⟩
      · have := hd i j o p s h3 g3 h4 g4
        subst this
        rw [h5] at g5
        cases g5
        rw [h6 hlt, g6 hlt]
      · exact absurd h4 (g1 i o h1 ((hs i o h1 h3 h4).1 h2) h3)
    · rcases h'.2 s with ⟨j, p, q, g1, g2, g3, g4, g5, g6⟩ | ⟨g1, g2⟩
      · exact absurd g4 (h1 j p g1 ((hs j p g1 g3 g4).2 g2) g3)
      · rw [h2, g2]
  · rw [List.getElem?_eq_none (by rw [h.1]; omega), List.getElem?_eq_none (by rw [h'.1]; omega)]

/-- the text's own order -/
theorem chain_at {H : Hp} {n : Nat} {tm0 rs : List AV} : ∀ {l : List Oper} {i : Nat} {tm rs' fin : List AV}, Chain P T ops H l tm rs' fin → (∀ j o, l[j]? = some o → ops[i + j]? = some o) → i + l.length = n → (∀ j, rs'[j]? = rs[i + j]?) → JJ ops n tm0 rs (· < i) tm →
    JJ ops n tm0 rs (· < n) fin ∧ ∀ j o, i ≤ j → j < n → ops[j]? = some o → ∃ tmj r, rs[j]? = some r ∧ JJ ops n tm0 rs (· < j) tmj ∧ VQ P T ops H o tmj r
  | [], i, tm, rs', fin, h, hl, hn, hr, hJ => by
    obtain ⟨rfl, rfl⟩ := h
    simp only [List.length_nil, Nat.add_zero] at hn
    subst hn
    exact ⟨hJ, fun j o h1 h2 => by omega⟩
  | o :: l, i, tm, rs', fin, h, hl, hn, hr, hJ => by
    obtain ⟨r, rs2, rfl, hV, hC⟩ := h
    simp only [List.length_cons] at hn
    have hri : rs[i]? = some r := by simpa using (hr 0).symm
    have hoi : ops[i]? = some o := by simpa using hl 0 o rfl
    have hJ2 : JJ ops n tm0 rs (· < i + 1) (putA tm o.dst r) := hJ.step (by omega) hoi hri (fun j => by omega)
    obtain ⟨h1, h2⟩ := chain_at hC (fun j p hp => by
      have := hl (j + 1) p (by simpa using hp)
      rwa [show i + (j + 1) = i + 1 + j by omega] at this) (by omega) (fun j => by
      have := hr (j + 1)
      rw [show i + 1 + j = i + (j + 1) by omega, ← this]
      simp) hJ2
    refine ⟨h1, fun j p g1 g2 g3 => ?_⟩
    by_cases e : i = j
    · subst e
      rw [hoi] at g3
      cases g3
      exact ⟨tm, r, hri, hJ, hV⟩
    · exact h2 j p (by omega) g2 g3

def lst (listed : Array Bool) (j : Nat) : Prop := listed.getD j false = true
def unl (m : Nat) (listed : Array Bool) : Nat := (List.range m).countP fun j => !listed.getD j false

theorem countP_lt {p q : Nat → Bool} {i : Nat} (hq : q i = false) (hp : p i = true) (hqp : ∀ j, q j = true → p j = true) : ∀ {l : List Nat}, i ∈ l → l.countP q < l.countP p
  | [], h => by simp at h
  | j :: l, h => by
    have hle : ∀ l : List Nat, l.countP q ≤ l.countP p := fun l => List.countP_mono_left (fun j _ => hqp j)
    rw [List.countP_cons, List.countP_cons]
    rcases List.mem_cons.1 h with rfl | h
    · rw [hq, hp]
      have := hle l
      simp
      omega
    · have := countP_lt hq hp hqp h
      have h2 : (if q j = true then 1 else 0) ≤ (if p j = true then 1 else (0 : Nat)) := by
        split
        · rename_i hh; rw [if_pos (hqp j hh)]; omega
        · omega
      omega

theorem lst_set {listed : Array Bool} {i : Nat} (hi : i < listed.size) (j : Nat) : lst (listed.setIfInBounds i true) j ↔ lst listed j ∨ j = i := by
  unfold lst
  by_cases e : i = j
  · subst e
    simp [hi]
  · rw [getD_set_ne false e]
    exact ⟨.inl, fun h => h.resolve_right (fun h => e h.symm)⟩
theorem unl_set {m : Nat} {listed : Array Bool} {i : Nat} (hm : i < m) (hi : i < listed.size) (hn : ¬ lst listed i) : unl m (listed.setIfInBounds i true) < unl m listed := by
  refine countP_lt (i := i) ?_ ?_ ?_ (List.mem_range.2 hm)
  · have := (lst_set hi i).2 (.inr rfl)
    unfold lst at this
    rw [this]; rfl
  · unfold lst at hn
    simpa using hn
  · intro j hj
    cases hg : listed.getD j false with
    | false => rfl
    | true =>
      have := (lst_set hi j).2 (.inl hg)
      unfold lst at this
      rw [this] at hj
      exact hj
theorem unl_zero {m : Nat} {listed : Array Bool} (h : unl m listed = 0) {j : Nat} (hj : j < m) : lst listed j := by
  have h2 := (List.countP_eq_zero.1 h) j (List.mem_range.2 hj)
  unfold lst
  simpa using h2

structure Facts (ops : Array Oper) (n : Nat) (A : List (List Nat)) : Prop where
  edges : ∀ {j : Nat} {o : Oper}, ops[j]? = some o → ∀ e ∈ bed o, e.on < j
  looks : ∀ {i j : Nat} {o p : Oper}, ops[i]? = some o → ops[j]? = some p → i ≠ j → ∀ d, p.dst = some d → o.dst ≠ some d ∧ (d ∈ o.looksAt ops → (j < i ∧ hasEdge o j = true) ∨ (i < j ∧ hasEdge p i = true))
  closed : ∀ {i : Nat} {o : Oper}, ops[i]? = some o → ∀ j, j ∈ A.getD i [] → (∃ e ∈ bed o, e.on = j) ∨ ∃ e ∈ bed o, j ∈ A.getD e.on []
  tail : ∀ i, n ≤ i → i < ops.size → ∀ j, j < i → j ∈ A.getD i []

theorem get_list {i : Nat} {o : Oper} (h : ops[i]? = some o) : ops.toList[i]? = some o := by rw [Array.getElem?_toList]; exact h

theorem drawOK_ok {n : Nat} (h : drawOK ops n = true) : ∃ A, Facts ops n A := by
  unfold drawOK at h
  simp only [Bool.and_eq_true] at h
  obtain ⟨⟨⟨_, h1⟩, h2⟩, h4⟩ := h
  refine ⟨ancs ops.toList [], ⟨fun ho e he => ?_, fun {i j o p} ho hp hne d hd => ?_, fun ho j hj => ?_, fun i g1 g2 j hj => ?_⟩⟩
  · have := edgesOK_ok h1 (get_list ho) e he
    omega
  · have h5 := allLooks_ok h2 (get_list ho)
    have := looksOK_ok h5 (get_list hp) (by omega) d hd
    simpa using this
  · rename_i i o
    have := ancs_closed ops.toList [] i o (get_list ho) j (by simpa using hj)
    simpa using this
  · exact tailOK_ok h4 i g1 g2 (by omega) j hj

/-- listed, and whatever stands ahead of it too -/
structure Lk (ops : Array Oper) (listed : Array Bool) : Prop where
  size : listed.size = ops.size
  closed : ∀ j o, lst listed j → ops[j]? = some o → ∀ e ∈ bed o, lst listed e.on

variable {n : Nat} {A : List (List Nat)} {listed : Array Bool}

theorem lst_lt (hL : Lk ops listed) {j : Nat} (h : lst listed j) : j < ops.size := by
  rw [← hL.size]
  rcases Nat.lt_or_ge j listed.size with h' | h'
  · exact h'
  · unfold lst at h
    simp [Array.getElem?_eq_none h'] at h

theorem anc_listed (hF : Facts ops n A) (hL : Lk ops listed) : ∀ (b i : Nat), i < b → ∀ {o : Oper}, ops[i]? = some o → (∀ e ∈ bed o, lst listed e.on) → ∀ j, j ∈ A.getD i [] → lst listed j
  | 0, i, hb, o, ho, he, j, hj => by omega
  | b + 1, i, hb, o, ho, he, j, hj => by
    rcases hF.closed ho j hj with ⟨e, h1, rfl⟩ | ⟨e, h1, h2⟩
    · exact he e h1
    · have hlt := hF.edges ho e h1
      have hi : i < ops.size := (Array.getElem?_eq_some_iff.1 ho).1
      have hp : ops[e.on]? = some ops[e.on] := Array.getElem?_eq_getElem (by omega)
      exact anc_listed hF hL b e.on (by omega) hp (hL.closed e.on _ (he e h1) hp) j h2

theorem ready_spec (hF : Facts ops n A) (hL : Lk ops listed) {i : Nat} : i ∈ Region.ready .any ops listed ↔ ¬ lst listed i ∧ ∃ o, ops[i]? = some o ∧ ∀ e ∈ bed o, lst listed e.on := by
  rw [mem_ready]
  constructor
  · rintro ⟨h0, o, ho, h⟩
    refine ⟨fun hl => ?_, o, ho, fun e he => h e (by simpa using (List.mem_filter.1 he).1) (List.mem_filter.1 he).2⟩
    unfold lst at hl
    have hi : i < listed.size := by rw [hL.size]; exact (Array.getElem?_eq_some_iff.1 ho).1
    simp [hi] at h0 hl
    rw [h0] at hl
    cases hl
  · rintro ⟨h0, o, ho, h⟩
    refine ⟨?_, o, ho, fun e he hb => h e (List.mem_filter.2 ⟨by simpa using he, hb⟩)⟩
    have hi : i < listed.size := by rw [hL.size]; exact (Array.getElem?_eq_some_iff.1 ho).1
    unfold lst at h0
    simp [hi] at h0 ⊢
    exact h0

theorem least_ready (hF : Facts ops n A) (hL : Lk ops listed) : ∀ (i : Nat), i < ops.size → ¬ lst listed i → Region.ready .any ops listed ≠ [] := by
  intro i
  induction i using Nat.strongRecOn with
  | ind i ih =>
    intro hi hn he
    have ho : ops[i]? = some ops[i] := Array.getElem?_eq_getElem hi
    by_cases hall : ∀ e ∈ bed (ops[i]), lst listed e.on
    · have := (ready_spec hF hL).2 ⟨hn, _, ho, hall⟩
      rw [he] at this
      simp at this
    · simp only [Classical.not_forall] at hall
      obtain ⟨e, he1, he2⟩ := hall
      have := hF.edges ho e he1
      exact ih e.on this (by omega) he2 he

theorem Lk.set (hF : Facts ops n A) (hL : Lk ops listed) {i : Nat} (hi : i ∈ Region.ready .any ops listed) : Lk ops (listed.setIfInBounds i true) ∧ i < listed.size := by
  obtain ⟨_, o, ho, he⟩ := (ready_spec hF hL).1 hi
  have hlt : i < listed.size := by rw [hL.size]; exact (Array.getElem?_eq_some_iff.1 ho).1
  refine ⟨⟨by simp [hL.size], fun j p hj hp e hep => ?_⟩, hlt⟩
  rw [lst_set hlt] at hj ⊢
  rcases hj with hj | rfl
  · exact .inl (hL.closed j p hj hp e hep)
  · rw [ho] at hp
    cases hp
    exact .inl (he e hep)

/-- a listed one behind the first n has all ahead of it listed -/
theorem tail_listed (hF : Facts ops n A) (hL : Lk ops listed) {i : Nat} (hi : n ≤ i) (hl : lst listed i) {j : Nat} (hj : j < i) : lst listed j := by
  have hlt := lst_lt hL hl
  have ho : ops[i]? = some ops[i] := Array.getElem?_eq_getElem hlt
  exact anc_listed hF hL (i + 1) i (by omega) ho (hL.closed i _ hl ho) j (hF.tail i hi hlt j hj)
theorem tail_ready (hF : Facts ops n A) (hL : Lk ops listed) {i : Nat} (hi : n ≤ i) (hr : i ∈ Region.ready .any ops listed) {j : Nat} (hj : j < i) : lst listed j := by
  obtain ⟨_, o, ho, he⟩ := (ready_spec hF hL).1 hr
  exact anc_listed hF hL (i + 1) i (by omega) ho he j (hF.tail i hi (Array.getElem?_eq_some_iff.1 ho).1 j hj)

theorem drop_get {l : List Oper} {i : Nat} {o : Oper} (h : l[i]? = some o) : l.drop i = o :: l.drop (i + 1) := by
  obtain ⟨hi, he⟩ := List.getElem?_eq_some_iff.1 h
  rw [List.drop_eq_getElem_cons hi, he]

theorem tail_any (hTab : CallOK D P T) (hF : Facts ops n A) {r : R} {k : St → Option R} {Q : Exit → Act → World → Prop} (hk : ∀ st' a' w', Gam F st' a' w' → k st' = some r → Q .normal a' w') : ∀ (fuel : Nat) (listed : Array Bool) (i : Nat) (st : St) (a : Act) (w : World),
    Lk ops listed → (∀ j, lst listed j ↔ j < i) → n ≤ i → i ≤ ops.size → unl ops.size listed ≤ fuel → evOps P T base ops (ops.toList.drop i) st k = some r → Gam F st a w → wpAny P .any ops Q fuel listed a w := by
  intro fuel
  induction fuel with
  | zero =>
    intro listed i st a w hL hl hn hi hu h hG
    have : i = ops.size := by
      rcases Nat.lt_or_ge i ops.size with h' | h'
      · exact absurd ((hl i).1 (unl_zero (by omega) h')) (by omega)
      · omega
    subst this
    refine ⟨?_, ?_⟩
    · apply List.eq_nil_iff_forall_not_mem.2
      intro j hj
      obtain ⟨h1, o, ho, _⟩ := (ready_spec hF hL).1 hj
      exact h1 ((hl j).2 (Array.getElem?_eq_some_iff.1 ho).1)
    · rw [List.drop_eq_nil_of_le (by simp)] at h
      exact hk _ _ _ hG h
  | succ fuel ih =>
    intro listed i st a w hL hl hn hi hu h hG
    refine ⟨fun hnil => ?_, fun j hj => ?_⟩
    · have : i = ops.size := by
        rcases Nat.lt_or_ge i ops.size with h' | h'
        · exact absurd hnil (least_ready hF hL i h' (fun hh => absurd ((hl i).1 hh) (by omega)))
        · omega
      subst this
      rw [List.drop_eq_nil_of_le (by simp)] at h
      exact hk _ _ _ hG h
    · obtain ⟨h1, o, ho, he⟩ := (ready_spec hF hL).1 hj
      have hji : j = i := by
        rcases Nat.lt_trichotomy j i with h' | h' | h'
        · exact absurd ((hl j).2 h') h1
        · exact h'
        · exact absurd ((hl i).1 (tail_ready hF hL (by omega) hj h')) (by omega)
      subst hji
      obtain ⟨hL', hs⟩ := Lk.set hF hL hj
      rw [drop_get (get_list ho)] at h
      unfold evOps at h
      have hlt := (Array.getElem?_eq_some_iff.1 ho).1
      simp only [wpOp, ho]
      refine evGuard_ok hTab h hG (fun st' a' w' hG' h' => ih _ (j + 1) st' a' w' hL' (fun x => ?_) (by omega) (by omega) ?_ h' hG')
      · rw [lst_set hs, hl]
        omega
      · have := unl_set hlt hs h1
        omega

theorem main_any (hTab : CallOK D P T) (hF : Facts ops n A) (hnm : n ≤ ops.size) {H : Hp} {tm0 rs fin : List AV} {r : R} {k : St → Option R} {Q : Exit → Act → World → Prop} (hk : ∀ st' a' w', Gam F st' a' w' → k st' = some r → Q .normal a' w')
    (hfin : JJ ops n tm0 rs (· < n) fin) (hat : ∀ j o, j < n → ops[j]? = some o → ∃ tmj r, rs[j]? = some r ∧ JJ ops n tm0 rs (· < j) tmj ∧ VQ P T ops H o tmj r)
    (hev : evOps P T base ops (ops.toList.drop n) ⟨fin, H⟩ k = some r) : ∀ (fuel : Nat) (listed : Array Bool) (tm : List AV) (a : Act) (w : World),
    Lk ops listed → (∀ j, lst listed j → j < n) → unl ops.size listed ≤ fuel → JJ ops n tm0 rs (lst listed) tm → Gam F ⟨tm, H⟩ a w → wpAny P .any ops Q fuel listed a w := by
  have hd : ∀ (i j : Nat) (o p : Oper) (s : Nat), ops[i]? = some o → ops[j]? = some p → o.dst = some s → p.dst = some s → i = j := by
    intro i j o p s h1 h2 h3 h4
    by_cases e : i = j
    · exact e
    · exact absurd h3 (hF.looks h1 h2 e s h4).1
  intro fuel
  induction fuel with
  | zero =>
    intro listed tm a w hL hl hu hJ hG
    have hall : ∀ j, lst listed j ↔ j < n := fun j => ⟨hl j, fun h => unl_zero (m := ops.size) (by omega) (by omega)⟩
    have : tm = fin := List.ext_getElem? fun s => hJ.eq hfin hd (fun i o _ _ _ => hall i)
    subst this
    exact tail_any hTab hF hk 0 listed n _ a w hL hall (Nat.le_refl _) hnm hu hev hG
  | succ fuel ih =>
    intro listed tm a w hL hl hu hJ hG
    by_cases hall : ∀ j, j < n → lst listed j
    · have hall' : ∀ j, lst listed j ↔ j < n := fun j => ⟨hl j, hall j⟩
      have : tm = fin := List.ext_getElem? fun s => hJ.eq hfin hd (fun i o _ _ _ => hall' i)
      subst this
      exact tail_any hTab hF hk (fuel + 1) listed n _ a w hL hall' (Nat.le_refl _) hnm hu hev hG
    · simp only [Classical.not_forall] at hall
      obtain ⟨u, hu1, hu2⟩ := hall
      refine ⟨fun hnil => absurd hnil (least_ready hF hL u (by omega) hu2), fun i hi => ?_⟩
      obtain ⟨h1, o, ho, he⟩ := (ready_spec hF hL).1 hi
      have hin : i < n := by
        rcases Nat.lt_or_ge i n with h' | h'
        · exact h'
        · exact absurd (tail_ready hF hL h' hi (by omega)) hu2
      obtain ⟨hL', hs⟩ := Lk.set hF hL hi
      obtain ⟨tmi, q, hq, hJi, hVi⟩ := hat i o hin ho
      have hlt := (Array.getElem?_eq_some_iff.1 ho).1
      have hV : VQ P T ops H o tm q := VQ_congr hVi fun s hs => hJi.eq hJ hd (fun j p hj hp hpd => by
        by_cases e : i = j
        · subst e
          exact ⟨fun h => by omega, fun h => absurd h h1⟩
        · rcases (hF.looks ho hp e s hpd).2 hs with ⟨g1, g2⟩ | ⟨g1, g2⟩
          · obtain ⟨ed, g3, rfl⟩ := hasEdge_iff.1 g2
            exact ⟨fun _ => he ed g3, fun _ => g1⟩
          · refine ⟨fun h => by omega, fun h => ?_⟩
            obtain ⟨ed, g3, g4⟩ := hasEdge_iff.1 g2
            have := hL.closed j p h hp ed g3
            rw [g4] at this
            exact absurd this h1)
      simp only [wpOp, ho]
      refine VQ_op hTab hV hG (fun a' w' hG' => ih _ _ a' w' hL' (fun j hj => ?_) ?_ (hJ.step hin ho hq (lst_set hs)) hG')
      · rcases (lst_set hs j).1 hj with h | rfl
        · exact hl j h
        · exact hin
      · have := unl_set hlt hs h1
        omega

theorem evDraw_ok (hm : P.follows .mixedOrders = true) (hTab : CallOK D P T) {id : Nat} {st : St} {a : Act} {w : World} {r : R} {k : St → Option R} {Q : Exit → Act → World → Prop}
    (h : evDraw P T base ops st k = some r) (hG : Gam F st a w) (hk : ∀ st' a' w', Gam F st' a' w' → k st' = some r → Q .normal a' w') : (Code.region id ops true).wp P Q a w := by
  unfold evDraw at h
  split at h
  · rename_i hok
    obtain ⟨A, hF⟩ := drawOK_ok hok
    obtain ⟨rs, fin, hC, hev⟩ := evQs_chain h
    have hql : ∀ l : List Oper, quietN l ≤ l.length := by
      intro l
      induction l with
      | nil => exact Nat.le_refl _
      | cons o l ih =>
        unfold quietN
        split
        · omega
        · simp only [List.length_cons]; omega
    have hnm : quietN ops.toList ≤ ops.size := by simpa using hql ops.toList
    have hJ0 : ∀ L : Nat → Prop, (∀ j, ¬ L j) → JJ ops (quietN ops.toList) st.tm rs L st.tm := fun L hL => ⟨rfl, fun s => .inr ⟨fun i o _ hl => absurd hl (hL i), rfl⟩⟩
    obtain ⟨h1, h2⟩ := chain_at (n := quietN ops.toList) (tm0 := st.tm) (rs := rs) (i := 0) hC (fun j o hj => by
      rw [List.getElem?_take] at hj
      split at hj
      · simpa using hj
      · cases hj) (by simp [hnm]) (fun j => by simp) (hJ0 _ (by omega))
    have hno : ∀ j, ¬ lst (Array.replicate ops.size false) j := by
      intro j hj
      unfold lst at hj
      by_cases hlt : j < ops.size
      · simp [hlt] at hj
      · simp [hlt] at hj
    refine wp_region_any hm (main_any (base := base) hTab hF hnm (fin := fin) (rs := rs) (tm0 := st.tm) hk h1 (fun j o hj ho => h2 j o (Nat.zero_le _) hj ho) hev ops.size _ st.tm a _ ⟨by simp, fun j o hj => absurd hj (hno j)⟩ (fun j hj => absurd hj (hno j)) ?_ (hJ0 _ hno) ?_)
    · exact Nat.le_trans List.countP_le_length (by simp)
    · exact Gam.drew hG
  · cases h
/-- a region that draws: n quiet ones in whatever order, and what follows as it stands -/
noncomputable def evDrawN (P : Program) (T : Tab) (base : Nat) (ops : Array Oper) (n : Nat) (st : St) (k : St → Option R) : Option R :=
  match drawOK ops n, Nat.ble n ops.size with
  | true, true => evQs P T st.H ops (ops.toList.take n) st.tm fun tm => evOps P T base ops (ops.toList.drop n) ⟨tm, st.H⟩ k
  | _, _ => none
theorem evDrawN_ok (hm : P.follows .mixedOrders = true) (hTab : CallOK D P T) {id n : Nat} {st : St} {a : Act} {w : World} {r : R} {k : St → Option R} {Q : Exit → Act → World → Prop}
    (h : evDrawN P T base ops n st k = some r) (hG : Gam F st a w) (hk : ∀ st' a' w', Gam F st' a' w' → k st' = some r → Q .normal a' w') : (Code.region id ops true).wp P Q a w := by
  unfold evDrawN at h
  split at h
  · rename_i hok hle
    obtain ⟨A, hF⟩ := drawOK_ok hok
    obtain ⟨rs, fin, hC, hev⟩ := evQs_chain h
    have hnm : n ≤ ops.size := Nat.le_of_ble_eq_true hle
    have hJ0 : ∀ L : Nat → Prop, (∀ j, ¬ L j) → JJ ops (n) st.tm rs L st.tm := fun L hL => ⟨rfl, fun s => .inr ⟨fun i o _ hl => absurd hl (hL i), rfl⟩⟩
    obtain ⟨h1, h2⟩ := chain_at (n := n) (tm0 := st.tm) (rs := rs) (i := 0) hC (fun j o hj => by
      rw [List.getElem?_take] at hj
      split at hj
      · simpa using hj
      · cases hj) (by simp [hnm]) (fun j => by simp) (hJ0 _ (by omega))
    have hno : ∀ j, ¬ lst (Array.replicate ops.size false) j := by
      intro j hj
      unfold lst at hj
      by_cases hlt : j < ops.size
      · simp [hlt] at hj
      · simp [hlt] at hj
    refine wp_region_any hm (main_any (base := base) hTab hF hnm (fin := fin) (rs := rs) (tm0 := st.tm) hk h1 (fun j o hj ho => h2 j o (Nat.zero_le _) hj ho) hev ops.size _ st.tm a _ ⟨by simp, fun j o hj => absurd hj (hno j)⟩ (fun j hj => absurd hj (hno j)) ?_ (hJ0 _ hno) ?_)
    · exact Nat.le_trans List.countP_le_length (by simp)
    · exact Gam.drew hG
  · cases h
end
end Go.Proofs.YtigekmmdflaeaaaDoorE
