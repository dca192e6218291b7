/- The engine: things under names, as data: how a call that turns them is told. -/
import Derived.Test.YtigekmmdflaeaaaDoorEng15
set_option linter.all false
namespace Go.Proofs.YtigekmmdflaeaaaDoorE
open Go
set_option linter.unusedVariables false
/-- How a variable's cells are told: data, or arrays of its own. -/
inductive OS where
  | d (t : Ty)
  | own (e : TypeId) (t : Ty)
  | pair (a b : OS)
@[reducible] def OEl : OS → Type
  | .d t => El t
  | .own _ t => List (El t)
  | .pair a b => OEl a × OEl b
def zOS : (s : OS) → OEl s
  | .d t => zEl t
  | .own _ _ => []
  | .pair a b => (zOS a, zOS b)
def nown : OS → Nat
  | .d _ => 0
  | .own _ _ => 1
  | .pair a b => nown a + nown b
/-- the cells; c: the first array's name -/
def encC : (s : OS) → Nat → OEl s → List AV
  | .d t, _, x => cellsOf t x
  | .own _ _, c, _ => [.own c]
  | .pair a b, c, x => encC a c x.1 ++ encC b (c + nown a) x.2
/-- the arrays -/
def encH : (s : OS) → Nat → OEl s → Hp
  | .d _, _, _ => []
  | .own e t, c, l => [(c, .arr e t l)]
  | .pair a b, c, x => encH a c x.1 ++ encH b (c + nown a) x.2
/-- the data out of cells; and where each array is -/
def rdO (H : Hp) : (s : OS) → Nat → List AV → Option (OEl s × List AV × List (Nat × Option Nat))
  | .d t, _, l => match ofCells t l with
    | some (x, r) => some (x, r, [])
    | none => none
  | .own e t, c, a :: l => match a with
    | .own j => match lk H j with
      | some (.arr e' t' x) => if h : t'.eq t = true then match Nat.beq e' e with
        | true => some (Ty.of_eq h ▸ x, l, [(c, some j)])
        | false => none
        else none
      | _ => none
    | .sc (.slice none 0 0) => some ([], l, [(c, none)])
    | _ => none
  | .own _ _, _, [] => none
  | .pair a b, c, l => match rdO H a c l with
    | some (x, l1, m1) => match rdO H b (c + nown a) l1 with
      | some (y, l2, m2) => some ((x, y), l2, m1 ++ m2)
      | none => none
    | none => none
/-- Some things under names. -/
inductive OB where
  | none
  | one (c base : Nat) (T : TypeId) (s : OS)
  | mp (c : Nat) (kt vt : Ty)
  | arr (c : Nat) (e : TypeId) (t : Ty)
  | two (a b : OB)
@[reducible] def BEl : OB → Type
  | .none => Unit
  | .one _ _ _ s => OEl s
  | .mp _ kt vt => List (El kt × El vt)
  | .arr _ _ t => List (El t)
  | .two a b => BEl a × BEl b
def hpB : (B : OB) → BEl B → Hp
  | .none, _ => []
  | .one c base T s, x => (c, .box T (encC s base x)) :: encH s base x
  | .mp c kt vt, m => [(c, .mp kt vt m)]
  | .arr c e t, l => [(c, .arr e t l)]
  | .two a b, x => hpB a x.1 ++ hpB b x.2
/-- src: under which name a thing is found -/
def rdB (H : Hp) (src : Nat → Nat) : (B : OB) → Option (BEl B × List (Nat × Option Nat))
  | .none => some ((), [])
  | .one c base T s => match lk H (src c) with
    | some (.box T' l) => match Nat.beq T' T with
      | true => match rdO H s base l with
        | some (x, [], m) => some (x, (c, some (src c)) :: m)
        | _ => Option.none
      | false => Option.none
    | _ => Option.none
  | .mp c kt vt => match lk H (src c) with
    | some (.mp kt' vt' m) => if h : kt'.eq kt = true then if h' : vt'.eq vt = true then some (Ty.of_eq h ▸ Ty.of_eq h' ▸ m, [(c, some (src c))]) else Option.none else Option.none
    | _ => Option.none
  | .arr c e t => match lk H (src c) with
    | some (.arr e' t' l) => match Nat.beq e' e with
      | true => if h : t'.eq t = true then some (Ty.of_eq h ▸ l, [(c, some (src c))]) else Option.none
      | false => Option.none
    | _ => Option.none
  | .two a b => match rdB H src a with
    | some (x, m1) => match rdB H src b with
      | some (y, m2) => some ((x, y), m1 ++ m2)
      | Option.none => Option.none
    | Option.none => Option.none
def lookO : List (Nat × Option Nat) → Nat → Option (Option Nat)
  | [], _ => none
  | (a, b) :: m, i => match Nat.beq a i with
    | true => some b
    | false => lookO m i
def fstO : List (Nat × Option Nat) → List Nat
  | [] => []
  | (a, _) :: m => a :: fstO m
def sndO : List (Nat × Option Nat) → List Nat
  | [] => []
  | (_, some b) :: m => b :: sndO m
  | (_, none) :: m => sndO m
/-- names that stand are found where they are -/
def pinO : List (Nat × Option Nat) → Bool
  | [] => true
  | (a, b) :: m => match Nat.blt a 2000000, b with
    | true, _ => pinO m
    | false, some j => match Nat.beq j a with
      | true => pinO m
      | false => false
    | false, none => false
def okO (m : List (Nat × Option Nat)) : Bool := match nodupN (fstO m), nodupN (sndO m) with
  | true, true => pinO m
  | _, _ => false
/-- what the names stand for then -/
def muO (m : List (Nat × Option Nat)) (μ : Nat → Value) (i : Nat) : Value := match lookO m i with
  | some (some j) => μ j
  | some none => .slice none 0 0
  | none => μ i
theorem lookO_fst : ∀ {m : List (Nat × Option Nat)} {i : Nat} {x : Option Nat}, lookO m i = some x → inN i (fstO m) = true
  | [], i, x, h => by cases h
  | (a, b) :: m, i, x, h => by
    unfold lookO at h
    unfold fstO inN
    split at h
    · rename_i e; rw [e]
    · rename_i e; rw [e]; exact lookO_fst h
theorem lookO_snd : ∀ {m : List (Nat × Option Nat)} {i j : Nat}, lookO m i = some (some j) → inN j (sndO m) = true
  | [], i, j, h => by cases h
  | (a, some b) :: m, i, j, h => by
    have h : (match Nat.beq a i with | true => some (some b) | false => lookO m i) = some (some j) := h
    show (match Nat.beq b j with | true => true | false => inN j (sndO m)) = true
    split at h
    · cases h
      rw [Nat.beq_refl]
    · split
      · rfl
      · exact lookO_snd h
  | (a, none) :: m, i, j, h => by
    have h : (match Nat.beq a i with | true => some none | false => lookO m i) = some (some j) := h
    show inN j (sndO m) = true
    split at h
    · cases h
    · exact lookO_snd h
theorem lookO_app : ∀ (m n : List (Nat × Option Nat)) (i : Nat), lookO (m ++ n) i = match lookO m i with | some x => some x | none => lookO n i
  | [], n, i => rfl
  | (a, b) :: m, n, i => by
    show (match Nat.beq a i with | true => some b | false => lookO (m ++ n) i) = match (match Nat.beq a i with | true => some b | false => lookO m i) with | some x => some x | none => lookO n i
    cases Nat.beq a i with
    | true => rfl
    | false => exact lookO_app m n i
theorem lookO_in : ∀ {m : List (Nat × Option Nat)} {i : Nat}, inN i (fstO m) = true → ∃ x, lookO m i = some x
  | [], i, h => by cases h
  | (a, b) :: m, i, h => by
    unfold fstO inN at h
    unfold lookO
    split at h
    · rename_i e; exact ⟨b, by rw [e]⟩
    · rename_i e
      obtain ⟨x, hx⟩ := lookO_in h
      exact ⟨x, by rw [e]; exact hx⟩
/-- each array is one name's alone -/
theorem lookO_inj : ∀ {m : List (Nat × Option Nat)} {i i' j : Nat}, nodupN (sndO m) = true → lookO m i = some (some j) → lookO m i' = some (some j) → i = i'
  | [], i, i', j, hn, h, h' => by cases h
  | (a, none) :: m, i, i', j, hn, h, h' => by
    have h : (match Nat.beq a i with | true => some none | false => lookO m i) = some (some j) := h
    have h' : (match Nat.beq a i' with | true => some none | false => lookO m i') = some (some j) := h'
    split at h
    · cases h
    split at h'
    · cases h'
    exact lookO_inj (m := m) hn h h'
  | (a, some b) :: m, i, i', j, hn, h, h' => by
    have h : (match Nat.beq a i with | true => some (some b) | false => lookO m i) = some (some j) := h
    have h' : (match Nat.beq a i' with | true => some (some b) | false => lookO m i') = some (some j) := h'
    have hn : (match inN b (sndO m) with | true => false | false => nodupN (sndO m)) = true := hn
    split at hn
    · cases hn
    rename_i hb
    split at h
    · rename_i e
      cases h
      split at h'
      · rename_i e'
        exact (Nat.eq_of_beq_eq_true e).symm.trans (Nat.eq_of_beq_eq_true e')
      · rw [lookO_snd h'] at hb; cases hb
    · split at h'
      · cases h'
        rw [lookO_snd h] at hb; cases hb
      · exact lookO_inj hn h h'
theorem pinO_at : ∀ {m : List (Nat × Option Nat)} {i : Nat} {x : Option Nat}, pinO m = true → lookO m i = some x → Nat.blt i 2000000 = false → x = some i
  | [], i, x, hp, h, hi => by cases h
  | (a, b) :: m, i, x, hp, h, hi => by
    unfold lookO at h
    unfold pinO at hp
    split at h
    · rename_i e
      cases h
      cases Nat.eq_of_beq_eq_true e
      split at hp
      · rename_i e2; rw [hi] at e2; cases e2
      · split at hp
        · rename_i e3; rw [Nat.eq_of_beq_eq_true e3]
        · cases hp
      · cases hp
    · split at hp
      · exact pinO_at hp h hi
      · split at hp
        · exact pinO_at hp h hi
        · cases hp
      · cases hp
theorem fstO_app : ∀ m n : List (Nat × Option Nat), fstO (m ++ n) = fstO m ++ fstO n
  | [], n => rfl
  | (a, b) :: m, n => by
    show a :: fstO (m ++ n) = a :: (fstO m ++ fstO n)
    rw [fstO_app m n]
theorem nodup_split : ∀ {l m : List Nat}, nodupN (l ++ m) = true → nodupN l = true ∧ nodupN m = true ∧ ∀ i, inN i l = true → inN i m = false
  | [], m, h => ⟨rfl, h, fun i hi => by cases hi⟩
  | a :: l, m, h => by
    have h : (match inN a (l ++ m) with | true => false | false => nodupN (l ++ m)) = true := h
    split at h
    · cases h
    rename_i ha
    rw [inN_app, Bool.or_eq_false_iff] at ha
    obtain ⟨h1, h2, h3⟩ := nodup_split h
    refine ⟨?_, h2, fun i hi => ?_⟩
    · show (match inN a l with | true => false | false => nodupN l) = true
      rw [ha.1]; exact h1
    · have hi : (match Nat.beq a i with | true => true | false => inN i l) = true := hi
      split at hi
      · rename_i e; rw [← Nat.eq_of_beq_eq_true e]; exact ha.2
      · exact h3 i hi
theorem nodup_app {m n : List (Nat × Option Nat)} (h : nodupN (fstO (m ++ n)) = true) : nodupN (fstO m) = true ∧ nodupN (fstO n) = true ∧ ∀ i, inN i (fstO m) = true → inN i (fstO n) = false := by
  rw [fstO_app] at h
  exact nodup_split h
section
variable {D : Cx} {F : Fr D} {μ : Nat → Value} {S : Nat → Prop} {w : World} {H : Hp}
/-- names of the arrays that are read -/
theorem rdO_ok : ∀ {s : OS} {c : Nat} {l r : List AV} {x : OEl s} {m : List (Nat × Option Nat)} {us : List Value} {μ' : Nat → Value}, rdO H s c l = some (x, r, m) → (∀ i y, lookO m i = some y → μ' i = match y with | some j => μ j | none => .slice none 0 0) → nodupN (fstO m) = true → VsOK μ S w l us →
    ∃ u1 u2, us = u1 ++ u2 ∧ VsOK μ' S w (encC s c x) u1 ∧ VsOK μ S w r u2
  | .d t, c, l, r, x, m, us, μ', h, hm, hn, hu => by
    unfold rdO at h
    split at h
    · rename_i x' r' hx
      cases h
      obtain ⟨u1, u2, h1, h2, h3⟩ := ofCells_ok hx hu
      exact ⟨u1, u2, h1, Rd.cells h2, h3⟩
    · cases h
  | .own e t, c, [], r, x, m, us, μ', h, hm, hn, hu => by unfold rdO at h; cases h
  | .own e t, c, a :: l, r, x, m, us, μ', h, hm, hn, hu => by
    obtain ⟨u, us', rfl, h1, h2⟩ := hu
    unfold rdO at h
    split at h
    · rename_i j
      split at h
      · rename_i e' t' x' hk
        split at h
        · split at h
          · cases h
            refine ⟨[u], us', rfl, ⟨u, [], rfl, ?_, rfl⟩, h2⟩
            have := hm c (some j) (by unfold lookO; rw [Nat.beq_refl])
            rw [VOK] at h1 ⊢
            rw [this]; exact h1
          · cases h
        · cases h
      · cases h
    · cases h
      refine ⟨[u], us', rfl, ⟨u, [], rfl, ?_, rfl⟩, h2⟩
      have := hm c none (by unfold lookO; rw [Nat.beq_refl])
      have h1' : u = .slice none 0 0 := h1
      show u = μ' c ∧ ∃ A n c, u = .slice A n c
      rw [this]; exact ⟨h1', _, _, _, h1'⟩
    · cases h
  | .pair a b, c, l, r, x, m, us, μ', h, hm, hn, hu => by
    unfold rdO at h
    split at h
    · rename_i x1 l1 m1 hx
      split at h
      · rename_i y l2 m2 hy
        cases h
        have d1 : ∀ i y, lookO m1 i = some y → lookO (m1 ++ m2) i = some y := fun i y hi => by rw [lookO_app, hi]
        have hn' := nodup_app hn
        have d2 : ∀ i y, lookO m2 i = some y → lookO (m1 ++ m2) i = some y := fun i y hi => by
          rw [lookO_app]
          cases h1 : lookO m1 i with
          | none => exact hi
          | some z => exact absurd (lookO_fst hi) (by rw [hn'.2.2 i (lookO_fst h1)]; simp)
        obtain ⟨u1, u2, rfl, v1, v2⟩ := rdO_ok hx (fun i y hi => hm i y (d1 i y hi)) hn'.1 hu
        obtain ⟨u3, u4, rfl, v3, v4⟩ := rdO_ok hy (fun i y hi => hm i y (d2 i y hi)) hn'.2.1 v2
        exact ⟨u1 ++ u3, u4, by simp, VsOK.append v1 v3, v4⟩
      · cases h
    · cases h
theorem encH_at : ∀ {s : OS} {c0 : Nat} {l r : List AV} {x : OEl s} {m : List (Nat × Option Nat)}, rdO H s c0 l = some (x, r, m) → nodupN (fstO m) = true → ∀ {c : Nat} {B : ABlk}, lk (encH s c0 x) c = some B → ∃ e t y o, B = .arr e t y ∧ lookO m c = some o ∧ match o with | some j => lk H j = some (.arr e t y) | none => y = []
  | .d t, c0, l, r, x, m, h, hn, c, B, hc => by cases hc
  | .own e t, c0, [], r, x, m, h, hn, c, B, hc => by unfold rdO at h; cases h
  | .own e t, c0, a :: l, r, x, m, h, hn, c, B, hc => by
    replace hc : (match Nat.beq c0 c with | true => some (ABlk.arr e t x) | false => lk [] c) = some B := hc
    split at hc
    rotate_left
    · cases hc
    rename_i hb
    have hb := Nat.eq_of_beq_eq_true hb
    subst hb
    have hc := Option.some.inj hc
    subst hc
    unfold rdO at h
    split at h
    · rename_i j
      split at h
      · rename_i e' t' x' hk
        split at h
        · rename_i ht
          split at h
          · rename_i he
            cases h
            cases Nat.eq_of_beq_eq_true he
            cases Ty.of_eq ht
            exact ⟨e, t, x', some j, rfl, by unfold lookO; rw [Nat.beq_refl], hk⟩
          · cases h
        · cases h
      · cases h
    · cases h
      exact ⟨e, t, [], none, rfl, by unfold lookO; rw [Nat.beq_refl], rfl⟩
    · cases h
  | .pair a b, c0, l, r, x, m, h, hn, c, B, hc => by
    unfold rdO at h
    split at h
    · rename_i x1 l1 m1 hx
      split at h
      · rename_i y l2 m2 hy
        cases h
        have hn' := nodup_app hn
        have hc : lk (encH a c0 x1 ++ encH b (c0 + nown a) y) c = some B := hc
        rw [lk_app] at hc
        split at hc
        · rename_i B1 h1
          cases hc
          obtain ⟨e, t, z, o, h2, h3, h4⟩ := encH_at hx hn'.1 h1
          exact ⟨e, t, z, o, h2, by rw [lookO_app, h3], h4⟩
        · obtain ⟨e, t, z, o, h2, h3, h4⟩ := encH_at hy hn'.2.1 hc
          refine ⟨e, t, z, o, h2, ?_, h4⟩
          rw [lookO_app]
          cases h1 : lookO m1 c with
          | none => exact h3
          | some q => exact absurd (lookO_fst h3) (by rw [hn'.2.2 c (lookO_fst h1)]; simp)
      · cases h
    · cases h
/-- what is told of a thing under its own name -/
theorem rdB_at {src : Nat → Nat} : ∀ {B : OB} {x : BEl B} {m : List (Nat × Option Nat)}, rdB H src B = some (x, m) → nodupN (fstO m) = true → ∀ {c : Nat} {A : ABlk}, lk (hpB B x) c = some A →
    ∃ o, lookO m c = some o ∧ (∀ j, o = some j → ∃ A0, lk H j = some A0) ∧ ∀ (μ' : Nat → Value), Inv F μ S H w → (∀ i y, lookO m i = some y → μ' i = match y with | some j => μ j | none => .slice none 0 0) → BOK μ' S w c A
  | .none, x, m, h, hn, c, A, hc => by cases hc
  | .one c0 base T s, x, m, h, hn, c, A, hc => by
    unfold rdB at h
    split at h
    · rename_i T' l hk
      split at h
      · rename_i hT
        split at h
        · rename_i x' m' hr
          have h := Option.some.inj h
          obtain ⟨rfl, rfl⟩ := Prod.mk.inj h
          have hn0 : (match inN c0 (fstO m') with | true => false | false => nodupN (fstO m')) = true := hn
          split at hn0
          · cases hn0
          rename_i hin
          replace hc : (match Nat.beq c0 c with | true => some (ABlk.box T (encC s base x')) | false => lk (encH s base x') c) = some A := hc
          have sub : ∀ i y, lookO m' i = some y → lookO ((c0, some (src c0)) :: m') i = some y := fun i y hi => by
            show (match Nat.beq c0 i with | true => some (some (src c0)) | false => lookO m' i) = some y
            split
            · rename_i e
              rw [Nat.eq_of_beq_eq_true e, lookO_fst hi] at hin; cases hin
            · exact hi
          split at hc
          · rename_i hb
            have hb := Nat.eq_of_beq_eq_true hb
            subst hb
            have hc := Option.some.inj hc
            subst hc
            refine ⟨some (src c0), by unfold lookO; rw [Nat.beq_refl], fun j hj => ⟨_, by cases hj; exact hk⟩, fun μ' hI hm => ?_⟩
            obtain ⟨b, us, h1, h2, h3⟩ := hI.blk _ _ hk
            obtain ⟨u1, u2, rfl, v1, v2⟩ := rdO_ok (μ' := μ') hr (fun i y hi => hm i y (sub i y hi)) hn0 h3
            rw [VsOK] at v2
            rw [v2, List.append_nil] at h2
            have e1 := hm c0 (some (src c0)) (by unfold lookO; rw [Nat.beq_refl])
            have hT := Nat.eq_of_beq_eq_true hT
            subst hT
            exact ⟨b, u1, e1.trans h1, h2, v1⟩
          · obtain ⟨e, t, y, o, rfl, h2, h3⟩ := encH_at hr hn0 hc
            refine ⟨o, sub c o h2, fun j hj => by subst hj; exact ⟨_, h3⟩, fun μ' hI hm => ?_⟩
            have e1 := hm c o (sub c o h2)
            cases o with
            | none =>
              have h3 : y = [] := h3
              exact .inl ⟨none, e1, h3⟩
            | some j =>
              have h3 : lk H j = some (.arr e t y) := h3
              have := hI.blk j _ h3
              simp only [BOK] at this ⊢
              rw [e1]; exact this
        · cases h
      · cases h
    · cases h
  | .mp c0 kt vt, x, m, h, hn, c, A, hc => by
    unfold rdB at h
    split at h
    · rename_i kt' vt' l hk
      split at h
      · rename_i h1
        split at h
        · rename_i h2
          have e1 := Ty.of_eq h1
          have e2 := Ty.of_eq h2
          subst e1
          subst e2
          have h := Option.some.inj h
          obtain ⟨rfl, rfl⟩ := Prod.mk.inj h
          replace hc : (match Nat.beq c0 c with | true => some (ABlk.mp kt' vt' l) | false => lk [] c) = some A := hc
          split at hc
          · rename_i hb
            have hb := Nat.eq_of_beq_eq_true hb
            subst hb
            have hc := Option.some.inj hc
            subst hc
            refine ⟨some (src c0), by unfold lookO; rw [Nat.beq_refl], fun j hj => ⟨_, by cases hj; exact hk⟩, fun μ' hI hm => ?_⟩
            have e1 := hm c0 (some (src c0)) (by unfold lookO; rw [Nat.beq_refl])
            have := hI.blk _ _ hk
            simp only [BOK] at this ⊢
            rw [e1]; exact this
          · cases hc
        · cases h
      · cases h
    · cases h
  | .arr c0 e t, x, m, h, hn, c, A, hc => by
    unfold rdB at h
    split at h
    · rename_i e' t' l hk
      split at h
      · rename_i he
        split at h
        · rename_i h1
          have e1 := Ty.of_eq h1
          subst e1
          have he := Nat.eq_of_beq_eq_true he
          subst he
          have h := Option.some.inj h
          obtain ⟨rfl, rfl⟩ := Prod.mk.inj h
          replace hc : (match Nat.beq c0 c with | true => some (ABlk.arr e' t' l) | false => lk [] c) = some A := hc
          split at hc
          · rename_i hb
            have hb := Nat.eq_of_beq_eq_true hb
            subst hb
            have hc := Option.some.inj hc
            subst hc
            refine ⟨some (src c0), by unfold lookO; rw [Nat.beq_refl], fun j hj => ⟨_, by cases hj; exact hk⟩, fun μ' hI hm => ?_⟩
            have e1 := hm c0 (some (src c0)) (by unfold lookO; rw [Nat.beq_refl])
            have := hI.blk _ _ hk
            simp only [BOK] at this ⊢
            rw [e1]; exact this
          · cases hc
        · cases h
      · cases h
    · cases h
  | .two a b, x, m, h, hn, c, A, hc => by
    unfold rdB at h
    split at h
    · rename_i x1 m1 hx
      split at h
      · rename_i y m2 hy
        cases h
        have hn' := nodup_app hn
        have hc : lk (hpB a x1 ++ hpB b y) c = some A := hc
        have d1 : ∀ i z, lookO m1 i = some z → lookO (m1 ++ m2) i = some z := fun i z hi => by rw [lookO_app, hi]
        have d2 : ∀ i z, lookO m2 i = some z → lookO (m1 ++ m2) i = some z := fun i z hi => by
          rw [lookO_app]
          cases h1 : lookO m1 i with
          | none => exact hi
          | some z => exact absurd (lookO_fst hi) (by rw [hn'.2.2 i (lookO_fst h1)]; simp)
        rw [lk_app] at hc
        split at hc
        · rename_i A1 h1
          cases hc
          obtain ⟨o, h2, h3, h4⟩ := rdB_at hx hn'.1 h1
          exact ⟨o, d1 c o h2, h3, fun μ' hI hm => h4 μ' hI fun i z hi => hm i z (d1 i z hi)⟩
        · obtain ⟨o, h2, h3, h4⟩ := rdB_at hy hn'.2.1 hc
          exact ⟨o, d2 c o h2, h3, fun μ' hI hm => h4 μ' hI fun i z hi => hm i z (d2 i z hi)⟩
      · cases h
    · cases h
/-- What lies under names, told as data, under names of its own. -/
theorem rdB_inv {src : Nat → Nat} {B : OB} {x : BEl B} {m : List (Nat × Option Nat)} (h : rdB H src B = some (x, m)) (hok : okO m = true) (hI : Inv F μ S H w) : Inv F (muO m μ) S (hpB B x) w := by
  unfold okO at hok
  split at hok
  rotate_left
  · cases hok
  rename_i n1 n2
  have hm : ∀ i y, lookO m i = some y → muO m μ i = match y with | some j => μ j | none => .slice none 0 0 := fun i y hi => by
    unfold muO
    rw [hi]
    cases y <;> rfl
  refine ⟨?_, ?_, ?_, hI.Slt, hI.S0, hI.Sfrom, hI.frame, hI.size, hI.os, hI.tape, hI.output, hI.drawn, ?_, hI.hy⟩
  · intro c A hc
    obtain ⟨o, h1, h2, h3⟩ := rdB_at (F := F) (μ := μ) (S := S) (w := w) h n1 hc
    exact h3 _ hI hm
  · intro c d A A' hc hd hne b hb hb'
    obtain ⟨o, h1, h2, h3⟩ := rdB_at (F := F) (μ := μ) (S := S) (w := w) h n1 hc
    obtain ⟨o', h1', h2', h3'⟩ := rdB_at (F := F) (μ := μ) (S := S) (w := w) h n1 hd
    rw [hm c o h1] at hb
    rw [hm d o' h1'] at hb'
    cases o with
    | none => simp [bof] at hb
    | some j =>
      cases o' with
      | none => simp [bof] at hb'
      | some j' =>
        obtain ⟨A0, hA0⟩ := h2 j rfl
        obtain ⟨A1, hA1⟩ := h2' j' rfl
        exact hI.apart j j' A0 A1 hA0 hA1 (fun e => hne (lookO_inj n2 h1 (e ▸ h1'))) b hb hb'
  · intro c A hc b hb
    obtain ⟨o, h1, h2, h3⟩ := rdB_at (F := F) (μ := μ) (S := S) (w := w) h n1 hc
    rw [hm c o h1] at hb
    cases o with
    | none => simp [bof] at hb
    | some j =>
      obtain ⟨A0, hA0⟩ := h2 j rfl
      exact hI.notS j A0 hA0 b hb
  · intro i v A hv hi
    obtain ⟨o, h1, h2, h3⟩ := rdB_at (F := F) (μ := μ) (S := S) (w := w) h n1 hi
    have hlow : Nat.blt i 2000000 = false := by
      cases hb : Nat.blt i 2000000 with
      | true => rw [F.low i hb] at hv; cases hv
      | false => rfl
    have := pinO_at hok h1 hlow
    subst this
    obtain ⟨A0, hA0⟩ := h2 i rfl
    exact (hm i _ h1).trans (hI.fixd i v A0 hv hA0)
theorem muO_pin {m : List (Nat × Option Nat)} (hok : okO m = true) {i : Nat} (hi : Nat.blt i 2000000 = false) : muO m μ i = μ i := by
  unfold okO at hok
  split at hok
  · unfold muO
    cases h : lookO m i with
    | none => rfl
    | some o => rw [pinO_at hok h hi]
  · cases hok
end
end Go.Proofs.YtigekmmdflaeaaaDoorE
