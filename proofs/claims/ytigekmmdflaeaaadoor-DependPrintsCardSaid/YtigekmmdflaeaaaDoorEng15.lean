/- The engine, part 15: a function's row in a table. -/
import Derived.Test.YtigekmmdflaeaaaDoorEng14
set_option linter.all false
namespace Go.Proofs.YtigekmmdflaeaaaDoorE
open Go
set_option linter.unusedVariables false

/-- What a call's operands hold. -/
structure Ad (α : Type) where
  k : List AV → Option α
  f : α → List AV
  ok : ∀ {args : List AV} {x : α} {μ μ' : Nat → Value} {S : Nat → Prop} {w : World} {vs : List Value}, k args = some x → VsOK μ S w args vs → VsOK μ' S w (f x) vs
def adNil : Ad Unit where
  k := fun l => match l with
    | [] => some ()
    | _ => none
  f := fun _ => []
  ok := by
    intro args x μ μ' S w vs h hv
    split at h
    · exact hv
    · cases h
def adOne {α : Type} (s : Sd α) : Ad α where
  k := fun l => match l with
    | [a] => s.k a
    | _ => none
  f := fun x => [s.f x]
  ok := by
    intro args x μ μ' S w vs h hv
    split at h
    · obtain ⟨u, us, rfl, h1, h2⟩ := hv
      exact ⟨u, us, rfl, s.ok h h1, h2⟩
    · cases h
def adCons {α β : Type} (s : Sd α) (t : Ad β) : Ad (α × β) where
  k := fun l => match l with
    | a :: l => (s.k a).bind fun x => (t.k l).bind fun y => some (x, y)
    | _ => none
  f := fun x => s.f x.1 :: t.f x.2
  ok := by
    intro args x μ μ' S w vs h hv
    split at h
    · obtain ⟨u, us, rfl, h1, h2⟩ := hv
      obtain ⟨y, h3, h⟩ := Option.bind_eq_some_iff.1 h
      obtain ⟨z, h4, h⟩ := Option.bind_eq_some_iff.1 h
      cases h
      exact ⟨u, us, rfl, s.ok h3 h1, t.ok h4 h2⟩
    · cases h
/-- a function with what it holds -/
def sdFn {α : Type} (f : FuncId) (t : Ad α) : Sd α where
  k := fun a => match a with
    | .fn g l => match Nat.beq g f with
      | true => t.k l
      | false => none
    | _ => none
  f := fun x => .fn f (t.f x)
  ok := by
    intro av x μ μ' S w v h hv
    split at h
    · split at h
      · rename_i hb
        cases Nat.eq_of_beq_eq_true hb
        obtain ⟨us, rfl, h1⟩ := hv
        exact ⟨us, rfl, t.ok h h1⟩
      · cases h
    · cases h
/-- a struct, field by field -/
def sdAg {α : Type} (t : Ad α) : Sd α where
  k := fun a => match a with
    | .agg l => t.k l
    | _ => none
  f := fun x => .agg (t.f x)
  ok := by
    intro av x μ μ' S w v h hv
    split at h
    · obtain ⟨us, rfl, h1⟩ := hv
      exact ⟨us, rfl, t.ok h h1⟩
    · cases h
/-- a place that holds data -/
def sdPtr (t : Ty) (off : Nat) : Sd (El t) where
  k := fun av => match av with
    | .eptr t' x o => if h : t'.eq t = true then match Nat.beq o off with
      | true => some (Ty.of_eq h ▸ x)
      | false => none
      else none
    | _ => none
  f := fun x => .eptr t x off
  ok := by
    intro av x μ μ' S w v h hv
    split at h
    · split at h
      · rename_i he
        split at h
        · rename_i hb
          cases Nat.eq_of_beq_eq_true hb
          cases Ty.of_eq he
          cases h
          exact hv
        · cases h
      · cases h
    · cases h

/-- a function's row -/
def row {α β : Type} (ad : Ad α) (d : Dec β) (F : α → Option β) : List AV → Option Out := fun args => match ad.k args with
  | some x => out d (F x)
  | none => none
theorem row_ok {D : Cx} {P : Program} {g : FuncId} {α β : Type} {ad : Ad α} {d : Dec β} {F : α → Option β} (h : ∀ x r, F x = some r → Has D P g (ad.f x) d r) : RowOK D P g (row ad d F) := by
  intro args o ho
  unfold row at ho
  split at ho
  · rename_i x hx
    cases ho
    exact ⟨β, d, F x, rfl, fun r hr S w vals hS hV => h x r hr S w vals hS (ad.ok hx hV)⟩
  · cases ho
/-- the row of a function that turns the array that it is given -/
def rowW {α : Type} (t : Ty) (ad : Ad α) (F : α → List (El t) → Option (List (El t))) (ret : Bool) : TypeId → (t' : Ty) → List (El t') → List AV → Option (OutW t') := fun _ t' l args =>
  if h : t'.eq t = true then match ad.k args with
    | some x => some ⟨(Ty.of_eq h).symm ▸ F x (Ty.of_eq h ▸ l), ret⟩
    | none => none
  else none
theorem rowW_ok {D : Cx} {P : Program} {g : FuncId} {α : Type} {t : Ty} {ad : Ad α} {F : α → List (El t) → Option (List (El t))} {ret : Bool} (h : ∀ x l r, F x l = some r → WHas D P g t l r (ad.f x) ret) : RowW D P g (rowW t ad F ret) := by
  intro e t' l args out l' ho hl'
  unfold rowW at ho
  split at ho
  · rename_i he
    split at ho
    · rename_i x hx
      cases ho
      cases Ty.of_eq he
      intro S w v vals hS hB hv hV
      exact h x l l' hl' S w v vals e hS hB hv (ad.ok hx hV)
    · cases ho
  · cases ho
/-- .. of an array whose elements are of that type -/
def rowWE {α : Type} (e : TypeId) (t : Ty) (ad : Ad α) (F : α → List (El t) → Option (List (El t))) (ret : Bool) : TypeId → (t' : Ty) → List (El t') → List AV → Option (OutW t') := fun e' t' l args => match Nat.beq e' e with
  | true => rowW t ad F ret e' t' l args
  | false => none
theorem rowWE_ok {D : Cx} {P : Program} {g : FuncId} {α : Type} {e : TypeId} {t : Ty} {ad : Ad α} {F : α → List (El t) → Option (List (El t))} {ret : Bool} (h : ∀ x l r, F x l = some r → WHasE e D P g t l r (ad.f x) ret) : RowW D P g (rowWE e t ad F ret) := by
  intro e' t' l args out l' ho hl'
  unfold rowWE at ho
  split at ho
  · rename_i hee
    cases Nat.eq_of_beq_eq_true hee
    unfold rowW at ho
    split at ho
    · rename_i he
      split at ho
      · rename_i x hx
        cases ho
        cases Ty.of_eq he
        intro S w v vals hS hB hv hV
        exact h x l l' hl' S w v vals hS hB hv (ad.ok hx hV)
      · cases ho
    · cases ho
  · cases ho
theorem enters_of {P : Program} {g : FuncId} {fn : Func} (hf : P.funcs[g]? = some fn) (hn : (fn.name == "runtime.NumGoroutine") = false) (hb : fn.body.isNone = false) : Enters P g := by
  intro vals w
  have hn' : fn.name ≠ "runtime.NumGoroutine" := by simpa using hn
  have hb' : fn.body ≠ none := by
    intro h
    rw [h] at hb
    cases hb
  simp [callFunc, go_sem, hf, hn', hb']
end Go.Proofs.YtigekmmdflaeaaaDoorE
