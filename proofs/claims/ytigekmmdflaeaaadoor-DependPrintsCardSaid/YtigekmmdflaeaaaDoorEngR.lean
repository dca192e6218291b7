/- The engine: rows of calls that turn what lies under names. -/
import Derived.Test.YtigekmmdflaeaaaDoorEngO
set_option linter.all false
namespace Go.Proofs.YtigekmmdflaeaaaDoorE
open Go
set_option linter.unusedVariables false
/-- How what a call comes to is told. -/
structure GDec (α : Type) where
  k : AV → Hp → Option α
  c : Option (α → Bool)
  f1 : α → AV × Hp
  f2 : α → AV × Hp
  ok : ∀ {D : Cx} {F : Fr D} {av : AV} {H : Hp} {x : α} {μ : Nat → Value} {S : Nat → Prop} {w : World} {v : Value}, k av H = some x → Inv F μ S H w → VOK μ S w av v →
    ∃ μ', Inv F μ' S (resG c f1 f2 x).2 w ∧ VOK μ' S w (resG c f1 f2 x).1 v
/-- How what a call is given is told. -/
structure GAd (α : Type) where
  k : List AV → Hp → Option α
  fA : α → List AV
  fH : α → Hp
  ok : ∀ {D : Cx} {F : Fr D} {args : List AV} {H : Hp} {x : α} {μ : Nat → Value} {S : Nat → Prop} {w : World} {vs : List Value}, k args H = some x → Inv F μ S H w → VsOK μ S w args vs →
    ∃ μ', Inv F μ' S (fH x) w ∧ VsOK μ' S w (fA x) vs
def rowG {α β : Type} (a : GAd α) (d : GDec β) (F : α → Option β) : List AV → Hp → Option OutG := fun args H => match a.k args H with
  | some x => some ⟨β, F x, d.c, d.f1, d.f2⟩
  | none => none
theorem rowG_ok {D : Cx} {P : Program} {g : FuncId} {α β : Type} {a : GAd α} {d : GDec β} {F : α → Option β} (h : ∀ x r, F x = some r → GHas D P g (a.fA x) (a.fH x) (resG d.c d.f1 d.f2 r)) : RowG D P g (rowG a d F) := by
  intro args H out x ho hx
  unfold rowG at ho
  split at ho
  · rename_i y hy
    cases ho
    intro Fr μ S vals hI hV
    obtain ⟨μ', h1, h2⟩ := a.ok hy hI hV
    exact h y x hx Fr μ' S vals h1 h2
  · cases ho
theorem ghas_of {D : Cx} {P : Program} {T : Tab} {K : Nat} {g : FuncId} {fn : Func} {la : List (List Tidy)} {args : List AV} {H0 : Hp} {α : Type} {d : GDec α} {x : α} (hTab : CallOK D P T) (hf : P.funcs[g]? = some fn) (h : evFun P T 0 K fn la args H0 d.k = some x) : GHas D P g args H0 (resG d.c d.f1 d.f2 x) := by
  intro F μ S vals hI hV
  refine (evFun_ok hTab hf h hI hV).mono ?_
  rintro e w' ⟨v, av, H', μ', S', rfl, hI', hv, hk⟩
  obtain ⟨μ2, h1, h2⟩ := d.ok hk hI' hv
  exact ⟨v, μ2, S', rfl, h1, h2⟩
/-! ### operands that name things -/
structure Ag (α : Type) where
  k : List AV → Option α
  f : α → List AV
  ok : ∀ {args : List AV} {x : α} {μ μ' : Nat → Value} {S : Nat → Prop} {w : World} {vs : List Value}, k args = some x → (∀ i, Nat.blt i 2000000 = false → μ' i = μ i) → VsOK μ S w args vs → VsOK μ' S w (f x) vs
structure Sg (α : Type) where
  k : AV → Option α
  f : α → AV
  ok : ∀ {av : AV} {x : α} {μ μ' : Nat → Value} {S : Nat → Prop} {w : World} {v : Value}, k av = some x → (∀ i, Nat.blt i 2000000 = false → μ' i = μ i) → VOK μ S w av v → VOK μ' S w (f x) v
def sgOf {α : Type} (s : Sd α) : Sg α := ⟨s.k, s.f, fun h _ hv => s.ok h hv⟩
def agNil : Ag Unit := ⟨adNil.k, adNil.f, fun h _ hv => adNil.ok h hv⟩
def agOne {α : Type} (s : Sg α) : Ag α where
  k := fun l => match l with
    | [a] => s.k a
    | _ => none
  f := fun x => [s.f x]
  ok := by
    intro args x μ μ' S w vs h hm hv
    split at h
    · obtain ⟨u, us, rfl, h1, h2⟩ := hv
      exact ⟨u, us, rfl, s.ok h hm h1, h2⟩
    · cases h
def agCons {α β : Type} (s : Sg α) (t : Ag β) : Ag (α × β) where
  k := fun l => match l with
    | a :: l => (s.k a).bind fun x => (t.k l).bind fun y => some (x, y)
    | _ => none
  f := fun x => s.f x.1 :: t.f x.2
  ok := by
    intro args x μ μ' S w vs h hm hv
    split at h
    · obtain ⟨u, us, rfl, h1, h2⟩ := hv
      obtain ⟨y, h3, h⟩ := Option.bind_eq_some_iff.1 h
      obtain ⟨z, h4, h⟩ := Option.bind_eq_some_iff.1 h
      cases h
      exact ⟨u, us, rfl, s.ok h3 hm h1, t.ok h4 hm h2⟩
    · cases h
/-- the thing number p -/
def isPin (p : Nat) (a : AV) : Bool := match a with
  | .ptr j o => match Nat.beq j (2000000 + p), Nat.beq o 0 with
    | true, true => true
    | _, _ => false
  | _ => false
theorem isPin_ok {p : Nat} {a : AV} (h : isPin p a = true) : a = .ptr (2000000 + p) 0 := by
  unfold isPin at h
  split at h
  · split at h
    · rename_i h1 h2
      rw [Nat.eq_of_beq_eq_true h1, Nat.eq_of_beq_eq_true h2]
    · cases h
  · cases h
theorem pin_ge (p : Nat) : Nat.blt (2000000 + p) 2000000 = false := by
  cases h : Nat.blt (2000000 + p) 2000000 with
  | true => exact absurd (Nat.le_of_ble_eq_true h) (by omega)
  | false => rfl
/-- the thing number p, and more -/
def agPin {β : Type} (p : Nat) (t : Ag β) : Ag β where
  k := fun l => match l with
    | a :: l => match isPin p a with
      | true => t.k l
      | false => none
    | [] => none
  f := fun x => .ptr (2000000 + p) 0 :: t.f x
  ok := by
    intro args x μ μ' S w vs h hm hv
    split at h
    · split at h
      · rename_i hp
        obtain ⟨u, us, rfl, h1, h2⟩ := hv
        rw [isPin_ok hp] at h1
        refine ⟨u, us, rfl, ?_, t.ok h hm h2⟩
        rw [VOK] at h1 ⊢
        rw [hm _ (pin_ge p)]; exact h1
      · cases h
    · cases h
/-- a map that is the thing number p, and more -/
def agMap {β : Type} (p : Nat) (t : Ag β) : Ag β where
  k := fun l => match l with
    | .mp j :: l => match Nat.beq j (2000000 + p) with
      | true => t.k l
      | false => none
    | _ => none
  f := fun x => .mp (2000000 + p) :: t.f x
  ok := by
    intro args x μ μ' S w vs h hm hv
    split at h
    · split at h
      · rename_i hp
        obtain ⟨u, us, rfl, h1, h2⟩ := hv
        refine ⟨u, us, rfl, ?_, t.ok h hm h2⟩
        rw [Nat.eq_of_beq_eq_true hp] at h1
        rw [VOK] at h1 ⊢
        rw [hm _ (pin_ge p)]; exact h1
      · cases h
    · cases h
/-- an array that is the thing number p, and more -/
def agArr {β : Type} (p : Nat) (t : Ag β) : Ag β where
  k := fun l => match l with
    | .own j :: l => match Nat.beq j (2000000 + p) with
      | true => t.k l
      | false => none
    | _ => none
  f := fun x => .own (2000000 + p) :: t.f x
  ok := by
    intro args x μ μ' S w vs h hm hv
    split at h
    · split at h
      · rename_i hp
        obtain ⟨u, us, rfl, h1, h2⟩ := hv
        refine ⟨u, us, rfl, ?_, t.ok h hm h2⟩
        rw [Nat.eq_of_beq_eq_true hp] at h1
        rw [VOK] at h1 ⊢
        rw [hm _ (pin_ge p)]; exact h1
      · cases h
    · cases h
/-- a function with what it holds -/
def sgFn {α : Type} (f : FuncId) (t : Ag α) : Sg α where
  k := fun a => match a with
    | .fn g l => match Nat.beq g f with
      | true => t.k l
      | false => none
    | _ => none
  f := fun x => .fn f (t.f x)
  ok := by
    intro av x μ μ' S w v h hm hv
    split at h
    · split at h
      · rename_i hb
        cases Nat.eq_of_beq_eq_true hb
        obtain ⟨us, rfl, h1⟩ := hv
        exact ⟨us, rfl, t.ok h hm h1⟩
      · cases h
    · cases h
/-- this number -/
def sdLit (k : IntKind) (n : Int) : Sd Unit where
  k := fun a => match a with
    | .sc (.int k' x) => if k' = k ∧ x = n then some () else none
    | _ => none
  f := fun _ => I k n
  ok := by
    intro av x μ μ' S w v h hv
    split at h
    · split at h
      · rename_i e
        obtain ⟨rfl, rfl⟩ := e
        exact hv
      · cases h
    · cases h
/-- no thing -/
def sdNil : Sd Unit where
  k := fun a => match a with
    | .sc (.pointer none) => some ()
    | _ => none
  f := fun _ => .sc (.pointer none)
  ok := by
    intro av x μ μ' S w v h hv
    split at h
    · exact hv
    · cases h
/-- the row that is nil, as it stands in the text -/
def isNilS : AV → Bool
  | .sc (.slice none 0 0) => true
  | _ => false
theorem isNilS_ok {a : AV} (h : isNilS a = true) : a = .sc (.slice none 0 0) := by
  unfold isNilS at h
  split at h
  · rfl
  · cases h
def sdNilS : Sd Unit where
  k := fun a => match isNilS a with
    | true => some ()
    | false => none
  f := fun _ => .sc (.slice none 0 0)
  ok := by
    intro av x μ μ' S w v h hv
    split at h
    · rename_i hn
      rw [isNilS_ok hn] at hv
      exact hv
    · cases h
/-- some in a row -/
def sdT {α : Type} (t : Ad α) : Sd α where
  k := fun a => match a with
    | .tup l => t.k l
    | _ => none
  f := fun x => .tup (t.f x)
  ok := by
    intro av x μ μ' S w v h hv
    split at h
    · obtain ⟨us, rfl, h1⟩ := hv
      exact ⟨us, rfl, t.ok h h1⟩
    · cases h
/-- no result -/
def decU : Dec Unit := dec1 (sdT adNil)
def gad {α : Type} (a : Ag α) (B : OB) : GAd (α × BEl B) where
  k := fun args H => (a.k args).bind fun y => match rdB H (fun c => c) B with
    | some (x, m) => match okO m with
      | true => some (y, x)
      | false => none
    | none => none
  fA := fun x => a.f x.1
  fH := fun x => hpB B x.2
  ok := by
    intro D F args H x μ S w vs h hI hV
    obtain ⟨y, hy, h⟩ := Option.bind_eq_some_iff.1 h
    split at h
    · rename_i z m hz
      split at h
      · rename_i hok
        cases h
        exact ⟨muO m μ, rdB_inv hz hok hI, a.ok hy (fun i hi => muO_pin hok hi) hV⟩
      · cases h
    · cases h
/-- a result of data, and the things then -/
def gdec {β : Type} (B : OB) (s : Sd β) : GDec (β × BEl B) where
  k := fun av H => (s.k av).bind fun y => match rdB H (fun c => c) B with
    | some (x, m) => match okO m with
      | true => some (y, x)
      | false => none
    | none => none
  c := none
  f1 := fun x => (s.f x.1, hpB B x.2)
  f2 := fun x => (s.f x.1, hpB B x.2)
  ok := by
    intro D F av H x μ S w v h hI hv
    obtain ⟨y, hy, h⟩ := Option.bind_eq_some_iff.1 h
    split at h
    · rename_i z m hz
      split at h
      · rename_i hok
        cases h
        exact ⟨muO m μ, rdB_inv hz hok hI, s.ok hy hv⟩
      · cases h
    · cases h
def srcN (j c : Nat) : Nat := match Nat.beq c 300000 with
  | true => j
  | false => c
/-- a new thing, told -/
theorem new_ok' {D : Cx} {F : Fr D} {H : Hp} {j : Nat} {B : OB} {T : TypeId} {s : OS} {x : BEl (.two (.one 300000 300001 T s) B)} {m : List (Nat × Option Nat)} {μ : Nat → Value} {S : Nat → Prop} {w : World} {v : Value} (hz : rdB H (srcN j) (.two (.one 300000 300001 T s) B) = some (x, m)) (hok : okO m = true) (hI : Inv F μ S H w) (hv : VOK μ S w (.ptr j 0) v) :
    Inv F (muO m μ) S (hpB (.two (.one 300000 300001 T s) B) x) w ∧ VOK (muO m μ) S w (.ptr 300000 0) v := by
  refine ⟨rdB_inv hz hok hI, ?_⟩
  have hlk : lookO m 300000 = some (some j) := by
    unfold rdB at hz
    split at hz
    · rename_i x1 m1 hx
      split at hz
      · rename_i y m2 hy
        cases hz
        unfold rdB at hx
        split at hx
        · split at hx
          · split at hx
            · have hx := Option.some.inj hx
              obtain ⟨rfl, rfl⟩ := Prod.mk.inj hx
              rfl
            · cases hx
          · cases hx
        · cases hx
      · cases hz
    · cases hz
  rw [VOK] at hv ⊢
  have : muO m μ 300000 = μ j := by unfold muO; rw [hlk]
  rw [this]; exact hv
/-- a new thing or none, data, and the things then -/
def gnew {β : Type} (B : OB) (T : TypeId) (s : OS) (q : Sd β) : GDec (Bool × OEl s × β × BEl B) where
  k := fun av H => match av with
    | .tup [.ptr j 0, b] => (q.k b).bind fun y => match rdB H (srcN j) (.two (.one 300000 300001 T s) B) with
      | some (x, m) => match okO m with
        | true => some (true, x.1, y, x.2)
        | false => none
      | none => none
    | .tup [.sc (.pointer none), b] => (q.k b).bind fun y => match rdB H (fun c => c) B with
      | some (x, m) => match okO m with
        | true => some (false, zOS s, y, x)
        | false => none
      | none => none
    | _ => none
  c := some fun x => x.1
  f1 := fun x => (.tup [.ptr 300000 0, q.f x.2.2.1], hpB (.two (.one 300000 300001 T s) B) (x.2.1, x.2.2.2))
  f2 := fun x => (.tup [.sc (.pointer none), q.f x.2.2.1], hpB B x.2.2.2)
  ok := by
    intro D F av H x μ S w v h hI hv
    split at h
    · rename_i j b
      obtain ⟨y, hy, h⟩ := Option.bind_eq_some_iff.1 h
      split at h
      · rename_i z m hz
        split at h
        · rename_i hok
          cases h
          obtain ⟨us, rfl, u1, us1, rfl, hu1, u2, us2, rfl, hu2, hu3⟩ := hv
          obtain ⟨h1, h2⟩ := new_ok' hz hok hI hu1
          exact ⟨muO m μ, h1, ⟨_, rfl, u1, _, rfl, h2, u2, _, rfl, q.ok hy hu2, hu3⟩⟩
        · cases h
      · cases h
    · obtain ⟨y, hy, h⟩ := Option.bind_eq_some_iff.1 h
      split at h
      · rename_i z m hz
        split at h
        · rename_i hok
          cases h
          obtain ⟨us, rfl, u1, us1, rfl, hu1, u2, us2, rfl, hu2, hu3⟩ := hv
          exact ⟨muO m μ, rdB_inv hz hok hI, ⟨_, rfl, u1, _, rfl, hu1, u2, _, rfl, q.ok hy hu2, hu3⟩⟩
        · cases h
      · cases h
    · cases h
/-- a new thing or none, and the things then -/
def gnew1 (B : OB) (T : TypeId) (s : OS) : GDec (Bool × OEl s × BEl B) where
  k := fun av H => match av with
    | .ptr j 0 => match rdB H (srcN j) (.two (.one 300000 300001 T s) B) with
      | some (x, m) => match okO m with
        | true => some (true, x.1, x.2)
        | false => none
      | none => none
    | .sc (.pointer none) => match rdB H (fun c => c) B with
      | some (x, m) => match okO m with
        | true => some (false, zOS s, x)
        | false => none
      | none => none
    | _ => none
  c := some fun x => x.1
  f1 := fun x => (.ptr 300000 0, hpB (.two (.one 300000 300001 T s) B) (x.2.1, x.2.2))
  f2 := fun x => (.sc (.pointer none), hpB B x.2.2)
  ok := by
    intro D F av H x μ S w v h hI hv
    split at h
    · rename_i j
      split at h
      · rename_i z m hz
        split at h
        · rename_i hok
          cases h
          obtain ⟨h1, h2⟩ := new_ok' hz hok hI hv
          exact ⟨muO m μ, h1, h2⟩
        · cases h
      · cases h
    · split at h
      · rename_i z m hz
        split at h
        · rename_i hok
          cases h
          exact ⟨muO m μ, rdB_inv hz hok hI, hv⟩
        · cases h
      · cases h
    · cases h
/-- a new thing, data, and the things then -/
def gmake {β : Type} (B : OB) (T : TypeId) (s : OS) (q : Sd β) : GDec (OEl s × β × BEl B) where
  k := fun av H => match av with
    | .tup [.ptr j 0, b] => (q.k b).bind fun y => match rdB H (srcN j) (.two (.one 300000 300001 T s) B) with
      | some (x, m) => match okO m with
        | true => some (x.1, y, x.2)
        | false => none
      | none => none
    | _ => none
  c := none
  f1 := fun x => (.tup [.ptr 300000 0, q.f x.2.1], hpB (.two (.one 300000 300001 T s) B) (x.1, x.2.2))
  f2 := fun x => (.tup [.ptr 300000 0, q.f x.2.1], hpB (.two (.one 300000 300001 T s) B) (x.1, x.2.2))
  ok := by
    intro D F av H x μ S w v h hI hv
    split at h
    · rename_i j b
      obtain ⟨y, hy, h⟩ := Option.bind_eq_some_iff.1 h
      split at h
      · rename_i z m hz
        split at h
        · rename_i hok
          cases h
          obtain ⟨us, rfl, u1, us1, rfl, hu1, u2, us2, rfl, hu2, hu3⟩ := hv
          obtain ⟨h1, h2⟩ := new_ok' hz hok hI hu1
          exact ⟨muO m μ, h1, ⟨_, rfl, u1, _, rfl, h2, u2, _, rfl, q.ok hy hu2, hu3⟩⟩
        · cases h
      · cases h
    · cases h
/-- a new thing, and the things then -/
def gmake1 (B : OB) (T : TypeId) (s : OS) : GDec (OEl s × BEl B) where
  k := fun av H => match av with
    | .ptr j 0 => match rdB H (srcN j) (.two (.one 300000 300001 T s) B) with
      | some (x, m) => match okO m with
        | true => some x
        | false => none
      | none => none
    | _ => none
  c := none
  f1 := fun x => (.ptr 300000 0, hpB (.two (.one 300000 300001 T s) B) x)
  f2 := fun x => (.ptr 300000 0, hpB (.two (.one 300000 300001 T s) B) x)
  ok := by
    intro D F av H x μ S w v h hI hv
    split at h
    · rename_i j
      split at h
      · rename_i z m hz
        split at h
        · rename_i hok
          cases h
          obtain ⟨h1, h2⟩ := new_ok' hz hok hI hv
          exact ⟨muO m μ, h1, h2⟩
        · cases h
      · cases h
    · cases h
end Go.Proofs.YtigekmmdflaeaaaDoorE
