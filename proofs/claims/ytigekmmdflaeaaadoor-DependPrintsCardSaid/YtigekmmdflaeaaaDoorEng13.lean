/- The engine, part 13: a loop by itself. -/
import Derived.Test.YtigekmmdflaeaaaDoorEng12
set_option linter.all false
namespace Go.Proofs.YtigekmmdflaeaaaDoorE
open Go
set_option linter.unusedVariables false
section
variable {R : Type}
/-- The loop number i of a code: its body, what is tidied at its head, what its body's loops are tidied by. -/
def loopAt : Code → List (List Tidy) → Nat → Option (Code × List Tidy × List (List Tidy))
  | .seq a b, la, i => match Nat.blt i (nloops a) with
    | true => loopAt a la i
    | false => loopAt b (la.drop (nloops a)) (i - nloops a)
  | .cond _ a b, la, i => match Nat.blt i (nloops a) with
    | true => loopAt a la i
    | false => loopAt b (la.drop (nloops a)) (i - nloops a)
  | .block _ b, la, i => loopAt b la i
  | .scope b, la, i => loopAt b la i
  | .loop b, la, i => match la with
    | nrm :: la' => match i with
      | 0 => some (b, nrm, la')
      | i + 1 => loopAt b la' i
    | [] => none
  | _, _, _ => none
/-- What stands behind the loop number i; ns: the rounds that the loops around it have left. -/
noncomputable def kontAt (P : Program) (T : Tab) (base K : Nat) : Code → List (List Tidy) → Nat → List Nat → (X → St → Option R) → X → St → Option R
  | .seq a b, la, i, ns, k => match Nat.blt i (nloops a) with
    | true => kontAt P T base K a la i ns fun x st' => match x with
      | .norm => evCode P T base K b (la.drop (nloops a)) st' k
      | .exit j => k (.exit j) st'
      | .ret => k .ret st'
    | false => kontAt P T base K b (la.drop (nloops a)) (i - nloops a) ns k
  | .cond _ a b, la, i, ns, k => match Nat.blt i (nloops a) with
    | true => kontAt P T base K a la i ns k
    | false => kontAt P T base K b (la.drop (nloops a)) (i - nloops a) ns k
  | .block id b, la, i, ns, k => kontAt P T base K b la i ns fun x st' => match x with
    | .norm => k .norm st'
    | .exit j => match Nat.beq j id with
      | true => k .norm st'
      | false => k (.exit j) st'
    | .ret => k .ret st'
  | .scope b, la, i, ns, k => kontAt P T base K b la i ns k
  | .loop b, la, i, ns, k => match la with
    | nrm :: la' => match i with
      | 0 => k
      | i + 1 => match ns with
        | n :: ns => kontAt P T base K b la' i ns fun x st' => match x with
          | .norm => iter (evCode P T base K b la') nrm n (tidy nrm st') k
          | .exit j => k (.exit j) st'
          | .ret => k .ret st'
        | [] => k
    | [] => k
  | _, _, _, _, k => k
noncomputable def endK (P : Program) (c : Code) (la : List (List Tidy)) (fn : Func) (k : AV → Hp → Option R) : X → St → Option R := fun x st => match x with
    | .exit _ => none
    | .norm => match resAV P (atEnd c la st) fn.results.toList with
      | some l => k (resOne l) (atEnd c la st).H
      | none => none
    | .ret => match resAV P (atEnd c la st) fn.results.toList with
      | some l => k (resOne l) (atEnd c la st).H
      | none => none
/-- The loop number i of a function, from a state on, with n rounds left. -/
noncomputable def loopN (P : Program) (T : Tab) (base K : Nat) (fn : Func) (la : List (List Tidy)) (k : AV → Hp → Option R) (i : Nat) (ns : List Nat) (n : Nat) (st : St) : Option R :=
  match fn.body with
  | some c => match loopAt c la i with
    | some (b, nrm, la') => iter (evCode P T base K b la') nrm n st (kontAt P T base K c la i ns (endK P c la fn k))
    | none => none
  | none => none
end
/-- slots by number -/
def getS (i : Nat) : List (Nat × AV) → AV
  | [] => .top
  | (j, a) :: l => match Nat.beq i j with
    | true => a
    | false => getS i l
def slots (n : Nat) (l : List (Nat × AV)) : List AV := (List.range n).map fun i => getS i l
end Go.Proofs.YtigekmmdflaeaaaDoorE
