import Derived.Test.YtigekmmdflaeaaaDoorS08F8
set_option linter.all false
namespace Go.Proofs.YtigekmmdflaeaaaDoorE
open Go Go.Proofs
set_option maxRecDepth 100000
set_option linter.unusedVariables false
variable {D : Cx}
/-! slices.partialInsertionSortOrdered[uint32] -/
noncomputable def tab68 (F69 : Int → Int → Option (Bool)) : Tab := (Tab.none.add 69 (row ad69 dq69 fun p => F69 p.1 p.2))
noncomputable def la68 : List (List Tidy) := [[.only [0, 1, 2, 7, 8], .ids [], .top [1000000]], [.only [0, 1, 2, 7, 8], .ids [77, 115], .top [1000001]], [.only [0, 1, 2, 7, 8, 9], .ids [30, 115], .top [1000002]], [.only [0, 1, 2, 7, 8, 10], .ids [30, 77], .top [1000003]]]
noncomputable def hd68_0 (a0 : Int) (a1 : Int) (o0 : List Int) (ps7 : Int) (ps8 : Int) (ph2000000 : List (Int)) : St := { tm := slots (nat_lit 133) [(nat_lit 0, AV.own (nat_lit 2000000)), (nat_lit 1, AV.sc (Value.int IntKind.i64 a0)), (nat_lit 2, AV.sc (Value.int IntKind.i64 a1)), (nat_lit 7, AV.sc (Value.int IntKind.i64 ps7)), (nat_lit 8, AV.sc (Value.int IntKind.i64 ps8))], H := [(nat_lit 2000000, ABlk.arr (nat_lit 38) (Ty.int IntKind.u32) ph2000000)] }
noncomputable def hd68_1 (a0 : Int) (a1 : Int) (o0 : List Int) (ps7 : Int) (ps8 : Int) (ph2000000 : List (Int)) : St := { tm := slots (nat_lit 133) [(nat_lit 0, AV.own (nat_lit 2000000)), (nat_lit 1, AV.sc (Value.int IntKind.i64 a0)), (nat_lit 2, AV.sc (Value.int IntKind.i64 a1)), (nat_lit 7, AV.sc (Value.int IntKind.i64 ps7)), (nat_lit 8, AV.sc (Value.int IntKind.i64 ps8))], H := [(nat_lit 2000000, ABlk.arr (nat_lit 38) (Ty.int IntKind.u32) ph2000000)] }
noncomputable def hd68_2 (a0 : Int) (a1 : Int) (o0 : List Int) (ps7 : Int) (ps8 : Int) (ps9 : Int) (ph2000000 : List (Int)) : St := { tm := slots (nat_lit 133) [(nat_lit 0, AV.own (nat_lit 2000000)), (nat_lit 1, AV.sc (Value.int IntKind.i64 a0)), (nat_lit 2, AV.sc (Value.int IntKind.i64 a1)), (nat_lit 7, AV.sc (Value.int IntKind.i64 ps7)), (nat_lit 8, AV.sc (Value.int IntKind.i64 ps8)), (nat_lit 9, AV.sc (Value.int IntKind.i64 ps9))], H := [(nat_lit 2000000, ABlk.arr (nat_lit 38) (Ty.int IntKind.u32) ph2000000)] }
noncomputable def hd68_3 (a0 : Int) (a1 : Int) (o0 : List Int) (ps7 : Int) (ps8 : Int) (ps10 : Int) (ph2000000 : List (Int)) : St := { tm := slots (nat_lit 133) [(nat_lit 0, AV.own (nat_lit 2000000)), (nat_lit 1, AV.sc (Value.int IntKind.i64 a0)), (nat_lit 2, AV.sc (Value.int IntKind.i64 a1)), (nat_lit 7, AV.sc (Value.int IntKind.i64 ps7)), (nat_lit 8, AV.sc (Value.int IntKind.i64 ps8)), (nat_lit 10, AV.sc (Value.int IntKind.i64 ps10))], H := [(nat_lit 2000000, ABlk.arr (nat_lit 38) (Ty.int IntKind.u32) ph2000000)] }
noncomputable def b68_3 (F69 : Int → Int → Option (Bool)) (K : Nat) (a0 : Int) (a1 : Int) (o0 : List Int) (r0 : Int → Int → (List (Int)) → Option (Bool × List Int)) (r3 : Int → Int → Int → (List (Int)) → Option (Bool × List Int)) (ps7 : Int) (ps8 : Int) (ps10 : Int) (ph2000000 : List (Int)) : Option (Bool × List Int) :=(if decide (ps10 < a1) = true then (if decide ((0 : Int) ≤ ps10 ∧ ps10 < (↑ph2000000.length : Int)) = true then (if decide ((0 : Int) ≤ IntKind.i64.wrap (ps10 - (1 : Int)) ∧ IntKind.i64.wrap (ps10 - (1 : Int)) < (↑ph2000000.length : Int)) = true then 
     (Option.bind (F69 (ph2000000.getD ps10.toNat (zEl (Ty.int IntKind.u32))) (ph2000000.getD (IntKind.i64.wrap (ps10 - (1 : Int))).toNat (zEl (Ty.int IntKind.u32)))) fun x2 => (if (!x2) = true then r0 (ps7) (IntKind.i64.wrap (ps8 + (1 : Int))) (ph2000000)
      else (if decide ((0 : Int) ≤ IntKind.i64.wrap (ps10 - (1 : Int)) ∧ IntKind.i64.wrap (ps10 - (1 : Int)) < (↑ph2000000.length : Int)) = true then (if decide ((0 : Int) ≤ ps10 ∧ ps10 < (↑ph2000000.length : Int)) = true then (if decide ((0 : Int) ≤ ps10 ∧ ps10 < (↑ph2000000.length : Int)) = true then (if decide ((0 : Int) ≤ IntKind.i64.wrap (ps10 - (1 : Int)) ∧ IntKind.i64.wrap (ps10 - (1 : Int)) < (↑(ph2000000.set ps10.toNat (ph2000000.getD (IntKind.i64.wrap (ps10 - (1 : Int))).toNat (zEl (Ty.int IntKind.u32)))).length : Int)) = true then r3 (ps7) (ps8) (IntKind.i64.wrap (ps10 + (1 : Int))) ((ph2000000.set ps10.toNat (ph2000000.getD (IntKind.i64.wrap (ps10 - (1 : Int))).toNat (zEl (Ty.int IntKind.u32)))).set (IntKind.i64.wrap (ps10 - (1 : Int))).toNat (ph2000000.getD ps10.toNat (zEl (Ty.int IntKind.u32))))
          else none)
         else none)
        else none)
       else none)))
    else none)
   else none)
  else r0 (ps7) (IntKind.i64.wrap (ps8 + (1 : Int))) (ph2000000))
noncomputable def L68_3 (F69 : Int → Int → Option (Bool)) (K : Nat) (a0 : Int) (a1 : Int) (o0 : List Int) (r0 : Int → Int → (List (Int)) → Option (Bool × List Int)) : Nat → Int → Int → Int → (List (Int)) → Option (Bool × List Int)
  | 0, _, _, _, _ => none
  | n + 1, ps7, ps8, ps10, ph2000000 => b68_3 F69 K a0 a1 o0 r0 (L68_3 F69 K a0 a1 o0 r0 n) ps7 ps8 ps10 ph2000000
noncomputable def b68_2 (F69 : Int → Int → Option (Bool)) (K : Nat) (a0 : Int) (a1 : Int) (o0 : List Int) (r0 : Int → Int → (List (Int)) → Option (Bool × List Int)) (r2 : Int → Int → Int → (List (Int)) → Option (Bool × List Int)) (l3 : Nat → Int → Int → Int → (List (Int)) → Option (Bool × List Int)) (ps7 : Int) (ps8 : Int) (ps9 : Int) (ph2000000 : List (Int)) : Option (Bool × List Int) :=(if decide (ps9 ≥ (1 : Int)) = true then (if decide ((0 : Int) ≤ ps9 ∧ ps9 < (↑ph2000000.length : Int)) = true then (if decide ((0 : Int) ≤ IntKind.i64.wrap (ps9 - (1 : Int)) ∧ IntKind.i64.wrap (ps9 - (1 : Int)) < (↑ph2000000.length : Int)) = true then 
     (Option.bind (F69 (ph2000000.getD ps9.toNat (zEl (Ty.int IntKind.u32))) (ph2000000.getD (IntKind.i64.wrap (ps9 - (1 : Int))).toNat (zEl (Ty.int IntKind.u32)))) fun x1 => (if (!x1) = true then (if decide (IntKind.i64.wrap (a1 - ps7) ≥ (2 : Int)) = true then l3 K (ps7) (ps8) (IntKind.i64.wrap (ps7 + (1 : Int))) (ph2000000)
       else r0 (ps7) (IntKind.i64.wrap (ps8 + (1 : Int))) (ph2000000))
      else (if decide ((0 : Int) ≤ IntKind.i64.wrap (ps9 - (1 : Int)) ∧ IntKind.i64.wrap (ps9 - (1 : Int)) < (↑ph2000000.length : Int)) = true then (if decide ((0 : Int) ≤ ps9 ∧ ps9 < (↑ph2000000.length : Int)) = true then (if decide ((0 : Int) ≤ ps9 ∧ ps9 < (↑ph2000000.length : Int)) = true then (if decide ((0 : Int) ≤ IntKind.i64.wrap (ps9 - (1 : Int)) ∧ IntKind.i64.wrap (ps9 - (1 : Int)) < (↑(ph2000000.set ps9.toNat (ph2000000.getD (IntKind.i64.wrap (ps9 - (1 : Int))).toNat (zEl (Ty.int IntKind.u32)))).length : Int)) = true then r2 (ps7) (ps8) (IntKind.i64.wrap (ps9 - (1 : Int))) ((ph2000000.set ps9.toNat (ph2000000.getD (IntKind.i64.wrap (ps9 - (1 : Int))).toNat (zEl (Ty.int IntKind.u32)))).set (IntKind.i64.wrap (ps9 - (1 : Int))).toNat (ph2000000.getD ps9.toNat (zEl (Ty.int IntKind.u32))))
          else none)
         else none)
        else none)
       else none)))
    else none)
   else none)
  else (if decide (IntKind.i64.wrap (a1 - ps7) ≥ (2 : Int)) = true then l3 K (ps7) (ps8) (IntKind.i64.wrap (ps7 + (1 : Int))) (ph2000000)
   else r0 (ps7) (IntKind.i64.wrap (ps8 + (1 : Int))) (ph2000000)))
noncomputable def L68_2 (F69 : Int → Int → Option (Bool)) (K : Nat) (a0 : Int) (a1 : Int) (o0 : List Int) (r0 : Int → Int → (List (Int)) → Option (Bool × List Int)) : Nat → Int → Int → Int → (List (Int)) → Option (Bool × List Int)
  | 0, _, _, _, _ => none
  | n + 1, ps7, ps8, ps9, ph2000000 => b68_2 F69 K a0 a1 o0 r0 (L68_2 F69 K a0 a1 o0 r0 n) (L68_3 F69 K a0 a1 o0 r0) ps7 ps8 ps9 ph2000000
noncomputable def b68_1 (F69 : Int → Int → Option (Bool)) (K : Nat) (a0 : Int) (a1 : Int) (o0 : List Int) (r0 : Int → Int → (List (Int)) → Option (Bool × List Int)) (r1 : Int → Int → (List (Int)) → Option (Bool × List Int)) (l2 : Nat → Int → Int → Int → (List (Int)) → Option (Bool × List Int)) (l3 : Nat → Int → Int → Int → (List (Int)) → Option (Bool × List Int)) (ps7 : Int) (ps8 : Int) (ph2000000 : List (Int)) : Option (Bool × List Int) :=(if decide (ps7 < a1) = true then (if decide ((0 : Int) ≤ ps7 ∧ ps7 < (↑ph2000000.length : Int)) = true then (if decide ((0 : Int) ≤ IntKind.i64.wrap (ps7 - (1 : Int)) ∧ IntKind.i64.wrap (ps7 - (1 : Int)) < (↑ph2000000.length : Int)) = true then 
     (Option.bind (F69 (ph2000000.getD ps7.toNat (zEl (Ty.int IntKind.u32))) (ph2000000.getD (IntKind.i64.wrap (ps7 - (1 : Int))).toNat (zEl (Ty.int IntKind.u32)))) fun x0 => (if (!x0) = true then r1 (IntKind.i64.wrap (ps7 + (1 : Int))) (ps8) (ph2000000)
      else (if (ps7 == a1) = true then some ((true, ph2000000))
       else (if decide (IntKind.i64.wrap (a1 - a0) < (50 : Int)) = true then some ((false, ph2000000))
        else (if decide ((0 : Int) ≤ IntKind.i64.wrap (ps7 - (1 : Int)) ∧ IntKind.i64.wrap (ps7 - (1 : Int)) < (↑ph2000000.length : Int)) = true then (if decide ((0 : Int) ≤ ps7 ∧ ps7 < (↑ph2000000.length : Int)) = true then (if decide ((0 : Int) ≤ ps7 ∧ ps7 < (↑ph2000000.length : Int)) = true then (if decide ((0 : Int) ≤ IntKind.i64.wrap (ps7 - (1 : Int)) ∧ IntKind.i64.wrap (ps7 - (1 : Int)) < (↑(ph2000000.set ps7.toNat (ph2000000.getD (IntKind.i64.wrap (ps7 - (1 : Int))).toNat (zEl (Ty.int IntKind.u32)))).length : Int)) = true then (if decide (IntKind.i64.wrap (ps7 - a0) ≥ (2 : Int)) = true then l2 K (ps7) (ps8) (IntKind.i64.wrap (ps7 - (1 : Int))) ((ph2000000.set ps7.toNat (ph2000000.getD (IntKind.i64.wrap (ps7 - (1 : Int))).toNat (zEl (Ty.int IntKind.u32)))).set (IntKind.i64.wrap (ps7 - (1 : Int))).toNat (ph2000000.getD ps7.toNat (zEl (Ty.int IntKind.u32))))
             else (if decide (IntKind.i64.wrap (a1 - ps7) ≥ (2 : Int)) = true then l3 K (ps7) (ps8) (IntKind.i64.wrap (ps7 + (1 : Int))) ((ph2000000.set ps7.toNat (ph2000000.getD (IntKind.i64.wrap (ps7 - (1 : Int))).toNat (zEl (Ty.int IntKind.u32)))).set (IntKind.i64.wrap (ps7 - (1 : Int))).toNat (ph2000000.getD ps7.toNat (zEl (Ty.int IntKind.u32))))
              else r0 (ps7) (IntKind.i64.wrap (ps8 + (1 : Int))) ((ph2000000.set ps7.toNat (ph2000000.getD (IntKind.i64.wrap (ps7 - (1 : Int))).toNat (zEl (Ty.int IntKind.u32)))).set (IntKind.i64.wrap (ps7 - (1 : Int))).toNat (ph2000000.getD ps7.toNat (zEl (Ty.int IntKind.u32))))))
            else none)
           else none)
          else none)
         else none)))))
    else none)
   else none)
  else (if (ps7 == a1) = true then some ((true, ph2000000))
   else (if decide (IntKind.i64.wrap (a1 - a0) < (50 : Int)) = true then some ((false, ph2000000))
    else (if decide ((0 : Int) ≤ IntKind.i64.wrap (ps7 - (1 : Int)) ∧ IntKind.i64.wrap (ps7 - (1 : Int)) < (↑ph2000000.length : Int)) = true then (if decide ((0 : Int) ≤ ps7 ∧ ps7 < (↑ph2000000.length : Int)) = true then (if decide ((0 : Int) ≤ ps7 ∧ ps7 < (↑ph2000000.length : Int)) = true then (if decide ((0 : Int) ≤ IntKind.i64.wrap (ps7 - (1 : Int)) ∧ IntKind.i64.wrap (ps7 - (1 : Int)) < (↑(ph2000000.set ps7.toNat (ph2000000.getD (IntKind.i64.wrap (ps7 - (1 : Int))).toNat (zEl (Ty.int IntKind.u32)))).length : Int)) = true then (if decide (IntKind.i64.wrap (ps7 - a0) ≥ (2 : Int)) = true then l2 K (ps7) (ps8) (IntKind.i64.wrap (ps7 - (1 : Int))) ((ph2000000.set ps7.toNat (ph2000000.getD (IntKind.i64.wrap (ps7 - (1 : Int))).toNat (zEl (Ty.int IntKind.u32)))).set (IntKind.i64.wrap (ps7 - (1 : Int))).toNat (ph2000000.getD ps7.toNat (zEl (Ty.int IntKind.u32))))
         else (if decide (IntKind.i64.wrap (a1 - ps7) ≥ (2 : Int)) = true then l3 K (ps7) (ps8) (IntKind.i64.wrap (ps7 + (1 : Int))) ((ph2000000.set ps7.toNat (ph2000000.getD (IntKind.i64.wrap (ps7 - (1 : Int))).toNat (zEl (Ty.int IntKind.u32)))).set (IntKind.i64.wrap (ps7 - (1 : Int))).toNat (ph2000000.getD ps7.toNat (zEl (Ty.int IntKind.u32))))
          else r0 (ps7) (IntKind.i64.wrap (ps8 + (1 : Int))) ((ph2000000.set ps7.toNat (ph2000000.getD (IntKind.i64.wrap (ps7 - (1 : Int))).toNat (zEl (Ty.int IntKind.u32)))).set (IntKind.i64.wrap (ps7 - (1 : Int))).toNat (ph2000000.getD ps7.toNat (zEl (Ty.int IntKind.u32))))))
        else none)
       else none)
      else none)
     else none))))
noncomputable def L68_1 (F69 : Int → Int → Option (Bool)) (K : Nat) (a0 : Int) (a1 : Int) (o0 : List Int) (r0 : Int → Int → (List (Int)) → Option (Bool × List Int)) : Nat → Int → Int → (List (Int)) → Option (Bool × List Int)
  | 0, _, _, _ => none
  | n + 1, ps7, ps8, ph2000000 => b68_1 F69 K a0 a1 o0 r0 (L68_1 F69 K a0 a1 o0 r0 n) (L68_2 F69 K a0 a1 o0 r0) (L68_3 F69 K a0 a1 o0 r0) ps7 ps8 ph2000000
noncomputable def b68_0 (F69 : Int → Int → Option (Bool)) (K : Nat) (a0 : Int) (a1 : Int) (o0 : List Int) (r0 : Int → Int → (List (Int)) → Option (Bool × List Int)) (l1 : Nat → Int → Int → (List (Int)) → Option (Bool × List Int)) (ps7 : Int) (ps8 : Int) (ph2000000 : List (Int)) : Option (Bool × List Int) :=(if decide (ps8 < (5 : Int)) = true then l1 K (ps7) (ps8) (ph2000000)
  else some ((false, ph2000000)))
noncomputable def L68_0 (F69 : Int → Int → Option (Bool)) (K : Nat) (a0 : Int) (a1 : Int) (o0 : List Int) : Nat → Int → Int → (List (Int)) → Option (Bool × List Int)
  | 0, _, _, _ => none
  | n + 1, ps7, ps8, ph2000000 => b68_0 F69 K a0 a1 o0 (L68_0 F69 K a0 a1 o0 n) (L68_1 F69 K a0 a1 o0 (L68_0 F69 K a0 a1 o0 n)) ps7 ps8 ph2000000
noncomputable def t68 (F69 : Int → Int → Option (Bool)) (K : Nat) (a0 : Int) (a1 : Int) (o0 : List Int) (l0 : Nat → Int → Int → (List (Int)) → Option (Bool × List Int)) : Option (Bool × List Int) := l0 K (IntKind.i64.wrap (a0 + (1 : Int))) ((0 : Int)) (o0)
noncomputable def G68 (F69 : Int → Int → Option (Bool)) (K : Nat) (a0 : Int) (a1 : Int) (o0 : List Int) : Option (Bool × List Int) := t68 F69 K a0 a1 o0 (L68_0 F69 K a0 a1 o0)
theorem lp68_3 (F69 : Int → Int → Option (Bool)) (K : Nat) (a0 : Int) (a1 : Int) (o0 : List Int) : ∀ (m0 : Nat) (n : Nat) (ps7 : Int) (ps8 : Int) (ps10 : Int) (ph2000000 : List (Int)), loopN Tryd.prog (tab68 F69) 0 K Tryd.f68 la68 gq68.k 3 [m0] n (hd68_3 a0 a1 o0 ps7 ps8 ps10 ph2000000) = L68_3 F69 K a0 a1 o0 (fun q0 q1 q2 => loopN Tryd.prog (tab68 F69) 0 K Tryd.f68 la68 gq68.k 0 [] m0 (hd68_0 a0 a1 o0 q0 q1 q2)) n ps7 ps8 ps10 ph2000000
  | m0, 0, _, _, _, _ => by kernel_rfl
  | m0, n + 1, ps7, ps8, ps10, ph2000000 => by
    have h : loopN Tryd.prog (tab68 F69) 0 K Tryd.f68 la68 gq68.k 3 [m0] (n + 1) (hd68_3 a0 a1 o0 ps7 ps8 ps10 ph2000000) = b68_3 F69 K a0 a1 o0 (fun q0 q1 q2 => loopN Tryd.prog (tab68 F69) 0 K Tryd.f68 la68 gq68.k 0 [] m0 (hd68_0 a0 a1 o0 q0 q1 q2)) (fun q0 q1 q2 q3 => loopN Tryd.prog (tab68 F69) 0 K Tryd.f68 la68 gq68.k 3 [m0] n (hd68_3 a0 a1 o0 q0 q1 q2 q3)) ps7 ps8 ps10 ph2000000 := by kernel_rfl
    rw [h]
    simp only [lp68_3 F69 K a0 a1 o0 m0 n]
    rfl
theorem lp68_2 (F69 : Int → Int → Option (Bool)) (K : Nat) (a0 : Int) (a1 : Int) (o0 : List Int) : ∀ (m0 : Nat) (n : Nat) (ps7 : Int) (ps8 : Int) (ps9 : Int) (ph2000000 : List (Int)), loopN Tryd.prog (tab68 F69) 0 K Tryd.f68 la68 gq68.k 2 [m0] n (hd68_2 a0 a1 o0 ps7 ps8 ps9 ph2000000) = L68_2 F69 K a0 a1 o0 (fun q0 q1 q2 => loopN Tryd.prog (tab68 F69) 0 K Tryd.f68 la68 gq68.k 0 [] m0 (hd68_0 a0 a1 o0 q0 q1 q2)) n ps7 ps8 ps9 ph2000000
  | m0, 0, _, _, _, _ => by kernel_rfl
  | m0, n + 1, ps7, ps8, ps9, ph2000000 => by
    have h : loopN Tryd.prog (tab68 F69) 0 K Tryd.f68 la68 gq68.k 2 [m0] (n + 1) (hd68_2 a0 a1 o0 ps7 ps8 ps9 ph2000000) = b68_2 F69 K a0 a1 o0 (fun q0 q1 q2 => loopN Tryd.prog (tab68 F69) 0 K Tryd.f68 la68 gq68.k 0 [] m0 (hd68_0 a0 a1 o0 q0 q1 q2)) (fun q0 q1 q2 q3 => loopN Tryd.prog (tab68 F69) 0 K Tryd.f68 la68 gq68.k 2 [m0] n (hd68_2 a0 a1 o0 q0 q1 q2 q3)) (fun k q0 q1 q2 q3 => loopN Tryd.prog (tab68 F69) 0 K Tryd.f68 la68 gq68.k 3 [m0] k (hd68_3 a0 a1 o0 q0 q1 q2 q3)) ps7 ps8 ps9 ph2000000 := by kernel_rfl
    rw [h]
    simp only [lp68_2 F69 K a0 a1 o0 m0 n, lp68_3 F69 K a0 a1 o0 m0]
    rfl
theorem lp68_1 (F69 : Int → Int → Option (Bool)) (K : Nat) (a0 : Int) (a1 : Int) (o0 : List Int) : ∀ (m0 : Nat) (n : Nat) (ps7 : Int) (ps8 : Int) (ph2000000 : List (Int)), loopN Tryd.prog (tab68 F69) 0 K Tryd.f68 la68 gq68.k 1 [m0] n (hd68_1 a0 a1 o0 ps7 ps8 ph2000000) = L68_1 F69 K a0 a1 o0 (fun q0 q1 q2 => loopN Tryd.prog (tab68 F69) 0 K Tryd.f68 la68 gq68.k 0 [] m0 (hd68_0 a0 a1 o0 q0 q1 q2)) n ps7 ps8 ph2000000
  | m0, 0, _, _, _ => by kernel_rfl
  | m0, n + 1, ps7, ps8, ph2000000 => by
    have h : loopN Tryd.prog (tab68 F69) 0 K Tryd.f68 la68 gq68.k 1 [m0] (n + 1) (hd68_1 a0 a1 o0 ps7 ps8 ph2000000) = b68_1 F69 K a0 a1 o0 (fun q0 q1 q2 => loopN Tryd.prog (tab68 F69) 0 K Tryd.f68 la68 gq68.k 0 [] m0 (hd68_0 a0 a1 o0 q0 q1 q2)) (fun q0 q1 q2 => loopN Tryd.prog (tab68 F69) 0 K Tryd.f68 la68 gq68.k 1 [m0] n (hd68_1 a0 a1 o0 q0 q1 q2)) (fun k q0 q1 q2 q3 => loopN Tryd.prog (tab68 F69) 0 K Tryd.f68 la68 gq68.k 2 [m0] k (hd68_2 a0 a1 o0 q0 q1 q2 q3)) (fun k q0 q1 q2 q3 => loopN Tryd.prog (tab68 F69) 0 K Tryd.f68 la68 gq68.k 3 [m0] k (hd68_3 a0 a1 o0 q0 q1 q2 q3)) ps7 ps8 ph2000000 := by kernel_rfl
    rw [h]
    simp only [lp68_1 F69 K a0 a1 o0 m0 n, lp68_2 F69 K a0 a1 o0 m0, lp68_3 F69 K a0 a1 o0 m0]
    rfl
theorem lp68_0 (F69 : Int → Int → Option (Bool)) (K : Nat) (a0 : Int) (a1 : Int) (o0 : List Int) : ∀ (n : Nat) (ps7 : Int) (ps8 : Int) (ph2000000 : List (Int)), loopN Tryd.prog (tab68 F69) 0 K Tryd.f68 la68 gq68.k 0 [] n (hd68_0 a0 a1 o0 ps7 ps8 ph2000000) = L68_0 F69 K a0 a1 o0 n ps7 ps8 ph2000000
  | 0, _, _, _ => by kernel_rfl
  | n + 1, ps7, ps8, ph2000000 => by
    have h : loopN Tryd.prog (tab68 F69) 0 K Tryd.f68 la68 gq68.k 0 [] (n + 1) (hd68_0 a0 a1 o0 ps7 ps8 ph2000000) = b68_0 F69 K a0 a1 o0 (fun q0 q1 q2 => loopN Tryd.prog (tab68 F69) 0 K Tryd.f68 la68 gq68.k 0 [] n (hd68_0 a0 a1 o0 q0 q1 q2)) (fun k q0 q1 q2 => loopN Tryd.prog (tab68 F69) 0 K Tryd.f68 la68 gq68.k 1 [n] k (hd68_1 a0 a1 o0 q0 q1 q2)) ps7 ps8 ph2000000 := by kernel_rfl
    rw [h]
    simp only [lp68_0 F69 K a0 a1 o0 n, lp68_1 F69 K a0 a1 o0 n]
    rfl
theorem ev68 (F69 : Int → Int → Option (Bool)) (K : Nat) (a0 : Int) (a1 : Int) (o0 : List Int) : evFun Tryd.prog (tab68 F69) 0 K Tryd.f68 la68 [.own 2000000, I .i64 a0, I .i64 a1] (hpB ob68 o0) gq68.k = G68 F69 K a0 a1 o0 := by
  have h : evFun Tryd.prog (tab68 F69) 0 K Tryd.f68 la68 [.own 2000000, I .i64 a0, I .i64 a1] (hpB ob68 o0) gq68.k = t68 F69 K a0 a1 o0 (fun k q0 q1 q2 => loopN Tryd.prog (tab68 F69) 0 K Tryd.f68 la68 gq68.k 0 [] k (hd68_0 a0 a1 o0 q0 q1 q2)) := by kernel_rfl
  rw [h]
  simp only [lp68_0 F69 K a0 a1 o0]
  rfl
noncomputable def F68 (K : Nat) (a0 : Int) (a1 : Int) (o0 : List Int) : Option (Bool × List Int) := G68 (F69 K) K a0 a1 o0
theorem cok68 (K : Nat) : CallOK D Tryd.prog (tab68 (F69 K)) := (add_ok none_ok ent69 (ok69 K))
theorem ok68 (K : Nat) : RowG D Tryd.prog 68 (rowG (gad ag68 ob68) gq68 fun p => F68 K p.1.1 p.1.2.1 p.2) := rowG_ok fun x r h => ghas_of (cok68 K) Tryd.func68 ((ev68 (F69 K) K x.1.1 x.1.2.1 x.2).trans h)
/-! slices.partitionEqualOrdered[uint32] -/
noncomputable def tab70 (F69 : Int → Int → Option (Bool)) : Tab := (Tab.none.add 69 (row ad69 dq69 fun p => F69 p.1 p.2))
noncomputable def la70 : List (List Tidy) := [[.only [0, 1, 9, 10], .ids [], .top [1000000]], [.only [0, 1, 9, 10], .ids [58], .top [1000001]], [.only [0, 1, 9, 10], .ids [41], .top [1000002]]]
noncomputable def hd70_0 (a0 : Int) (a1 : Int) (a2 : Int) (o0 : List Int) (ps9 : Int) (ps10 : Int) (ph2000000 : List (Int)) : St := { tm := slots (nat_lit 84) [(nat_lit 0, AV.own (nat_lit 2000000)), (nat_lit 1, AV.sc (Value.int IntKind.i64 a0)), (nat_lit 9, AV.sc (Value.int IntKind.i64 ps9)), (nat_lit 10, AV.sc (Value.int IntKind.i64 ps10))], H := [(nat_lit 2000000, ABlk.arr (nat_lit 38) (Ty.int IntKind.u32) ph2000000)] }
noncomputable def hd70_1 (a0 : Int) (a1 : Int) (a2 : Int) (o0 : List Int) (ps9 : Int) (ps10 : Int) (ph2000000 : List (Int)) : St := { tm := slots (nat_lit 84) [(nat_lit 0, AV.own (nat_lit 2000000)), (nat_lit 1, AV.sc (Value.int IntKind.i64 a0)), (nat_lit 9, AV.sc (Value.int IntKind.i64 ps9)), (nat_lit 10, AV.sc (Value.int IntKind.i64 ps10))], H := [(nat_lit 2000000, ABlk.arr (nat_lit 38) (Ty.int IntKind.u32) ph2000000)] }
noncomputable def hd70_2 (a0 : Int) (a1 : Int) (a2 : Int) (o0 : List Int) (ps9 : Int) (ps10 : Int) (ph2000000 : List (Int)) : St := { tm := slots (nat_lit 84) [(nat_lit 0, AV.own (nat_lit 2000000)), (nat_lit 1, AV.sc (Value.int IntKind.i64 a0)), (nat_lit 9, AV.sc (Value.int IntKind.i64 ps9)), (nat_lit 10, AV.sc (Value.int IntKind.i64 ps10))], H := [(nat_lit 2000000, ABlk.arr (nat_lit 38) (Ty.int IntKind.u32) ph2000000)] }
noncomputable def b70_2 (F69 : Int → Int → Option (Bool)) (K : Nat) (a0 : Int) (a1 : Int) (a2 : Int) (o0 : List Int) (r0 : Int → Int → (List (Int)) → Option (Int × List Int)) (r2 : Int → Int → (List (Int)) → Option (Int × List Int)) (ps9 : Int) (ps10 : Int) (ph2000000 : List (Int)) : Option (Int × List Int) :=(if decide (ps9 ≤ ps10) = true then (if decide ((0 : Int) ≤ a0 ∧ a0 < (↑ph2000000.length : Int)) = true then (if decide ((0 : Int) ≤ ps10 ∧ ps10 < (↑ph2000000.length : Int)) = true then 
     (Option.bind (F69 (ph2000000.getD a0.toNat (zEl (Ty.int IntKind.u32))) (ph2000000.getD ps10.toNat (zEl (Ty.int IntKind.u32)))) fun x1 => (if x1 = true then r2 (ps9) (IntKind.i64.wrap (ps10 - (1 : Int))) (ph2000000)
      else (if decide (ps9 > ps10) = true then some ((ps9, ph2000000))
       else (if decide ((0 : Int) ≤ ps10 ∧ ps10 < (↑ph2000000.length : Int)) = true then (if decide ((0 : Int) ≤ ps9 ∧ ps9 < (↑ph2000000.length : Int)) = true then (if decide ((0 : Int) ≤ ps9 ∧ ps9 < (↑ph2000000.length : Int)) = true then (if decide ((0 : Int) ≤ ps10 ∧ ps10 < (↑(ph2000000.set ps9.toNat (ph2000000.getD ps10.toNat (zEl (Ty.int IntKind.u32)))).length : Int)) = true then r0 (IntKind.i64.wrap (ps9 + (1 : Int))) (IntKind.i64.wrap (ps10 - (1 : Int))) ((ph2000000.set ps9.toNat (ph2000000.getD ps10.toNat (zEl (Ty.int IntKind.u32)))).set ps10.toNat (ph2000000.getD ps9.toNat (zEl (Ty.int IntKind.u32))))
           else none)
          else none)
         else none)
        else none))))
    else none)
   else none)
  else (if decide (ps9 > ps10) = true then some ((ps9, ph2000000))
   else (if decide ((0 : Int) ≤ ps10 ∧ ps10 < (↑ph2000000.length : Int)) = true then (if decide ((0 : Int) ≤ ps9 ∧ ps9 < (↑ph2000000.length : Int)) = true then (if decide ((0 : Int) ≤ ps9 ∧ ps9 < (↑ph2000000.length : Int)) = true then (if decide ((0 : Int) ≤ ps10 ∧ ps10 < (↑(ph2000000.set ps9.toNat (ph2000000.getD ps10.toNat (zEl (Ty.int IntKind.u32)))).length : Int)) = true then r0 (IntKind.i64.wrap (ps9 + (1 : Int))) (IntKind.i64.wrap (ps10 - (1 : Int))) ((ph2000000.set ps9.toNat (ph2000000.getD ps10.toNat (zEl (Ty.int IntKind.u32)))).set ps10.toNat (ph2000000.getD ps9.toNat (zEl (Ty.int IntKind.u32))))
       else none)
      else none)
     else none)
    else none)))
noncomputable def L70_2 (F69 : Int → Int → Option (Bool)) (K : Nat) (a0 : Int) (a1 : Int) (a2 : Int) (o0 : List Int) (r0 : Int → Int → (List (Int)) → Option (Int × List Int)) : Nat → Int → Int → (List (Int)) → Option (Int × List Int)
  | 0, _, _, _ => none
  | n + 1, ps9, ps10, ph2000000 => b70_2 F69 K a0 a1 a2 o0 r0 (L70_2 F69 K a0 a1 a2 o0 r0 n) ps9 ps10 ph2000000
noncomputable def b70_1 (F69 : Int → Int → Option (Bool)) (K : Nat) (a0 : Int) (a1 : Int) (a2 : Int) (o0 : List Int) (r0 : Int → Int → (List (Int)) → Option (Int × List Int)) (r1 : Int → Int → (List (Int)) → Option (Int × List Int)) (l2 : Nat → Int → Int → (List (Int)) → Option (Int × List Int)) (ps9 : Int) (ps10 : Int) (ph2000000 : List (Int)) : Option (Int × List Int) :=(if decide (ps9 ≤ ps10) = true then (if decide ((0 : Int) ≤ a0 ∧ a0 < (↑ph2000000.length : Int)) = true then (if decide ((0 : Int) ≤ ps9 ∧ ps9 < (↑ph2000000.length : Int)) = true then 
     (Option.bind (F69 (ph2000000.getD a0.toNat (zEl (Ty.int IntKind.u32))) (ph2000000.getD ps9.toNat (zEl (Ty.int IntKind.u32)))) fun x0 => (if (!x0) = true then r1 (IntKind.i64.wrap (ps9 + (1 : Int))) (ps10) (ph2000000)
      else l2 K (ps9) (ps10) (ph2000000)))
    else none)
   else none)
  else l2 K (ps9) (ps10) (ph2000000))
noncomputable def L70_1 (F69 : Int → Int → Option (Bool)) (K : Nat) (a0 : Int) (a1 : Int) (a2 : Int) (o0 : List Int) (r0 : Int → Int → (List (Int)) → Option (Int × List Int)) : Nat → Int → Int → (List (Int)) → Option (Int × List Int)
  | 0, _, _, _ => none
  | n + 1, ps9, ps10, ph2000000 => b70_1 F69 K a0 a1 a2 o0 r0 (L70_1 F69 K a0 a1 a2 o0 r0 n) (L70_2 F69 K a0 a1 a2 o0 r0) ps9 ps10 ph2000000
noncomputable def b70_0 (F69 : Int → Int → Option (Bool)) (K : Nat) (a0 : Int) (a1 : Int) (a2 : Int) (o0 : List Int) (r0 : Int → Int → (List (Int)) → Option (Int × List Int)) (l1 : Nat → Int → Int → (List (Int)) → Option (Int × List Int)) (ps9 : Int) (ps10 : Int) (ph2000000 : List (Int)) : Option (Int × List Int) :=l1 K (ps9) (ps10) (ph2000000)
noncomputable def L70_0 (F69 : Int → Int → Option (Bool)) (K : Nat) (a0 : Int) (a1 : Int) (a2 : Int) (o0 : List Int) : Nat → Int → Int → (List (Int)) → Option (Int × List Int)
  | 0, _, _, _ => none
  | n + 1, ps9, ps10, ph2000000 => b70_0 F69 K a0 a1 a2 o0 (L70_0 F69 K a0 a1 a2 o0 n) (L70_1 F69 K a0 a1 a2 o0 (L70_0 F69 K a0 a1 a2 o0 n)) ps9 ps10 ph2000000
noncomputable def t70 (F69 : Int → Int → Option (Bool)) (K : Nat) (a0 : Int) (a1 : Int) (a2 : Int) (o0 : List Int) (l0 : Nat → Int → Int → (List (Int)) → Option (Int × List Int)) : Option (Int × List Int) := (if decide ((0 : Int) ≤ a2 ∧ a2 < (↑o0.length : Int)) = true then (if decide ((0 : Int) ≤ a0 ∧ a0 < (↑o0.length : Int)) = true then (if decide ((0 : Int) ≤ a0 ∧ a0 < (↑o0.length : Int)) = true then (if decide ((0 : Int) ≤ a2 ∧ a2 < (↑(o0.set a0.toNat (o0.getD a2.toNat (zEl (Ty.int IntKind.u32)))).length : Int)) = true then l0 K (IntKind.i64.wrap (a0 + (1 : Int))) (IntKind.i64.wrap (a1 - (1 : Int))) ((o0.set a0.toNat (o0.getD a2.toNat (zEl (Ty.int IntKind.u32)))).set a2.toNat (o0.getD a0.toNat (zEl (Ty.int IntKind.u32))))
    else none)
   else none)
  else none)
 else none)
noncomputable def G70 (F69 : Int → Int → Option (Bool)) (K : Nat) (a0 : Int) (a1 : Int) (a2 : Int) (o0 : List Int) : Option (Int × List Int) := t70 F69 K a0 a1 a2 o0 (L70_0 F69 K a0 a1 a2 o0)
theorem lp70_2 (F69 : Int → Int → Option (Bool)) (K : Nat) (a0 : Int) (a1 : Int) (a2 : Int) (o0 : List Int) : ∀ (m0 : Nat) (n : Nat) (ps9 : Int) (ps10 : Int) (ph2000000 : List (Int)), loopN Tryd.prog (tab70 F69) 0 K Tryd.f70 la70 gq70.k 2 [m0] n (hd70_2 a0 a1 a2 o0 ps9 ps10 ph2000000) = L70_2 F69 K a0 a1 a2 o0 (fun q0 q1 q2 => loopN Tryd.prog (tab70 F69) 0 K Tryd.f70 la70 gq70.k 0 [] m0 (hd70_0 a0 a1 a2 o0 q0 q1 q2)) n ps9 ps10 ph2000000
  | m0, 0, _, _, _ => by kernel_rfl
  | m0, n + 1, ps9, ps10, ph2000000 => by
    have h : loopN Tryd.prog (tab70 F69) 0 K Tryd.f70 la70 gq70.k 2 [m0] (n + 1) (hd70_2 a0 a1 a2 o0 ps9 ps10 ph2000000) = b70_2 F69 K a0 a1 a2 o0 (fun q0 q1 q2 => loopN Tryd.prog (tab70 F69) 0 K Tryd.f70 la70 gq70.k 0 [] m0 (hd70_0 a0 a1 a2 o0 q0 q1 q2)) (fun q0 q1 q2 => loopN Tryd.prog (tab70 F69) 0 K Tryd.f70 la70 gq70.k 2 [m0] n (hd70_2 a0 a1 a2 o0 q0 q1 q2)) ps9 ps10 ph2000000 := by kernel_rfl
    rw [h]
    simp only [lp70_2 F69 K a0 a1 a2 o0 m0 n]
    rfl
theorem lp70_1 (F69 : Int → Int → Option (Bool)) (K : Nat) (a0 : Int) (a1 : Int) (a2 : Int) (o0 : List Int) : ∀ (m0 : Nat) (n : Nat) (ps9 : Int) (ps10 : Int) (ph2000000 : List (Int)), loopN Tryd.prog (tab70 F69) 0 K Tryd.f70 la70 gq70.k 1 [m0] n (hd70_1 a0 a1 a2 o0 ps9 ps10 ph2000000) = L70_1 F69 K a0 a1 a2 o0 (fun q0 q1 q2 => loopN Tryd.prog (tab70 F69) 0 K Tryd.f70 la70 gq70.k 0 [] m0 (hd70_0 a0 a1 a2 o0 q0 q1 q2)) n ps9 ps10 ph2000000
  | m0, 0, _, _, _ => by kernel_rfl
  | m0, n + 1, ps9, ps10, ph2000000 => by
    have h : loopN Tryd.prog (tab70 F69) 0 K Tryd.f70 la70 gq70.k 1 [m0] (n + 1) (hd70_1 a0 a1 a2 o0 ps9 ps10 ph2000000) = b70_1 F69 K a0 a1 a2 o0 (fun q0 q1 q2 => loopN Tryd.prog (tab70 F69) 0 K Tryd.f70 la70 gq70.k 0 [] m0 (hd70_0 a0 a1 a2 o0 q0 q1 q2)) (fun q0 q1 q2 => loopN Tryd.prog (tab70 F69) 0 K Tryd.f70 la70 gq70.k 1 [m0] n (hd70_1 a0 a1 a2 o0 q0 q1 q2)) (fun k q0 q1 q2 => loopN Tryd.prog (tab70 F69) 0 K Tryd.f70 la70 gq70.k 2 [m0] k (hd70_2 a0 a1 a2 o0 q0 q1 q2)) ps9 ps10 ph2000000 := by kernel_rfl
    rw [h]
    simp only [lp70_1 F69 K a0 a1 a2 o0 m0 n, lp70_2 F69 K a0 a1 a2 o0 m0]
    rfl
theorem lp70_0 (F69 : Int → Int → Option (Bool)) (K : Nat) (a0 : Int) (a1 : Int) (a2 : Int) (o0 : List Int) : ∀ (n : Nat) (ps9 : Int) (ps10 : Int) (ph2000000 : List (Int)), loopN Tryd.prog (tab70 F69) 0 K Tryd.f70 la70 gq70.k 0 [] n (hd70_0 a0 a1 a2 o0 ps9 ps10 ph2000000) = L70_0 F69 K a0 a1 a2 o0 n ps9 ps10 ph2000000
  | 0, _, _, _ => by kernel_rfl
  | n + 1, ps9, ps10, ph2000000 => by
    have h : loopN Tryd.prog (tab70 F69) 0 K Tryd.f70 la70 gq70.k 0 [] (n + 1) (hd70_0 a0 a1 a2 o0 ps9 ps10 ph2000000) = b70_0 F69 K a0 a1 a2 o0 (fun q0 q1 q2 => loopN Tryd.prog (tab70 F69) 0 K Tryd.f70 la70 gq70.k 0 [] n (hd70_0 a0 a1 a2 o0 q0 q1 q2)) (fun k q0 q1 q2 => loopN Tryd.prog (tab70 F69) 0 K Tryd.f70 la70 gq70.k 1 [n] k (hd70_1 a0 a1 a2 o0 q0 q1 q2)) ps9 ps10 ph2000000 := by kernel_rfl
    rw [h]
    simp only [lp70_0 F69 K a0 a1 a2 o0 n, lp70_1 F69 K a0 a1 a2 o0 n]
    rfl
theorem ev70 (F69 : Int → Int → Option (Bool)) (K : Nat) (a0 : Int) (a1 : Int) (a2 : Int) (o0 : List Int) : evFun Tryd.prog (tab70 F69) 0 K Tryd.f70 la70 [.own 2000000, I .i64 a0, I .i64 a1, I .i64 a2] (hpB ob70 o0) gq70.k = G70 F69 K a0 a1 a2 o0 := by
  have h : evFun Tryd.prog (tab70 F69) 0 K Tryd.f70 la70 [.own 2000000, I .i64 a0, I .i64 a1, I .i64 a2] (hpB ob70 o0) gq70.k = t70 F69 K a0 a1 a2 o0 (fun k q0 q1 q2 => loopN Tryd.prog (tab70 F69) 0 K Tryd.f70 la70 gq70.k 0 [] k (hd70_0 a0 a1 a2 o0 q0 q1 q2)) := by kernel_rfl
  rw [h]
  simp only [lp70_0 F69 K a0 a1 a2 o0]
  rfl
noncomputable def F70 (K : Nat) (a0 : Int) (a1 : Int) (a2 : Int) (o0 : List Int) : Option (Int × List Int) := G70 (F69 K) K a0 a1 a2 o0
theorem cok70 (K : Nat) : CallOK D Tryd.prog (tab70 (F69 K)) := (add_ok none_ok ent69 (ok69 K))
theorem ok70 (K : Nat) : RowG D Tryd.prog 70 (rowG (gad ag70 ob70) gq70 fun p => F70 K p.1.1 p.1.2.1 p.1.2.2.1 p.2) := rowG_ok fun x r h => ghas_of (cok70 K) Tryd.func70 ((ev70 (F69 K) K x.1.1 x.1.2.1 x.1.2.2.1 x.2).trans h)
/-! slices.partitionOrdered[uint32] -/
noncomputable def tab71 (F69 : Int → Int → Option (Bool)) : Tab := (Tab.none.add 69 (row ad69 dq69 fun p => F69 p.1 p.2))
noncomputable def la71 : List (List Tidy) := [[.only [0, 1, 10, 11], .ids [58, 111, 127], .top [1000000]], [.only [0, 1, 10, 11], .ids [42, 111, 127], .top [1000001]], [.only [0, 1, 10, 11], .ids [42, 58], .top [1000002]], [.only [0, 1, 10, 11], .ids [42, 58, 127], .top [1000003]], [.only [0, 1, 10, 11], .ids [42, 58, 111], .top [1000004]]]
noncomputable def hd71_0 (a0 : Int) (a1 : Int) (a2 : Int) (o0 : List Int) (ps10 : Int) : St := { tm := slots (nat_lit 168) [(nat_lit 0, AV.own (nat_lit 2000000)), (nat_lit 1, AV.sc (Value.int IntKind.i64 a0)), (nat_lit 10, AV.sc (Value.int IntKind.i64 ps10)), (nat_lit 11, AV.sc (Value.int IntKind.i64 (IntKind.i64.wrap (a1 - (1 : Int)))))], H := [(nat_lit 2000000, ABlk.arr (nat_lit 38) (Ty.int IntKind.u32) ((o0.set a0.toNat (o0.getD a2.toNat (zEl (Ty.int IntKind.u32)))).set a2.toNat (o0.getD a0.toNat (zEl (Ty.int IntKind.u32)))))] }
noncomputable def hd71_1 (a0 : Int) (a1 : Int) (a2 : Int) (o0 : List Int) (ps10 : Int) (ps11 : Int) : St := { tm := slots (nat_lit 168) [(nat_lit 0, AV.own (nat_lit 2000000)), (nat_lit 1, AV.sc (Value.int IntKind.i64 a0)), (nat_lit 10, AV.sc (Value.int IntKind.i64 ps10)), (nat_lit 11, AV.sc (Value.int IntKind.i64 ps11))], H := [(nat_lit 2000000, ABlk.arr (nat_lit 38) (Ty.int IntKind.u32) ((o0.set a0.toNat (o0.getD a2.toNat (zEl (Ty.int IntKind.u32)))).set a2.toNat (o0.getD a0.toNat (zEl (Ty.int IntKind.u32)))))] }
noncomputable def hd71_2 (a0 : Int) (a1 : Int) (a2 : Int) (o0 : List Int) (ps10 : Int) (ps11 : Int) (ph2000000 : List (Int)) : St := { tm := slots (nat_lit 168) [(nat_lit 0, AV.own (nat_lit 2000000)), (nat_lit 1, AV.sc (Value.int IntKind.i64 a0)), (nat_lit 10, AV.sc (Value.int IntKind.i64 ps10)), (nat_lit 11, AV.sc (Value.int IntKind.i64 ps11))], H := [(nat_lit 2000000, ABlk.arr (nat_lit 38) (Ty.int IntKind.u32) ph2000000)] }
noncomputable def hd71_3 (a0 : Int) (a1 : Int) (a2 : Int) (o0 : List Int) (ps10 : Int) (ps11 : Int) (ph2000000 : List (Int)) : St := { tm := slots (nat_lit 168) [(nat_lit 0, AV.own (nat_lit 2000000)), (nat_lit 1, AV.sc (Value.int IntKind.i64 a0)), (nat_lit 10, AV.sc (Value.int IntKind.i64 ps10)), (nat_lit 11, AV.sc (Value.int IntKind.i64 ps11))], H := [(nat_lit 2000000, ABlk.arr (nat_lit 38) (Ty.int IntKind.u32) ph2000000)] }
noncomputable def hd71_4 (a0 : Int) (a1 : Int) (a2 : Int) (o0 : List Int) (ps10 : Int) (ps11 : Int) (ph2000000 : List (Int)) : St := { tm := slots (nat_lit 168) [(nat_lit 0, AV.own (nat_lit 2000000)), (nat_lit 1, AV.sc (Value.int IntKind.i64 a0)), (nat_lit 10, AV.sc (Value.int IntKind.i64 ps10)), (nat_lit 11, AV.sc (Value.int IntKind.i64 ps11))], H := [(nat_lit 2000000, ABlk.arr (nat_lit 38) (Ty.int IntKind.u32) ph2000000)] }
noncomputable def b71_4 (F69 : Int → Int → Option (Bool)) (K : Nat) (a0 : Int) (a1 : Int) (a2 : Int) (o0 : List Int) (r2 : Int → Int → (List (Int)) → Option ((Int × Bool) × List Int)) (r4 : Int → Int → (List (Int)) → Option ((Int × Bool) × List Int)) (ps10 : Int) (ps11 : Int) (ph2000000 : List (Int)) : Option ((Int × Bool) × List Int) :=(if decide (ps10 ≤ ps11) = true then (if decide ((0 : Int) ≤ ps11 ∧ ps11 < (↑ph2000000.length : Int)) = true then (if decide ((0 : Int) ≤ a0 ∧ a0 < (↑ph2000000.length : Int)) = true then 
     (Option.bind (F69 (ph2000000.getD ps11.toNat (zEl (Ty.int IntKind.u32))) (ph2000000.getD a0.toNat (zEl (Ty.int IntKind.u32)))) fun x3 => (if (!x3) = true then r4 (ps10) (IntKind.i64.wrap (ps11 - (1 : Int))) (ph2000000)
      else (if decide (ps10 > ps11) = true then (if decide ((0 : Int) ≤ a0 ∧ a0 < (↑ph2000000.length : Int)) = true then (if decide ((0 : Int) ≤ ps11 ∧ ps11 < (↑ph2000000.length : Int)) = true then (if decide ((0 : Int) ≤ ps11 ∧ ps11 < (↑ph2000000.length : Int)) = true then (if decide ((0 : Int) ≤ a0 ∧ a0 < (↑(ph2000000.set ps11.toNat (ph2000000.getD a0.toNat (zEl (Ty.int IntKind.u32)))).length : Int)) = true then some (((ps11, false), (ph2000000.set ps11.toNat (ph2000000.getD a0.toNat (zEl (Ty.int IntKind.u32)))).set a0.toNat (ph2000000.getD ps11.toNat (zEl (Ty.int IntKind.u32)))))
           else none)
          else none)
         else none)
        else none)
       else (if decide ((0 : Int) ≤ ps11 ∧ ps11 < (↑ph2000000.length : Int)) = true then (if decide ((0 : Int) ≤ ps10 ∧ ps10 < (↑ph2000000.length : Int)) = true then (if decide ((0 : Int) ≤ ps10 ∧ ps10 < (↑ph2000000.length : Int)) = true then (if decide ((0 : Int) ≤ ps11 ∧ ps11 < (↑(ph2000000.set ps10.toNat (ph2000000.getD ps11.toNat (zEl (Ty.int IntKind.u32)))).length : Int)) = true then r2 (IntKind.i64.wrap (ps10 + (1 : Int))) (IntKind.i64.wrap (ps11 - (1 : Int))) ((ph2000000.set ps10.toNat (ph2000000.getD ps11.toNat (zEl (Ty.int IntKind.u32)))).set ps11.toNat (ph2000000.getD ps10.toNat (zEl (Ty.int IntKind.u32))))
           else none)
          else none)
         else none)
        else none))))
    else none)
   else none)
  else (if decide (ps10 > ps11) = true then (if decide ((0 : Int) ≤ a0 ∧ a0 < (↑ph2000000.length : Int)) = true then (if decide ((0 : Int) ≤ ps11 ∧ ps11 < (↑ph2000000.length : Int)) = true then (if decide ((0 : Int) ≤ ps11 ∧ ps11 < (↑ph2000000.length : Int)) = true then (if decide ((0 : Int) ≤ a0 ∧ a0 < (↑(ph2000000.set ps11.toNat (ph2000000.getD a0.toNat (zEl (Ty.int IntKind.u32)))).length : Int)) = true then some (((ps11, false), (ph2000000.set ps11.toNat (ph2000000.getD a0.toNat (zEl (Ty.int IntKind.u32)))).set a0.toNat (ph2000000.getD ps11.toNat (zEl (Ty.int IntKind.u32)))))
       else none)
      else none)
     else none)
    else none)
   else (if decide ((0 : Int) ≤ ps11 ∧ ps11 < (↑ph2000000.length : Int)) = true then (if decide ((0 : Int) ≤ ps10 ∧ ps10 < (↑ph2000000.length : Int)) = true then (if decide ((0 : Int) ≤ ps10 ∧ ps10 < (↑ph2000000.length : Int)) = true then (if decide ((0 : Int) ≤ ps11 ∧ ps11 < (↑(ph2000000.set ps10.toNat (ph2000000.getD ps11.toNat (zEl (Ty.int IntKind.u32)))).length : Int)) = true then r2 (IntKind.i64.wrap (ps10 + (1 : Int))) (IntKind.i64.wrap (ps11 - (1 : Int))) ((ph2000000.set ps10.toNat (ph2000000.getD ps11.toNat (zEl (Ty.int IntKind.u32)))).set ps11.toNat (ph2000000.getD ps10.toNat (zEl (Ty.int IntKind.u32))))
       else none)
      else none)
     else none)
    else none)))
noncomputable def L71_4 (F69 : Int → Int → Option (Bool)) (K : Nat) (a0 : Int) (a1 : Int) (a2 : Int) (o0 : List Int) (r2 : Int → Int → (List (Int)) → Option ((Int × Bool) × List Int)) : Nat → Int → Int → (List (Int)) → Option ((Int × Bool) × List Int)
  | 0, _, _, _ => none
  | n + 1, ps10, ps11, ph2000000 => b71_4 F69 K a0 a1 a2 o0 r2 (L71_4 F69 K a0 a1 a2 o0 r2 n) ps10 ps11 ph2000000
noncomputable def b71_3 (F69 : Int → Int → Option (Bool)) (K : Nat) (a0 : Int) (a1 : Int) (a2 : Int) (o0 : List Int) (r2 : Int → Int → (List (Int)) → Option ((Int × Bool) × List Int)) (r3 : Int → Int → (List (Int)) → Option ((Int × Bool) × List Int)) (l4 : Nat → Int → Int → (List (Int)) → Option ((Int × Bool) × List Int)) (ps10 : Int) (ps11 : Int) (ph2000000 : List (Int)) : Option ((Int × Bool) × List Int) :=(if decide (ps10 ≤ ps11) = true then (if decide ((0 : Int) ≤ ps10 ∧ ps10 < (↑ph2000000.length : Int)) = true then (if decide ((0 : Int) ≤ a0 ∧ a0 < (↑ph2000000.length : Int)) = true then 
     (Option.bind (F69 (ph2000000.getD ps10.toNat (zEl (Ty.int IntKind.u32))) (ph2000000.getD a0.toNat (zEl (Ty.int IntKind.u32)))) fun x2 => (if x2 = true then r3 (IntKind.i64.wrap (ps10 + (1 : Int))) (ps11) (ph2000000)
      else l4 K (ps10) (ps11) (ph2000000)))
    else none)
   else none)
  else l4 K (ps10) (ps11) (ph2000000))
noncomputable def L71_3 (F69 : Int → Int → Option (Bool)) (K : Nat) (a0 : Int) (a1 : Int) (a2 : Int) (o0 : List Int) (r2 : Int → Int → (List (Int)) → Option ((Int × Bool) × List Int)) : Nat → Int → Int → (List (Int)) → Option ((Int × Bool) × List Int)
  | 0, _, _, _ => none
  | n + 1, ps10, ps11, ph2000000 => b71_3 F69 K a0 a1 a2 o0 r2 (L71_3 F69 K a0 a1 a2 o0 r2 n) (L71_4 F69 K a0 a1 a2 o0 r2) ps10 ps11 ph2000000
noncomputable def b71_2 (F69 : Int → Int → Option (Bool)) (K : Nat) (a0 : Int) (a1 : Int) (a2 : Int) (o0 : List Int) (r2 : Int → Int → (List (Int)) → Option ((Int × Bool) × List Int)) (l3 : Nat → Int → Int → (List (Int)) → Option ((Int × Bool) × List Int)) (ps10 : Int) (ps11 : Int) (ph2000000 : List (Int)) : Option ((Int × Bool) × List Int) :=l3 K (ps10) (ps11) (ph2000000)
noncomputable def L71_2 (F69 : Int → Int → Option (Bool)) (K : Nat) (a0 : Int) (a1 : Int) (a2 : Int) (o0 : List Int) : Nat → Int → Int → (List (Int)) → Option ((Int × Bool) × List Int)
  | 0, _, _, _ => none
  | n + 1, ps10, ps11, ph2000000 => b71_2 F69 K a0 a1 a2 o0 (L71_2 F69 K a0 a1 a2 o0 n) (L71_3 F69 K a0 a1 a2 o0 (L71_2 F69 K a0 a1 a2 o0 n)) ps10 ps11 ph2000000
noncomputable def b71_1 (F69 : Int → Int → Option (Bool)) (K : Nat) (a0 : Int) (a1 : Int) (a2 : Int) (o0 : List Int) (r1 : Int → Int → Option ((Int × Bool) × List Int)) (l2 : Nat → Int → Int → (List (Int)) → Option ((Int × Bool) × List Int)) (ps10 : Int) (ps11 : Int) : Option ((Int × Bool) × List Int) :=(if decide (ps10 ≤ ps11) = true then (if decide ((0 : Int) ≤ ps11 ∧ ps11 < (↑((o0.set a0.toNat (o0.getD a2.toNat (zEl (Ty.int IntKind.u32)))).set a2.toNat (o0.getD a0.toNat (zEl (Ty.int IntKind.u32)))).length : Int)) = true then (if decide ((0 : Int) ≤ a0 ∧ a0 < (↑((o0.set a0.toNat (o0.getD a2.toNat (zEl (Ty.int IntKind.u32)))).set a2.toNat (o0.getD a0.toNat (zEl (Ty.int IntKind.u32)))).length : Int)) = true then 
     (Option.bind (F69 (((o0.set a0.toNat (o0.getD a2.toNat (zEl (Ty.int IntKind.u32)))).set a2.toNat (o0.getD a0.toNat (zEl (Ty.int IntKind.u32)))).getD ps11.toNat (zEl (Ty.int IntKind.u32))) (((o0.set a0.toNat (o0.getD a2.toNat (zEl (Ty.int IntKind.u32)))).set a2.toNat (o0.getD a0.toNat (zEl (Ty.int IntKind.u32)))).getD a0.toNat (zEl (Ty.int IntKind.u32)))) fun x1 => (if (!x1) = true then r1 (ps10) (IntKind.i64.wrap (ps11 - (1 : Int)))
      else (if decide (ps10 > ps11) = true then (if decide ((0 : Int) ≤ a0 ∧ a0 < (↑((o0.set a0.toNat (o0.getD a2.toNat (zEl (Ty.int IntKind.u32)))).set a2.toNat (o0.getD a0.toNat (zEl (Ty.int IntKind.u32)))).length : Int)) = true then (if decide ((0 : Int) ≤ ps11 ∧ ps11 < (↑((o0.set a0.toNat (o0.getD a2.toNat (zEl (Ty.int IntKind.u32)))).set a2.toNat (o0.getD a0.toNat (zEl (Ty.int IntKind.u32)))).length : Int)) = true then (if decide ((0 : Int) ≤ ps11 ∧ ps11 < (↑((o0.set a0.toNat (o0.getD a2.toNat (zEl (Ty.int IntKind.u32)))).set a2.toNat (o0.getD a0.toNat (zEl (Ty.int IntKind.u32)))).length : Int)) = true then (if decide ((0 : Int) ≤ a0 ∧ a0 < (↑(((o0.set a0.toNat (o0.getD a2.toNat (zEl (Ty.int IntKind.u32)))).set a2.toNat (o0.getD a0.toNat (zEl (Ty.int IntKind.u32)))).set ps11.toNat (((o0.set a0.toNat (o0.getD a2.toNat (zEl (Ty.int IntKind.u32)))).set a2.toNat (o0.getD a0.toNat (zEl (Ty.int IntKind.u32)))).getD a0.toNat (zEl (Ty.int IntKind.u32)))).length : Int)) = true then some (((ps11, true), (((o0.set a0.toNat (o0.getD a2.toNat (zEl (Ty.int IntKind.u32)))).set a2.toNat (o0.getD a0.toNat (zEl (Ty.int IntKind.u32)))).set ps11.toNat (((o0.set a0.toNat (o0.getD a2.toNat (zEl (Ty.int IntKind.u32)))).set a2.toNat (o0.getD a0.toNat (zEl (Ty.int IntKind.u32)))).getD a0.toNat (zEl (Ty.int IntKind.u32)))).set a0.toNat (((o0.set a0.toNat (o0.getD a2.toNat (zEl (Ty.int IntKind.u32)))).set a2.toNat (o0.getD a0.toNat (zEl (Ty.int IntKind.u32)))).getD ps11.toNat (zEl (Ty.int IntKind.u32)))))
           else none)
          else none)
         else none)
        else none)
       else (if decide ((0 : Int) ≤ ps11 ∧ ps11 < (↑((o0.set a0.toNat (o0.getD a2.toNat (zEl (Ty.int IntKind.u32)))).set a2.toNat (o0.getD a0.toNat (zEl (Ty.int IntKind.u32)))).length : Int)) = true then (if decide ((0 : Int) ≤ ps10 ∧ ps10 < (↑((o0.set a0.toNat (o0.getD a2.toNat (zEl (Ty.int IntKind.u32)))).set a2.toNat (o0.getD a0.toNat (zEl (Ty.int IntKind.u32)))).length : Int)) = true then (if decide ((0 : Int) ≤ ps10 ∧ ps10 < (↑((o0.set a0.toNat (o0.getD a2.toNat (zEl (Ty.int IntKind.u32)))).set a2.toNat (o0.getD a0.toNat (zEl (Ty.int IntKind.u32)))).length : Int)) = true then (if decide ((0 : Int) ≤ ps11 ∧ ps11 < (↑(((o0.set a0.toNat (o0.getD a2.toNat (zEl (Ty.int IntKind.u32)))).set a2.toNat (o0.getD a0.toNat (zEl (Ty.int IntKind.u32)))).set ps10.toNat (((o0.set a0.toNat (o0.getD a2.toNat (zEl (Ty.int IntKind.u32)))).set a2.toNat (o0.getD a0.toNat (zEl (Ty.int IntKind.u32)))).getD ps11.toNat (zEl (Ty.int IntKind.u32)))).length : Int)) = true then l2 K (IntKind.i64.wrap (ps10 + (1 : Int))) (IntKind.i64.wrap (ps11 - (1 : Int))) ((((o0.set a0.toNat (o0.getD a2.toNat (zEl (Ty.int IntKind.u32)))).set a2.toNat (o0.getD a0.toNat (zEl (Ty.int IntKind.u32)))).set ps10.toNat (((o0.set a0.toNat (o0.getD a2.toNat (zEl (Ty.int IntKind.u32)))).set a2.toNat (o0.getD a0.toNat (zEl (Ty.int IntKind.u32)))).getD ps11.toNat (zEl (Ty.int IntKind.u32)))).set ps11.toNat (((o0.set a0.toNat (o0.getD a2.toNat (zEl (Ty.int IntKind.u32)))).set a2.toNat (o0.getD a0.toNat (zEl (Ty.int IntKind.u32)))).getD ps10.toNat (zEl (Ty.int IntKind.u32))))
           else none)
          else none)
         else none)
        else none))))
    else none)
   else none)
  else (if decide (ps10 > ps11) = true then (if decide ((0 : Int) ≤ a0 ∧ a0 < (↑((o0.set a0.toNat (o0.getD a2.toNat (zEl (Ty.int IntKind.u32)))).set a2.toNat (o0.getD a0.toNat (zEl (Ty.int IntKind.u32)))).length : Int)) = true then (if decide ((0 : Int) ≤ ps11 ∧ ps11 < (↑((o0.set a0.toNat (o0.getD a2.toNat (zEl (Ty.int IntKind.u32)))).set a2.toNat (o0.getD a0.toNat (zEl (Ty.int IntKind.u32)))).length : Int)) = true then (if decide ((0 : Int) ≤ ps11 ∧ ps11 < (↑((o0.set a0.toNat (o0.getD a2.toNat (zEl (Ty.int IntKind.u32)))).set a2.toNat (o0.getD a0.toNat (zEl (Ty.int IntKind.u32)))).length : Int)) = true then (if decide ((0 : Int) ≤ a0 ∧ a0 < (↑(((o0.set a0.toNat (o0.getD a2.toNat (zEl (Ty.int IntKind.u32)))).set a2.toNat (o0.getD a0.toNat (zEl (Ty.int IntKind.u32)))).set ps11.toNat (((o0.set a0.toNat (o0.getD a2.toNat (zEl (Ty.int IntKind.u32)))).set a2.toNat (o0.getD a0.toNat (zEl (Ty.int IntKind.u32)))).getD a0.toNat (zEl (Ty.int IntKind.u32)))).length : Int)) = true then some (((ps11, true), (((o0.set a0.toNat (o0.getD a2.toNat (zEl (Ty.int IntKind.u32)))).set a2.toNat (o0.getD a0.toNat (zEl (Ty.int IntKind.u32)))).set ps11.toNat (((o0.set a0.toNat (o0.getD a2.toNat (zEl (Ty.int IntKind.u32)))).set a2.toNat (o0.getD a0.toNat (zEl (Ty.int IntKind.u32)))).getD a0.toNat (zEl (Ty.int IntKind.u32)))).set a0.toNat (((o0.set a0.toNat (o0.getD a2.toNat (zEl (Ty.int IntKind.u32)))).set a2.toNat (o0.getD a0.toNat (zEl (Ty.int IntKind.u32)))).getD ps11.toNat (zEl (Ty.int IntKind.u32)))))
       else none)
      else none)
     else none)
    else none)
   else (if decide ((0 : Int) ≤ ps11 ∧ ps11 < (↑((o0.set a0.toNat (o0.getD a2.toNat (zEl (Ty.int IntKind.u32)))).set a2.toNat (o0.getD a0.toNat (zEl (Ty.int IntKind.u32)))).length : Int)) = true then (if decide ((0 : Int) ≤ ps10 ∧ ps10 < (↑((o0.set a0.toNat (o0.getD a2.toNat (zEl (Ty.int IntKind.u32)))).set a2.toNat (o0.getD a0.toNat (zEl (Ty.int IntKind.u32)))).length : Int)) = true then (if decide ((0 : Int) ≤ ps10 ∧ ps10 < (↑((o0.set a0.toNat (o0.getD a2.toNat (zEl (Ty.int IntKind.u32)))).set a2.toNat (o0.getD a0.toNat (zEl (Ty.int IntKind.u32)))).length : Int)) = true then (if decide ((0 : Int) ≤ ps11 ∧ ps11 < (↑(((o0.set a0.toNat (o0.getD a2.toNat (zEl (Ty.int IntKind.u32)))).set a2.toNat (o0.getD a0.toNat (zEl (Ty.int IntKind.u32)))).set ps10.toNat (((o0.set a0.toNat (o0.getD a2.toNat (zEl (Ty.int IntKind.u32)))).set a2.toNat (o0.getD a0.toNat (zEl (Ty.int IntKind.u32)))).getD ps11.toNat (zEl (Ty.int IntKind.u32)))).length : Int)) = true then l2 K (IntKind.i64.wrap (ps10 + (1 : Int))) (IntKind.i64.wrap (ps11 - (1 : Int))) ((((o0.set a0.toNat (o0.getD a2.toNat (zEl (Ty.int IntKind.u32)))).set a2.toNat (o0.getD a0.toNat (zEl (Ty.int IntKind.u32)))).set ps10.toNat (((o0.set a0.toNat (o0.getD a2.toNat (zEl (Ty.int IntKind.u32)))).set a2.toNat (o0.getD a0.toNat (zEl (Ty.int IntKind.u32)))).getD ps11.toNat (zEl (Ty.int IntKind.u32)))).set ps11.toNat (((o0.set a0.toNat (o0.getD a2.toNat (zEl (Ty.int IntKind.u32)))).set a2.toNat (o0.getD a0.toNat (zEl (Ty.int IntKind.u32)))).getD ps10.toNat (zEl (Ty.int IntKind.u32))))
       else none)
      else none)
     else none)
    else none)))
noncomputable def L71_1 (F69 : Int → Int → Option (Bool)) (K : Nat) (a0 : Int) (a1 : Int) (a2 : Int) (o0 : List Int) : Nat → Int → Int → Option ((Int × Bool) × List Int)
  | 0, _, _ => none
  | n + 1, ps10, ps11 => b71_1 F69 K a0 a1 a2 o0 (L71_1 F69 K a0 a1 a2 o0 n) (L71_2 F69 K a0 a1 a2 o0) ps10 ps11
noncomputable def b71_0 (F69 : Int → Int → Option (Bool)) (K : Nat) (a0 : Int) (a1 : Int) (a2 : Int) (o0 : List Int) (r0 : Int → Option ((Int × Bool) × List Int)) (l1 : Nat → Int → Int → Option ((Int × Bool) × List Int)) (ps10 : Int) : Option ((Int × Bool) × List Int) :=(if decide (ps10 ≤ IntKind.i64.wrap (a1 - (1 : Int))) = true then (if decide ((0 : Int) ≤ ps10 ∧ ps10 < (↑((o0.set a0.toNat (o0.getD a2.toNat (zEl (Ty.int IntKind.u32)))).set a2.toNat (o0.getD a0.toNat (zEl (Ty.int IntKind.u32)))).length : Int)) = true then (if decide ((0 : Int) ≤ a0 ∧ a0 < (↑((o0.set a0.toNat (o0.getD a2.toNat (zEl (Ty.int IntKind.u32)))).set a2.toNat (o0.getD a0.toNat (zEl (Ty.int IntKind.u32)))).length : Int)) = true then 
     (Option.bind (F69 (((o0.set a0.toNat (o0.getD a2.toNat (zEl (Ty.int IntKind.u32)))).set a2.toNat (o0.getD a0.toNat (zEl (Ty.int IntKind.u32)))).getD ps10.toNat (zEl (Ty.int IntKind.u32))) (((o0.set a0.toNat (o0.getD a2.toNat (zEl (Ty.int IntKind.u32)))).set a2.toNat (o0.getD a0.toNat (zEl (Ty.int IntKind.u32)))).getD a0.toNat (zEl (Ty.int IntKind.u32)))) fun x0 => (if x0 = true then r0 (IntKind.i64.wrap (ps10 + (1 : Int)))
      else l1 K (ps10) (IntKind.i64.wrap (a1 - (1 : Int)))))
    else none)
   else none)
  else l1 K (ps10) (IntKind.i64.wrap (a1 - (1 : Int))))
noncomputable def L71_0 (F69 : Int → Int → Option (Bool)) (K : Nat) (a0 : Int) (a1 : Int) (a2 : Int) (o0 : List Int) : Nat → Int → Option ((Int × Bool) × List Int)
  | 0, _ => none
  | n + 1, ps10 => b71_0 F69 K a0 a1 a2 o0 (L71_0 F69 K a0 a1 a2 o0 n) (L71_1 F69 K a0 a1 a2 o0) ps10
noncomputable def t71 (F69 : Int → Int → Option (Bool)) (K : Nat) (a0 : Int) (a1 : Int) (a2 : Int) (o0 : List Int) (l0 : Nat → Int → Option ((Int × Bool) × List Int)) : Option ((Int × Bool) × List Int) := (if decide ((0 : Int) ≤ a2 ∧ a2 < (↑o0.length : Int)) = true then (if decide ((0 : Int) ≤ a0 ∧ a0 < (↑o0.length : Int)) = true then (if decide ((0 : Int) ≤ a0 ∧ a0 < (↑o0.length : Int)) = true then (if decide ((0 : Int) ≤ a2 ∧ a2 < (↑(o0.set a0.toNat (o0.getD a2.toNat (zEl (Ty.int IntKind.u32)))).length : Int)) = true then l0 K (IntKind.i64.wrap (a0 + (1 : Int)))
    else none)
   else none)
  else none)
 else none)
noncomputable def G71 (F69 : Int → Int → Option (Bool)) (K : Nat) (a0 : Int) (a1 : Int) (a2 : Int) (o0 : List Int) : Option ((Int × Bool) × List Int) := t71 F69 K a0 a1 a2 o0 (L71_0 F69 K a0 a1 a2 o0)
theorem lp71_4 (F69 : Int → Int → Option (Bool)) (K : Nat) (a0 : Int) (a1 : Int) (a2 : Int) (o0 : List Int) : ∀ (m2 : Nat) (n : Nat) (ps10 : Int) (ps11 : Int) (ph2000000 : List (Int)), loopN Tryd.prog (tab71 F69) 0 K Tryd.f71 la71 gq71.k 4 [m2] n (hd71_4 a0 a1 a2 o0 ps10 ps11 ph2000000) = L71_4 F69 K a0 a1 a2 o0 (fun q0 q1 q2 => loopN Tryd.prog (tab71 F69) 0 K Tryd.f71 la71 gq71.k 2 [] m2 (hd71_2 a0 a1 a2 o0 q0 q1 q2)) n ps10 ps11 ph2000000
  | m2, 0, _, _, _ => by kernel_rfl
  | m2, n + 1, ps10, ps11, ph2000000 => by
    have h : loopN Tryd.prog (tab71 F69) 0 K Tryd.f71 la71 gq71.k 4 [m2] (n + 1) (hd71_4 a0 a1 a2 o0 ps10 ps11 ph2000000) = b71_4 F69 K a0 a1 a2 o0 (fun q0 q1 q2 => loopN Tryd.prog (tab71 F69) 0 K Tryd.f71 la71 gq71.k 2 [] m2 (hd71_2 a0 a1 a2 o0 q0 q1 q2)) (fun q0 q1 q2 => loopN Tryd.prog (tab71 F69) 0 K Tryd.f71 la71 gq71.k 4 [m2] n (hd71_4 a0 a1 a2 o0 q0 q1 q2)) ps10 ps11 ph2000000 := by kernel_rfl
    rw [h]
    simp only [lp71_4 F69 K a0 a1 a2 o0 m2 n]
    rfl
theorem lp71_3 (F69 : Int → Int → Option (Bool)) (K : Nat) (a0 : Int) (a1 : Int) (a2 : Int) (o0 : List Int) : ∀ (m2 : Nat) (n : Nat) (ps10 : Int) (ps11 : Int) (ph2000000 : List (Int)), loopN Tryd.prog (tab71 F69) 0 K Tryd.f71 la71 gq71.k 3 [m2] n (hd71_3 a0 a1 a2 o0 ps10 ps11 ph2000000) = L71_3 F69 K a0 a1 a2 o0 (fun q0 q1 q2 => loopN Tryd.prog (tab71 F69) 0 K Tryd.f71 la71 gq71.k 2 [] m2 (hd71_2 a0 a1 a2 o0 q0 q1 q2)) n ps10 ps11 ph2000000
  | m2, 0, _, _, _ => by kernel_rfl
  | m2, n + 1, ps10, ps11, ph2000000 => by
    have h : loopN Tryd.prog (tab71 F69) 0 K Tryd.f71 la71 gq71.k 3 [m2] (n + 1) (hd71_3 a0 a1 a2 o0 ps10 ps11 ph2000000) = b71_3 F69 K a0 a1 a2 o0 (fun q0 q1 q2 => loopN Tryd.prog (tab71 F69) 0 K Tryd.f71 la71 gq71.k 2 [] m2 (hd71_2 a0 a1 a2 o0 q0 q1 q2)) (fun q0 q1 q2 => loopN Tryd.prog (tab71 F69) 0 K Tryd.f71 la71 gq71.k 3 [m2] n (hd71_3 a0 a1 a2 o0 q0 q1 q2)) (fun k q0 q1 q2 => loopN Tryd.prog (tab71 F69) 0 K Tryd.f71 la71 gq71.k 4 [m2] k (hd71_4 a0 a1 a2 o0 q0 q1 q2)) ps10 ps11 ph2000000 := by kernel_rfl
    rw [h]
    simp only [lp71_3 F69 K a0 a1 a2 o0 m2 n, lp71_4 F69 K a0 a1 a2 o0 m2]
    rfl
theorem lp71_2 (F69 : Int → Int → Option (Bool)) (K : Nat) (a0 : Int) (a1 : Int) (a2 : Int) (o0 : List Int) : ∀ (n : Nat) (ps10 : Int) (ps11 : Int) (ph2000000 : List (Int)), loopN Tryd.prog (tab71 F69) 0 K Tryd.f71 la71 gq71.k 2 [] n (hd71_2 a0 a1 a2 o0 ps10 ps11 ph2000000) = L71_2 F69 K a0 a1 a2 o0 n ps10 ps11 ph2000000
  | 0, _, _, _ => by kernel_rfl
  | n + 1, ps10, ps11, ph2000000 => by
    have h : loopN Tryd.prog (tab71 F69) 0 K Tryd.f71 la71 gq71.k 2 [] (n + 1) (hd71_2 a0 a1 a2 o0 ps10 ps11 ph2000000) = b71_2 F69 K a0 a1 a2 o0 (fun q0 q1 q2 => loopN Tryd.prog (tab71 F69) 0 K Tryd.f71 la71 gq71.k 2 [] n (hd71_2 a0 a1 a2 o0 q0 q1 q2)) (fun k q0 q1 q2 => loopN Tryd.prog (tab71 F69) 0 K Tryd.f71 la71 gq71.k 3 [n] k (hd71_3 a0 a1 a2 o0 q0 q1 q2)) ps10 ps11 ph2000000 := by kernel_rfl
    rw [h]
    simp only [lp71_2 F69 K a0 a1 a2 o0 n, lp71_3 F69 K a0 a1 a2 o0 n]
    rfl
theorem lp71_1 (F69 : Int → Int → Option (Bool)) (K : Nat) (a0 : Int) (a1 : Int) (a2 : Int) (o0 : List Int) : ∀ (n : Nat) (ps10 : Int) (ps11 : Int), loopN Tryd.prog (tab71 F69) 0 K Tryd.f71 la71 gq71.k 1 [] n (hd71_1 a0 a1 a2 o0 ps10 ps11) = L71_1 F69 K a0 a1 a2 o0 n ps10 ps11
  | 0, _, _ => by kernel_rfl
  | n + 1, ps10, ps11 => by
    have h : loopN Tryd.prog (tab71 F69) 0 K Tryd.f71 la71 gq71.k 1 [] (n + 1) (hd71_1 a0 a1 a2 o0 ps10 ps11) = b71_1 F69 K a0 a1 a2 o0 (fun q0 q1 => loopN Tryd.prog (tab71 F69) 0 K Tryd.f71 la71 gq71.k 1 [] n (hd71_1 a0 a1 a2 o0 q0 q1)) (fun k q0 q1 q2 => loopN Tryd.prog (tab71 F69) 0 K Tryd.f71 la71 gq71.k 2 [] k (hd71_2 a0 a1 a2 o0 q0 q1 q2)) ps10 ps11 := by kernel_rfl
    rw [h]
    simp only [lp71_1 F69 K a0 a1 a2 o0 n, lp71_2 F69 K a0 a1 a2 o0]
    rfl
theorem lp71_0 (F69 : Int → Int → Option (Bool)) (K : Nat) (a0 : Int) (a1 : Int) (a2 : Int) (o0 : List Int) : ∀ (n : Nat) (ps10 : Int), loopN Tryd.prog (tab71 F69) 0 K Tryd.f71 la71 gq71.k 0 [] n (hd71_0 a0 a1 a2 o0 ps10) = L71_0 F69 K a0 a1 a2 o0 n ps10
  | 0, _ => by kernel_rfl
  | n + 1, ps10 => by
    have h : loopN Tryd.prog (tab71 F69) 0 K Tryd.f71 la71 gq71.k 0 [] (n + 1) (hd71_0 a0 a1 a2 o0 ps10) = b71_0 F69 K a0 a1 a2 o0 (fun q0 => loopN Tryd.prog (tab71 F69) 0 K Tryd.f71 la71 gq71.k 0 [] n (hd71_0 a0 a1 a2 o0 q0)) (fun k q0 q1 => loopN Tryd.prog (tab71 F69) 0 K Tryd.f71 la71 gq71.k 1 [] k (hd71_1 a0 a1 a2 o0 q0 q1)) ps10 := by kernel_rfl
    rw [h]
    simp only [lp71_0 F69 K a0 a1 a2 o0 n, lp71_1 F69 K a0 a1 a2 o0]
    rfl
theorem ev71 (F69 : Int → Int → Option (Bool)) (K : Nat) (a0 : Int) (a1 : Int) (a2 : Int) (o0 : List Int) : evFun Tryd.prog (tab71 F69) 0 K Tryd.f71 la71 [.own 2000000, I .i64 a0, I .i64 a1, I .i64 a2] (hpB ob71 o0) gq71.k = G71 F69 K a0 a1 a2 o0 := by
  have h : evFun Tryd.prog (tab71 F69) 0 K Tryd.f71 la71 [.own 2000000, I .i64 a0, I .i64 a1, I .i64 a2] (hpB ob71 o0) gq71.k = t71 F69 K a0 a1 a2 o0 (fun k q0 => loopN Tryd.prog (tab71 F69) 0 K Tryd.f71 la71 gq71.k 0 [] k (hd71_0 a0 a1 a2 o0 q0)) := by kernel_rfl
  rw [h]
  simp only [lp71_0 F69 K a0 a1 a2 o0]
  rfl
noncomputable def F71 (K : Nat) (a0 : Int) (a1 : Int) (a2 : Int) (o0 : List Int) : Option ((Int × Bool) × List Int) := G71 (F69 K) K a0 a1 a2 o0
theorem cok71 (K : Nat) : CallOK D Tryd.prog (tab71 (F69 K)) := (add_ok none_ok ent69 (ok69 K))
theorem ok71 (K : Nat) : RowG D Tryd.prog 71 (rowG (gad ag71 ob71) gq71 fun p => F71 K p.1.1 p.1.2.1 p.1.2.2.1 p.2) := rowG_ok fun x r h => ghas_of (cok71 K) Tryd.func71 ((ev71 (F69 K) K x.1.1 x.1.2.1 x.1.2.2.1 x.2).trans h)
end Go.Proofs.YtigekmmdflaeaaaDoorE
