import Derived.Test.YtiicginipjbloaaS04W37
set_option linter.all false
namespace Go.Proofs.YtiicginipjbloaaE
open Go Go.Proofs
set_option maxRecDepth 100000
set_option linter.unusedVariables false
variable {D : Prop}
/-! (*ganger/buddy.Yard).Free -/
noncomputable def tab12 (F37 : Unit → List (El T29) → Option (List (El T29))) (F38 : (El T29) → (El T29) → Option (Int)) : Tab := ((Tab.none.addW 37 (rowW T29 ad37 F37 false)).add 38 (row ad38 dq38 fun p => F38 p.1 p.2))
noncomputable def la12 : List (List Tidy) := [[.case 14 [] 12, .only [3, 13, 14], .pro 3 29 29 (T29), .ids [29, 33], .top [1000000]], [.only [3, 4, 13, 14, 18, 19, 20], .pro 3 29 29 (T29), .ids [19, 29, 33], .top [1000001]]]
noncomputable def hd12_0 (a0 : El TF65) (ps14 : Int) (ph29 : List (El T29)) : St := { tm := slots (nat_lit 35) [(nat_lit 3, AV.own (nat_lit 29)), (nat_lit 13, AV.agg [AV.row (Ty.int IntKind.i64) a0.2.1, AV.row (Ty.int IntKind.i64) a0.2.2.1, AV.row (Ty.int IntKind.i64) a0.2.2.2.1, AV.row (Ty.int IntKind.i64) a0.2.2.2.2.1, AV.row (Ty.int IntKind.i64) a0.2.2.2.2.2.1, AV.row (Ty.int IntKind.i64) a0.2.2.2.2.2.2.1, AV.row (Ty.int IntKind.i64) a0.2.2.2.2.2.2.2.1, AV.row (Ty.int IntKind.i64) a0.2.2.2.2.2.2.2.2.1, AV.row (Ty.int IntKind.i64) a0.2.2.2.2.2.2.2.2.2.1, AV.row (Ty.int IntKind.i64) a0.2.2.2.2.2.2.2.2.2.2.1, AV.row (Ty.int IntKind.i64) a0.2.2.2.2.2.2.2.2.2.2.2.1]), (nat_lit 14, AV.sc (Value.int IntKind.i64 ps14))], H := [(nat_lit 29, ABlk.arr (nat_lit 29) T29 ph29)] }
noncomputable def hd12_1 (a0 : El TF65) (ps4 : Int) (ps14 : Int) (ps18 : List (Int)) (ps19 : Int) (ps20 : Int) (ph29 : List (El T29)) : St := { tm := slots (nat_lit 35) [(nat_lit 3, AV.own (nat_lit 29)), (nat_lit 4, AV.sc (Value.int IntKind.i64 ps4)), (nat_lit 13, AV.agg [AV.row (Ty.int IntKind.i64) a0.2.1, AV.row (Ty.int IntKind.i64) a0.2.2.1, AV.row (Ty.int IntKind.i64) a0.2.2.2.1, AV.row (Ty.int IntKind.i64) a0.2.2.2.2.1, AV.row (Ty.int IntKind.i64) a0.2.2.2.2.2.1, AV.row (Ty.int IntKind.i64) a0.2.2.2.2.2.2.1, AV.row (Ty.int IntKind.i64) a0.2.2.2.2.2.2.2.1, AV.row (Ty.int IntKind.i64) a0.2.2.2.2.2.2.2.2.1, AV.row (Ty.int IntKind.i64) a0.2.2.2.2.2.2.2.2.2.1, AV.row (Ty.int IntKind.i64) a0.2.2.2.2.2.2.2.2.2.2.1, AV.row (Ty.int IntKind.i64) a0.2.2.2.2.2.2.2.2.2.2.2.1]), (nat_lit 14, AV.sc (Value.int IntKind.i64 ps14)), (nat_lit 18, AV.row (Ty.int IntKind.i64) ps18), (nat_lit 19, AV.sc (Value.int IntKind.i64 ps19)), (nat_lit 20, AV.sc (Value.int IntKind.i64 ps20))], H := [(nat_lit 29, ABlk.arr (nat_lit 29) T29 ph29)] }
noncomputable def b12_1 (F37 : Unit → List (El T29) → Option (List (El T29))) (F38 : (El T29) → (El T29) → Option (Int)) (K : Nat) (a0 : El TF65) (r0 : Int → (List (El T29)) → Option (List (El T29))) (r1 : Int → Int → (List (Int)) → Int → Int → (List (El T29)) → Option (List (El T29))) (ps4 : Int) (ps14 : Int) (ps18 : List (Int)) (ps19 : Int) (ps20 : Int) (ph29 : List (El T29)) : Option (List (El T29)) :=(if decide (ps20 < ps19) = true then (if decide ((0 : Int) ≤ ps20 ∧ ps20 < (↑ps18.length : Int)) = true then (if decide ((ph29.length + [(ps18.getD ps20.toNat (zEl (Ty.int IntKind.i64)), ps4)].length) * Try.prog.types[(29 : Nat)].bytes ≤ (140737488355328 : Nat)) = true then r1 (ps4) (ps14) (ps18) (ps19) (IntKind.i64.wrap (ps20 + (1 : Int))) (ph29 ++ [(ps18.getD ps20.toNat (zEl (Ty.int IntKind.i64)), ps4)])
    else none)
   else none)
  else r0 (IntKind.i64.wrap (ps14 + (1 : Int))) (ph29))
noncomputable def L12_1 (F37 : Unit → List (El T29) → Option (List (El T29))) (F38 : (El T29) → (El T29) → Option (Int)) (K : Nat) (a0 : El TF65) (r0 : Int → (List (El T29)) → Option (List (El T29))) : Nat → Int → Int → (List (Int)) → Int → Int → (List (El T29)) → Option (List (El T29))
  | 0, _, _, _, _, _, _ => none
  | n + 1, ps4, ps14, ps18, ps19, ps20, ph29 => b12_1 F37 F38 K a0 r0 (L12_1 F37 F38 K a0 r0 n) ps4 ps14 ps18 ps19 ps20 ph29
noncomputable def b12_0 (F37 : Unit → List (El T29) → Option (List (El T29))) (F38 : (El T29) → (El T29) → Option (Int)) (K : Nat) (a0 : El TF65) (r0 : Int → (List (El T29)) → Option (List (El T29))) (l1 : Nat → Int → Int → (List (Int)) → Int → Int → (List (El T29)) → Option (List (El T29))) (ps14 : Int) (ph29 : List (El T29)) : Option (List (El T29)) :=(if decide (ps14 = Int.ofNat (0 : Nat)) = true then l1 K (Int.ofNat (0 : Nat)) ((↑(0 : Nat) : Int)) (a0.2.1) ((↑(List.length a0.2.1) : Int)) ((0 : Int)) (ph29)
  else (if decide (ps14 = Int.ofNat ((0 : Nat) + (1 : Nat))) = true then l1 K (Int.ofNat ((0 : Nat) + (1 : Nat))) ((↑((0 : Nat) + (1 : Nat)) : Int)) (a0.2.2.1) ((↑(List.length a0.2.2.1) : Int)) ((0 : Int)) (ph29)
   else (if decide (ps14 = Int.ofNat ((0 : Nat) + (1 : Nat) + (1 : Nat))) = true then l1 K (Int.ofNat ((0 : Nat) + (1 : Nat) + (1 : Nat))) ((↑((0 : Nat) + (1 : Nat) + (1 : Nat)) : Int)) (a0.2.2.2.1) ((↑(List.length a0.2.2.2.1) : Int)) ((0 : Int)) (ph29)
    else (if decide (ps14 = Int.ofNat ((0 : Nat) + (1 : Nat) + (1 : Nat) + (1 : Nat))) = true then l1 K (Int.ofNat ((0 : Nat) + (1 : Nat) + (1 : Nat) + (1 : Nat))) ((↑((0 : Nat) + (1 : Nat) + (1 : Nat) + (1 : Nat)) : Int)) (a0.2.2.2.2.1) ((↑(List.length a0.2.2.2.2.1) : Int)) ((0 : Int)) (ph29)
     else (if decide (ps14 = Int.ofNat ((0 : Nat) + (1 : Nat) + (1 : Nat) + (1 : Nat) + (1 : Nat))) = true then l1 K (Int.ofNat ((0 : Nat) + (1 : Nat) + (1 : Nat) + (1 : Nat) + (1 : Nat))) ((↑((0 : Nat) + (1 : Nat) + (1 : Nat) + (1 : Nat) + (1 : Nat)) : Int)) (a0.2.2.2.2.2.1) ((↑(List.length a0.2.2.2.2.2.1) : Int)) ((0 : Int)) (ph29)
      else (if decide (ps14 = Int.ofNat ((0 : Nat) + (1 : Nat) + (1 : Nat) + (1 : Nat) + (1 : Nat) + (1 : Nat))) = true then l1 K (Int.ofNat ((0 : Nat) + (1 : Nat) + (1 : Nat) + (1 : Nat) + (1 : Nat) + (1 : Nat))) ((↑((0 : Nat) + (1 : Nat) + (1 : Nat) + (1 : Nat) + (1 : Nat) + (1 : Nat)) : Int)) (a0.2.2.2.2.2.2.1) ((↑(List.length a0.2.2.2.2.2.2.1) : Int)) ((0 : Int)) (ph29)
       else (if decide (ps14 = Int.ofNat ((0 : Nat) + (1 : Nat) + (1 : Nat) + (1 : Nat) + (1 : Nat) + (1 : Nat) + (1 : Nat))) = true then l1 K (Int.ofNat ((0 : Nat) + (1 : Nat) + (1 : Nat) + (1 : Nat) + (1 : Nat) + (1 : Nat) + (1 : Nat))) ((↑((0 : Nat) + (1 : Nat) + (1 : Nat) + (1 : Nat) + (1 : Nat) + (1 : Nat) + (1 : Nat)) : Int)) (a0.2.2.2.2.2.2.2.1) ((↑(List.length a0.2.2.2.2.2.2.2.1) : Int)) ((0 : Int)) (ph29)
        else (if decide (ps14 = Int.ofNat ((0 : Nat) + (1 : Nat) + (1 : Nat) + (1 : Nat) + (1 : Nat) + (1 : Nat) + (1 : Nat) + (1 : Nat))) = true then l1 K (Int.ofNat ((0 : Nat) + (1 : Nat) + (1 : Nat) + (1 : Nat) + (1 : Nat) + (1 : Nat) + (1 : Nat) + (1 : Nat))) ((↑((0 : Nat) + (1 : Nat) + (1 : Nat) + (1 : Nat) + (1 : Nat) + (1 : Nat) + (1 : Nat) + (1 : Nat)) : Int)) (a0.2.2.2.2.2.2.2.2.1) ((↑(List.length a0.2.2.2.2.2.2.2.2.1) : Int)) ((0 : Int)) (ph29)
         else (if decide (ps14 = Int.ofNat ((0 : Nat) + (1 : Nat) + (1 : Nat) + (1 : Nat) + (1 : Nat) + (1 : Nat) + (1 : Nat) + (1 : Nat) + (1 : Nat))) = true then l1 K (Int.ofNat ((0 : Nat) + (1 : Nat) + (1 : Nat) + (1 : Nat) + (1 : Nat) + (1 : Nat) + (1 : Nat) + (1 : Nat) + (1 : Nat))) ((↑((0 : Nat) + (1 : Nat) + (1 : Nat) + (1 : Nat) + (1 : Nat) + (1 : Nat) + (1 : Nat) + (1 : Nat) + (1 : Nat)) : Int)) (a0.2.2.2.2.2.2.2.2.2.1) ((↑(List.length a0.2.2.2.2.2.2.2.2.2.1) : Int)) ((0 : Int)) (ph29)
          else (if decide (ps14 = Int.ofNat ((0 : Nat) + (1 : Nat) + (1 : Nat) + (1 : Nat) + (1 : Nat) + (1 : Nat) + (1 : Nat) + (1 : Nat) + (1 : Nat) + (1 : Nat))) = true then l1 K (Int.ofNat ((0 : Nat) + (1 : Nat) + (1 : Nat) + (1 : Nat) + (1 : Nat) + (1 : Nat) + (1 : Nat) + (1 : Nat) + (1 : Nat) + (1 : Nat))) ((↑((0 : Nat) + (1 : Nat) + (1 : Nat) + (1 : Nat) + (1 : Nat) + (1 : Nat) + (1 : Nat) + (1 : Nat) + (1 : Nat) + (1 : Nat)) : Int)) (a0.2.2.2.2.2.2.2.2.2.2.1) ((↑(List.length a0.2.2.2.2.2.2.2.2.2.2.1) : Int)) ((0 : Int)) (ph29)
           else (if decide (ps14 = Int.ofNat ((0 : Nat) + (1 : Nat) + (1 : Nat) + (1 : Nat) + (1 : Nat) + (1 : Nat) + (1 : Nat) + (1 : Nat) + (1 : Nat) + (1 : Nat) + (1 : Nat))) = true then l1 K (Int.ofNat ((0 : Nat) + (1 : Nat) + (1 : Nat) + (1 : Nat) + (1 : Nat) + (1 : Nat) + (1 : Nat) + (1 : Nat) + (1 : Nat) + (1 : Nat) + (1 : Nat))) ((↑((0 : Nat) + (1 : Nat) + (1 : Nat) + (1 : Nat) + (1 : Nat) + (1 : Nat) + (1 : Nat) + (1 : Nat) + (1 : Nat) + (1 : Nat) + (1 : Nat)) : Int)) (a0.2.2.2.2.2.2.2.2.2.2.2.1) ((↑(List.length a0.2.2.2.2.2.2.2.2.2.2.2.1) : Int)) ((0 : Int)) (ph29)
            else (if decide (ps14 = Int.ofNat ((0 : Nat) + (1 : Nat) + (1 : Nat) + (1 : Nat) + (1 : Nat) + (1 : Nat) + (1 : Nat) + (1 : Nat) + (1 : Nat) + (1 : Nat) + (1 : Nat) + (1 : Nat))) = true then 
              (Option.bind (F37 () ph29) fun x0 => some (x0))
             else none))))))))))))
noncomputable def L12_0 (F37 : Unit → List (El T29) → Option (List (El T29))) (F38 : (El T29) → (El T29) → Option (Int)) (K : Nat) (a0 : El TF65) : Nat → Int → (List (El T29)) → Option (List (El T29))
  | 0, _, _ => none
  | n + 1, ps14, ph29 => b12_0 F37 F38 K a0 (L12_0 F37 F38 K a0 n) (L12_1 F37 F38 K a0 (L12_0 F37 F38 K a0 n)) ps14 ph29
noncomputable def t12 (F37 : Unit → List (El T29) → Option (List (El T29))) (F38 : (El T29) → (El T29) → Option (Int)) (K : Nat) (a0 : El TF65) (l0 : Nat → Int → (List (El T29)) → Option (List (El T29))) : Option (List (El T29)) := l0 K ((0 : Int)) ([])
noncomputable def G12 (F37 : Unit → List (El T29) → Option (List (El T29))) (F38 : (El T29) → (El T29) → Option (Int)) (K : Nat) (a0 : El TF65) : Option (List (El T29)) := t12 F37 F38 K a0 (L12_0 F37 F38 K a0)
theorem lp12_1 (F37 : Unit → List (El T29) → Option (List (El T29))) (F38 : (El T29) → (El T29) → Option (Int)) (K : Nat) (a0 : El TF65) : ∀ (m0 : Nat) (n : Nat) (ps4 : Int) (ps14 : Int) (ps18 : List (Int)) (ps19 : Int) (ps20 : Int) (ph29 : List (El T29)), loopN Try.prog (tab12 F37 F38) 0 K Try.f12 la12 dq12.k 1 [m0] n (hd12_1 a0 ps4 ps14 ps18 ps19 ps20 ph29) = L12_1 F37 F38 K a0 (fun q0 q1 => loopN Try.prog (tab12 F37 F38) 0 K Try.f12 la12 dq12.k 0 [] m0 (hd12_0 a0 q0 q1)) n ps4 ps14 ps18 ps19 ps20 ph29
  | m0, 0, _, _, _, _, _, _ => by kernel_rfl
  | m0, n + 1, ps4, ps14, ps18, ps19, ps20, ph29 => by
    have h : loopN Try.prog (tab12 F37 F38) 0 K Try.f12 la12 dq12.k 1 [m0] (n + 1) (hd12_1 a0 ps4 ps14 ps18 ps19 ps20 ph29) = b12_1 F37 F38 K a0 (fun q0 q1 => loopN Try.prog (tab12 F37 F38) 0 K Try.f12 la12 dq12.k 0 [] m0 (hd12_0 a0 q0 q1)) (fun q0 q1 q2 q3 q4 q5 => loopN Try.prog (tab12 F37 F38) 0 K Try.f12 la12 dq12.k 1 [m0] n (hd12_1 a0 q0 q1 q2 q3 q4 q5)) ps4 ps14 ps18 ps19 ps20 ph29 := by kernel_rfl
    rw [h]
    simp only [lp12_1 F37 F38 K a0 m0 n]
    rfl
theorem lp12_0 (F37 : Unit → List (El T29) → Option (List (El T29))) (F38 : (El T29) → (El T29) → Option (Int)) (K : Nat) (a0 : El TF65) : ∀ (n : Nat) (ps14 : Int) (ph29 : List (El T29)), loopN Try.prog (tab12 F37 F38) 0 K Try.f12 la12 dq12.k 0 [] n (hd12_0 a0 ps14 ph29) = L12_0 F37 F38 K a0 n ps14 ph29
  | 0, _, _ => by kernel_rfl
  | n + 1, ps14, ph29 => by
    have h : loopN Try.prog (tab12 F37 F38) 0 K Try.f12 la12 dq12.k 0 [] (n + 1) (hd12_0 a0 ps14 ph29) = b12_0 F37 F38 K a0 (fun q0 q1 => loopN Try.prog (tab12 F37 F38) 0 K Try.f12 la12 dq12.k 0 [] n (hd12_0 a0 q0 q1)) (fun k q0 q1 q2 q3 q4 q5 => loopN Try.prog (tab12 F37 F38) 0 K Try.f12 la12 dq12.k 1 [n] k (hd12_1 a0 q0 q1 q2 q3 q4 q5)) ps14 ph29 := by kernel_rfl
    rw [h]
    simp only [lp12_0 F37 F38 K a0 n, lp12_1 F37 F38 K a0 n]
    rfl
theorem ev12 (F37 : Unit → List (El T29) → Option (List (El T29))) (F38 : (El T29) → (El T29) → Option (Int)) (K : Nat) (a0 : El TF65) : evFun Try.prog (tab12 F37 F38) 0 K Try.f12 la12 [.eptr TF65 a0 0] [] dq12.k = G12 F37 F38 K a0 := by
  have h : evFun Try.prog (tab12 F37 F38) 0 K Try.f12 la12 [.eptr TF65 a0 0] [] dq12.k = t12 F37 F38 K a0 (fun k q0 q1 => loopN Try.prog (tab12 F37 F38) 0 K Try.f12 la12 dq12.k 0 [] k (hd12_0 a0 q0 q1)) := by kernel_rfl
  rw [h]
  simp only [lp12_0 F37 F38 K a0]
  rfl
noncomputable def F12 (K : Nat) (a0 : El TF65) : Option (List (El T29)) := G12 (F37 K) (F38 K) K a0
theorem cok12 (K : Nat) : CallOK D Try.prog (tab12 (F37 K) (F38 K)) := (add_ok (addW_ok none_ok ent37 (ok37 K)) ent38 (ok38 K))
theorem ok12 (K : Nat) : RowOK D Try.prog 12 (row ad12 dq12 fun p => F12 K p) := row_ok fun x r h => has_of (cok12 K) Try.func12 ((ev12 (F37 K) (F38 K) K x).trans h)
/-! (*ganger/buddy.Yard).Fits -/
noncomputable def tab13 : Tab := Tab.none
noncomputable def la13 : List (List Tidy) := [[.case 5 [] 8, .only [0, 5], .ids [], .top [1000000]]]
noncomputable def hd13_0 (a0 : El TF65) (a1 : Int) (ps5 : Int) : St := { tm := slots (nat_lit 37) [(nat_lit 0, AV.eptr TF65 a0 (nat_lit 0)), (nat_lit 5, AV.sc (Value.int IntKind.i64 ps5))], H := [] }
noncomputable def b13_0 (K : Nat) (a0 : El TF65) (a1 : Int) (r0 : Int → Option (Bool)) (ps5 : Int) : Option (Bool) :=(if decide (ps5 = Int.ofNat (0 : Nat)) = true then (if decide (Int.ofNat (0 : Nat) ≤ a0.1) = true then (if decide ((↑(List.length a0.2.1) : Int) > (0 : Int)) = true then some (true)
    else r0 (IntKind.i64.wrap (Int.ofNat (0 : Nat) + (1 : Int))))
   else some (false))
  else (if decide (ps5 = Int.ofNat ((0 : Nat) + (1 : Nat))) = true then (if decide (Int.ofNat ((0 : Nat) + (1 : Nat)) ≤ a0.1) = true then (if decide ((↑(List.length a0.2.2.1) : Int) > (0 : Int)) = true then some (true)
     else r0 (IntKind.i64.wrap (Int.ofNat ((0 : Nat) + (1 : Nat)) + (1 : Int))))
    else some (false))
   else (if decide (ps5 = Int.ofNat ((0 : Nat) + (1 : Nat) + (1 : Nat))) = true then (if decide (Int.ofNat ((0 : Nat) + (1 : Nat) + (1 : Nat)) ≤ a0.1) = true then (if decide ((↑(List.length a0.2.2.2.1) : Int) > (0 : Int)) = true then some (true)
      else r0 (IntKind.i64.wrap (Int.ofNat ((0 : Nat) + (1 : Nat) + (1 : Nat)) + (1 : Int))))
     else some (false))
    else (if decide (ps5 = Int.ofNat ((0 : Nat) + (1 : Nat) + (1 : Nat) + (1 : Nat))) = true then (if decide (Int.ofNat ((0 : Nat) + (1 : Nat) + (1 : Nat) + (1 : Nat)) ≤ a0.1) = true then (if decide ((↑(List.length a0.2.2.2.2.1) : Int) > (0 : Int)) = true then some (true)
       else r0 (IntKind.i64.wrap (Int.ofNat ((0 : Nat) + (1 : Nat) + (1 : Nat) + (1 : Nat)) + (1 : Int))))
      else some (false))
     else (if decide (ps5 = Int.ofNat ((0 : Nat) + (1 : Nat) + (1 : Nat) + (1 : Nat) + (1 : Nat))) = true then (if decide (Int.ofNat ((0 : Nat) + (1 : Nat) + (1 : Nat) + (1 : Nat) + (1 : Nat)) ≤ a0.1) = true then (if decide ((↑(List.length a0.2.2.2.2.2.1) : Int) > (0 : Int)) = true then some (true)
        else r0 (IntKind.i64.wrap (Int.ofNat ((0 : Nat) + (1 : Nat) + (1 : Nat) + (1 : Nat) + (1 : Nat)) + (1 : Int))))
       else some (false))
      else (if decide (ps5 = Int.ofNat ((0 : Nat) + (1 : Nat) + (1 : Nat) + (1 : Nat) + (1 : Nat) + (1 : Nat))) = true then (if decide (Int.ofNat ((0 : Nat) + (1 : Nat) + (1 : Nat) + (1 : Nat) + (1 : Nat) + (1 : Nat)) ≤ a0.1) = true then (if decide ((↑(List.length a0.2.2.2.2.2.2.1) : Int) > (0 : Int)) = true then some (true)
         else r0 (IntKind.i64.wrap (Int.ofNat ((0 : Nat) + (1 : Nat) + (1 : Nat) + (1 : Nat) + (1 : Nat) + (1 : Nat)) + (1 : Int))))
        else some (false))
       else (if decide (ps5 = Int.ofNat ((0 : Nat) + (1 : Nat) + (1 : Nat) + (1 : Nat) + (1 : Nat) + (1 : Nat) + (1 : Nat))) = true then (if decide (Int.ofNat ((0 : Nat) + (1 : Nat) + (1 : Nat) + (1 : Nat) + (1 : Nat) + (1 : Nat) + (1 : Nat)) ≤ a0.1) = true then (if decide ((↑(List.length a0.2.2.2.2.2.2.2.1) : Int) > (0 : Int)) = true then some (true)
          else r0 (IntKind.i64.wrap (Int.ofNat ((0 : Nat) + (1 : Nat) + (1 : Nat) + (1 : Nat) + (1 : Nat) + (1 : Nat) + (1 : Nat)) + (1 : Int))))
         else some (false))
        else (if decide (ps5 = Int.ofNat ((0 : Nat) + (1 : Nat) + (1 : Nat) + (1 : Nat) + (1 : Nat) + (1 : Nat) + (1 : Nat) + (1 : Nat))) = true then (if decide (Int.ofNat ((0 : Nat) + (1 : Nat) + (1 : Nat) + (1 : Nat) + (1 : Nat) + (1 : Nat) + (1 : Nat) + (1 : Nat)) ≤ a0.1) = true then (if decide ((↑(List.length a0.2.2.2.2.2.2.2.2.1) : Int) > (0 : Int)) = true then some (true)
           else r0 (IntKind.i64.wrap (Int.ofNat ((0 : Nat) + (1 : Nat) + (1 : Nat) + (1 : Nat) + (1 : Nat) + (1 : Nat) + (1 : Nat) + (1 : Nat)) + (1 : Int))))
          else some (false))
         else none))))))))
noncomputable def L13_0 (K : Nat) (a0 : El TF65) (a1 : Int) : Nat → Int → Option (Bool)
  | 0, _ => none
  | n + 1, ps5 => b13_0 K a0 a1 (L13_0 K a0 a1 n) ps5
noncomputable def t13 (K : Nat) (a0 : El TF65) (a1 : Int) (l0 : Nat → Int → Option (Bool)) : Option (Bool) := (if decide (a1 < (0 : Int)) = true then some (false)
 else (if decide (a1 > a0.1) = true then some (false)
  else l0 K (a1)))
noncomputable def G13 (K : Nat) (a0 : El TF65) (a1 : Int) : Option (Bool) := t13 K a0 a1 (L13_0 K a0 a1)
theorem lp13_0 (K : Nat) (a0 : El TF65) (a1 : Int) : ∀ (n : Nat) (ps5 : Int), loopN Try.prog (tab13) 0 K Try.f13 la13 dq13.k 0 [] n (hd13_0 a0 a1 ps5) = L13_0 K a0 a1 n ps5
  | 0, _ => by kernel_rfl
  | n + 1, ps5 => by
    have h : loopN Try.prog (tab13) 0 K Try.f13 la13 dq13.k 0 [] (n + 1) (hd13_0 a0 a1 ps5) = b13_0 K a0 a1 (fun q0 => loopN Try.prog (tab13) 0 K Try.f13 la13 dq13.k 0 [] n (hd13_0 a0 a1 q0)) ps5 := by kernel_rfl
    rw [h]
    simp only [lp13_0 K a0 a1 n]
    rfl
theorem ev13 (K : Nat) (a0 : El TF65) (a1 : Int) : evFun Try.prog (tab13) 0 K Try.f13 la13 [.eptr TF65 a0 0, I .i64 a1] [] dq13.k = G13 K a0 a1 := by
  have h : evFun Try.prog (tab13) 0 K Try.f13 la13 [.eptr TF65 a0 0, I .i64 a1] [] dq13.k = t13 K a0 a1 (fun k q0 => loopN Try.prog (tab13) 0 K Try.f13 la13 dq13.k 0 [] k (hd13_0 a0 a1 q0)) := by kernel_rfl
  rw [h]
  simp only [lp13_0 K a0 a1]
  rfl
noncomputable def F13 (K : Nat) (a0 : El TF65) (a1 : Int) : Option (Bool) := G13 K a0 a1
theorem cok13 (K : Nat) : CallOK D Try.prog (tab13) := none_ok
theorem ok13 (K : Nat) : RowOK D Try.prog 13 (row ad13 dq13 fun p => F13 K p.1 p.2) := row_ok fun x r h => has_of (cok13 K) Try.func13 ((ev13 K x.1 x.2).trans h)
/-! ganger/gangerref04.Same -/
noncomputable def tab18 : Tab := Tab.none
noncomputable def la18 : List (List Tidy) := [[.only [0, 1, 5], .ids [7, 9], .top [1000000]]]
noncomputable def hd18_0 (a0 : List (El T29)) (a1 : List (El T29)) (ps5 : Int) : St := { tm := slots (nat_lit 26) [(nat_lit 0, AV.row T29 a0), (nat_lit 1, AV.row T29 a1), (nat_lit 5, AV.sc (Value.int IntKind.i64 ps5))], H := [] }
noncomputable def b18_0 (K : Nat) (a0 : List (El T29)) (a1 : List (El T29)) (r0 : Int → Option (Bool)) (ps5 : Int) : Option (Bool) :=(if decide (ps5 < (↑a0.length : Int)) = true then (if decide ((0 : Int) ≤ ps5 ∧ ps5 < (↑a0.length : Int)) = true then (if decide ((0 : Int) ≤ ps5 ∧ ps5 < (↑a1.length : Int)) = true then (if (!((a0.getD ps5.toNat (zEl T29)).1 == (a1.getD ps5.toNat (zEl T29)).1 && (a0.getD ps5.toNat (zEl T29)).2 == (a1.getD ps5.toNat (zEl T29)).2)) = true then some (false)
     else r0 (IntKind.i64.wrap (ps5 + (1 : Int))))
    else none)
   else none)
  else some (true))
noncomputable def L18_0 (K : Nat) (a0 : List (El T29)) (a1 : List (El T29)) : Nat → Int → Option (Bool)
  | 0, _ => none
  | n + 1, ps5 => b18_0 K a0 a1 (L18_0 K a0 a1 n) ps5
noncomputable def t18 (K : Nat) (a0 : List (El T29)) (a1 : List (El T29)) (l0 : Nat → Int → Option (Bool)) : Option (Bool) := (if ((↑a0.length : Int) != (↑a1.length : Int)) = true then some (false)
 else l0 K ((0 : Int)))
noncomputable def G18 (K : Nat) (a0 : List (El T29)) (a1 : List (El T29)) : Option (Bool) := t18 K a0 a1 (L18_0 K a0 a1)
theorem lp18_0 (K : Nat) (a0 : List (El T29)) (a1 : List (El T29)) : ∀ (n : Nat) (ps5 : Int), loopN Try.prog (tab18) 0 K Try.f18 la18 dq18.k 0 [] n (hd18_0 a0 a1 ps5) = L18_0 K a0 a1 n ps5
  | 0, _ => by kernel_rfl
  | n + 1, ps5 => by
    have h : loopN Try.prog (tab18) 0 K Try.f18 la18 dq18.k 0 [] (n + 1) (hd18_0 a0 a1 ps5) = b18_0 K a0 a1 (fun q0 => loopN Try.prog (tab18) 0 K Try.f18 la18 dq18.k 0 [] n (hd18_0 a0 a1 q0)) ps5 := by kernel_rfl
    rw [h]
    simp only [lp18_0 K a0 a1 n]
    rfl
theorem ev18 (K : Nat) (a0 : List (El T29)) (a1 : List (El T29)) : evFun Try.prog (tab18) 0 K Try.f18 la18 [.row T29 a0, .row T29 a1] [] dq18.k = G18 K a0 a1 := by
  have h : evFun Try.prog (tab18) 0 K Try.f18 la18 [.row T29 a0, .row T29 a1] [] dq18.k = t18 K a0 a1 (fun k q0 => loopN Try.prog (tab18) 0 K Try.f18 la18 dq18.k 0 [] k (hd18_0 a0 a1 q0)) := by kernel_rfl
  rw [h]
  simp only [lp18_0 K a0 a1]
  rfl
noncomputable def F18 (K : Nat) (a0 : List (El T29)) (a1 : List (El T29)) : Option (Bool) := G18 K a0 a1
theorem cok18 (K : Nat) : CallOK D Try.prog (tab18) := none_ok
theorem ok18 (K : Nat) : RowOK D Try.prog 18 (row ad18 dq18 fun p => F18 K p.1 p.2) := row_ok fun x r h => has_of (cok18 K) Try.func18 ((ev18 K x.1 x.2).trans h)
/-! slices.Clone[[]ganger/api.Block,ganger/api.Block] -/
noncomputable def tab47 : Tab := Tab.none
noncomputable def t47 (K : Nat) (a0 : List (El T29)) : Option (List (El T29)) := (if a0.length = (0 : Nat) then 
  (both (some ([]))
  ((if decide (((0 : Nat) + a0.length) * Try.prog.types[(29 : Nat)].bytes ≤ (140737488355328 : Nat)) = true then some (a0)
   else none)))
 else (if decide (((0 : Nat) + a0.length) * Try.prog.types[(29 : Nat)].bytes ≤ (140737488355328 : Nat)) = true then some (a0)
  else none))
noncomputable def G47 (K : Nat) (a0 : List (El T29)) : Option (List (El T29)) := t47 K a0
theorem ev47 (K : Nat) (a0 : List (El T29)) : evFun Try.prog (tab47) 0 K Try.f47 [] [.row T29 a0] [] dq47.k = G47 K a0 := by
  kernel_rfl
noncomputable def F47 (K : Nat) (a0 : List (El T29)) : Option (List (El T29)) := G47 K a0
theorem cok47 (K : Nat) : CallOK D Try.prog (tab47) := none_ok
theorem ok47 (K : Nat) : RowOK D Try.prog 47 (row ad47 dq47 fun p => F47 K p) := row_ok fun x r h => has_of (cok47 K) Try.func47 ((ev47 K x).trans h)
/-! slices.Clone[[]int,int] -/
noncomputable def tab48 : Tab := Tab.none
noncomputable def t48 (K : Nat) (a0 : List (El (.int .i64))) : Option (List (El (.int .i64))) := (if a0.length = (0 : Nat) then 
  (both (some ([]))
  ((if decide (((0 : Nat) + a0.length) * Try.prog.types[(3 : Nat)].bytes ≤ (140737488355328 : Nat)) = true then some (a0)
   else none)))
 else (if decide (((0 : Nat) + a0.length) * Try.prog.types[(3 : Nat)].bytes ≤ (140737488355328 : Nat)) = true then some (a0)
  else none))
noncomputable def G48 (K : Nat) (a0 : List (El (.int .i64))) : Option (List (El (.int .i64))) := t48 K a0
theorem ev48 (K : Nat) (a0 : List (El (.int .i64))) : evFun Try.prog (tab48) 0 K Try.f48 [] [.row (.int .i64) a0] [] dq48.k = G48 K a0 := by
  kernel_rfl
noncomputable def F48 (K : Nat) (a0 : List (El (.int .i64))) : Option (List (El (.int .i64))) := G48 K a0
theorem cok48 (K : Nat) : CallOK D Try.prog (tab48) := none_ok
theorem ok48 (K : Nat) : RowOK D Try.prog 48 (row ad48 dq48 fun p => F48 K p) := row_ok fun x r h => has_of (cok48 K) Try.func48 ((ev48 K x).trans h)
/-! (*ganger/buddy.Yard).Taken -/
noncomputable def tab19 (F47 : (List (El T29)) → Option (List (El T29))) : Tab := (Tab.none.add 47 (row ad47 dq47 fun p => F47 p))
noncomputable def t19 (F47 : (List (El T29)) → Option (List (El T29))) (K : Nat) (a0 : El TF65) : Option (List (El T29)) := 
 (Option.bind (F47 a0.2.2.2.2.2.2.2.2.2.2.2.2.1) fun x0 => some (x0))
noncomputable def G19 (F47 : (List (El T29)) → Option (List (El T29))) (K : Nat) (a0 : El TF65) : Option (List (El T29)) := t19 F47 K a0
theorem ev19 (F47 : (List (El T29)) → Option (List (El T29))) (K : Nat) (a0 : El TF65) : evFun Try.prog (tab19 F47) 0 K Try.f19 [] [.eptr TF65 a0 0] [] dq19.k = G19 F47 K a0 := by
  kernel_rfl
noncomputable def F19 (K : Nat) (a0 : El TF65) : Option (List (El T29)) := G19 (F47 K) K a0
theorem cok19 (K : Nat) : CallOK D Try.prog (tab19 (F47 K)) := (add_ok none_ok ent47 (ok47 K))
theorem ok19 (K : Nat) : RowOK D Try.prog 19 (row ad19 dq19 fun p => F19 K p) := row_ok fun x r h => has_of (cok19 K) Try.func19 ((ev19 (F47 K) K x).trans h)
/-! (*ganger/buddy.Yard).Failed -/
noncomputable def tab21 (F48 : (List (El (.int .i64))) → Option (List (El (.int .i64)))) : Tab := (Tab.none.add 48 (row ad48 dq48 fun p => F48 p))
noncomputable def t21 (F48 : (List (El (.int .i64))) → Option (List (El (.int .i64)))) (K : Nat) (a0 : El TF65) : Option (List (El (.int .i64))) := 
 (Option.bind (F48 a0.2.2.2.2.2.2.2.2.2.2.2.2.2) fun x0 => some (x0))
noncomputable def G21 (F48 : (List (El (.int .i64))) → Option (List (El (.int .i64)))) (K : Nat) (a0 : El TF65) : Option (List (El (.int .i64))) := t21 F48 K a0
theorem ev21 (F48 : (List (El (.int .i64))) → Option (List (El (.int .i64)))) (K : Nat) (a0 : El TF65) : evFun Try.prog (tab21 F48) 0 K Try.f21 [] [.eptr TF65 a0 0] [] dq21.k = G21 F48 K a0 := by
  kernel_rfl
noncomputable def F21 (K : Nat) (a0 : El TF65) : Option (List (El (.int .i64))) := G21 (F48 K) K a0
theorem cok21 (K : Nat) : CallOK D Try.prog (tab21 (F48 K)) := (add_ok none_ok ent48 (ok48 K))
theorem ok21 (K : Nat) : RowOK D Try.prog 21 (row ad21 dq21 fun p => F21 K p) := row_ok fun x r h => has_of (cok21 K) Try.func21 ((ev21 (F48 K) K x).trans h)
/-! (*ganger/buddy.Yard).Would -/
noncomputable def tab20 (F47 : (List (El T29)) → Option (List (El T29))) (F48 : (List (El (.int .i64))) → Option (List (El (.int .i64)))) (F17 : Int → (Int × (List Int × (List Int × (List Int × (List Int × (List Int × (List Int × (List Int × (List Int × (List Int × (List Int × (List Int × (List (El T29) × (List Int)))))))))))))) → Option (Int × (Int × (List Int × (List Int × (List Int × (List Int × (List Int × (List Int × (List Int × (List Int × (List Int × (List Int × (List Int × (List (El T29) × (List Int)))))))))))))))) (F13 : (El TF65) → Int → Option (Bool)) : Tab := ((((((Tab.none.add 47 (row ad47 dq47 fun p => F47 p)).add 48 (row ad48 dq48 fun p => F48 p)).addG 17 (rowG (gad ag17 ob17) gq17 fun p => F17 p.1.1 p.2)).add 13 (row ad13 dq13 fun p => F13 p.1 p.2)).mark 47).mark 48)
noncomputable def la20 : List (List Tidy) := [[.case 34 [] 12, .prob 29 1 502900 3 (.int .i64), .prob 29 2 502901 3 (.int .i64), .prob 29 3 502902 3 (.int .i64), .prob 29 4 502903 3 (.int .i64), .prob 29 5 502904 3 (.int .i64), .prob 29 6 502905 3 (.int .i64), .prob 29 7 502906 3 (.int .i64), .prob 29 8 502907 3 (.int .i64), .prob 29 9 502908 3 (.int .i64), .prob 29 10 502909 3 (.int .i64), .prob 29 11 502910 3 (.int .i64), .dr 502900, .dr 502901, .dr 502902, .dr 502903, .dr 502904, .dr 502905, .dr 502906, .dr 502907, .dr 502908, .dr 502909, .dr 502910, .reno 41 502900, .reno 41 502901, .reno 41 502902, .reno 41 502903, .reno 41 502904, .reno 41 502905, .reno 41 502906, .reno 41 502907, .reno 41 502908, .reno 41 502909, .reno 41 502910, .only [1, 2, 7, 33, 34], .ids [22, 27, 29, 47, 54, 58], .top [1000000]], [.reno 22 502911, .reno 27 502912, .only [1, 7, 46, 47, 48], .ids [22, 27, 29, 41, 47, 58], .top [1000001]]]
noncomputable def hd20_0 (a0 : El TF65) (a1 : Int) (a2 : List (El (.int .i64))) (ps34 : Int) (ph22 : List (El T29)) (ph27 : List (Int)) (ph502900 : List (Int)) (ph502901 : List (Int)) (ph502902 : List (Int)) (ph502903 : List (Int)) (ph502904 : List (Int)) (ph502905 : List (Int)) (ph502906 : List (Int)) (ph502907 : List (Int)) (ph502908 : List (Int)) (ph502909 : List (Int)) (ph502910 : List (Int)) : St := { tm := slots (nat_lit 59) [(nat_lit 1, AV.sc (Value.int IntKind.i64 a1)), (nat_lit 2, AV.row (Ty.int IntKind.i64) a2), (nat_lit 7, AV.ptr (nat_lit 29) (nat_lit 0)), (nat_lit 33, AV.agg [AV.row (Ty.int IntKind.i64) a0.2.1, AV.row (Ty.int IntKind.i64) a0.2.2.1, AV.row (Ty.int IntKind.i64) a0.2.2.2.1, AV.row (Ty.int IntKind.i64) a0.2.2.2.2.1, AV.row (Ty.int IntKind.i64) a0.2.2.2.2.2.1, AV.row (Ty.int IntKind.i64) a0.2.2.2.2.2.2.1, AV.row (Ty.int IntKind.i64) a0.2.2.2.2.2.2.2.1, AV.row (Ty.int IntKind.i64) a0.2.2.2.2.2.2.2.2.1, AV.row (Ty.int IntKind.i64) a0.2.2.2.2.2.2.2.2.2.1, AV.row (Ty.int IntKind.i64) a0.2.2.2.2.2.2.2.2.2.2.1, AV.row (Ty.int IntKind.i64) a0.2.2.2.2.2.2.2.2.2.2.2.1]), (nat_lit 34, AV.sc (Value.int IntKind.i64 ps34))], H := [(nat_lit 22, ABlk.arr (nat_lit 29) T29 ph22), (nat_lit 27, ABlk.arr (nat_lit 3) (Ty.int IntKind.i64) ph27), (nat_lit 29, ABlk.box (nat_lit 65) [AV.sc (Value.int IntKind.i64 a0.1), AV.own (nat_lit 502900), AV.own (nat_lit 502901), AV.own (nat_lit 502902), AV.own (nat_lit 502903), AV.own (nat_lit 502904), AV.own (nat_lit 502905), AV.own (nat_lit 502906), AV.own (nat_lit 502907), AV.own (nat_lit 502908), AV.own (nat_lit 502909), AV.own (nat_lit 502910), AV.own (nat_lit 22), AV.own (nat_lit 27)]), (nat_lit 502900, ABlk.arr (nat_lit 3) (Ty.int IntKind.i64) ph502900), (nat_lit 502901, ABlk.arr (nat_lit 3) (Ty.int IntKind.i64) ph502901), (nat_lit 502902, ABlk.arr (nat_lit 3) (Ty.int IntKind.i64) ph502902), (nat_lit 502903, ABlk.arr (nat_lit 3) (Ty.int IntKind.i64) ph502903), (nat_lit 502904, ABlk.arr (nat_lit 3) (Ty.int IntKind.i64) ph502904), (nat_lit 502905, ABlk.arr (nat_lit 3) (Ty.int IntKind.i64) ph502905), (nat_lit 502906, ABlk.arr (nat_lit 3) (Ty.int IntKind.i64) ph502906), (nat_lit 502907, ABlk.arr (nat_lit 3) (Ty.int IntKind.i64) ph502907), (nat_lit 502908, ABlk.arr (nat_lit 3) (Ty.int IntKind.i64) ph502908), (nat_lit 502909, ABlk.arr (nat_lit 3) (Ty.int IntKind.i64) ph502909), (nat_lit 502910, ABlk.arr (nat_lit 3) (Ty.int IntKind.i64) ph502910)] }
noncomputable def hd20_1 (a0 : El TF65) (a1 : Int) (a2 : List (El (.int .i64))) (ps48 : Int) (ph29_0 : Int) (ph502900 : List (Int)) (ph502901 : List (Int)) (ph502902 : List (Int)) (ph502903 : List (Int)) (ph502904 : List (Int)) (ph502905 : List (Int)) (ph502906 : List (Int)) (ph502907 : List (Int)) (ph502908 : List (Int)) (ph502909 : List (Int)) (ph502910 : List (Int)) (ph502911 : List (El T29)) (ph502912 : List (Int)) : St := { tm := slots (nat_lit 59) [(nat_lit 1, AV.sc (Value.int IntKind.i64 a1)), (nat_lit 7, AV.ptr (nat_lit 29) (nat_lit 0)), (nat_lit 46, AV.row (Ty.int IntKind.i64) a2), (nat_lit 47, AV.sc (Value.int IntKind.i64 (↑a2.length : Int))), (nat_lit 48, AV.sc (Value.int IntKind.i64 ps48))], H := [(nat_lit 29, ABlk.box (nat_lit 65) [AV.sc (Value.int IntKind.i64 ph29_0), AV.own (nat_lit 502900), AV.own (nat_lit 502901), AV.own (nat_lit 502902), AV.own (nat_lit 502903), AV.own (nat_lit 502904), AV.own (nat_lit 502905), AV.own (nat_lit 502906), AV.own (nat_lit 502907), AV.own (nat_lit 502908), AV.own (nat_lit 502909), AV.own (nat_lit 502910), AV.own (nat_lit 502911), AV.own (nat_lit 502912)]), (nat_lit 502900, ABlk.arr (nat_lit 3) (Ty.int IntKind.i64) ph502900), (nat_lit 502901, ABlk.arr (nat_lit 3) (Ty.int IntKind.i64) ph502901), (nat_lit 502902, ABlk.arr (nat_lit 3) (Ty.int IntKind.i64) ph502902), (nat_lit 502903, ABlk.arr (nat_lit 3) (Ty.int IntKind.i64) ph502903), (nat_lit 502904, ABlk.arr (nat_lit 3) (Ty.int IntKind.i64) ph502904), (nat_lit 502905, ABlk.arr (nat_lit 3) (Ty.int IntKind.i64) ph502905), (nat_lit 502906, ABlk.arr (nat_lit 3) (Ty.int IntKind.i64) ph502906), (nat_lit 502907, ABlk.arr (nat_lit 3) (Ty.int IntKind.i64) ph502907), (nat_lit 502908, ABlk.arr (nat_lit 3) (Ty.int IntKind.i64) ph502908), (nat_lit 502909, ABlk.arr (nat_lit 3) (Ty.int IntKind.i64) ph502909), (nat_lit 502910, ABlk.arr (nat_lit 3) (Ty.int IntKind.i64) ph502910), (nat_lit 502911, ABlk.arr (nat_lit 29) T29 ph502911), (nat_lit 502912, ABlk.arr (nat_lit 3) (Ty.int IntKind.i64) ph502912)] }
noncomputable def b20_1 (F47 : (List (El T29)) → Option (List (El T29))) (F48 : (List (El (.int .i64))) → Option (List (El (.int .i64)))) (F17 : Int → (Int × (List Int × (List Int × (List Int × (List Int × (List Int × (List Int × (List Int × (List Int × (List Int × (List Int × (List Int × (List (El T29) × (List Int)))))))))))))) → Option (Int × (Int × (List Int × (List Int × (List Int × (List Int × (List Int × (List Int × (List Int × (List Int × (List Int × (List Int × (List Int × (List (El T29) × (List Int)))))))))))))))) (F13 : (El TF65) → Int → Option (Bool)) (K : Nat) (a0 : El TF65) (a1 : Int) (a2 : List (El (.int .i64))) (r1 : Int → Int → (List (Int)) → (List (Int)) → (List (Int)) → (List (Int)) → (List (Int)) → (List (Int)) → (List (Int)) → (List (Int)) → (List (Int)) → (List (Int)) → (List (Int)) → (List (El T29)) → (List (Int)) → Option (Bool)) (ps48 : Int) (ph29_0 : Int) (ph502900 : List (Int)) (ph502901 : List (Int)) (ph502902 : List (Int)) (ph502903 : List (Int)) (ph502904 : List (Int)) (ph502905 : List (Int)) (ph502906 : List (Int)) (ph502907 : List (Int)) (ph502908 : List (Int)) (ph502909 : List (Int)) (ph502910 : List (Int)) (ph502911 : List (El T29)) (ph502912 : List (Int)) : Option (Bool) :=(if decide (ps48 < (↑a2.length : Int)) = true then (if decide ((0 : Int) ≤ ps48 ∧ ps48 < (↑a2.length : Int)) = true then 
    (Option.bind (F17 (a2.getD ps48.toNat (zEl (Ty.int IntKind.i64))) (ph29_0, ph502900, ph502901, ph502902, ph502903, ph502904, ph502905, ph502906, ph502907, ph502908, ph502909, ph502910, ph502911, ph502912)) fun x13 => r1 (IntKind.i64.wrap (ps48 + (1 : Int))) (x13.2.1) (x13.2.2.1) (x13.2.2.2.1) (x13.2.2.2.2.1) (x13.2.2.2.2.2.1) (x13.2.2.2.2.2.2.1) (x13.2.2.2.2.2.2.2.1) (x13.2.2.2.2.2.2.2.2.1) (x13.2.2.2.2.2.2.2.2.2.1) (x13.2.2.2.2.2.2.2.2.2.2.1) (x13.2.2.2.2.2.2.2.2.2.2.2.1) (x13.2.2.2.2.2.2.2.2.2.2.2.2.1) (x13.2.2.2.2.2.2.2.2.2.2.2.2.2.1) (x13.2.2.2.2.2.2.2.2.2.2.2.2.2.2))
   else none)
  else 
   (Option.bind (F13 (ph29_0, ph502900, ph502901, ph502902, ph502903, ph502904, ph502905, ph502906, ph502907, ph502908, ph502909, ph502910, ph502911, ph502912) a1) fun x14 => some (x14)))
noncomputable def L20_1 (F47 : (List (El T29)) → Option (List (El T29))) (F48 : (List (El (.int .i64))) → Option (List (El (.int .i64)))) (F17 : Int → (Int × (List Int × (List Int × (List Int × (List Int × (List Int × (List Int × (List Int × (List Int × (List Int × (List Int × (List Int × (List (El T29) × (List Int)))))))))))))) → Option (Int × (Int × (List Int × (List Int × (List Int × (List Int × (List Int × (List Int × (List Int × (List Int × (List Int × (List Int × (List Int × (List (El T29) × (List Int)))))))))))))))) (F13 : (El TF65) → Int → Option (Bool)) (K : Nat) (a0 : El TF65) (a1 : Int) (a2 : List (El (.int .i64))) : Nat → Int → Int → (List (Int)) → (List (Int)) → (List (Int)) → (List (Int)) → (List (Int)) → (List (Int)) → (List (Int)) → (List (Int)) → (List (Int)) → (List (Int)) → (List (Int)) → (List (El T29)) → (List (Int)) → Option (Bool)
  | 0, _, _, _, _, _, _, _, _, _, _, _, _, _, _, _ => none
  | n + 1, ps48, ph29_0, ph502900, ph502901, ph502902, ph502903, ph502904, ph502905, ph502906, ph502907, ph502908, ph502909, ph502910, ph502911, ph502912 => b20_1 F47 F48 F17 F13 K a0 a1 a2 (L20_1 F47 F48 F17 F13 K a0 a1 a2 n) ps48 ph29_0 ph502900 ph502901 ph502902 ph502903 ph502904 ph502905 ph502906 ph502907 ph502908 ph502909 ph502910 ph502911 ph502912
noncomputable def b20_0 (F47 : (List (El T29)) → Option (List (El T29))) (F48 : (List (El (.int .i64))) → Option (List (El (.int .i64)))) (F17 : Int → (Int × (List Int × (List Int × (List Int × (List Int × (List Int × (List Int × (List Int × (List Int × (List Int × (List Int × (List Int × (List (El T29) × (List Int)))))))))))))) → Option (Int × (Int × (List Int × (List Int × (List Int × (List Int × (List Int × (List Int × (List Int × (List Int × (List Int × (List Int × (List Int × (List (El T29) × (List Int)))))))))))))))) (F13 : (El TF65) → Int → Option (Bool)) (K : Nat) (a0 : El TF65) (a1 : Int) (a2 : List (El (.int .i64))) (r0 : Int → (List (El T29)) → (List (Int)) → (List (Int)) → (List (Int)) → (List (Int)) → (List (Int)) → (List (Int)) → (List (Int)) → (List (Int)) → (List (Int)) → (List (Int)) → (List (Int)) → (List (Int)) → Option (Bool)) (l1 : Nat → Int → Int → (List (Int)) → (List (Int)) → (List (Int)) → (List (Int)) → (List (Int)) → (List (Int)) → (List (Int)) → (List (Int)) → (List (Int)) → (List (Int)) → (List (Int)) → (List (El T29)) → (List (Int)) → Option (Bool)) (ps34 : Int) (ph22 : List (El T29)) (ph27 : List (Int)) (ph502900 : List (Int)) (ph502901 : List (Int)) (ph502902 : List (Int)) (ph502903 : List (Int)) (ph502904 : List (Int)) (ph502905 : List (Int)) (ph502906 : List (Int)) (ph502907 : List (Int)) (ph502908 : List (Int)) (ph502909 : List (Int)) (ph502910 : List (Int)) : Option (Bool) :=(if decide (ps34 = Int.ofNat (0 : Nat)) = true then 
   (Option.bind (F48 a0.2.1) fun x2 => r0 (IntKind.i64.wrap ((↑(0 : Nat) : Int) + (1 : Int))) (ph22) (ph27) (x2) (ph502901) (ph502902) (ph502903) (ph502904) (ph502905) (ph502906) (ph502907) (ph502908) (ph502909) (ph502910))
  else (if decide (ps34 = Int.ofNat ((0 : Nat) + (1 : Nat))) = true then 
    (Option.bind (F48 a0.2.2.1) fun x3 => r0 (IntKind.i64.wrap ((↑((0 : Nat) + (1 : Nat)) : Int) + (1 : Int))) (ph22) (ph27) (ph502900) (x3) (ph502902) (ph502903) (ph502904) (ph502905) (ph502906) (ph502907) (ph502908) (ph502909) (ph502910))
   else (if decide (ps34 = Int.ofNat ((0 : Nat) + (1 : Nat) + (1 : Nat))) = true then 
     (Option.bind (F48 a0.2.2.2.1) fun x4 => r0 (IntKind.i64.wrap ((↑((0 : Nat) + (1 : Nat) + (1 : Nat)) : Int) + (1 : Int))) (ph22) (ph27) (ph502900) (ph502901) (x4) (ph502903) (ph502904) (ph502905) (ph502906) (ph502907) (ph502908) (ph502909) (ph502910))
    else (if decide (ps34 = Int.ofNat ((0 : Nat) + (1 : Nat) + (1 : Nat) + (1 : Nat))) = true then 
      (Option.bind (F48 a0.2.2.2.2.1) fun x5 => r0 (IntKind.i64.wrap ((↑((0 : Nat) + (1 : Nat) + (1 : Nat) + (1 : Nat)) : Int) + (1 : Int))) (ph22) (ph27) (ph502900) (ph502901) (ph502902) (x5) (ph502904) (ph502905) (ph502906) (ph502907) (ph502908) (ph502909) (ph502910))
     else (if decide (ps34 = Int.ofNat ((0 : Nat) + (1 : Nat) + (1 : Nat) + (1 : Nat) + (1 : Nat))) = true then 
       (Option.bind (F48 a0.2.2.2.2.2.1) fun x6 => r0 (IntKind.i64.wrap ((↑((0 : Nat) + (1 : Nat) + (1 : Nat) + (1 : Nat) + (1 : Nat)) : Int) + (1 : Int))) (ph22) (ph27) (ph502900) (ph502901) (ph502902) (ph502903) (x6) (ph502905) (ph502906) (ph502907) (ph502908) (ph502909) (ph502910))
      else (if decide (ps34 = Int.ofNat ((0 : Nat) + (1 : Nat) + (1 : Nat) + (1 : Nat) + (1 : Nat) + (1 : Nat))) = true then 
        (Option.bind (F48 a0.2.2.2.2.2.2.1) fun x7 => r0 (IntKind.i64.wrap ((↑((0 : Nat) + (1 : Nat) + (1 : Nat) + (1 : Nat) + (1 : Nat) + (1 : Nat)) : Int) + (1 : Int))) (ph22) (ph27) (ph502900) (ph502901) (ph502902) (ph502903) (ph502904) (x7) (ph502906) (ph502907) (ph502908) (ph502909) (ph502910))
       else (if decide (ps34 = Int.ofNat ((0 : Nat) + (1 : Nat) + (1 : Nat) + (1 : Nat) + (1 : Nat) + (1 : Nat) + (1 : Nat))) = true then 
         (Option.bind (F48 a0.2.2.2.2.2.2.2.1) fun x8 => r0 (IntKind.i64.wrap ((↑((0 : Nat) + (1 : Nat) + (1 : Nat) + (1 : Nat) + (1 : Nat) + (1 : Nat) + (1 : Nat)) : Int) + (1 : Int))) (ph22) (ph27) (ph502900) (ph502901) (ph502902) (ph502903) (ph502904) (ph502905) (x8) (ph502907) (ph502908) (ph502909) (ph502910))
        else (if decide (ps34 = Int.ofNat ((0 : Nat) + (1 : Nat) + (1 : Nat) + (1 : Nat) + (1 : Nat) + (1 : Nat) + (1 : Nat) + (1 : Nat))) = true then 
          (Option.bind (F48 a0.2.2.2.2.2.2.2.2.1) fun x9 => r0 (IntKind.i64.wrap ((↑((0 : Nat) + (1 : Nat) + (1 : Nat) + (1 : Nat) + (1 : Nat) + (1 : Nat) + (1 : Nat) + (1 : Nat)) : Int) + (1 : Int))) (ph22) (ph27) (ph502900) (ph502901) (ph502902) (ph502903) (ph502904) (ph502905) (ph502906) (x9) (ph502908) (ph502909) (ph502910))
         else (if decide (ps34 = Int.ofNat ((0 : Nat) + (1 : Nat) + (1 : Nat) + (1 : Nat) + (1 : Nat) + (1 : Nat) + (1 : Nat) + (1 : Nat) + (1 : Nat))) = true then 
           (Option.bind (F48 a0.2.2.2.2.2.2.2.2.2.1) fun x10 => r0 (IntKind.i64.wrap ((↑((0 : Nat) + (1 : Nat) + (1 : Nat) + (1 : Nat) + (1 : Nat) + (1 : Nat) + (1 : Nat) + (1 : Nat) + (1 : Nat)) : Int) + (1 : Int))) (ph22) (ph27) (ph502900) (ph502901) (ph502902) (ph502903) (ph502904) (ph502905) (ph502906) (ph502907) (x10) (ph502909) (ph502910))
          else (if decide (ps34 = Int.ofNat ((0 : Nat) + (1 : Nat) + (1 : Nat) + (1 : Nat) + (1 : Nat) + (1 : Nat) + (1 : Nat) + (1 : Nat) + (1 : Nat) + (1 : Nat))) = true then 
            (Option.bind (F48 a0.2.2.2.2.2.2.2.2.2.2.1) fun x11 => r0 (IntKind.i64.wrap ((↑((0 : Nat) + (1 : Nat) + (1 : Nat) + (1 : Nat) + (1 : Nat) + (1 : Nat) + (1 : Nat) + (1 : Nat) + (1 : Nat) + (1 : Nat)) : Int) + (1 : Int))) (ph22) (ph27) (ph502900) (ph502901) (ph502902) (ph502903) (ph502904) (ph502905) (ph502906) (ph502907) (ph502908) (x11) (ph502910))
           else (if decide (ps34 = Int.ofNat ((0 : Nat) + (1 : Nat) + (1 : Nat) + (1 : Nat) + (1 : Nat) + (1 : Nat) + (1 : Nat) + (1 : Nat) + (1 : Nat) + (1 : Nat) + (1 : Nat))) = true then 
             (Option.bind (F48 a0.2.2.2.2.2.2.2.2.2.2.2.1) fun x12 => r0 (IntKind.i64.wrap ((↑((0 : Nat) + (1 : Nat) + (1 : Nat) + (1 : Nat) + (1 : Nat) + (1 : Nat) + (1 : Nat) + (1 : Nat) + (1 : Nat) + (1 : Nat) + (1 : Nat)) : Int) + (1 : Int))) (ph22) (ph27) (ph502900) (ph502901) (ph502902) (ph502903) (ph502904) (ph502905) (ph502906) (ph502907) (ph502908) (ph502909) (x12))
            else (if decide (ps34 = Int.ofNat ((0 : Nat) + (1 : Nat) + (1 : Nat) + (1 : Nat) + (1 : Nat) + (1 : Nat) + (1 : Nat) + (1 : Nat) + (1 : Nat) + (1 : Nat) + (1 : Nat) + (1 : Nat))) = true then l1 K ((0 : Int)) (a0.1) (ph502900) (ph502901) (ph502902) (ph502903) (ph502904) (ph502905) (ph502906) (ph502907) (ph502908) (ph502909) (ph502910) (ph22) (ph27)
             else none))))))))))))
noncomputable def L20_0 (F47 : (List (El T29)) → Option (List (El T29))) (F48 : (List (El (.int .i64))) → Option (List (El (.int .i64)))) (F17 : Int → (Int × (List Int × (List Int × (List Int × (List Int × (List Int × (List Int × (List Int × (List Int × (List Int × (List Int × (List Int × (List (El T29) × (List Int)))))))))))))) → Option (Int × (Int × (List Int × (List Int × (List Int × (List Int × (List Int × (List Int × (List Int × (List Int × (List Int × (List Int × (List Int × (List (El T29) × (List Int)))))))))))))))) (F13 : (El TF65) → Int → Option (Bool)) (K : Nat) (a0 : El TF65) (a1 : Int) (a2 : List (El (.int .i64))) : Nat → Int → (List (El T29)) → (List (Int)) → (List (Int)) → (List (Int)) → (List (Int)) → (List (Int)) → (List (Int)) → (List (Int)) → (List (Int)) → (List (Int)) → (List (Int)) → (List (Int)) → (List (Int)) → Option (Bool)
  | 0, _, _, _, _, _, _, _, _, _, _, _, _, _, _ => none
  | n + 1, ps34, ph22, ph27, ph502900, ph502901, ph502902, ph502903, ph502904, ph502905, ph502906, ph502907, ph502908, ph502909, ph502910 => b20_0 F47 F48 F17 F13 K a0 a1 a2 (L20_0 F47 F48 F17 F13 K a0 a1 a2 n) (L20_1 F47 F48 F17 F13 K a0 a1 a2) ps34 ph22 ph27 ph502900 ph502901 ph502902 ph502903 ph502904 ph502905 ph502906 ph502907 ph502908 ph502909 ph502910
noncomputable def t20 (F47 : (List (El T29)) → Option (List (El T29))) (F48 : (List (El (.int .i64))) → Option (List (El (.int .i64)))) (F17 : Int → (Int × (List Int × (List Int × (List Int × (List Int × (List Int × (List Int × (List Int × (List Int × (List Int × (List Int × (List Int × (List (El T29) × (List Int)))))))))))))) → Option (Int × (Int × (List Int × (List Int × (List Int × (List Int × (List Int × (List Int × (List Int × (List Int × (List Int × (List Int × (List Int × (List (El T29) × (List Int)))))))))))))))) (F13 : (El TF65) → Int → Option (Bool)) (K : Nat) (a0 : El TF65) (a1 : Int) (a2 : List (El (.int .i64))) (l0 : Nat → Int → (List (El T29)) → (List (Int)) → (List (Int)) → (List (Int)) → (List (Int)) → (List (Int)) → (List (Int)) → (List (Int)) → (List (Int)) → (List (Int)) → (List (Int)) → (List (Int)) → (List (Int)) → Option (Bool)) : Option (Bool) := 
 (Option.bind (F47 a0.2.2.2.2.2.2.2.2.2.2.2.2.1) fun x0 => 
  (Option.bind (F48 a0.2.2.2.2.2.2.2.2.2.2.2.2.2) fun x1 => l0 K ((0 : Int)) (x0) (x1) ([]) ([]) ([]) ([]) ([]) ([]) ([]) ([]) ([]) ([]) ([])))
noncomputable def G20 (F47 : (List (El T29)) → Option (List (El T29))) (F48 : (List (El (.int .i64))) → Option (List (El (.int .i64)))) (F17 : Int → (Int × (List Int × (List Int × (List Int × (List Int × (List Int × (List Int × (List Int × (List Int × (List Int × (List Int × (List Int × (List (El T29) × (List Int)))))))))))))) → Option (Int × (Int × (List Int × (List Int × (List Int × (List Int × (List Int × (List Int × (List Int × (List Int × (List Int × (List Int × (List Int × (List (El T29) × (List Int)))))))))))))))) (F13 : (El TF65) → Int → Option (Bool)) (K : Nat) (a0 : El TF65) (a1 : Int) (a2 : List (El (.int .i64))) : Option (Bool) := t20 F47 F48 F17 F13 K a0 a1 a2 (L20_0 F47 F48 F17 F13 K a0 a1 a2)
theorem lp20_1 (F47 : (List (El T29)) → Option (List (El T29))) (F48 : (List (El (.int .i64))) → Option (List (El (.int .i64)))) (F17 : Int → (Int × (List Int × (List Int × (List Int × (List Int × (List Int × (List Int × (List Int × (List Int × (List Int × (List Int × (List Int × (List (El T29) × (List Int)))))))))))))) → Option (Int × (Int × (List Int × (List Int × (List Int × (List Int × (List Int × (List Int × (List Int × (List Int × (List Int × (List Int × (List Int × (List (El T29) × (List Int)))))))))))))))) (F13 : (El TF65) → Int → Option (Bool)) (K : Nat) (a0 : El TF65) (a1 : Int) (a2 : List (El (.int .i64))) : ∀ (n : Nat) (ps48 : Int) (ph29_0 : Int) (ph502900 : List (Int)) (ph502901 : List (Int)) (ph502902 : List (Int)) (ph502903 : List (Int)) (ph502904 : List (Int)) (ph502905 : List (Int)) (ph502906 : List (Int)) (ph502907 : List (Int)) (ph502908 : List (Int)) (ph502909 : List (Int)) (ph502910 : List (Int)) (ph502911 : List (El T29)) (ph502912 : List (Int)), loopN Try.prog (tab20 F47 F48 F17 F13) 0 K Try.f20 la20 dq20.k 1 [] n (hd20_1 a0 a1 a2 ps48 ph29_0 ph502900 ph502901 ph502902 ph502903 ph502904 ph502905 ph502906 ph502907 ph502908 ph502909 ph502910 ph502911 ph502912) = L20_1 F47 F48 F17 F13 K a0 a1 a2 n ps48 ph29_0 ph502900 ph502901 ph502902 ph502903 ph502904 ph502905 ph502906 ph502907 ph502908 ph502909 ph502910 ph502911 ph502912
  | 0, _, _, _, _, _, _, _, _, _, _, _, _, _, _, _ => by kernel_rfl
  | n + 1, ps48, ph29_0, ph502900, ph502901, ph502902, ph502903, ph502904, ph502905, ph502906, ph502907, ph502908, ph502909, ph502910, ph502911, ph502912 => by
    have h : loopN Try.prog (tab20 F47 F48 F17 F13) 0 K Try.f20 la20 dq20.k 1 [] (n + 1) (hd20_1 a0 a1 a2 ps48 ph29_0 ph502900 ph502901 ph502902 ph502903 ph502904 ph502905 ph502906 ph502907 ph502908 ph502909 ph502910 ph502911 ph502912) = b20_1 F47 F48 F17 F13 K a0 a1 a2 (fun q0 q1 q2 q3 q4 q5 q6 q7 q8 q9 q10 q11 q12 q13 q14 => loopN Try.prog (tab20 F47 F48 F17 F13) 0 K Try.f20 la20 dq20.k 1 [] n (hd20_1 a0 a1 a2 q0 q1 q2 q3 q4 q5 q6 q7 q8 q9 q10 q11 q12 q13 q14)) ps48 ph29_0 ph502900 ph502901 ph502902 ph502903 ph502904 ph502905 ph502906 ph502907 ph502908 ph502909 ph502910 ph502911 ph502912 := by kernel_rfl
    rw [h]
    simp only [lp20_1 F47 F48 F17 F13 K a0 a1 a2 n]
    rfl
theorem lp20_0 (F47 : (List (El T29)) → Option (List (El T29))) (F48 : (List (El (.int .i64))) → Option (List (El (.int .i64)))) (F17 : Int → (Int × (List Int × (List Int × (List Int × (List Int × (List Int × (List Int × (List Int × (List Int × (List Int × (List Int × (List Int × (List (El T29) × (List Int)))))))))))))) → Option (Int × (Int × (List Int × (List Int × (List Int × (List Int × (List Int × (List Int × (List Int × (List Int × (List Int × (List Int × (List Int × (List (El T29) × (List Int)))))))))))))))) (F13 : (El TF65) → Int → Option (Bool)) (K : Nat) (a0 : El TF65) (a1 : Int) (a2 : List (El (.int .i64))) : ∀ (n : Nat) (ps34 : Int) (ph22 : List (El T29)) (ph27 : List (Int)) (ph502900 : List (Int)) (ph502901 : List (Int)) (ph502902 : List (Int)) (ph502903 : List (Int)) (ph502904 : List (Int)) (ph502905 : List (Int)) (ph502906 : List (Int)) (ph502907 : List (Int)) (ph502908 : List (Int)) (ph502909 : List (Int)) (ph502910 : List (Int)), loopN Try.prog (tab20 F47 F48 F17 F13) 0 K Try.f20 la20 dq20.k 0 [] n (hd20_0 a0 a1 a2 ps34 ph22 ph27 ph502900 ph502901 ph502902 ph502903 ph502904 ph502905 ph502906 ph502907 ph502908 ph502909 ph502910) = L20_0 F47 F48 F17 F13 K a0 a1 a2 n ps34 ph22 ph27 ph502900 ph502901 ph502902 ph502903 ph502904 ph502905 ph502906 ph502907 ph502908 ph502909 ph502910
  | 0, _, _, _, _, _, _, _, _, _, _, _, _, _, _ => by kernel_rfl
  | n + 1, ps34, ph22, ph27, ph502900, ph502901, ph502902, ph502903, ph502904, ph502905, ph502906, ph502907, ph502908, ph502909, ph502910 => by
    have h : loopN Try.prog (tab20 F47 F48 F17 F13) 0 K Try.f20 la20 dq20.k 0 [] (n + 1) (hd20_0 a0 a1 a2 ps34 ph22 ph27 ph502900 ph502901 ph502902 ph502903 ph502904 ph502905 ph502906 ph502907 ph502908 ph502909 ph502910) = b20_0 F47 F48 F17 F13 K a0 a1 a2 (fun q0 q1 q2 q3 q4 q5 q6 q7 q8 q9 q10 q11 q12 q13 => loopN Try.prog (tab20 F47 F48 F17 F13) 0 K Try.f20 la20 dq20.k 0 [] n (hd20_0 a0 a1 a2 q0 q1 q2 q3 q4 q5 q6 q7 q8 q9 q10 q11 q12 q13)) (fun k q0 q1 q2 q3 q4 q5 q6 q7 q8 q9 q10 q11 q12 q13 q14 => loopN Try.prog (tab20 F47 F48 F17 F13) 0 K Try.f20 la20 dq20.k 1 [] k (hd20_1 a0 a1 a2 q0 q1 q2 q3 q4 q5 q6 q7 q8 q9 q10 q11 q12 q13 q14)) ps34 ph22 ph27 ph502900 ph502901 ph502902 ph502903 ph502904 ph502905 ph502906 ph502907 ph502908 ph502909 ph502910 := by kernel_rfl
    rw [h]
    simp only [lp20_0 F47 F48 F17 F13 K a0 a1 a2 n, lp20_1 F47 F48 F17 F13 K a0 a1 a2]
    rfl
theorem ev20 (F47 : (List (El T29)) → Option (List (El T29))) (F48 : (List (El (.int .i64))) → Option (List (El (.int .i64)))) (F17 : Int → (Int × (List Int × (List Int × (List Int × (List Int × (List Int × (List Int × (List Int × (List Int × (List Int × (List Int × (List Int × (List (El T29) × (List Int)))))))))))))) → Option (Int × (Int × (List Int × (List Int × (List Int × (List Int × (List Int × (List Int × (List Int × (List Int × (List Int × (List Int × (List Int × (List (El T29) × (List Int)))))))))))))))) (F13 : (El TF65) → Int → Option (Bool)) (K : Nat) (a0 : El TF65) (a1 : Int) (a2 : List (El (.int .i64))) : evFun Try.prog (tab20 F47 F48 F17 F13) 0 K Try.f20 la20 [.eptr TF65 a0 0, I .i64 a1, .row (.int .i64) a2] [] dq20.k = G20 F47 F48 F17 F13 K a0 a1 a2 := by
  have h : evFun Try.prog (tab20 F47 F48 F17 F13) 0 K Try.f20 la20 [.eptr TF65 a0 0, I .i64 a1, .row (.int .i64) a2] [] dq20.k = t20 F47 F48 F17 F13 K a0 a1 a2 (fun k q0 q1 q2 q3 q4 q5 q6 q7 q8 q9 q10 q11 q12 q13 => loopN Try.prog (tab20 F47 F48 F17 F13) 0 K Try.f20 la20 dq20.k 0 [] k (hd20_0 a0 a1 a2 q0 q1 q2 q3 q4 q5 q6 q7 q8 q9 q10 q11 q12 q13)) := by kernel_rfl
  rw [h]
  simp only [lp20_0 F47 F48 F17 F13 K a0 a1 a2]
  rfl
noncomputable def F20 (K : Nat) (a0 : El TF65) (a1 : Int) (a2 : List (El (.int .i64))) : Option (Bool) := G20 (F47 K) (F48 K) (F17 K) (F13 K) K a0 a1 a2
theorem cok20 (K : Nat) : CallOK D Try.prog (tab20 (F47 K) (F48 K) (F17 K) (F13 K)) := (mark_ok (mark_ok (add_ok (addG_ok (add_ok (add_ok none_ok ent47 (ok47 K)) ent48 (ok48 K)) ent17 (ok17 K)) ent13 (ok13 K))))
theorem ok20 (K : Nat) : RowOK D Try.prog 20 (row ad20 dq20 fun p => F20 K p.1 p.2.1 p.2.2) := row_ok fun x r h => has_of (cok20 K) Try.func20 ((ev20 (F47 K) (F48 K) (F17 K) (F13 K) K x.1 x.2.1 x.2.2).trans h)
end Go.Proofs.YtiicginipjbloaaE
