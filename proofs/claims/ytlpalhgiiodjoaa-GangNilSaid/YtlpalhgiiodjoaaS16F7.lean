import Derived.Test.YtlpalhgiiodjoaaS16F6
set_option linter.all false
namespace Go.Proofs.YtlpalhgiiodjoaaE
open Go Go.Proofs
set_option maxRecDepth 100000
set_option linter.unusedVariables false
variable {D : Prop}
/-! (*ganger/gang.Matrix).Turn -/
noncomputable def tab1018 (F17 : (El T62) → Option (Int)) : Tab := (Tab.none.add 17 (row ad17 dq17 fun p => F17 p))
noncomputable def t1018 (F17 : (El T62) → Option (Int)) (K : Nat) (a0 : Unit) : Option (Unit) := some (())
noncomputable def G1018 (F17 : (El T62) → Option (Int)) (K : Nat) (a0 : Unit) : Option (Unit) := t1018 F17 K a0
theorem ev1018 (F17 : (El T62) → Option (Int)) (K : Nat) (a0 : Unit) : evFun Try.prog (tab1018 F17) 0 K Try.f18 [] [.sc (.pointer none)] [] dq1018.k = G1018 F17 K a0 := by
  kernel_rfl
noncomputable def F1018 (K : Nat) (a0 : Unit) : Option (Unit) := G1018 (F17 K) K a0
theorem cok1018 (K : Nat) : CallOK D Try.prog (tab1018 (F17 K)) := (add_ok none_ok ent17 (ok17 K))
theorem ok1018 (K : Nat) : RowOK D Try.prog 18 (row ad1018 dq1018 fun p => F1018 K p) := row_ok fun x r h => has_of (cok1018 K) Try.func18 ((ev1018 (F17 K) K x).trans h)
/-! (*ganger/gang.Matrix).Remove -/
noncomputable def tab1022 (F39 : (El T62) → Int → Option (Int)) (F40 : (Int × Int) → List (El T34) → Option (List (El T34))) (F17 : (El T62) → Option (Int)) : Tab := (((Tab.none.add 39 (row ad39 dq39 fun p => F39 p.1 p.2)).addW 40 (rowW T34 ad40 F40 true)).add 17 (row ad17 dq17 fun p => F17 p))
noncomputable def t1022 (F39 : (El T62) → Int → Option (Int)) (F40 : (Int × Int) → List (El T34) → Option (List (El T34))) (F17 : (El T62) → Option (Int)) (K : Nat) (a0 : Unit) (a1 : Int) : Option (Int) := some ((1 : Int))
noncomputable def G1022 (F39 : (El T62) → Int → Option (Int)) (F40 : (Int × Int) → List (El T34) → Option (List (El T34))) (F17 : (El T62) → Option (Int)) (K : Nat) (a0 : Unit) (a1 : Int) : Option (Int) := t1022 F39 F40 F17 K a0 a1
theorem ev1022 (F39 : (El T62) → Int → Option (Int)) (F40 : (Int × Int) → List (El T34) → Option (List (El T34))) (F17 : (El T62) → Option (Int)) (K : Nat) (a0 : Unit) (a1 : Int) : evFun Try.prog (tab1022 F39 F40 F17) 0 K Try.f22 [] [.sc (.pointer none), I .u32 a1] [] dq1022.k = G1022 F39 F40 F17 K a0 a1 := by
  kernel_rfl
noncomputable def F1022 (K : Nat) (a0 : Unit) (a1 : Int) : Option (Int) := G1022 (F39 K) (F40 K) (F17 K) K a0 a1
theorem cok1022 (K : Nat) : CallOK D Try.prog (tab1022 (F39 K) (F40 K) (F17 K)) := (add_ok (addW_ok (add_ok none_ok ent39 (ok39 K)) ent40 (ok40 K)) ent17 (ok17 K))
theorem ok1022 (K : Nat) : RowOK D Try.prog 22 (row ad1022 dq1022 fun p => F1022 K p.1 p.2) := row_ok fun x r h => has_of (cok1022 K) Try.func22 ((ev1022 (F39 K) (F40 K) (F17 K) K x.1 x.2).trans h)
/-! (*ganger/gang.Matrix).Unify -/
noncomputable def tab1020 (F37 : (El T62) → Int → Option (El T65)) (F32 : (El T32) → Option (El T65)) (F33 : (El T65) → (El T65) → Option (Bool)) (F38 : (Int × (List (El T34) × Int)) → Option (Unit × (Int × (List (El T34) × Int)))) : Tab := ((((Tab.none.add 37 (row ad37 dq37 fun p => F37 p.1 p.2)).add 32 (row ad32 dq32 fun p => F32 p)).add 33 (row ad33 dq33 fun p => F33 p.1 p.2)).addG 38 (rowG (gad ag38 ob38) gq38 fun p => F38 p.2))
noncomputable def t1020 (F37 : (El T62) → Int → Option (El T65)) (F32 : (El T32) → Option (El T65)) (F33 : (El T65) → (El T65) → Option (Bool)) (F38 : (Int × (List (El T34) × Int)) → Option (Unit × (Int × (List (El T34) × Int)))) (K : Nat) (a0 : Unit) : Option (Int) := some ((0 : Int))
noncomputable def G1020 (F37 : (El T62) → Int → Option (El T65)) (F32 : (El T32) → Option (El T65)) (F33 : (El T65) → (El T65) → Option (Bool)) (F38 : (Int × (List (El T34) × Int)) → Option (Unit × (Int × (List (El T34) × Int)))) (K : Nat) (a0 : Unit) : Option (Int) := t1020 F37 F32 F33 F38 K a0
theorem ev1020 (F37 : (El T62) → Int → Option (El T65)) (F32 : (El T32) → Option (El T65)) (F33 : (El T65) → (El T65) → Option (Bool)) (F38 : (Int × (List (El T34) × Int)) → Option (Unit × (Int × (List (El T34) × Int)))) (K : Nat) (a0 : Unit) : evFun Try.prog (tab1020 F37 F32 F33 F38) 0 K Try.f20 ([[.only [0, 3, 17, 18, 19], .ids [11, 18, 50, 55], .top [1000000]], [.only [0, 3, 4, 5, 17, 18, 19, 25, 26], .ids [5, 11, 18, 50, 55], .top [1000001]], [.only [0, 3, 7, 8, 9, 54, 55, 56], .ids [5, 18, 31, 34, 35, 50, 55], .top [1000002]]] : List (List Tidy)) [.sc (.pointer none)] [] dq1020.k = G1020 F37 F32 F33 F38 K a0 := by
  kernel_rfl
noncomputable def F1020 (K : Nat) (a0 : Unit) : Option (Int) := G1020 (F37 K) (F32 K) (F33 K) (F38 K) K a0
theorem cok1020 (K : Nat) : CallOK D Try.prog (tab1020 (F37 K) (F32 K) (F33 K) (F38 K)) := (addG_ok (add_ok (add_ok (add_ok none_ok ent37 (ok37 K)) ent32 (ok32 K)) ent33 (ok33 K)) ent38 (ok38 K))
theorem ok1020 (K : Nat) : RowOK D Try.prog 20 (row ad1020 dq1020 fun p => F1020 K p) := row_ok fun x r h => has_of (cok1020 K) Try.func20 ((ev1020 (F37 K) (F32 K) (F33 K) (F38 K) K x).trans h)
/-! (*ganger/gang.Matrix).Active -/
noncomputable def tab1014 : Tab := Tab.none
noncomputable def t1014 (K : Nat) (a0 : Unit) : Option (Int) := some ((0 : Int))
noncomputable def G1014 (K : Nat) (a0 : Unit) : Option (Int) := t1014 K a0
theorem ev1014 (K : Nat) (a0 : Unit) : evFun Try.prog (tab1014) 0 K Try.f14 [] [.sc (.pointer none)] [] dq1014.k = G1014 K a0 := by
  kernel_rfl
noncomputable def F1014 (K : Nat) (a0 : Unit) : Option (Int) := G1014 K a0
theorem cok1014 (K : Nat) : CallOK D Try.prog (tab1014) := none_ok
theorem ok1014 (K : Nat) : RowOK D Try.prog 14 (row ad1014 dq1014 fun p => F1014 K p) := row_ok fun x r h => has_of (cok1014 K) Try.func14 ((ev1014 K x).trans h)
/-! (*ganger/gang.Matrix).Rows -/
noncomputable def tab1017 : Tab := Tab.none
noncomputable def t1017 (K : Nat) (a0 : Unit) : Option (Int) := some ((0 : Int))
noncomputable def G1017 (K : Nat) (a0 : Unit) : Option (Int) := t1017 K a0
theorem ev1017 (K : Nat) (a0 : Unit) : evFun Try.prog (tab1017) 0 K Try.f17 [] [.sc (.pointer none)] [] dq1017.k = G1017 K a0 := by
  kernel_rfl
noncomputable def F1017 (K : Nat) (a0 : Unit) : Option (Int) := G1017 K a0
theorem cok1017 (K : Nat) : CallOK D Try.prog (tab1017) := none_ok
theorem ok1017 (K : Nat) : RowOK D Try.prog 17 (row ad1017 dq1017 fun p => F1017 K p) := row_ok fun x r h => has_of (cok1017 K) Try.func17 ((ev1017 K x).trans h)
/-! (*ganger/gang.Matrix).Cells -/
noncomputable def tab1011 (F31 : (List (El T34)) → Option (List (El T34))) : Tab := (Tab.none.add 31 (row ad31 dq31 fun p => F31 p))
noncomputable def t1011 (F31 : (List (El T34)) → Option (List (El T34))) (K : Nat) (a0 : Unit) : Option (List (El T34)) := some ([])
noncomputable def G1011 (F31 : (List (El T34)) → Option (List (El T34))) (K : Nat) (a0 : Unit) : Option (List (El T34)) := t1011 F31 K a0
theorem ev1011 (F31 : (List (El T34)) → Option (List (El T34))) (K : Nat) (a0 : Unit) : evFun Try.prog (tab1011 F31) 0 K Try.f11 [] [.sc (.pointer none)] [] dq1011.k = G1011 F31 K a0 := by
  kernel_rfl
noncomputable def F1011 (K : Nat) (a0 : Unit) : Option (List (El T34)) := G1011 (F31 K) K a0
theorem cok1011 (K : Nat) : CallOK D Try.prog (tab1011 (F31 K)) := (add_ok none_ok ent31 (ok31 K))
theorem ok1011 (K : Nat) : RowOK D Try.prog 11 (row ad1011 dq1011 fun p => F1011 K p) := row_ok fun x r h => has_of (cok1011 K) Try.func11 ((ev1011 (F31 K) K x).trans h)
/-! (*ganger/gang.Matrix).Runs -/
noncomputable def tab1012 (F17 : (El T62) → Option (Int)) (F32 : (El T32) → Option (El T65)) (F33 : (El T65) → (El T65) → Option (Bool)) (F34 : (El T65) → (El T65) → Option (El T65)) (F35 : (List Int) → Option (Unit × List Int)) : Tab := (((((Tab.none.add 17 (row ad17 dq17 fun p => F17 p)).add 32 (row ad32 dq32 fun p => F32 p)).add 33 (row ad33 dq33 fun p => F33 p.1 p.2)).add 34 (row ad34 dq34 fun p => F34 p.1 p.2)).addG 35 (rowG (gad ag35 ob35) gq35 fun p => F35 p.2))
noncomputable def t1012 (F17 : (El T62) → Option (Int)) (F32 : (El T32) → Option (El T65)) (F33 : (El T65) → (El T65) → Option (Bool)) (F34 : (El T65) → (El T65) → Option (El T65)) (F35 : (List Int) → Option (Unit × List Int)) (K : Nat) (a0 : Unit) : Option (List (El (.int .u32))) := some ([])
noncomputable def G1012 (F17 : (El T62) → Option (Int)) (F32 : (El T32) → Option (El T65)) (F33 : (El T65) → (El T65) → Option (Bool)) (F34 : (El T65) → (El T65) → Option (El T65)) (F35 : (List Int) → Option (Unit × List Int)) (K : Nat) (a0 : Unit) : Option (List (El (.int .u32))) := t1012 F17 F32 F33 F34 F35 K a0
theorem ev1012 (F17 : (El T62) → Option (Int)) (F32 : (El T32) → Option (El T65)) (F33 : (El T65) → (El T65) → Option (Bool)) (F34 : (El T65) → (El T65) → Option (El T65)) (F35 : (List Int) → Option (Unit × List Int)) (K : Nat) (a0 : Unit) : evFun Try.prog (tab1012 F17 F32 F33 F34 F35) 0 K Try.f12 ([[.only [0, 3, 4, 5, 15, 16], .ids [4, 14, 60], .top [1000000]], [.only [0, 3, 4, 5, 7, 15, 16, 30, 31, 32], .ids [4, 14, 31, 60], .top [1000001]]] : List (List Tidy)) [.sc (.pointer none)] [] dq1012.k = G1012 F17 F32 F33 F34 F35 K a0 := by
  kernel_rfl
noncomputable def F1012 (K : Nat) (a0 : Unit) : Option (List (El (.int .u32))) := G1012 (F17 K) (F32 K) (F33 K) (F34 K) (F35 K) K a0
theorem cok1012 (K : Nat) : CallOK D Try.prog (tab1012 (F17 K) (F32 K) (F33 K) (F34 K) (F35 K)) := (addG_ok (add_ok (add_ok (add_ok (add_ok none_ok ent17 (ok17 K)) ent32 (ok32 K)) ent33 (ok33 K)) ent34 (ok34 K)) ent35 (ok35 K))
theorem ok1012 (K : Nat) : RowOK D Try.prog 12 (row ad1012 dq1012 fun p => F1012 K p) := row_ok fun x r h => has_of (cok1012 K) Try.func12 ((ev1012 (F17 K) (F32 K) (F33 K) (F34 K) (F35 K) K x).trans h)
/-! (*ganger/gang.Matrix).Idle -/
noncomputable def tab1027 (F37 : (El T62) → Int → Option (El T65)) : Tab := (Tab.none.add 37 (row ad37 dq37 fun p => F37 p.1 p.2))
noncomputable def t1027 (F37 : (El T62) → Int → Option (El T65)) (K : Nat) (a0 : Unit) (a1 : Int) : Option (Int) := some ((0 : Int))
noncomputable def G1027 (F37 : (El T62) → Int → Option (El T65)) (K : Nat) (a0 : Unit) (a1 : Int) : Option (Int) := t1027 F37 K a0 a1
theorem ev1027 (F37 : (El T62) → Int → Option (El T65)) (K : Nat) (a0 : Unit) (a1 : Int) : evFun Try.prog (tab1027 F37) 0 K Try.f27 ([[.only [5, 21, 22], .ids [21], .top [1000000]]] : List (List Tidy)) [.sc (.pointer none), I .i64 a1] [] dq1027.k = G1027 F37 K a0 a1 := by
  kernel_rfl
noncomputable def F1027 (K : Nat) (a0 : Unit) (a1 : Int) : Option (Int) := G1027 (F37 K) K a0 a1
theorem cok1027 (K : Nat) : CallOK D Try.prog (tab1027 (F37 K)) := (add_ok none_ok ent37 (ok37 K))
theorem ok1027 (K : Nat) : RowOK D Try.prog 27 (row ad1027 dq1027 fun p => F1027 K p.1 p.2) := row_ok fun x r h => has_of (cok1027 K) Try.func27 ((ev1027 (F37 K) K x.1 x.2).trans h)
end Go.Proofs.YtlpalhgiiodjoaaE
