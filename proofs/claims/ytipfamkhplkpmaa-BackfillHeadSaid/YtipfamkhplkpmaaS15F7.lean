import Derived.Test.YtipfamkhplkpmaaS15F6
set_option linter.all false
namespace Go.Proofs.YtipfamkhplkpmaaE
open Go Go.Proofs
set_option maxRecDepth 100000
set_option linter.unusedVariables false
variable {D : Prop}
/-! ganger/gangerlaw15.known -/
noncomputable def tab11 (F26 : (El T25) → (List (El T38)) → Int → Option ((List (El T44)) × Int)) (F24 : (El T25) → (List (El T38)) → Int → Option ((List (El T44)) × Int)) (F27 : (El T25) → (List (El T38)) → Int → Option ((List (El T44)) × Int)) (F25 : (List (El T44)) → (List (El T44)) → Option (Bool)) : Tab := ((((Tab.none.add 26 (row ad26 dq26 fun p => F26 p.1 p.2.1 p.2.2)).add 24 (row ad24 dq24 fun p => F24 p.1 p.2.1 p.2.2)).add 27 (row ad27 dq27 fun p => F27 p.1 p.2.1 p.2.2)).add 25 (row ad25 dq25 fun p => F25 p.1 p.2))
noncomputable def t11 (F26 : (El T25) → (List (El T38)) → Int → Option ((List (El T44)) × Int)) (F24 : (El T25) → (List (El T38)) → Int → Option ((List (El T44)) × Int)) (F27 : (El T25) → (List (El T38)) → Int → Option ((List (El T44)) × Int)) (F25 : (List (El T44)) → (List (El T44)) → Option (Bool)) (K : Nat) : Option (Bool) := 
 (Option.bind (F26 ((2 : Int), [], [(((0 : Int), (1 : Int)), (0 : Int), (10 : Int))]) [((1 : Int), (2 : Int), (5 : Int)), ((2 : Int), (1 : Int), (10 : Int)), ((3 : Int), (0 : Int), (20 : Int))] (0 : Int)) fun x0 => 
  (Option.bind (F24 ((2 : Int), [], [(((0 : Int), (1 : Int)), (0 : Int), (10 : Int))]) [((1 : Int), (2 : Int), (5 : Int)), ((2 : Int), (1 : Int), (10 : Int)), ((3 : Int), (0 : Int), (20 : Int))] (0 : Int)) fun x1 => 
   (Option.bind (F27 ((2 : Int), [], [(((0 : Int), (1 : Int)), (0 : Int), (10 : Int))]) [((1 : Int), (2 : Int), (5 : Int)), ((2 : Int), (1 : Int), (10 : Int)), ((3 : Int), (0 : Int), (20 : Int))] (0 : Int)) fun x2 => 
    (Option.bind (F26 ((11 : Int), [], []) [] (0 : Int)) fun x3 => (if ((↑x0.1.length : Int) == (0 : Int)) = true then (if (x0.2 == (0 : Int)) = true then 
       (Option.bind (F25 x1.1 [((1 : Int), ((0 : Int), (2 : Int)), (10 : Int)), ((2 : Int), ((2 : Int), (1 : Int)), (0 : Int))]) fun x4 => (if x4 = true then (if (x1.2 == (0 : Int)) = true then 
          (Option.bind (F25 x2.1 [((1 : Int), ((0 : Int), (2 : Int)), (10 : Int)), ((2 : Int), ((2 : Int), (1 : Int)), (0 : Int)), ((3 : Int), ((0 : Int), (0 : Int)), (15 : Int))]) fun x5 => (if x5 = true then (if (x2.2 == (0 : Int)) = true then some (x3.2 == (2 : Int))
            else some (false))
           else some (false)))
         else some (false))
        else some (false)))
      else some (false))
     else some (false))))))
noncomputable def G11 (F26 : (El T25) → (List (El T38)) → Int → Option ((List (El T44)) × Int)) (F24 : (El T25) → (List (El T38)) → Int → Option ((List (El T44)) × Int)) (F27 : (El T25) → (List (El T38)) → Int → Option ((List (El T44)) × Int)) (F25 : (List (El T44)) → (List (El T44)) → Option (Bool)) (K : Nat) : Option (Bool) := t11 F26 F24 F27 F25 K
theorem ev11 (F26 : (El T25) → (List (El T38)) → Int → Option ((List (El T44)) × Int)) (F24 : (El T25) → (List (El T38)) → Int → Option ((List (El T44)) × Int)) (F27 : (El T25) → (List (El T38)) → Int → Option ((List (El T44)) × Int)) (F25 : (List (El T44)) → (List (El T44)) → Option (Bool)) (K : Nat) : evFun Try.prog (tab11 F26 F24 F27 F25) 0 K Try.f11 [] [] [] dq11.k = G11 F26 F24 F27 F25 K := by
  kernel_rfl
noncomputable def F11 (K : Nat) : Option (Bool) := G11 (F26 K) (F24 K) (F27 K) (F25 K) K
theorem cok11 (K : Nat) : CallOK D Try.prog (tab11 (F26 K) (F24 K) (F27 K) (F25 K)) := (add_ok (add_ok (add_ok (add_ok none_ok ent26 (ok26 K)) ent24 (ok24 K)) ent27 (ok27 K)) ent25 (ok25 K))
theorem ok11 (K : Nat) : RowOK D Try.prog 11 (row ad11 dq11 fun p => F11 K) := row_ok fun x r h => has_of (cok11 K) Try.func11 ((ev11 (F26 K) (F24 K) (F27 K) (F25 K) K).trans h)
/-! ganger/gangerlaw15.plans -/
noncomputable def tab12 (F26 : (El T25) → (List (El T38)) → Int → Option ((List (El T44)) × Int)) (F24 : (El T25) → (List (El T38)) → Int → Option ((List (El T44)) × Int)) (F27 : (El T25) → (List (El T38)) → Int → Option ((List (El T44)) × Int)) : Tab := (((Tab.none.add 26 (row ad26 dq26 fun p => F26 p.1 p.2.1 p.2.2)).add 24 (row ad24 dq24 fun p => F24 p.1 p.2.1 p.2.2)).add 27 (row ad27 dq27 fun p => F27 p.1 p.2.1 p.2.2))
noncomputable def t12 (F26 : (El T25) → (List (El T38)) → Int → Option ((List (El T44)) × Int)) (F24 : (El T25) → (List (El T38)) → Int → Option ((List (El T44)) × Int)) (F27 : (El T25) → (List (El T38)) → Int → Option ((List (El T44)) × Int)) (K : Nat) (a0 : El T25) (a1 : List (El T38)) (a2 : Int) (a3 : Int) : Option ((List (El T44)) × Int) := (if (IntKind.i64.wrap ((IntKind.u64.wrap a3).tmod (3 : Int)) == (0 : Int)) = true then 
  (Option.bind (F26 a0 a1 a2) fun x0 => some (x0))
 else (if (IntKind.i64.wrap ((IntKind.u64.wrap a3).tmod (3 : Int)) == (1 : Int)) = true then 
   (Option.bind (F24 a0 a1 a2) fun x1 => some (x1))
  else 
   (Option.bind (F27 a0 a1 a2) fun x2 => some (x2))))
noncomputable def G12 (F26 : (El T25) → (List (El T38)) → Int → Option ((List (El T44)) × Int)) (F24 : (El T25) → (List (El T38)) → Int → Option ((List (El T44)) × Int)) (F27 : (El T25) → (List (El T38)) → Int → Option ((List (El T44)) × Int)) (K : Nat) (a0 : El T25) (a1 : List (El T38)) (a2 : Int) (a3 : Int) : Option ((List (El T44)) × Int) := t12 F26 F24 F27 K a0 a1 a2 a3
theorem ev12 (F26 : (El T25) → (List (El T38)) → Int → Option ((List (El T44)) × Int)) (F24 : (El T25) → (List (El T38)) → Int → Option ((List (El T44)) × Int)) (F27 : (El T25) → (List (El T38)) → Int → Option ((List (El T44)) × Int)) (K : Nat) (a0 : El T25) (a1 : List (El T38)) (a2 : Int) (a3 : Int) : evFun Try.prog (tab12 F26 F24 F27) 0 K Try.f12 [] [.agg (cellsOf T25 a0), .row T38 a1, I .i64 a2, I .i64 a3] [] dq12.k = G12 F26 F24 F27 K a0 a1 a2 a3 := by
  kernel_rfl
noncomputable def F12 (K : Nat) (a0 : El T25) (a1 : List (El T38)) (a2 : Int) (a3 : Int) : Option ((List (El T44)) × Int) := G12 (F26 K) (F24 K) (F27 K) K a0 a1 a2 a3
theorem cok12 (K : Nat) : CallOK D Try.prog (tab12 (F26 K) (F24 K) (F27 K)) := (add_ok (add_ok (add_ok none_ok ent26 (ok26 K)) ent24 (ok24 K)) ent27 (ok27 K))
theorem ok12 (K : Nat) : RowOK D Try.prog 12 (row ad12 dq12 fun p => F12 K p.1 p.2.1 p.2.2.1 p.2.2.2) := row_ok fun x r h => has_of (cok12 K) Try.func12 ((ev12 (F26 K) (F24 K) (F27 K) K x.1 x.2.1 x.2.2.1 x.2.2.2).trans h)
/-! ganger/gangerlaw15.BackfillEarliest -/
noncomputable def tab4 (F9 : (El T25) → (List (El T38)) → Option (Bool)) (F11 : Option (Bool)) (F16 : (El T25) → Int → Int → Int → Option (Int × Int × Int)) (F17 : (El T25) → Int → Int → Int → Option (Int × Int × Int)) : Tab := ((((Tab.none.add 9 (row ad9 dq9 fun p => F9 p.1 p.2)).add 11 (row ad11 dq11 fun p => F11)).add 16 (row ad16 dq16 fun p => F16 p.1 p.2.1 p.2.2.1 p.2.2.2)).add 17 (row ad17 dq17 fun p => F17 p.1 p.2.1 p.2.2.1 p.2.2.2))
noncomputable def t4 (F9 : (El T25) → (List (El T38)) → Option (Bool)) (F11 : Option (Bool)) (F16 : (El T25) → Int → Int → Int → Option (Int × Int × Int)) (F17 : (El T25) → Int → Int → Int → Option (Int × Int × Int)) (K : Nat) (a0 : El T25) (a1 : Int) (a2 : Int) (a3 : Int) : Option (Bool) := 
 (Option.bind (F9 a0 []) fun x0 => (if x0 = true then 
   (Option.bind (F11) fun x1 => some (x1))
  else 
   (Option.bind (F16 a0 a1 a2 a3) fun x2 => 
    (Option.bind (F17 a0 a1 a2 a3) fun x3 => (if (x2.1 == x3.1) = true then (if (x2.2.1 == x3.2.1) = true then (if (x2.2.2 == x3.2.2) = true then 
        (Option.bind (F11) fun x4 => some (x4))
       else some (false))
      else some (false))
     else some (false))))))
noncomputable def G4 (F9 : (El T25) → (List (El T38)) → Option (Bool)) (F11 : Option (Bool)) (F16 : (El T25) → Int → Int → Int → Option (Int × Int × Int)) (F17 : (El T25) → Int → Int → Int → Option (Int × Int × Int)) (K : Nat) (a0 : El T25) (a1 : Int) (a2 : Int) (a3 : Int) : Option (Bool) := t4 F9 F11 F16 F17 K a0 a1 a2 a3
theorem ev4 (F9 : (El T25) → (List (El T38)) → Option (Bool)) (F11 : Option (Bool)) (F16 : (El T25) → Int → Int → Int → Option (Int × Int × Int)) (F17 : (El T25) → Int → Int → Int → Option (Int × Int × Int)) (K : Nat) (a0 : El T25) (a1 : Int) (a2 : Int) (a3 : Int) : evFun Try.prog (tab4 F9 F11 F16 F17) 0 K Try.f4 [] [.agg (cellsOf T25 a0), I .i64 a1, I .i64 a2, I .i64 a3] [] dq4.k = G4 F9 F11 F16 F17 K a0 a1 a2 a3 := by
  kernel_rfl
noncomputable def F4 (K : Nat) (a0 : El T25) (a1 : Int) (a2 : Int) (a3 : Int) : Option (Bool) := G4 (F9 K) (F11 K) (F16 K) (F17 K) K a0 a1 a2 a3
theorem cok4 (K : Nat) : CallOK D Try.prog (tab4 (F9 K) (F11 K) (F16 K) (F17 K)) := (add_ok (add_ok (add_ok (add_ok none_ok ent9 (ok9 K)) ent11 (ok11 K)) ent16 (ok16 K)) ent17 (ok17 K))
theorem ok4 (K : Nat) : RowOK D Try.prog 4 (row ad4 dq4 fun p => F4 K p.1 p.2.1 p.2.2.1 p.2.2.2) := row_ok fun x r h => has_of (cok4 K) Try.func4 ((ev4 (F9 K) (F11 K) (F16 K) (F17 K) K x.1 x.2.1 x.2.2.1 x.2.2.2).trans h)
/-! ganger/gangerlaw15.BackfillScenes -/
noncomputable def tab5 (F9 : (El T25) → (List (El T38)) → Option (Bool)) (F11 : Option (Bool)) (F13 : (El T25) → Option (El T25)) (F18 : (El T25) → Option (Int)) (F15 : (El T25) → (El T42) → Int → Int → Option (Bool)) (F19 : (El T25) → Int → Int → Int → Option (Int × Bool)) (F20 : (El T25) → Int → Int → Int → Option (Int × Bool)) (F21 : (El T25) → Option (Int)) (F22 : (El T25) → (El T42) → Int → Int → Option (Bool)) (F23 : (El T25) → (El T25) → Option (Bool)) : Tab := ((((((((((Tab.none.add 9 (row ad9 dq9 fun p => F9 p.1 p.2)).add 11 (row ad11 dq11 fun p => F11)).add 13 (row ad13 dq13 fun p => F13 p)).add 18 (row ad18 dq18 fun p => F18 p)).add 15 (row ad15 dq15 fun p => F15 p.1 p.2.1 p.2.2.1 p.2.2.2)).add 19 (row ad19 dq19 fun p => F19 p.1 p.2.1 p.2.2.1 p.2.2.2)).add 20 (row ad20 dq20 fun p => F20 p.1 p.2.1 p.2.2.1 p.2.2.2)).add 21 (row ad21 dq21 fun p => F21 p)).add 22 (row ad22 dq22 fun p => F22 p.1 p.2.1 p.2.2.1 p.2.2.2)).add 23 (row ad23 dq23 fun p => F23 p.1 p.2))
noncomputable def t5 (F9 : (El T25) → (List (El T38)) → Option (Bool)) (F11 : Option (Bool)) (F13 : (El T25) → Option (El T25)) (F18 : (El T25) → Option (Int)) (F15 : (El T25) → (El T42) → Int → Int → Option (Bool)) (F19 : (El T25) → Int → Int → Int → Option (Int × Bool)) (F20 : (El T25) → Int → Int → Int → Option (Int × Bool)) (F21 : (El T25) → Option (Int)) (F22 : (El T25) → (El T42) → Int → Int → Option (Bool)) (F23 : (El T25) → (El T25) → Option (Bool)) (K : Nat) (a0 : El T25) (a1 : El T42) (a2 : Int) (a3 : Int) : Option (Bool) := 
 (Option.bind (F9 a0 []) fun x0 => (if x0 = true then 
   (Option.bind (F11) fun x1 => some (x1))
  else 
   (Option.bind (F13 a0) fun x2 => 
    (Option.bind (F18 x2) fun x3 => 
     (Option.bind (F15 x2 a1 a2 a3) fun x4 => 
      (Option.bind (F19 x2 a1.2 a2 a3) fun x5 => 
       (Option.bind (F20 a0 a1.2 a2 a3) fun x6 => 
        (Option.bind (F21 a0) fun x7 => (if (x3 == x7) = true then 
          (Option.bind (F22 a0 a1 a2 a3) fun x8 => (if (x4 == x8) = true then (if (x5.1 == x6.1) = true then (if (x5.2 == x6.2) = true then 
              (Option.bind (F23 x2 a0) fun x9 => (if x9 = true then 
                (Option.bind (F11) fun x10 => some (x10))
               else some (false)))
             else some (false))
            else some (false))
           else some (false)))
         else some (false))))))))))
noncomputable def G5 (F9 : (El T25) → (List (El T38)) → Option (Bool)) (F11 : Option (Bool)) (F13 : (El T25) → Option (El T25)) (F18 : (El T25) → Option (Int)) (F15 : (El T25) → (El T42) → Int → Int → Option (Bool)) (F19 : (El T25) → Int → Int → Int → Option (Int × Bool)) (F20 : (El T25) → Int → Int → Int → Option (Int × Bool)) (F21 : (El T25) → Option (Int)) (F22 : (El T25) → (El T42) → Int → Int → Option (Bool)) (F23 : (El T25) → (El T25) → Option (Bool)) (K : Nat) (a0 : El T25) (a1 : El T42) (a2 : Int) (a3 : Int) : Option (Bool) := t5 F9 F11 F13 F18 F15 F19 F20 F21 F22 F23 K a0 a1 a2 a3
theorem ev5 (F9 : (El T25) → (List (El T38)) → Option (Bool)) (F11 : Option (Bool)) (F13 : (El T25) → Option (El T25)) (F18 : (El T25) → Option (Int)) (F15 : (El T25) → (El T42) → Int → Int → Option (Bool)) (F19 : (El T25) → Int → Int → Int → Option (Int × Bool)) (F20 : (El T25) → Int → Int → Int → Option (Int × Bool)) (F21 : (El T25) → Option (Int)) (F22 : (El T25) → (El T42) → Int → Int → Option (Bool)) (F23 : (El T25) → (El T25) → Option (Bool)) (K : Nat) (a0 : El T25) (a1 : El T42) (a2 : Int) (a3 : Int) : evFun Try.prog (tab5 F9 F11 F13 F18 F15 F19 F20 F21 F22 F23) 0 K Try.f5 [] [.agg (cellsOf T25 a0), .agg (cellsOf T42 a1), I .i64 a2, I .i64 a3] [] dq5.k = G5 F9 F11 F13 F18 F15 F19 F20 F21 F22 F23 K a0 a1 a2 a3 := by
  kernel_rfl
noncomputable def F5 (K : Nat) (a0 : El T25) (a1 : El T42) (a2 : Int) (a3 : Int) : Option (Bool) := G5 (F9 K) (F11 K) (F13 K) (F18 K) (F15 K) (F19 K) (F20 K) (F21 K) (F22 K) (F23 K) K a0 a1 a2 a3
theorem cok5 (K : Nat) : CallOK D Try.prog (tab5 (F9 K) (F11 K) (F13 K) (F18 K) (F15 K) (F19 K) (F20 K) (F21 K) (F22 K) (F23 K)) := (add_ok (add_ok (add_ok (add_ok (add_ok (add_ok (add_ok (add_ok (add_ok (add_ok none_ok ent9 (ok9 K)) ent11 (ok11 K)) ent13 (ok13 K)) ent18 (ok18 K)) ent15 (ok15 K)) ent19 (ok19 K)) ent20 (ok20 K)) ent21 (ok21 K)) ent22 (ok22 K)) ent23 (ok23 K))
theorem ok5 (K : Nat) : RowOK D Try.prog 5 (row ad5 dq5 fun p => F5 K p.1 p.2.1 p.2.2.1 p.2.2.2) := row_ok fun x r h => has_of (cok5 K) Try.func5 ((ev5 (F9 K) (F11 K) (F13 K) (F18 K) (F15 K) (F19 K) (F20 K) (F21 K) (F22 K) (F23 K) K x.1 x.2.1 x.2.2.1 x.2.2.2).trans h)
/-! ganger/gangerlaw15.BackfillTick -/
noncomputable def tab7 (F9 : (El T25) → (List (El T38)) → Option (Bool)) (F11 : Option (Bool)) (F16 : (El T25) → Int → Int → Int → Option (Int × Int × Int)) (F15 : (El T25) → (El T42) → Int → Int → Option (Bool)) (F19 : (El T25) → Int → Int → Int → Option (Int × Bool)) : Tab := (((((Tab.none.add 9 (row ad9 dq9 fun p => F9 p.1 p.2)).add 11 (row ad11 dq11 fun p => F11)).add 16 (row ad16 dq16 fun p => F16 p.1 p.2.1 p.2.2.1 p.2.2.2)).add 15 (row ad15 dq15 fun p => F15 p.1 p.2.1 p.2.2.1 p.2.2.2)).add 19 (row ad19 dq19 fun p => F19 p.1 p.2.1 p.2.2.1 p.2.2.2))
noncomputable def la7 : List (List Tidy) := [[.only [1, 2, 3, 4, 5, 6, 13, 16], .ids [6, 27, 28, 34, 47, 61, 102, 110, 113, 134], .top [1000000]]]
noncomputable def hd7_0 (a0 : El T25) (a1 : Int) (a2 : Int) (a3 : Int) (a4 : Int) (a5 : Int) (ps13 : Int) (ps16 : Int) : St := { tm := slots (nat_lit 136) [(nat_lit 1, AV.sc (Value.int IntKind.i64 a1)), (nat_lit 2, AV.sc (Value.int IntKind.i64 a2)), (nat_lit 3, AV.sc (Value.int IntKind.i64 a3)), (nat_lit 4, AV.sc (Value.int IntKind.i64 a4)), (nat_lit 5, AV.sc (Value.int IntKind.i64 a5)), (nat_lit 6, AV.ptr (nat_lit 6) (nat_lit 0)), (nat_lit 13, AV.sc (Value.int IntKind.i64 ps13)), (nat_lit 16, AV.sc (Value.int IntKind.i64 ps16))], H := [(nat_lit 6, ABlk.box (nat_lit 25) (cellsOf T25 a0))] }
noncomputable def b7_0 (F9 : (El T25) → (List (El T38)) → Option (Bool)) (F11 : Option (Bool)) (F16 : (El T25) → Int → Int → Int → Option (Int × Int × Int)) (F15 : (El T25) → (El T42) → Int → Int → Option (Bool)) (F19 : (El T25) → Int → Int → Int → Option (Int × Bool)) (K : Nat) (a0 : El T25) (a1 : Int) (a2 : Int) (a3 : Int) (a4 : Int) (a5 : Int) (r0 : Int → Int → Option (Bool)) (ps13 : Int) (ps16 : Int) : Option (Bool) :=(if decide (ps16 < (3 : Int)) = true then (if decide (IntKind.i64.wrap (IntKind.i64.wrap (ps13 - (1 : Int)) - IntKind.i64.wrap (ps16 * IntKind.i64.wrap ((IntKind.u64.wrap a5).tmod (50 : Int)))) ≥ a2) = true then 
    (Option.bind (F19 a0 a1 (IntKind.i64.wrap (IntKind.i64.wrap (ps13 - (1 : Int)) - IntKind.i64.wrap (ps16 * IntKind.i64.wrap ((IntKind.u64.wrap a5).tmod (50 : Int))))) (IntKind.i64.wrap (IntKind.i64.wrap (IntKind.i64.wrap (ps13 - (1 : Int)) - IntKind.i64.wrap (ps16 * IntKind.i64.wrap ((IntKind.u64.wrap a5).tmod (50 : Int)))) + a3))) fun x5 => (if x5.2 = true then some (false)
     else r0 (ps13) (IntKind.i64.wrap (ps16 + (1 : Int)))))
   else r0 (ps13) (IntKind.i64.wrap (ps16 + (1 : Int))))
  else (if (!IntKind.u64.wrap a3 == (0 : Int)) = true then 
    (Option.bind (F16 a0 a1 a2 (IntKind.i64.wrap ((1 : Int) + IntKind.i64.wrap ((IntKind.u64.wrap a4).tmod (IntKind.u64.wrap a3))))) fun x6 => 
     (Option.bind (F16 a0 (if (0 : Int) > IntKind.i64.wrap (a1 - (1 : Int)) then (0 : Int) else IntKind.i64.wrap (a1 - (1 : Int))) a2 a3) fun x7 => (if (x6.2.2 == (0 : Int)) = true then (if decide (x6.1 ≤ ps13) = true then (if (x7.2.2 == (0 : Int)) = true then (if decide (x7.1 ≤ ps13) = true then 
          (Option.bind (F11) fun x8 => some (x8))
         else some (false))
        else some (false))
       else some (false))
      else some (false))))
   else none))
noncomputable def L7_0 (F9 : (El T25) → (List (El T38)) → Option (Bool)) (F11 : Option (Bool)) (F16 : (El T25) → Int → Int → Int → Option (Int × Int × Int)) (F15 : (El T25) → (El T42) → Int → Int → Option (Bool)) (F19 : (El T25) → Int → Int → Int → Option (Int × Bool)) (K : Nat) (a0 : El T25) (a1 : Int) (a2 : Int) (a3 : Int) (a4 : Int) (a5 : Int) : Nat → Int → Int → Option (Bool)
  | 0, _, _ => none
  | n + 1, ps13, ps16 => b7_0 F9 F11 F16 F15 F19 K a0 a1 a2 a3 a4 a5 (L7_0 F9 F11 F16 F15 F19 K a0 a1 a2 a3 a4 a5 n) ps13 ps16
noncomputable def t7 (F9 : (El T25) → (List (El T38)) → Option (Bool)) (F11 : Option (Bool)) (F16 : (El T25) → Int → Int → Int → Option (Int × Int × Int)) (F15 : (El T25) → (El T42) → Int → Int → Option (Bool)) (F19 : (El T25) → Int → Int → Int → Option (Int × Bool)) (K : Nat) (a0 : El T25) (a1 : Int) (a2 : Int) (a3 : Int) (a4 : Int) (a5 : Int) (l0 : Nat → Int → Int → Option (Bool)) : Option (Bool) := 
 (Option.bind (F9 a0 []) fun x0 => (if x0 = true then 
   (Option.bind (F11) fun x1 => some (x1))
  else 
   (Option.bind (F16 a0 a1 a2 a3) fun x2 => (if (x2.2.2 != (0 : Int)) = true then (if (x2.1 == (0 : Int)) = true then (if (x2.2.1 == (0 : Int)) = true then 
       (Option.bind (F11) fun x3 => some (x3))
      else some (false))
     else some (false))
    else (if decide (x2.1 < a2) = true then some (false)
     else 
      (Option.bind (F15 a0 (x2.2.1, a1) x2.1 (IntKind.i64.wrap (x2.1 + a3))) fun x4 => (if (!x4) = true then some (false)
       else l0 K (x2.1) ((0 : Int)))))))))
noncomputable def G7 (F9 : (El T25) → (List (El T38)) → Option (Bool)) (F11 : Option (Bool)) (F16 : (El T25) → Int → Int → Int → Option (Int × Int × Int)) (F15 : (El T25) → (El T42) → Int → Int → Option (Bool)) (F19 : (El T25) → Int → Int → Int → Option (Int × Bool)) (K : Nat) (a0 : El T25) (a1 : Int) (a2 : Int) (a3 : Int) (a4 : Int) (a5 : Int) : Option (Bool) := t7 F9 F11 F16 F15 F19 K a0 a1 a2 a3 a4 a5 (L7_0 F9 F11 F16 F15 F19 K a0 a1 a2 a3 a4 a5)
theorem lp7_0 (F9 : (El T25) → (List (El T38)) → Option (Bool)) (F11 : Option (Bool)) (F16 : (El T25) → Int → Int → Int → Option (Int × Int × Int)) (F15 : (El T25) → (El T42) → Int → Int → Option (Bool)) (F19 : (El T25) → Int → Int → Int → Option (Int × Bool)) (K : Nat) (a0 : El T25) (a1 : Int) (a2 : Int) (a3 : Int) (a4 : Int) (a5 : Int) : ∀ (n : Nat) (ps13 : Int) (ps16 : Int), loopN Try.prog (tab7 F9 F11 F16 F15 F19) 0 K Try.f7 la7 dq7.k 0 [] n (hd7_0 a0 a1 a2 a3 a4 a5 ps13 ps16) = L7_0 F9 F11 F16 F15 F19 K a0 a1 a2 a3 a4 a5 n ps13 ps16
  | 0, _, _ => by kernel_rfl
  | n + 1, ps13, ps16 => by
    have h : loopN Try.prog (tab7 F9 F11 F16 F15 F19) 0 K Try.f7 la7 dq7.k 0 [] (n + 1) (hd7_0 a0 a1 a2 a3 a4 a5 ps13 ps16) = b7_0 F9 F11 F16 F15 F19 K a0 a1 a2 a3 a4 a5 (fun q0 q1 => loopN Try.prog (tab7 F9 F11 F16 F15 F19) 0 K Try.f7 la7 dq7.k 0 [] n (hd7_0 a0 a1 a2 a3 a4 a5 q0 q1)) ps13 ps16 := by kernel_rfl
    rw [h]
    simp only [lp7_0 F9 F11 F16 F15 F19 K a0 a1 a2 a3 a4 a5 n]
    rfl
theorem ev7 (F9 : (El T25) → (List (El T38)) → Option (Bool)) (F11 : Option (Bool)) (F16 : (El T25) → Int → Int → Int → Option (Int × Int × Int)) (F15 : (El T25) → (El T42) → Int → Int → Option (Bool)) (F19 : (El T25) → Int → Int → Int → Option (Int × Bool)) (K : Nat) (a0 : El T25) (a1 : Int) (a2 : Int) (a3 : Int) (a4 : Int) (a5 : Int) : evFun Try.prog (tab7 F9 F11 F16 F15 F19) 0 K Try.f7 la7 [.agg (cellsOf T25 a0), I .i64 a1, I .i64 a2, I .i64 a3, I .i64 a4, I .i64 a5] [] dq7.k = G7 F9 F11 F16 F15 F19 K a0 a1 a2 a3 a4 a5 := by
  have h : evFun Try.prog (tab7 F9 F11 F16 F15 F19) 0 K Try.f7 la7 [.agg (cellsOf T25 a0), I .i64 a1, I .i64 a2, I .i64 a3, I .i64 a4, I .i64 a5] [] dq7.k = t7 F9 F11 F16 F15 F19 K a0 a1 a2 a3 a4 a5 (fun k q0 q1 => loopN Try.prog (tab7 F9 F11 F16 F15 F19) 0 K Try.f7 la7 dq7.k 0 [] k (hd7_0 a0 a1 a2 a3 a4 a5 q0 q1)) := by kernel_rfl
  rw [h]
  simp only [lp7_0 F9 F11 F16 F15 F19 K a0 a1 a2 a3 a4 a5]
  rfl
noncomputable def F7 (K : Nat) (a0 : El T25) (a1 : Int) (a2 : Int) (a3 : Int) (a4 : Int) (a5 : Int) : Option (Bool) := G7 (F9 K) (F11 K) (F16 K) (F15 K) (F19 K) K a0 a1 a2 a3 a4 a5
theorem cok7 (K : Nat) : CallOK D Try.prog (tab7 (F9 K) (F11 K) (F16 K) (F15 K) (F19 K)) := (add_ok (add_ok (add_ok (add_ok (add_ok none_ok ent9 (ok9 K)) ent11 (ok11 K)) ent16 (ok16 K)) ent15 (ok15 K)) ent19 (ok19 K))
theorem ok7 (K : Nat) : RowOK D Try.prog 7 (row ad7 dq7 fun p => F7 K p.1 p.2.1 p.2.2.1 p.2.2.2.1 p.2.2.2.2.1 p.2.2.2.2.2) := row_ok fun x r h => has_of (cok7 K) Try.func7 ((ev7 (F9 K) (F11 K) (F16 K) (F15 K) (F19 K) K x.1 x.2.1 x.2.2.1 x.2.2.2.1 x.2.2.2.2.1 x.2.2.2.2.2).trans h)
/-! ganger/gangerlaw15.BackfillHead -/
noncomputable def tab6 (F8 : (List (El T38)) → Option (List (El T38))) (F9 : (El T25) → (List (El T38)) → Option (Bool)) (F10 : (El T25) → (List (El T38)) → Int → Option (Bool)) (F11 : Option (Bool)) (F24 : (El T25) → (List (El T38)) → Int → Option ((List (El T44)) × Int)) (F25 : (List (El T44)) → (List (El T44)) → Option (Bool)) (F1013 : (El T25) → Option (Int × List Int × List (El T47))) (F14 : (List (El T38)) → (El T44) → Option ((El T38) × Bool)) (F16 : (El T25) → Int → Int → Int → Option (Int × Int × Int)) (F15 : (El T25) → (El T42) → Int → Int → Option (Bool)) : Tab := ((((((((((Tab.none.add 8 (row ad8 dq8 fun p => F8 p)).add 9 (row ad9 dq9 fun p => F9 p.1 p.2)).add 10 (row ad10 dq10 fun p => F10 p.1 p.2.1 p.2.2)).add 11 (row ad11 dq11 fun p => F11)).add 24 (row ad24 dq24 fun p => F24 p.1 p.2.1 p.2.2)).add 25 (row ad25 dq25 fun p => F25 p.1 p.2)).add 13 (row ad1013 dq1013 fun p => F1013 p)).add 14 (row ad14 dq14 fun p => F14 p.1 p.2)).add 16 (row ad16 dq16 fun p => F16 p.1 p.2.1 p.2.2.1 p.2.2.2)).add 15 (row ad15 dq15 fun p => F15 p.1 p.2.1 p.2.2.1 p.2.2.2))
noncomputable def la6 : List (List Tidy) := [[.only [1, 2, 3, 7, 9, 10], .frz [23, 47], .ids [3, 13, 15, 17, 23, 26, 30, 32, 40, 42, 47, 52, 71, 80, 82, 92, 93, 97, 100, 110, 137, 138, 146, 156, 191, 194], .top [1000000]], [.only [1, 2, 7, 9, 13, 14], .ren 138 97, .ids [3, 13, 17, 23, 26, 30, 32, 40, 42, 47, 52, 55, 71, 80, 82, 92, 93, 97, 138, 146, 156, 191, 194], .top [1000001]]]
noncomputable def hd6_0 (a0 : El T25) (a1 : List (El T38)) (a2 : Int) (ps1 : List (El ((Ty.int IntKind.u32).pair T42))) (ps7 : List (El T44)) (ps9 : Int) (ps10 : Int) : St := { tm := slots (nat_lit 196) [(nat_lit 1, AV.row ((Ty.int IntKind.u32).pair T42) ps1), (nat_lit 2, AV.sc (Value.int IntKind.i64 a2)), (nat_lit 3, AV.ptr (nat_lit 3) (nat_lit 0)), (nat_lit 7, AV.row T44 ps7), (nat_lit 9, AV.sc (Value.int IntKind.i64 ps9)), (nat_lit 10, AV.sc (Value.int IntKind.i64 ps10))], H := [(nat_lit 3, ABlk.box (nat_lit 25) (cellsOf T25 a0))] }
noncomputable def hd6_1 (a0 : El T25) (a1 : List (El T38)) (a2 : Int) (ps1 : List (El ((Ty.int IntKind.u32).pair T42))) (ps7 : List (El T44)) (ps9 : Int) (ps14 : Int) (ph13_0 : Int) (ph13_1 : List (Int)) (ph97 : List (El T47)) : St := { tm := slots (nat_lit 196) [(nat_lit 1, AV.row ((Ty.int IntKind.u32).pair T42) ps1), (nat_lit 2, AV.sc (Value.int IntKind.i64 a2)), (nat_lit 7, AV.row T44 ps7), (nat_lit 9, AV.sc (Value.int IntKind.i64 ps9)), (nat_lit 13, AV.ptr (nat_lit 13) (nat_lit 0)), (nat_lit 14, AV.sc (Value.int IntKind.i64 ps14))], H := [(nat_lit 3, ABlk.box (nat_lit 25) (cellsOf T25 a0)), (nat_lit 13, ABlk.box (nat_lit 25) [AV.sc (Value.int IntKind.i64 ph13_0), AV.row (Ty.int IntKind.i64) ph13_1, AV.own (nat_lit 97)]), (nat_lit 97, ABlk.arr (nat_lit 47) T47 ph97)] }
noncomputable def b6_1 (F8 : (List (El T38)) → Option (List (El T38))) (F9 : (El T25) → (List (El T38)) → Option (Bool)) (F10 : (El T25) → (List (El T38)) → Int → Option (Bool)) (F11 : Option (Bool)) (F24 : (El T25) → (List (El T38)) → Int → Option ((List (El T44)) × Int)) (F25 : (List (El T44)) → (List (El T44)) → Option (Bool)) (F1013 : (El T25) → Option (Int × List Int × List (El T47))) (F14 : (List (El T38)) → (El T44) → Option ((El T38) × Bool)) (F16 : (El T25) → Int → Int → Int → Option (Int × Int × Int)) (F15 : (El T25) → (El T42) → Int → Int → Option (Bool)) (K : Nat) (a0 : El T25) (a1 : List (El T38)) (a2 : Int) (r1 : (List (El ((Ty.int IntKind.u32).pair T42))) → (List (El T44)) → Int → Int → Int → (List (Int)) → (List (El T47)) → Option (Bool)) (ps1 : List (El ((Ty.int IntKind.u32).pair T42))) (ps7 : List (El T44)) (ps9 : Int) (ps14 : Int) (ph13_0 : Int) (ph13_1 : List (Int)) (ph97 : List (El T47)) : Option (Bool) :=(if decide (ps14 < (↑ps7.length : Int)) = true then (if decide ((0 : Int) ≤ ps14 ∧ ps14 < (↑ps7.length : Int)) = true then 
    (Option.bind (F14 ps1 (ps7.getD ps14.toNat (zEl T44))) fun x12 => (if (ps14 != ps9) = true then (if decide ((0 : Int) ≤ ps14 ∧ ps14 < (↑ps7.length : Int)) = true then (if decide ((0 : Int) ≤ ps14 ∧ ps14 < (↑ps7.length : Int)) = true then (if decide ((0 : Int) ≤ ps14 ∧ ps14 < (↑ps7.length : Int)) = true then (if decide ((ph97.length + [((ps7.getD ps14.toNat (zEl T44)).2.1, (ps7.getD ps14.toNat (zEl T44)).2.2, IntKind.i64.wrap ((ps7.getD ps14.toNat (zEl T44)).2.2 + x12.1.2.2))].length) * Try.prog.types[(47 : Nat)].bytes ≤ (140737488355328 : Nat)) = true then r1 (ps1) (ps7) (ps9) (IntKind.i64.wrap (ps14 + (1 : Int))) (ph13_0) (ph13_1) (ph97 ++ [((ps7.getD ps14.toNat (zEl T44)).2.1, (ps7.getD ps14.toNat (zEl T44)).2.2, IntKind.i64.wrap ((ps7.getD ps14.toNat (zEl T44)).2.2 + x12.1.2.2))])
         else none)
        else none)
       else none)
      else none)
     else r1 (ps1) (ps7) (ps9) (IntKind.i64.wrap (ps14 + (1 : Int))) (ph13_0) (ph13_1) (ph97)))
   else none)
  else (if decide ((0 : Int) ≤ ps9 ∧ ps9 < (↑ps7.length : Int)) = true then 
    (Option.bind (F14 ps1 (ps7.getD ps9.toNat (zEl T44))) fun x13 => 
     (Option.bind (F16 (ph13_0, ph13_1, ph97) x13.1.2.1 a2 x13.1.2.2) fun x14 => (if (x14.2.2 == (0 : Int)) = true then (if decide ((0 : Int) ≤ ps9 ∧ ps9 < (↑ps7.length : Int)) = true then (if decide (x14.1 ≤ (ps7.getD ps9.toNat (zEl T44)).2.2) = true then (if decide ((0 : Int) ≤ ps9 ∧ ps9 < (↑ps7.length : Int)) = true then (if decide ((0 : Int) ≤ ps9 ∧ ps9 < (↑ps7.length : Int)) = true then (if decide ((0 : Int) ≤ ps9 ∧ ps9 < (↑ps7.length : Int)) = true then 
            (Option.bind (F15 (ph13_0, ph13_1, ph97) (ps7.getD ps9.toNat (zEl T44)).2.1 (ps7.getD ps9.toNat (zEl T44)).2.2 (IntKind.i64.wrap ((ps7.getD ps9.toNat (zEl T44)).2.2 + x13.1.2.2))) fun x15 => (if x15 = true then 
              (Option.bind (F11) fun x16 => some (x16))
             else some (false)))
           else none)
          else none)
         else none)
        else some (false))
       else none)
      else some (false))))
   else none))
noncomputable def L6_1 (F8 : (List (El T38)) → Option (List (El T38))) (F9 : (El T25) → (List (El T38)) → Option (Bool)) (F10 : (El T25) → (List (El T38)) → Int → Option (Bool)) (F11 : Option (Bool)) (F24 : (El T25) → (List (El T38)) → Int → Option ((List (El T44)) × Int)) (F25 : (List (El T44)) → (List (El T44)) → Option (Bool)) (F1013 : (El T25) → Option (Int × List Int × List (El T47))) (F14 : (List (El T38)) → (El T44) → Option ((El T38) × Bool)) (F16 : (El T25) → Int → Int → Int → Option (Int × Int × Int)) (F15 : (El T25) → (El T42) → Int → Int → Option (Bool)) (K : Nat) (a0 : El T25) (a1 : List (El T38)) (a2 : Int) : Nat → (List (El ((Ty.int IntKind.u32).pair T42))) → (List (El T44)) → Int → Int → Int → (List (Int)) → (List (El T47)) → Option (Bool)
  | 0, _, _, _, _, _, _, _ => none
  | n + 1, ps1, ps7, ps9, ps14, ph13_0, ph13_1, ph97 => b6_1 F8 F9 F10 F11 F24 F25 F1013 F14 F16 F15 K a0 a1 a2 (L6_1 F8 F9 F10 F11 F24 F25 F1013 F14 F16 F15 K a0 a1 a2 n) ps1 ps7 ps9 ps14 ph13_0 ph13_1 ph97
noncomputable def b6_0 (F8 : (List (El T38)) → Option (List (El T38))) (F9 : (El T25) → (List (El T38)) → Option (Bool)) (F10 : (El T25) → (List (El T38)) → Int → Option (Bool)) (F11 : Option (Bool)) (F24 : (El T25) → (List (El T38)) → Int → Option ((List (El T44)) × Int)) (F25 : (List (El T44)) → (List (El T44)) → Option (Bool)) (F1013 : (El T25) → Option (Int × List Int × List (El T47))) (F14 : (List (El T38)) → (El T44) → Option ((El T38) × Bool)) (F16 : (El T25) → Int → Int → Int → Option (Int × Int × Int)) (F15 : (El T25) → (El T42) → Int → Int → Option (Bool)) (K : Nat) (a0 : El T25) (a1 : List (El T38)) (a2 : Int) (r0 : (List (El ((Ty.int IntKind.u32).pair T42))) → (List (El T44)) → Int → Int → Option (Bool)) (l1 : Nat → (List (El ((Ty.int IntKind.u32).pair T42))) → (List (El T44)) → Int → Int → Int → (List (Int)) → (List (El T47)) → Option (Bool)) (ps1 : List (El ((Ty.int IntKind.u32).pair T42))) (ps7 : List (El T44)) (ps9 : Int) (ps10 : Int) : Option (Bool) :=(if decide (ps10 < (↑ps7.length : Int)) = true then (if decide ((0 : Int) ≤ ps10 ∧ ps10 < (↑ps7.length : Int)) = true then (if decide ((ps7.getD ps10.toNat (zEl T44)).2.2 > a2) = true then (if decide (ps9 ≥ (0 : Int)) = true then some (false)
     else r0 (ps1) (ps7) (ps10) (IntKind.i64.wrap (ps10 + (1 : Int))))
    else r0 (ps1) (ps7) (ps9) (IntKind.i64.wrap (ps10 + (1 : Int))))
   else none)
  else (if decide (ps9 < (0 : Int)) = true then 
    (Option.bind (F11) fun x8 => some (x8))
   else (if decide ((0 : Int) ≤ ps9 ∧ ps9 < (↑ps7.length : Int)) = true then (if decide ((0 : Int) ≤ (0 : Int) ∧ (0 : Int) ≤ (ps7.getD ps9.toNat (zEl T44)).1 ∧ (ps7.getD ps9.toNat (zEl T44)).1 ≤ (↑ps1.length : Int)) = true then 
      (Option.bind (F24 a0 (List.drop (Int.toNat (0 : Int)) (List.take (Int.toNat (ps7.getD ps9.toNat (zEl T44)).1) ps1)) a2) fun x9 => (if (x9.2 != (0 : Int)) = true then some (false)
       else (if decide ((0 : Int) ≤ (0 : Int) ∧ (0 : Int) ≤ IntKind.i64.wrap (ps9 + (1 : Int)) ∧ IntKind.i64.wrap (ps9 + (1 : Int)) ≤ (↑ps7.length : Int)) = true then 
         (Option.bind (F25 x9.1 (List.drop (Int.toNat (0 : Int)) (List.take (IntKind.i64.wrap (ps9 + (1 : Int))).toNat ps7))) fun x10 => (if (!x10) = true then some (false)
          else 
           (Option.bind (F1013 a0) fun x11 => l1 K (ps1) (ps7) (ps9) ((0 : Int)) (x11.1) (x11.2.1) (x11.2.2))))
        else none)))
     else none)
    else none)))
noncomputable def L6_0 (F8 : (List (El T38)) → Option (List (El T38))) (F9 : (El T25) → (List (El T38)) → Option (Bool)) (F10 : (El T25) → (List (El T38)) → Int → Option (Bool)) (F11 : Option (Bool)) (F24 : (El T25) → (List (El T38)) → Int → Option ((List (El T44)) × Int)) (F25 : (List (El T44)) → (List (El T44)) → Option (Bool)) (F1013 : (El T25) → Option (Int × List Int × List (El T47))) (F14 : (List (El T38)) → (El T44) → Option ((El T38) × Bool)) (F16 : (El T25) → Int → Int → Int → Option (Int × Int × Int)) (F15 : (El T25) → (El T42) → Int → Int → Option (Bool)) (K : Nat) (a0 : El T25) (a1 : List (El T38)) (a2 : Int) : Nat → (List (El ((Ty.int IntKind.u32).pair T42))) → (List (El T44)) → Int → Int → Option (Bool)
  | 0, _, _, _, _ => none
  | n + 1, ps1, ps7, ps9, ps10 => b6_0 F8 F9 F10 F11 F24 F25 F1013 F14 F16 F15 K a0 a1 a2 (L6_0 F8 F9 F10 F11 F24 F25 F1013 F14 F16 F15 K a0 a1 a2 n) (L6_1 F8 F9 F10 F11 F24 F25 F1013 F14 F16 F15 K a0 a1 a2) ps1 ps7 ps9 ps10
noncomputable def t6 (F8 : (List (El T38)) → Option (List (El T38))) (F9 : (El T25) → (List (El T38)) → Option (Bool)) (F10 : (El T25) → (List (El T38)) → Int → Option (Bool)) (F11 : Option (Bool)) (F24 : (El T25) → (List (El T38)) → Int → Option ((List (El T44)) × Int)) (F25 : (List (El T44)) → (List (El T44)) → Option (Bool)) (F1013 : (El T25) → Option (Int × List Int × List (El T47))) (F14 : (List (El T38)) → (El T44) → Option ((El T38) × Bool)) (F16 : (El T25) → Int → Int → Int → Option (Int × Int × Int)) (F15 : (El T25) → (El T42) → Int → Int → Option (Bool)) (K : Nat) (a0 : El T25) (a1 : List (El T38)) (a2 : Int) (l0 : Nat → (List (El ((Ty.int IntKind.u32).pair T42))) → (List (El T44)) → Int → Int → Option (Bool)) : Option (Bool) := 
 (Option.bind (F8 a1) fun x0 => 
  (Option.bind (F9 a0 x0) fun x1 => (if x1 = true then 
    (Option.bind (F11) fun x2 => some (x2))
   else (if decide (IntKind.i64.wrap ((↑(List.length a0.2.2) : Int) + (↑(List.length x0) : Int)) > (300 : Int)) = true then 
     (Option.bind (F11) fun x3 => some (x3))
    else 
     (Option.bind (F10 a0 x0 a2) fun x4 => (if x4 = true then 
       (Option.bind (F11) fun x5 => some (x5))
      else 
       (Option.bind (F24 a0 x0 a2) fun x6 => (if (x6.2 != (0 : Int)) = true then 
         (Option.bind (F11) fun x7 => some (x7))
        else l0 K (x0) (x6.1) ((-1 : Int)) ((0 : Int))))))))))
noncomputable def G6 (F8 : (List (El T38)) → Option (List (El T38))) (F9 : (El T25) → (List (El T38)) → Option (Bool)) (F10 : (El T25) → (List (El T38)) → Int → Option (Bool)) (F11 : Option (Bool)) (F24 : (El T25) → (List (El T38)) → Int → Option ((List (El T44)) × Int)) (F25 : (List (El T44)) → (List (El T44)) → Option (Bool)) (F1013 : (El T25) → Option (Int × List Int × List (El T47))) (F14 : (List (El T38)) → (El T44) → Option ((El T38) × Bool)) (F16 : (El T25) → Int → Int → Int → Option (Int × Int × Int)) (F15 : (El T25) → (El T42) → Int → Int → Option (Bool)) (K : Nat) (a0 : El T25) (a1 : List (El T38)) (a2 : Int) : Option (Bool) := t6 F8 F9 F10 F11 F24 F25 F1013 F14 F16 F15 K a0 a1 a2 (L6_0 F8 F9 F10 F11 F24 F25 F1013 F14 F16 F15 K a0 a1 a2)
theorem lp6_1 (F8 : (List (El T38)) → Option (List (El T38))) (F9 : (El T25) → (List (El T38)) → Option (Bool)) (F10 : (El T25) → (List (El T38)) → Int → Option (Bool)) (F11 : Option (Bool)) (F24 : (El T25) → (List (El T38)) → Int → Option ((List (El T44)) × Int)) (F25 : (List (El T44)) → (List (El T44)) → Option (Bool)) (F1013 : (El T25) → Option (Int × List Int × List (El T47))) (F14 : (List (El T38)) → (El T44) → Option ((El T38) × Bool)) (F16 : (El T25) → Int → Int → Int → Option (Int × Int × Int)) (F15 : (El T25) → (El T42) → Int → Int → Option (Bool)) (K : Nat) (a0 : El T25) (a1 : List (El T38)) (a2 : Int) : ∀ (n : Nat) (ps1 : List (El ((Ty.int IntKind.u32).pair T42))) (ps7 : List (El T44)) (ps9 : Int) (ps14 : Int) (ph13_0 : Int) (ph13_1 : List (Int)) (ph97 : List (El T47)), loopN Try.prog (tab6 F8 F9 F10 F11 F24 F25 F1013 F14 F16 F15) 0 K Try.f6 la6 dq6.k 1 [] n (hd6_1 a0 a1 a2 ps1 ps7 ps9 ps14 ph13_0 ph13_1 ph97) = L6_1 F8 F9 F10 F11 F24 F25 F1013 F14 F16 F15 K a0 a1 a2 n ps1 ps7 ps9 ps14 ph13_0 ph13_1 ph97
  | 0, _, _, _, _, _, _, _ => by kernel_rfl
  | n + 1, ps1, ps7, ps9, ps14, ph13_0, ph13_1, ph97 => by
    have h : loopN Try.prog (tab6 F8 F9 F10 F11 F24 F25 F1013 F14 F16 F15) 0 K Try.f6 la6 dq6.k 1 [] (n + 1) (hd6_1 a0 a1 a2 ps1 ps7 ps9 ps14 ph13_0 ph13_1 ph97) = b6_1 F8 F9 F10 F11 F24 F25 F1013 F14 F16 F15 K a0 a1 a2 (fun q0 q1 q2 q3 q4 q5 q6 => loopN Try.prog (tab6 F8 F9 F10 F11 F24 F25 F1013 F14 F16 F15) 0 K Try.f6 la6 dq6.k 1 [] n (hd6_1 a0 a1 a2 q0 q1 q2 q3 q4 q5 q6)) ps1 ps7 ps9 ps14 ph13_0 ph13_1 ph97 := by kernel_rfl
    rw [h]
    simp only [lp6_1 F8 F9 F10 F11 F24 F25 F1013 F14 F16 F15 K a0 a1 a2 n]
    rfl
theorem lp6_0 (F8 : (List (El T38)) → Option (List (El T38))) (F9 : (El T25) → (List (El T38)) → Option (Bool)) (F10 : (El T25) → (List (El T38)) → Int → Option (Bool)) (F11 : Option (Bool)) (F24 : (El T25) → (List (El T38)) → Int → Option ((List (El T44)) × Int)) (F25 : (List (El T44)) → (List (El T44)) → Option (Bool)) (F1013 : (El T25) → Option (Int × List Int × List (El T47))) (F14 : (List (El T38)) → (El T44) → Option ((El T38) × Bool)) (F16 : (El T25) → Int → Int → Int → Option (Int × Int × Int)) (F15 : (El T25) → (El T42) → Int → Int → Option (Bool)) (K : Nat) (a0 : El T25) (a1 : List (El T38)) (a2 : Int) : ∀ (n : Nat) (ps1 : List (El ((Ty.int IntKind.u32).pair T42))) (ps7 : List (El T44)) (ps9 : Int) (ps10 : Int), loopN Try.prog (tab6 F8 F9 F10 F11 F24 F25 F1013 F14 F16 F15) 0 K Try.f6 la6 dq6.k 0 [] n (hd6_0 a0 a1 a2 ps1 ps7 ps9 ps10) = L6_0 F8 F9 F10 F11 F24 F25 F1013 F14 F16 F15 K a0 a1 a2 n ps1 ps7 ps9 ps10
  | 0, _, _, _, _ => by kernel_rfl
  | n + 1, ps1, ps7, ps9, ps10 => by
    have h : loopN Try.prog (tab6 F8 F9 F10 F11 F24 F25 F1013 F14 F16 F15) 0 K Try.f6 la6 dq6.k 0 [] (n + 1) (hd6_0 a0 a1 a2 ps1 ps7 ps9 ps10) = b6_0 F8 F9 F10 F11 F24 F25 F1013 F14 F16 F15 K a0 a1 a2 (fun q0 q1 q2 q3 => loopN Try.prog (tab6 F8 F9 F10 F11 F24 F25 F1013 F14 F16 F15) 0 K Try.f6 la6 dq6.k 0 [] n (hd6_0 a0 a1 a2 q0 q1 q2 q3)) (fun k q0 q1 q2 q3 q4 q5 q6 => loopN Try.prog (tab6 F8 F9 F10 F11 F24 F25 F1013 F14 F16 F15) 0 K Try.f6 la6 dq6.k 1 [] k (hd6_1 a0 a1 a2 q0 q1 q2 q3 q4 q5 q6)) ps1 ps7 ps9 ps10 := by kernel_rfl
    rw [h]
    simp only [lp6_0 F8 F9 F10 F11 F24 F25 F1013 F14 F16 F15 K a0 a1 a2 n, lp6_1 F8 F9 F10 F11 F24 F25 F1013 F14 F16 F15 K a0 a1 a2]
    rfl
theorem ev6 (F8 : (List (El T38)) → Option (List (El T38))) (F9 : (El T25) → (List (El T38)) → Option (Bool)) (F10 : (El T25) → (List (El T38)) → Int → Option (Bool)) (F11 : Option (Bool)) (F24 : (El T25) → (List (El T38)) → Int → Option ((List (El T44)) × Int)) (F25 : (List (El T44)) → (List (El T44)) → Option (Bool)) (F1013 : (El T25) → Option (Int × List Int × List (El T47))) (F14 : (List (El T38)) → (El T44) → Option ((El T38) × Bool)) (F16 : (El T25) → Int → Int → Int → Option (Int × Int × Int)) (F15 : (El T25) → (El T42) → Int → Int → Option (Bool)) (K : Nat) (a0 : El T25) (a1 : List (El T38)) (a2 : Int) : evFun Try.prog (tab6 F8 F9 F10 F11 F24 F25 F1013 F14 F16 F15) 0 K Try.f6 la6 [.agg (cellsOf T25 a0), .row T38 a1, I .i64 a2] [] dq6.k = G6 F8 F9 F10 F11 F24 F25 F1013 F14 F16 F15 K a0 a1 a2 := by
  have h : evFun Try.prog (tab6 F8 F9 F10 F11 F24 F25 F1013 F14 F16 F15) 0 K Try.f6 la6 [.agg (cellsOf T25 a0), .row T38 a1, I .i64 a2] [] dq6.k = t6 F8 F9 F10 F11 F24 F25 F1013 F14 F16 F15 K a0 a1 a2 (fun k q0 q1 q2 q3 => loopN Try.prog (tab6 F8 F9 F10 F11 F24 F25 F1013 F14 F16 F15) 0 K Try.f6 la6 dq6.k 0 [] k (hd6_0 a0 a1 a2 q0 q1 q2 q3)) := by kernel_rfl
  rw [h]
  simp only [lp6_0 F8 F9 F10 F11 F24 F25 F1013 F14 F16 F15 K a0 a1 a2]
  rfl
noncomputable def F6 (K : Nat) (a0 : El T25) (a1 : List (El T38)) (a2 : Int) : Option (Bool) := G6 (F8 K) (F9 K) (F10 K) (F11 K) (F24 K) (F25 K) (F1013 K) (F14 K) (F16 K) (F15 K) K a0 a1 a2
theorem cok6 (K : Nat) : CallOK D Try.prog (tab6 (F8 K) (F9 K) (F10 K) (F11 K) (F24 K) (F25 K) (F1013 K) (F14 K) (F16 K) (F15 K)) := (add_ok (add_ok (add_ok (add_ok (add_ok (add_ok (add_ok (add_ok (add_ok (add_ok none_ok ent8 (ok8 K)) ent9 (ok9 K)) ent10 (ok10 K)) ent11 (ok11 K)) ent24 (ok24 K)) ent25 (ok25 K)) ent1013 (ok1013 K)) ent14 (ok14 K)) ent16 (ok16 K)) ent15 (ok15 K))
theorem ok6 (K : Nat) : RowOK D Try.prog 6 (row ad6 dq6 fun p => F6 K p.1 p.2.1 p.2.2) := row_ok fun x r h => has_of (cok6 K) Try.func6 ((ev6 (F8 K) (F9 K) (F10 K) (F11 K) (F24 K) (F25 K) (F1013 K) (F14 K) (F16 K) (F15 K) K x.1 x.2.1 x.2.2).trans h)
/-! ganger/gangerlaw15.BackfillApart -/
noncomputable def tab3 (F8 : (List (El T38)) → Option (List (El T38))) (F9 : (El T25) → (List (El T38)) → Option (Bool)) (F10 : (El T25) → (List (El T38)) → Int → Option (Bool)) (F11 : Option (Bool)) (F12 : (El T25) → (List (El T38)) → Int → Int → Option ((List (El T44)) × Int)) (F1013 : (El T25) → Option (Int × List Int × List (El T47))) (F14 : (List (El T38)) → (El T44) → Option ((El T38) × Bool)) (F15 : (El T25) → (El T42) → Int → Int → Option (Bool)) : Tab := ((((((((Tab.none.add 8 (row ad8 dq8 fun p => F8 p)).add 9 (row ad9 dq9 fun p => F9 p.1 p.2)).add 10 (row ad10 dq10 fun p => F10 p.1 p.2.1 p.2.2)).add 11 (row ad11 dq11 fun p => F11)).add 12 (row ad12 dq12 fun p => F12 p.1 p.2.1 p.2.2.1 p.2.2.2)).add 13 (row ad1013 dq1013 fun p => F1013 p)).add 14 (row ad14 dq14 fun p => F14 p.1 p.2)).add 15 (row ad15 dq15 fun p => F15 p.1 p.2.1 p.2.2.1 p.2.2.2))
noncomputable def la3 : List (List Tidy) := [[.only [1, 2, 9, 11, 12, 13], .ren 140 54, .ids [4, 11, 17, 20, 24, 26, 34, 36, 42, 48, 51, 54, 140, 142], .top [1000000]]]
noncomputable def hd3_0 (a0 : El T25) (a1 : List (El T38)) (a2 : Int) (a3 : Int) (ps12 : Int) (ps13 : Int) (ph11_0 : Int) (ph11_1 : List (Int)) (ph17 : List (El ((Ty.int IntKind.u32).pair T42))) (ph42 : List (El T44)) (ph54 : List (El T47)) : St := { tm := slots (nat_lit 143) [(nat_lit 1, AV.own (nat_lit 17)), (nat_lit 2, AV.sc (Value.int IntKind.i64 a2)), (nat_lit 9, AV.own (nat_lit 42)), (nat_lit 11, AV.ptr (nat_lit 11) (nat_lit 0)), (nat_lit 12, AV.sc (Value.int IntKind.u32 ps12)), (nat_lit 13, AV.sc (Value.int IntKind.i64 ps13))], H := [(nat_lit 4, ABlk.box (nat_lit 25) (cellsOf T25 a0)), (nat_lit 11, ABlk.box (nat_lit 25) [AV.sc (Value.int IntKind.i64 ph11_0), AV.row (Ty.int IntKind.i64) ph11_1, AV.own (nat_lit 54)]), (nat_lit 17, ABlk.arr (nat_lit 38) ((Ty.int IntKind.u32).pair T42) ph17), (nat_lit 42, ABlk.arr (nat_lit 44) T44 ph42), (nat_lit 54, ABlk.arr (nat_lit 47) T47 ph54)] }
noncomputable def b3_0 (F8 : (List (El T38)) → Option (List (El T38))) (F9 : (El T25) → (List (El T38)) → Option (Bool)) (F10 : (El T25) → (List (El T38)) → Int → Option (Bool)) (F11 : Option (Bool)) (F12 : (El T25) → (List (El T38)) → Int → Int → Option ((List (El T44)) × Int)) (F1013 : (El T25) → Option (Int × List Int × List (El T47))) (F14 : (List (El T38)) → (El T44) → Option ((El T38) × Bool)) (F15 : (El T25) → (El T42) → Int → Int → Option (Bool)) (K : Nat) (a0 : El T25) (a1 : List (El T38)) (a2 : Int) (a3 : Int) (r0 : Int → Int → Int → (List (Int)) → (List (El ((Ty.int IntKind.u32).pair T42))) → (List (El T44)) → (List (El T47)) → Option (Bool)) (ps12 : Int) (ps13 : Int) (ph11_0 : Int) (ph11_1 : List (Int)) (ph17 : List (El ((Ty.int IntKind.u32).pair T42))) (ph42 : List (El T44)) (ph54 : List (El T47)) : Option (Bool) :=(if decide (ps13 < (↑ph42.length : Int)) = true then (if decide ((0 : Int) ≤ ps13 ∧ ps13 < (↑ph42.length : Int)) = true then 
    (Option.bind (F14 ph17 (ph42.getD ps13.toNat (zEl T44))) fun x9 => (if (!x9.2) = true then some (false)
     else (if decide ((0 : Int) ≤ ps13 ∧ ps13 < (↑ph42.length : Int)) = true then (if decide ((ph42.getD ps13.toNat (zEl T44)).1 ≤ ps12) = true then some (false)
       else (if decide ((0 : Int) ≤ ps13 ∧ ps13 < (↑ph42.length : Int)) = true then (if decide ((ph42.getD ps13.toNat (zEl T44)).2.2 < a2) = true then some (false)
         else (if decide ((0 : Int) ≤ ps13 ∧ ps13 < (↑ph42.length : Int)) = true then (if decide ((0 : Int) ≤ ps13 ∧ ps13 < (↑ph42.length : Int)) = true then (if decide ((0 : Int) ≤ ps13 ∧ ps13 < (↑ph42.length : Int)) = true then 
             (Option.bind (F15 (ph11_0, ph11_1, ph54) (ph42.getD ps13.toNat (zEl T44)).2.1 (ph42.getD ps13.toNat (zEl T44)).2.2 (IntKind.i64.wrap ((ph42.getD ps13.toNat (zEl T44)).2.2 + x9.1.2.2))) fun x10 => (if (!x10) = true then some (false)
              else (if decide ((0 : Int) ≤ ps13 ∧ ps13 < (↑ph42.length : Int)) = true then (if decide ((0 : Int) ≤ ps13 ∧ ps13 < (↑ph42.length : Int)) = true then (if decide ((0 : Int) ≤ ps13 ∧ ps13 < (↑ph42.length : Int)) = true then (if decide ((0 : Int) ≤ ps13 ∧ ps13 < (↑ph42.length : Int)) = true then (if decide ((ph54.length + [((ph42.getD ps13.toNat (zEl T44)).2.1, (ph42.getD ps13.toNat (zEl T44)).2.2, IntKind.i64.wrap ((ph42.getD ps13.toNat (zEl T44)).2.2 + x9.1.2.2))].length) * Try.prog.types[(47 : Nat)].bytes ≤ (140737488355328 : Nat)) = true then r0 ((ph42.getD ps13.toNat (zEl T44)).1) (IntKind.i64.wrap (ps13 + (1 : Int))) (ph11_0) (ph11_1) (ph17) (ph42) (ph54 ++ [((ph42.getD ps13.toNat (zEl T44)).2.1, (ph42.getD ps13.toNat (zEl T44)).2.2, IntKind.i64.wrap ((ph42.getD ps13.toNat (zEl T44)).2.2 + x9.1.2.2))])
                   else none)
                  else none)
                 else none)
                else none)
               else none)))
            else none)
           else none)
          else none))
        else none))
      else none)))
   else none)
  else 
   (Option.bind (F11) fun x11 => some (x11)))
noncomputable def L3_0 (F8 : (List (El T38)) → Option (List (El T38))) (F9 : (El T25) → (List (El T38)) → Option (Bool)) (F10 : (El T25) → (List (El T38)) → Int → Option (Bool)) (F11 : Option (Bool)) (F12 : (El T25) → (List (El T38)) → Int → Int → Option ((List (El T44)) × Int)) (F1013 : (El T25) → Option (Int × List Int × List (El T47))) (F14 : (List (El T38)) → (El T44) → Option ((El T38) × Bool)) (F15 : (El T25) → (El T42) → Int → Int → Option (Bool)) (K : Nat) (a0 : El T25) (a1 : List (El T38)) (a2 : Int) (a3 : Int) : Nat → Int → Int → Int → (List (Int)) → (List (El ((Ty.int IntKind.u32).pair T42))) → (List (El T44)) → (List (El T47)) → Option (Bool)
  | 0, _, _, _, _, _, _, _ => none
  | n + 1, ps12, ps13, ph11_0, ph11_1, ph17, ph42, ph54 => b3_0 F8 F9 F10 F11 F12 F1013 F14 F15 K a0 a1 a2 a3 (L3_0 F8 F9 F10 F11 F12 F1013 F14 F15 K a0 a1 a2 a3 n) ps12 ps13 ph11_0 ph11_1 ph17 ph42 ph54
noncomputable def t3 (F8 : (List (El T38)) → Option (List (El T38))) (F9 : (El T25) → (List (El T38)) → Option (Bool)) (F10 : (El T25) → (List (El T38)) → Int → Option (Bool)) (F11 : Option (Bool)) (F12 : (El T25) → (List (El T38)) → Int → Int → Option ((List (El T44)) × Int)) (F1013 : (El T25) → Option (Int × List Int × List (El T47))) (F14 : (List (El T38)) → (El T44) → Option ((El T38) × Bool)) (F15 : (El T25) → (El T42) → Int → Int → Option (Bool)) (K : Nat) (a0 : El T25) (a1 : List (El T38)) (a2 : Int) (a3 : Int) (l0 : Nat → Int → Int → Int → (List (Int)) → (List (El ((Ty.int IntKind.u32).pair T42))) → (List (El T44)) → (List (El T47)) → Option (Bool)) : Option (Bool) := 
 (Option.bind (F8 a1) fun x0 => 
  (Option.bind (F9 a0 x0) fun x1 => (if x1 = true then 
    (Option.bind (F11) fun x2 => some (x2))
   else (if decide (IntKind.i64.wrap ((↑(List.length a0.2.2) : Int) + (↑(List.length x0) : Int)) > (300 : Int)) = true then 
     (Option.bind (F11) fun x3 => some (x3))
    else 
     (Option.bind (F10 a0 x0 a2) fun x4 => (if x4 = true then 
       (Option.bind (F11) fun x5 => some (x5))
      else 
       (Option.bind (F12 a0 x0 a2 a3) fun x6 => (if (x6.2 != (0 : Int)) = true then (if ((↑x6.1.length : Int) == (0 : Int)) = true then 
          (Option.bind (F11) fun x7 => some (x7))
         else some (false))
        else 
         (Option.bind (F1013 a0) fun x8 => l0 K ((0 : Int)) ((0 : Int)) (x8.1) (x8.2.1) (x0) (x6.1) (x8.2.2))))))))))
noncomputable def G3 (F8 : (List (El T38)) → Option (List (El T38))) (F9 : (El T25) → (List (El T38)) → Option (Bool)) (F10 : (El T25) → (List (El T38)) → Int → Option (Bool)) (F11 : Option (Bool)) (F12 : (El T25) → (List (El T38)) → Int → Int → Option ((List (El T44)) × Int)) (F1013 : (El T25) → Option (Int × List Int × List (El T47))) (F14 : (List (El T38)) → (El T44) → Option ((El T38) × Bool)) (F15 : (El T25) → (El T42) → Int → Int → Option (Bool)) (K : Nat) (a0 : El T25) (a1 : List (El T38)) (a2 : Int) (a3 : Int) : Option (Bool) := t3 F8 F9 F10 F11 F12 F1013 F14 F15 K a0 a1 a2 a3 (L3_0 F8 F9 F10 F11 F12 F1013 F14 F15 K a0 a1 a2 a3)
theorem lp3_0 (F8 : (List (El T38)) → Option (List (El T38))) (F9 : (El T25) → (List (El T38)) → Option (Bool)) (F10 : (El T25) → (List (El T38)) → Int → Option (Bool)) (F11 : Option (Bool)) (F12 : (El T25) → (List (El T38)) → Int → Int → Option ((List (El T44)) × Int)) (F1013 : (El T25) → Option (Int × List Int × List (El T47))) (F14 : (List (El T38)) → (El T44) → Option ((El T38) × Bool)) (F15 : (El T25) → (El T42) → Int → Int → Option (Bool)) (K : Nat) (a0 : El T25) (a1 : List (El T38)) (a2 : Int) (a3 : Int) : ∀ (n : Nat) (ps12 : Int) (ps13 : Int) (ph11_0 : Int) (ph11_1 : List (Int)) (ph17 : List (El ((Ty.int IntKind.u32).pair T42))) (ph42 : List (El T44)) (ph54 : List (El T47)), loopN Try.prog (tab3 F8 F9 F10 F11 F12 F1013 F14 F15) 0 K Try.f3 la3 dq3.k 0 [] n (hd3_0 a0 a1 a2 a3 ps12 ps13 ph11_0 ph11_1 ph17 ph42 ph54) = L3_0 F8 F9 F10 F11 F12 F1013 F14 F15 K a0 a1 a2 a3 n ps12 ps13 ph11_0 ph11_1 ph17 ph42 ph54
  | 0, _, _, _, _, _, _, _ => by kernel_rfl
  | n + 1, ps12, ps13, ph11_0, ph11_1, ph17, ph42, ph54 => by
    have h : loopN Try.prog (tab3 F8 F9 F10 F11 F12 F1013 F14 F15) 0 K Try.f3 la3 dq3.k 0 [] (n + 1) (hd3_0 a0 a1 a2 a3 ps12 ps13 ph11_0 ph11_1 ph17 ph42 ph54) = b3_0 F8 F9 F10 F11 F12 F1013 F14 F15 K a0 a1 a2 a3 (fun q0 q1 q2 q3 q4 q5 q6 => loopN Try.prog (tab3 F8 F9 F10 F11 F12 F1013 F14 F15) 0 K Try.f3 la3 dq3.k 0 [] n (hd3_0 a0 a1 a2 a3 q0 q1 q2 q3 q4 q5 q6)) ps12 ps13 ph11_0 ph11_1 ph17 ph42 ph54 := by kernel_rfl
    rw [h]
    simp only [lp3_0 F8 F9 F10 F11 F12 F1013 F14 F15 K a0 a1 a2 a3 n]
    rfl
theorem ev3 (F8 : (List (El T38)) → Option (List (El T38))) (F9 : (El T25) → (List (El T38)) → Option (Bool)) (F10 : (El T25) → (List (El T38)) → Int → Option (Bool)) (F11 : Option (Bool)) (F12 : (El T25) → (List (El T38)) → Int → Int → Option ((List (El T44)) × Int)) (F1013 : (El T25) → Option (Int × List Int × List (El T47))) (F14 : (List (El T38)) → (El T44) → Option ((El T38) × Bool)) (F15 : (El T25) → (El T42) → Int → Int → Option (Bool)) (K : Nat) (a0 : El T25) (a1 : List (El T38)) (a2 : Int) (a3 : Int) : evFun Try.prog (tab3 F8 F9 F10 F11 F12 F1013 F14 F15) 0 K Try.f3 la3 [.agg (cellsOf T25 a0), .row T38 a1, I .i64 a2, I .i64 a3] [] dq3.k = G3 F8 F9 F10 F11 F12 F1013 F14 F15 K a0 a1 a2 a3 := by
  have h : evFun Try.prog (tab3 F8 F9 F10 F11 F12 F1013 F14 F15) 0 K Try.f3 la3 [.agg (cellsOf T25 a0), .row T38 a1, I .i64 a2, I .i64 a3] [] dq3.k = t3 F8 F9 F10 F11 F12 F1013 F14 F15 K a0 a1 a2 a3 (fun k q0 q1 q2 q3 q4 q5 q6 => loopN Try.prog (tab3 F8 F9 F10 F11 F12 F1013 F14 F15) 0 K Try.f3 la3 dq3.k 0 [] k (hd3_0 a0 a1 a2 a3 q0 q1 q2 q3 q4 q5 q6)) := by kernel_rfl
  rw [h]
  simp only [lp3_0 F8 F9 F10 F11 F12 F1013 F14 F15 K a0 a1 a2 a3]
  rfl
noncomputable def F3 (K : Nat) (a0 : El T25) (a1 : List (El T38)) (a2 : Int) (a3 : Int) : Option (Bool) := G3 (F8 K) (F9 K) (F10 K) (F11 K) (F12 K) (F1013 K) (F14 K) (F15 K) K a0 a1 a2 a3
theorem cok3 (K : Nat) : CallOK D Try.prog (tab3 (F8 K) (F9 K) (F10 K) (F11 K) (F12 K) (F1013 K) (F14 K) (F15 K)) := (add_ok (add_ok (add_ok (add_ok (add_ok (add_ok (add_ok (add_ok none_ok ent8 (ok8 K)) ent9 (ok9 K)) ent10 (ok10 K)) ent11 (ok11 K)) ent12 (ok12 K)) ent1013 (ok1013 K)) ent14 (ok14 K)) ent15 (ok15 K))
theorem ok3 (K : Nat) : RowOK D Try.prog 3 (row ad3 dq3 fun p => F3 K p.1 p.2.1 p.2.2.1 p.2.2.2) := row_ok fun x r h => has_of (cok3 K) Try.func3 ((ev3 (F8 K) (F9 K) (F10 K) (F11 K) (F12 K) (F1013 K) (F14 K) (F15 K) K x.1 x.2.1 x.2.2.1 x.2.2.2).trans h)
end Go.Proofs.YtipfamkhplkpmaaE
