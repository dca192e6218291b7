import Derived.Test.YtlpalhgiiodjoaaS16F6
set_option linter.all false
namespace Go.Proofs.YtlpalhgiiodjoaaE
open Go Go.Proofs
set_option maxRecDepth 100000
set_option linter.unusedVariables false
variable {D : Prop}
/-! ganger/gangerlaw16.in -/
noncomputable def tab13 : Tab := Tab.none
noncomputable def la13 : List (List Tidy) := [[.only [0, 1, 5], .ids [], .top [1000000]]]
noncomputable def hd13_0 (a0 : List (El (.int .u32))) (a1 : Int) (ps5 : Int) : St := { tm := slots (nat_lit 18) [(nat_lit 0, AV.row (Ty.int IntKind.u32) a0), (nat_lit 1, AV.sc (Value.int IntKind.u32 a1)), (nat_lit 5, AV.sc (Value.int IntKind.i64 ps5))], H := [] }
noncomputable def b13_0 (K : Nat) (a0 : List (El (.int .u32))) (a1 : Int) (r0 : Int → Option (Bool)) (ps5 : Int) : Option (Bool) :=(if decide (ps5 < (↑a0.length : Int)) = true then (if decide ((0 : Int) ≤ ps5 ∧ ps5 < (↑a0.length : Int)) = true then (if (a0.getD ps5.toNat (zEl (Ty.int IntKind.u32)) == a1) = true then some (true)
    else r0 (IntKind.i64.wrap (ps5 + (1 : Int))))
   else none)
  else some (false))
noncomputable def L13_0 (K : Nat) (a0 : List (El (.int .u32))) (a1 : Int) : Nat → Int → Option (Bool)
  | 0, _ => none
  | n + 1, ps5 => b13_0 K a0 a1 (L13_0 K a0 a1 n) ps5
noncomputable def t13 (K : Nat) (a0 : List (El (.int .u32))) (a1 : Int) (l0 : Nat → Int → Option (Bool)) : Option (Bool) := l0 K ((0 : Int))
noncomputable def G13 (K : Nat) (a0 : List (El (.int .u32))) (a1 : Int) : Option (Bool) := t13 K a0 a1 (L13_0 K a0 a1)
theorem lp13_0 (K : Nat) (a0 : List (El (.int .u32))) (a1 : Int) : ∀ (n : Nat) (ps5 : Int), loopN Try.prog (tab13) 0 K Try.f13 la13 dq13.k 0 [] n (hd13_0 a0 a1 ps5) = L13_0 K a0 a1 n ps5
  | 0, _ => by kernel_rfl
  | n + 1, ps5 => by
    have h : loopN Try.prog (tab13) 0 K Try.f13 la13 dq13.k 0 [] (n + 1) (hd13_0 a0 a1 ps5) = b13_0 K a0 a1 (fun q0 => loopN Try.prog (tab13) 0 K Try.f13 la13 dq13.k 0 [] n (hd13_0 a0 a1 q0)) ps5 := by kernel_rfl
    rw [h]
    simp only [lp13_0 K a0 a1 n]
    rfl
theorem ev13 (K : Nat) (a0 : List (El (.int .u32))) (a1 : Int) : evFun Try.prog (tab13) 0 K Try.f13 la13 [.row (.int .u32) a0, I .u32 a1] [] dq13.k = G13 K a0 a1 := by
  have h : evFun Try.prog (tab13) 0 K Try.f13 la13 [.row (.int .u32) a0, I .u32 a1] [] dq13.k = t13 K a0 a1 (fun k q0 => loopN Try.prog (tab13) 0 K Try.f13 la13 dq13.k 0 [] k (hd13_0 a0 a1 q0)) := by kernel_rfl
  rw [h]
  simp only [lp13_0 K a0 a1]
  rfl
noncomputable def F13 (K : Nat) (a0 : List (El (.int .u32))) (a1 : Int) : Option (Bool) := G13 K a0 a1
theorem cok13 (K : Nat) : CallOK D Try.prog (tab13) := none_ok
theorem ok13 (K : Nat) : RowOK D Try.prog 13 (row ad13 dq13 fun p => F13 K p.1 p.2) := row_ok fun x r h => has_of (cok13 K) Try.func13 ((ev13 K x.1 x.2).trans h)
/-! (*ganger/gang.Matrix).Active -/
noncomputable def tab14 : Tab := Tab.none
noncomputable def t14 (K : Nat) (a0 : El T62) : Option (Int) := some (a0.2.2)
noncomputable def G14 (K : Nat) (a0 : El T62) : Option (Int) := t14 K a0
theorem ev14 (K : Nat) (a0 : El T62) : evFun Try.prog (tab14) 0 K Try.f14 [] [.eptr T62 a0 0] [] dq14.k = G14 K a0 := by
  kernel_rfl
noncomputable def F14 (K : Nat) (a0 : El T62) : Option (Int) := G14 K a0
theorem cok14 (K : Nat) : CallOK D Try.prog (tab14) := none_ok
theorem ok14 (K : Nat) : RowOK D Try.prog 14 (row ad14 dq14 fun p => F14 K p) := row_ok fun x r h => has_of (cok14 K) Try.func14 ((ev14 K x).trans h)
/-! ganger/gangerref04.Size -/
noncomputable def tab36 : Tab := Tab.none
noncomputable def la36 : List (List Tidy) := [[.only [0, 3, 4], .ids [], .top [1000000]]]
noncomputable def hd36_0 (a0 : Int) (ps3 : Int) (ps4 : Int) : St := { tm := slots (nat_lit 13) [(nat_lit 0, AV.sc (Value.int IntKind.i64 a0)), (nat_lit 3, AV.sc (Value.int IntKind.i64 ps3)), (nat_lit 4, AV.sc (Value.int IntKind.i64 ps4))], H := [] }
noncomputable def b36_0 (K : Nat) (a0 : Int) (r0 : Int → Int → Option (Int)) (ps3 : Int) (ps4 : Int) : Option (Int) :=(if decide (ps4 < a0) = true then r0 (IntKind.i64.wrap (ps3 * (2 : Int))) (IntKind.i64.wrap (ps4 + (1 : Int)))
  else some (ps3))
noncomputable def L36_0 (K : Nat) (a0 : Int) : Nat → Int → Int → Option (Int)
  | 0, _, _ => none
  | n + 1, ps3, ps4 => b36_0 K a0 (L36_0 K a0 n) ps3 ps4
noncomputable def t36 (K : Nat) (a0 : Int) (l0 : Nat → Int → Int → Option (Int)) : Option (Int) := l0 K ((1 : Int)) ((0 : Int))
noncomputable def G36 (K : Nat) (a0 : Int) : Option (Int) := t36 K a0 (L36_0 K a0)
theorem lp36_0 (K : Nat) (a0 : Int) : ∀ (n : Nat) (ps3 : Int) (ps4 : Int), loopN Try.prog (tab36) 0 K Try.f36 la36 dq36.k 0 [] n (hd36_0 a0 ps3 ps4) = L36_0 K a0 n ps3 ps4
  | 0, _, _ => by kernel_rfl
  | n + 1, ps3, ps4 => by
    have h : loopN Try.prog (tab36) 0 K Try.f36 la36 dq36.k 0 [] (n + 1) (hd36_0 a0 ps3 ps4) = b36_0 K a0 (fun q0 q1 => loopN Try.prog (tab36) 0 K Try.f36 la36 dq36.k 0 [] n (hd36_0 a0 q0 q1)) ps3 ps4 := by kernel_rfl
    rw [h]
    simp only [lp36_0 K a0 n]
    rfl
theorem ev36 (K : Nat) (a0 : Int) : evFun Try.prog (tab36) 0 K Try.f36 la36 [I .i64 a0] [] dq36.k = G36 K a0 := by
  have h : evFun Try.prog (tab36) 0 K Try.f36 la36 [I .i64 a0] [] dq36.k = t36 K a0 (fun k q0 q1 => loopN Try.prog (tab36) 0 K Try.f36 la36 dq36.k 0 [] k (hd36_0 a0 q0 q1)) := by kernel_rfl
  rw [h]
  simp only [lp36_0 K a0]
  rfl
noncomputable def F36 (K : Nat) (a0 : Int) : Option (Int) := G36 K a0
theorem cok36 (K : Nat) : CallOK D Try.prog (tab36) := none_ok
theorem ok36 (K : Nat) : RowOK D Try.prog 36 (row ad36 dq36 fun p => F36 K p) := row_ok fun x r h => has_of (cok36 K) Try.func36 ((ev36 K x).trans h)
/-! ganger/gangerref16.Meet -/
noncomputable def tab15 (F36 : Int → Option (Int)) : Tab := (Tab.none.add 36 (row ad36 dq36 fun p => F36 p))
noncomputable def t15 (F36 : Int → Option (Int)) (K : Nat) (a0 : El T32) (a1 : El T32) : Option (Bool) := (if decide (a0.1 ≥ a1.1) = true then 
  (Option.bind (F36 a1.2) fun x0 => (if decide (a0.1 < IntKind.i64.wrap (a1.1 + x0)) = true then some (true)
   else (if decide (a1.1 ≥ a0.1) = true then 
     (Option.bind (F36 a0.2) fun x1 => some (decide (a1.1 < IntKind.i64.wrap (a0.1 + x1))))
    else some (false))))
 else (if decide (a1.1 ≥ a0.1) = true then 
   (Option.bind (F36 a0.2) fun x2 => some (decide (a1.1 < IntKind.i64.wrap (a0.1 + x2))))
  else some (false)))
noncomputable def G15 (F36 : Int → Option (Int)) (K : Nat) (a0 : El T32) (a1 : El T32) : Option (Bool) := t15 F36 K a0 a1
theorem ev15 (F36 : Int → Option (Int)) (K : Nat) (a0 : El T32) (a1 : El T32) : evFun Try.prog (tab15 F36) 0 K Try.f15 [] [.agg (cellsOf T32 a0), .agg (cellsOf T32 a1)] [] dq15.k = G15 F36 K a0 a1 := by
  kernel_rfl
noncomputable def F15 (K : Nat) (a0 : El T32) (a1 : El T32) : Option (Bool) := G15 (F36 K) K a0 a1
theorem cok15 (K : Nat) : CallOK D Try.prog (tab15 (F36 K)) := (add_ok none_ok ent36 (ok36 K))
theorem ok15 (K : Nat) : RowOK D Try.prog 15 (row ad15 dq15 fun p => F15 K p.1 p.2) := row_ok fun x r h => has_of (cok15 K) Try.func15 ((ev15 (F36 K) K x.1 x.2).trans h)
/-! ganger/gangerref08.SameJobs -/
noncomputable def tab29 : Tab := Tab.none
noncomputable def la29 : List (List Tidy) := [[.only [0, 1, 5], .ids [7, 9], .top [1000000]]]
noncomputable def hd29_0 (a0 : List (El (.int .u32))) (a1 : List (El (.int .u32))) (ps5 : Int) : St := { tm := slots (nat_lit 26) [(nat_lit 0, AV.row (Ty.int IntKind.u32) a0), (nat_lit 1, AV.row (Ty.int IntKind.u32) a1), (nat_lit 5, AV.sc (Value.int IntKind.i64 ps5))], H := [] }
noncomputable def b29_0 (K : Nat) (a0 : List (El (.int .u32))) (a1 : List (El (.int .u32))) (r0 : Int → Option (Bool)) (ps5 : Int) : Option (Bool) :=(if decide (ps5 < (↑a0.length : Int)) = true then (if decide ((0 : Int) ≤ ps5 ∧ ps5 < (↑a0.length : Int)) = true then (if decide ((0 : Int) ≤ ps5 ∧ ps5 < (↑a1.length : Int)) = true then (if (a0.getD ps5.toNat (zEl (Ty.int IntKind.u32)) != a1.getD ps5.toNat (zEl (Ty.int IntKind.u32))) = true then some (false)
     else r0 (IntKind.i64.wrap (ps5 + (1 : Int))))
    else none)
   else none)
  else some (true))
noncomputable def L29_0 (K : Nat) (a0 : List (El (.int .u32))) (a1 : List (El (.int .u32))) : Nat → Int → Option (Bool)
  | 0, _ => none
  | n + 1, ps5 => b29_0 K a0 a1 (L29_0 K a0 a1 n) ps5
noncomputable def t29 (K : Nat) (a0 : List (El (.int .u32))) (a1 : List (El (.int .u32))) (l0 : Nat → Int → Option (Bool)) : Option (Bool) := (if ((↑a0.length : Int) != (↑a1.length : Int)) = true then some (false)
 else l0 K ((0 : Int)))
noncomputable def G29 (K : Nat) (a0 : List (El (.int .u32))) (a1 : List (El (.int .u32))) : Option (Bool) := t29 K a0 a1 (L29_0 K a0 a1)
theorem lp29_0 (K : Nat) (a0 : List (El (.int .u32))) (a1 : List (El (.int .u32))) : ∀ (n : Nat) (ps5 : Int), loopN Try.prog (tab29) 0 K Try.f29 la29 dq29.k 0 [] n (hd29_0 a0 a1 ps5) = L29_0 K a0 a1 n ps5
  | 0, _ => by kernel_rfl
  | n + 1, ps5 => by
    have h : loopN Try.prog (tab29) 0 K Try.f29 la29 dq29.k 0 [] (n + 1) (hd29_0 a0 a1 ps5) = b29_0 K a0 a1 (fun q0 => loopN Try.prog (tab29) 0 K Try.f29 la29 dq29.k 0 [] n (hd29_0 a0 a1 q0)) ps5 := by kernel_rfl
    rw [h]
    simp only [lp29_0 K a0 a1 n]
    rfl
theorem ev29 (K : Nat) (a0 : List (El (.int .u32))) (a1 : List (El (.int .u32))) : evFun Try.prog (tab29) 0 K Try.f29 la29 [.row (.int .u32) a0, .row (.int .u32) a1] [] dq29.k = G29 K a0 a1 := by
  have h : evFun Try.prog (tab29) 0 K Try.f29 la29 [.row (.int .u32) a0, .row (.int .u32) a1] [] dq29.k = t29 K a0 a1 (fun k q0 => loopN Try.prog (tab29) 0 K Try.f29 la29 dq29.k 0 [] k (hd29_0 a0 a1 q0)) := by kernel_rfl
  rw [h]
  simp only [lp29_0 K a0 a1]
  rfl
noncomputable def F29 (K : Nat) (a0 : List (El (.int .u32))) (a1 : List (El (.int .u32))) : Option (Bool) := G29 K a0 a1
theorem cok29 (K : Nat) : CallOK D Try.prog (tab29) := none_ok
theorem ok29 (K : Nat) : RowOK D Try.prog 29 (row ad29 dq29 fun p => F29 K p.1 p.2) := row_ok fun x r h => has_of (cok29 K) Try.func29 ((ev29 K x.1 x.2).trans h)
/-! ganger/gangerlaw16.known -/
noncomputable def tab16 (F4023 : Option ((Int × (List (El T34) × Int)) × Int × Unit)) (F21 : Int → Int → (Int × (List (El T34) × Int)) → Option ((El T34 × Int) × (Int × (List (El T34) × Int)))) (F12 : (El T62) → Option (List (El (.int .u32)))) (F29 : (List (El (.int .u32))) → (List (El (.int .u32))) → Option (Bool)) (F22 : Int → (Int × (List (El T34) × Int)) → Option (Int × (Int × (List (El T34) × Int)))) (F18 : (Int × (List (El T34) × Int)) → Option (Unit × (Int × (List (El T34) × Int)))) (F20 : (Int × (List (El T34) × Int)) → Option (Int × (Int × (List (El T34) × Int)))) (F17 : (El T62) → Option (Int)) (F14 : (El T62) → Option (Int)) : Tab := (((((((((Tab.none.addG 23 (rowG (gad ag4023 ob4023) gq4023 fun p => F4023)).addG 21 (rowG (gad ag21 ob21) gq21 fun p => F21 p.1.1 p.1.2.1 p.2)).add 12 (row ad12 dq12 fun p => F12 p)).add 29 (row ad29 dq29 fun p => F29 p.1 p.2)).addG 22 (rowG (gad ag22 ob22) gq22 fun p => F22 p.1.1 p.2)).addG 18 (rowG (gad ag18 ob18) gq18 fun p => F18 p.2)).addG 20 (rowG (gad ag20 ob20) gq20 fun p => F20 p.2)).add 17 (row ad17 dq17 fun p => F17 p)).add 14 (row ad14 dq14 fun p => F14 p))
noncomputable def t16 (F4023 : Option ((Int × (List (El T34) × Int)) × Int × Unit)) (F21 : Int → Int → (Int × (List (El T34) × Int)) → Option ((El T34 × Int) × (Int × (List (El T34) × Int)))) (F12 : (El T62) → Option (List (El (.int .u32)))) (F29 : (List (El (.int .u32))) → (List (El (.int .u32))) → Option (Bool)) (F22 : Int → (Int × (List (El T34) × Int)) → Option (Int × (Int × (List (El T34) × Int)))) (F18 : (Int × (List (El T34) × Int)) → Option (Unit × (Int × (List (El T34) × Int)))) (F20 : (Int × (List (El T34) × Int)) → Option (Int × (Int × (List (El T34) × Int)))) (F17 : (El T62) → Option (Int)) (F14 : (El T62) → Option (Int)) (K : Nat) : Option (Bool) := 
 (Option.bind (F4023) fun x0 => (if (x0.2.1 != (0 : Int)) = true then some (false)
  else 
   (Option.bind (F21 (1 : Int) (1 : Int) x0.1) fun x1 => 
    (Option.bind (F21 (2 : Int) (2 : Int) x1.2) fun x2 => 
     (Option.bind (F21 (3 : Int) (1 : Int) x2.2) fun x3 => 
      (Option.bind (F12 x3.2) fun x4 => 
       (Option.bind (F29 x4 [(1 : Int), (3 : Int)]) fun x5 => 
        (Option.bind (F22 (1 : Int) x3.2) fun x6 => 
         (Option.bind (F12 x6.2) fun x7 => 
          (Option.bind (F29 x7 [(3 : Int)]) fun x8 => 
           (Option.bind (F18 x6.2) fun x9 => 
            (Option.bind (F12 x9.2) fun x10 => 
             (Option.bind (F29 x10 [(2 : Int)]) fun x11 => 
              (Option.bind (F22 (3 : Int) x9.2) fun x12 => 
               (Option.bind (F20 x12.2) fun x13 => (if (x1.1.1.1 == (1 : Int) && (x1.1.1.2.1 == (0 : Int) && (x1.1.1.2.2.1 == (0 : Int) && x1.1.1.2.2.2 == (1 : Int)))) = true then (if (x2.1.1.2.1 == (1 : Int)) = true then (if (x3.1.1.1 == (3 : Int) && (x3.1.1.2.1 == (0 : Int) && (x3.1.1.2.2.1 == (2 : Int) && x3.1.1.2.2.2 == (1 : Int)))) = true then (if (x3.1.2 == (0 : Int)) = true then (if x5 = true then (if x8 = true then (if x11 = true then (if (x13.1 == (1 : Int)) = true then 
                        (Option.bind (F17 x13.2) fun x14 => (if (x14 == (1 : Int)) = true then 
                          (Option.bind (F14 x13.2) fun x15 => some (x15 == (0 : Int)))
                         else some (false)))
                       else some (false))
                      else some (false))
                     else some (false))
                    else some (false))
                   else some (false))
                  else some (false))
                 else some (false))
                else some (false)))))))))))))))))
noncomputable def G16 (F4023 : Option ((Int × (List (El T34) × Int)) × Int × Unit)) (F21 : Int → Int → (Int × (List (El T34) × Int)) → Option ((El T34 × Int) × (Int × (List (El T34) × Int)))) (F12 : (El T62) → Option (List (El (.int .u32)))) (F29 : (List (El (.int .u32))) → (List (El (.int .u32))) → Option (Bool)) (F22 : Int → (Int × (List (El T34) × Int)) → Option (Int × (Int × (List (El T34) × Int)))) (F18 : (Int × (List (El T34) × Int)) → Option (Unit × (Int × (List (El T34) × Int)))) (F20 : (Int × (List (El T34) × Int)) → Option (Int × (Int × (List (El T34) × Int)))) (F17 : (El T62) → Option (Int)) (F14 : (El T62) → Option (Int)) (K : Nat) : Option (Bool) := t16 F4023 F21 F12 F29 F22 F18 F20 F17 F14 K
theorem ev16 (F4023 : Option ((Int × (List (El T34) × Int)) × Int × Unit)) (F21 : Int → Int → (Int × (List (El T34) × Int)) → Option ((El T34 × Int) × (Int × (List (El T34) × Int)))) (F12 : (El T62) → Option (List (El (.int .u32)))) (F29 : (List (El (.int .u32))) → (List (El (.int .u32))) → Option (Bool)) (F22 : Int → (Int × (List (El T34) × Int)) → Option (Int × (Int × (List (El T34) × Int)))) (F18 : (Int × (List (El T34) × Int)) → Option (Unit × (Int × (List (El T34) × Int)))) (F20 : (Int × (List (El T34) × Int)) → Option (Int × (Int × (List (El T34) × Int)))) (F17 : (El T62) → Option (Int)) (F14 : (El T62) → Option (Int)) (K : Nat) : evFun Try.prog (tab16 F4023 F21 F12 F29 F22 F18 F20 F17 F14) 0 K Try.f16 [] [] [] dq16.k = G16 F4023 F21 F12 F29 F22 F18 F20 F17 F14 K := by
  kernel_rfl
noncomputable def F16 (K : Nat) : Option (Bool) := G16 (F4023 K) (F21 K) (F12 K) (F29 K) (F22 K) (F18 K) (F20 K) (F17 K) (F14 K) K
theorem cok16 (K : Nat) : CallOK D Try.prog (tab16 (F4023 K) (F21 K) (F12 K) (F29 K) (F22 K) (F18 K) (F20 K) (F17 K) (F14 K)) := (add_ok (add_ok (addG_ok (addG_ok (addG_ok (add_ok (add_ok (addG_ok (addG_ok none_ok ent4023 (ok4023 K)) ent21 (ok21 K)) ent12 (ok12 K)) ent29 (ok29 K)) ent22 (ok22 K)) ent18 (ok18 K)) ent20 (ok20 K)) ent17 (ok17 K)) ent14 (ok14 K))
theorem ok16 (K : Nat) : RowOK D Try.prog 16 (row ad16 dq16 fun p => F16 K) := row_ok fun x r h => has_of (cok16 K) Try.func16 ((ev16 (F4023 K) (F21 K) (F12 K) (F29 K) (F22 K) (F18 K) (F20 K) (F17 K) (F14 K) K).trans h)
/-! ganger/gangerref16.Same -/
noncomputable def tab19 : Tab := Tab.none
noncomputable def la19 : List (List Tidy) := [[.only [0, 1, 5], .ids [7, 9], .top [1000000]]]
noncomputable def hd19_0 (a0 : List (El T34)) (a1 : List (El T34)) (ps5 : Int) : St := { tm := slots (nat_lit 26) [(nat_lit 0, AV.row T34 a0), (nat_lit 1, AV.row T34 a1), (nat_lit 5, AV.sc (Value.int IntKind.i64 ps5))], H := [] }
noncomputable def b19_0 (K : Nat) (a0 : List (El T34)) (a1 : List (El T34)) (r0 : Int → Option (Bool)) (ps5 : Int) : Option (Bool) :=(if decide (ps5 < (↑a0.length : Int)) = true then (if decide ((0 : Int) ≤ ps5 ∧ ps5 < (↑a0.length : Int)) = true then (if decide ((0 : Int) ≤ ps5 ∧ ps5 < (↑a1.length : Int)) = true then (if (!((a0.getD ps5.toNat (zEl T34)).1 == (a1.getD ps5.toNat (zEl T34)).1 && ((a0.getD ps5.toNat (zEl T34)).2.1 == (a1.getD ps5.toNat (zEl T34)).2.1 && ((a0.getD ps5.toNat (zEl T34)).2.2.1 == (a1.getD ps5.toNat (zEl T34)).2.2.1 && (a0.getD ps5.toNat (zEl T34)).2.2.2 == (a1.getD ps5.toNat (zEl T34)).2.2.2)))) = true then some (false)
     else r0 (IntKind.i64.wrap (ps5 + (1 : Int))))
    else none)
   else none)
  else some (true))
noncomputable def L19_0 (K : Nat) (a0 : List (El T34)) (a1 : List (El T34)) : Nat → Int → Option (Bool)
  | 0, _ => none
  | n + 1, ps5 => b19_0 K a0 a1 (L19_0 K a0 a1 n) ps5
noncomputable def t19 (K : Nat) (a0 : List (El T34)) (a1 : List (El T34)) (l0 : Nat → Int → Option (Bool)) : Option (Bool) := (if ((↑a0.length : Int) != (↑a1.length : Int)) = true then some (false)
 else l0 K ((0 : Int)))
noncomputable def G19 (K : Nat) (a0 : List (El T34)) (a1 : List (El T34)) : Option (Bool) := t19 K a0 a1 (L19_0 K a0 a1)
theorem lp19_0 (K : Nat) (a0 : List (El T34)) (a1 : List (El T34)) : ∀ (n : Nat) (ps5 : Int), loopN Try.prog (tab19) 0 K Try.f19 la19 dq19.k 0 [] n (hd19_0 a0 a1 ps5) = L19_0 K a0 a1 n ps5
  | 0, _ => by kernel_rfl
  | n + 1, ps5 => by
    have h : loopN Try.prog (tab19) 0 K Try.f19 la19 dq19.k 0 [] (n + 1) (hd19_0 a0 a1 ps5) = b19_0 K a0 a1 (fun q0 => loopN Try.prog (tab19) 0 K Try.f19 la19 dq19.k 0 [] n (hd19_0 a0 a1 q0)) ps5 := by kernel_rfl
    rw [h]
    simp only [lp19_0 K a0 a1 n]
    rfl
theorem ev19 (K : Nat) (a0 : List (El T34)) (a1 : List (El T34)) : evFun Try.prog (tab19) 0 K Try.f19 la19 [.row T34 a0, .row T34 a1] [] dq19.k = G19 K a0 a1 := by
  have h : evFun Try.prog (tab19) 0 K Try.f19 la19 [.row T34 a0, .row T34 a1] [] dq19.k = t19 K a0 a1 (fun k q0 => loopN Try.prog (tab19) 0 K Try.f19 la19 dq19.k 0 [] k (hd19_0 a0 a1 q0)) := by kernel_rfl
  rw [h]
  simp only [lp19_0 K a0 a1]
  rfl
noncomputable def F19 (K : Nat) (a0 : List (El T34)) (a1 : List (El T34)) : Option (Bool) := G19 K a0 a1
theorem cok19 (K : Nat) : CallOK D Try.prog (tab19) := none_ok
theorem ok19 (K : Nat) : RowOK D Try.prog 19 (row ad19 dq19 fun p => F19 K p.1 p.2) := row_ok fun x r h => has_of (cok19 K) Try.func19 ((ev19 K x.1 x.2).trans h)
/-! ganger/gangerlaw16.GangRuns -/
noncomputable def tab3 (F10 : (List (El T53)) → Option ((Int × (List (El T34) × Int)) × Unit)) (F11 : (El T62) → Option (List (El T34))) (F12 : (El T62) → Option (List (El (.int .u32)))) (F13 : (List (El (.int .u32))) → Int → Option (Bool)) (F14 : (El T62) → Option (Int)) (F15 : (El T32) → (El T32) → Option (Bool)) (F16 : Option (Bool)) : Tab := (((((((Tab.none.addG 10 (rowG (gad ag10 ob10) gq10 fun p => F10 p.1.1)).add 11 (row ad11 dq11 fun p => F11 p)).add 12 (row ad12 dq12 fun p => F12 p)).add 13 (row ad13 dq13 fun p => F13 p.1 p.2)).add 14 (row ad14 dq14 fun p => F14 p)).add 15 (row ad15 dq15 fun p => F15 p.1 p.2)).add 16 (row ad16 dq16 fun p => F16))
noncomputable def la3 : List (List Tidy) := [[.only [3, 4, 5, 6, 7], .ids [12, 16, 18, 83, 86], .top [1000000]], [.only [3, 4, 5, 6, 7, 8, 9, 10], .ids [12, 16, 18, 21, 31, 41, 83, 86], .top [1000001]]]
noncomputable def hd3_0 (a0 : List (El T53)) (ps6 : Int) (ps7 : Int) (ph12_0 : Int) (ph12_2 : Int) (ph16 : List (El T34)) (ph18 : List (Int)) (ph501200 : List (El T34)) : St := { tm := slots (nat_lit 88) [(nat_lit 3, AV.ptr (nat_lit 12) (nat_lit 0)), (nat_lit 4, AV.own (nat_lit 16)), (nat_lit 5, AV.own (nat_lit 18)), (nat_lit 6, AV.sc (Value.int IntKind.i64 ps6)), (nat_lit 7, AV.sc (Value.int IntKind.i64 ps7))], H := [(nat_lit 12, ABlk.box (nat_lit 62) [AV.sc (Value.int IntKind.i64 ph12_0), AV.own (nat_lit 501200), AV.sc (Value.int IntKind.i64 ph12_2)]), (nat_lit 16, ABlk.arr (nat_lit 34) T34 ph16), (nat_lit 18, ABlk.arr (nat_lit 30) (Ty.int IntKind.u32) ph18), (nat_lit 501200, ABlk.arr (nat_lit 34) T34 ph501200)] }
noncomputable def hd3_1 (a0 : List (El T53)) (ps6 : Int) (ps7 : Int) (ps8 : Bool) (ps9 : Bool) (ps10 : Int) (ph12_0 : Int) (ph12_2 : Int) (ph16 : List (El T34)) (ph18 : List (Int)) (ph501200 : List (El T34)) : St := { tm := slots (nat_lit 88) [(nat_lit 3, AV.ptr (nat_lit 12) (nat_lit 0)), (nat_lit 4, AV.own (nat_lit 16)), (nat_lit 5, AV.own (nat_lit 18)), (nat_lit 6, AV.sc (Value.int IntKind.i64 ps6)), (nat_lit 7, AV.sc (Value.int IntKind.i64 ps7)), (nat_lit 8, AV.sc (Value.bool ps8)), (nat_lit 9, AV.sc (Value.bool ps9)), (nat_lit 10, AV.sc (Value.int IntKind.i64 ps10))], H := [(nat_lit 12, ABlk.box (nat_lit 62) [AV.sc (Value.int IntKind.i64 ph12_0), AV.own (nat_lit 501200), AV.sc (Value.int IntKind.i64 ph12_2)]), (nat_lit 16, ABlk.arr (nat_lit 34) T34 ph16), (nat_lit 18, ABlk.arr (nat_lit 30) (Ty.int IntKind.u32) ph18), (nat_lit 501200, ABlk.arr (nat_lit 34) T34 ph501200)] }
noncomputable def b3_1 (F10 : (List (El T53)) → Option ((Int × (List (El T34) × Int)) × Unit)) (F11 : (El T62) → Option (List (El T34))) (F12 : (El T62) → Option (List (El (.int .u32)))) (F13 : (List (El (.int .u32))) → Int → Option (Bool)) (F14 : (El T62) → Option (Int)) (F15 : (El T32) → (El T32) → Option (Bool)) (F16 : Option (Bool)) (K : Nat) (a0 : List (El T53)) (r0 : Int → Int → Int → Int → (List (El T34)) → (List (Int)) → (List (El T34)) → Option (Bool)) (r1 : Int → Int → Bool → Bool → Int → Int → Int → (List (El T34)) → (List (Int)) → (List (El T34)) → Option (Bool)) (ps6 : Int) (ps7 : Int) (ps8 : Bool) (ps9 : Bool) (ps10 : Int) (ph12_0 : Int) (ph12_2 : Int) (ph16 : List (El T34)) (ph18 : List (Int)) (ph501200 : List (El T34)) : Option (Bool) :=(if decide (ps10 < (↑ph16.length : Int)) = true then (if (ps10 != ps7) = true then (if decide ((0 : Int) ≤ ps10 ∧ ps10 < (↑ph16.length : Int)) = true then 
     (Option.bind (F13 ph18 (ph16.getD ps10.toNat (zEl T34)).1) fun x7 => (if x7 = true then (if decide ((0 : Int) ≤ ps10 ∧ ps10 < (↑ph16.length : Int)) = true then (if decide ((0 : Int) ≤ ps7 ∧ ps7 < (↑ph16.length : Int)) = true then 
         (Option.bind (F15 (ph16.getD ps10.toNat (zEl T34)).2.2 (ph16.getD ps7.toNat (zEl T34)).2.2) fun x8 => (if x8 = true then r1 (ps6) (ps7) (ps8) (true) (IntKind.i64.wrap (ps10 + (1 : Int))) (ph12_0) (ph12_2) (ph16) (ph18) (ph501200)
          else r1 (ps6) (ps7) (ps8) (ps9) (IntKind.i64.wrap (ps10 + (1 : Int))) (ph12_0) (ph12_2) (ph16) (ph18) (ph501200)))
        else none)
       else none)
      else r1 (ps6) (ps7) (ps8) (ps9) (IntKind.i64.wrap (ps10 + (1 : Int))) (ph12_0) (ph12_2) (ph16) (ph18) (ph501200)))
    else none)
   else r1 (ps6) (ps7) (ps8) (ps9) (IntKind.i64.wrap (ps10 + (1 : Int))) (ph12_0) (ph12_2) (ph16) (ph18) (ph501200))
  else (if (ps8 == ps9) = true then some (false)
   else r0 (ps6) (IntKind.i64.wrap (ps7 + (1 : Int))) (ph12_0) (ph12_2) (ph16) (ph18) (ph501200)))
noncomputable def L3_1 (F10 : (List (El T53)) → Option ((Int × (List (El T34) × Int)) × Unit)) (F11 : (El T62) → Option (List (El T34))) (F12 : (El T62) → Option (List (El (.int .u32)))) (F13 : (List (El (.int .u32))) → Int → Option (Bool)) (F14 : (El T62) → Option (Int)) (F15 : (El T32) → (El T32) → Option (Bool)) (F16 : Option (Bool)) (K : Nat) (a0 : List (El T53)) (r0 : Int → Int → Int → Int → (List (El T34)) → (List (Int)) → (List (El T34)) → Option (Bool)) : Nat → Int → Int → Bool → Bool → Int → Int → Int → (List (El T34)) → (List (Int)) → (List (El T34)) → Option (Bool)
  | 0, _, _, _, _, _, _, _, _, _, _ => none
  | n + 1, ps6, ps7, ps8, ps9, ps10, ph12_0, ph12_2, ph16, ph18, ph501200 => b3_1 F10 F11 F12 F13 F14 F15 F16 K a0 r0 (L3_1 F10 F11 F12 F13 F14 F15 F16 K a0 r0 n) ps6 ps7 ps8 ps9 ps10 ph12_0 ph12_2 ph16 ph18 ph501200
noncomputable def b3_0 (F10 : (List (El T53)) → Option ((Int × (List (El T34) × Int)) × Unit)) (F11 : (El T62) → Option (List (El T34))) (F12 : (El T62) → Option (List (El (.int .u32)))) (F13 : (List (El (.int .u32))) → Int → Option (Bool)) (F14 : (El T62) → Option (Int)) (F15 : (El T32) → (El T32) → Option (Bool)) (F16 : Option (Bool)) (K : Nat) (a0 : List (El T53)) (r0 : Int → Int → Int → Int → (List (El T34)) → (List (Int)) → (List (El T34)) → Option (Bool)) (l1 : Nat → Int → Int → Bool → Bool → Int → Int → Int → (List (El T34)) → (List (Int)) → (List (El T34)) → Option (Bool)) (ps6 : Int) (ps7 : Int) (ph12_0 : Int) (ph12_2 : Int) (ph16 : List (El T34)) (ph18 : List (Int)) (ph501200 : List (El T34)) : Option (Bool) :=(if decide (ps7 < (↑ph16.length : Int)) = true then (if decide ((0 : Int) ≤ ps7 ∧ ps7 < (↑ph16.length : Int)) = true then 
    (Option.bind (F13 ph18 (ph16.getD ps7.toNat (zEl T34)).1) fun x3 => (if x3 = true then (if decide ((0 : Int) ≤ ps7 ∧ ps7 < (↑ph16.length : Int)) = true then 
       (Option.bind (F14 (ph12_0, ph501200, ph12_2)) fun x4 => (if ((ph16.getD ps7.toNat (zEl T34)).2.1 == x4) = true then (if (!x3) = true then some (false)
         else l1 K (IntKind.i64.wrap (ps6 + (1 : Int))) (ps7) (x3) (false) ((0 : Int)) (ph12_0) (ph12_2) (ph16) (ph18) (ph501200))
        else l1 K (IntKind.i64.wrap (ps6 + (1 : Int))) (ps7) (x3) (false) ((0 : Int)) (ph12_0) (ph12_2) (ph16) (ph18) (ph501200)))
      else none)
     else (if decide ((0 : Int) ≤ ps7 ∧ ps7 < (↑ph16.length : Int)) = true then 
       (Option.bind (F14 (ph12_0, ph501200, ph12_2)) fun x5 => (if ((ph16.getD ps7.toNat (zEl T34)).2.1 == x5) = true then (if (!x3) = true then some (false)
         else l1 K (ps6) (ps7) (x3) (false) ((0 : Int)) (ph12_0) (ph12_2) (ph16) (ph18) (ph501200))
        else l1 K (ps6) (ps7) (x3) (false) ((0 : Int)) (ph12_0) (ph12_2) (ph16) (ph18) (ph501200)))
      else none)))
   else none)
  else (if (ps6 == (↑ph18.length : Int)) = true then 
    (Option.bind (F16) fun x6 => some (x6))
   else some (false)))
noncomputable def L3_0 (F10 : (List (El T53)) → Option ((Int × (List (El T34) × Int)) × Unit)) (F11 : (El T62) → Option (List (El T34))) (F12 : (El T62) → Option (List (El (.int .u32)))) (F13 : (List (El (.int .u32))) → Int → Option (Bool)) (F14 : (El T62) → Option (Int)) (F15 : (El T32) → (El T32) → Option (Bool)) (F16 : Option (Bool)) (K : Nat) (a0 : List (El T53)) : Nat → Int → Int → Int → Int → (List (El T34)) → (List (Int)) → (List (El T34)) → Option (Bool)
  | 0, _, _, _, _, _, _, _ => none
  | n + 1, ps6, ps7, ph12_0, ph12_2, ph16, ph18, ph501200 => b3_0 F10 F11 F12 F13 F14 F15 F16 K a0 (L3_0 F10 F11 F12 F13 F14 F15 F16 K a0 n) (L3_1 F10 F11 F12 F13 F14 F15 F16 K a0 (L3_0 F10 F11 F12 F13 F14 F15 F16 K a0 n)) ps6 ps7 ph12_0 ph12_2 ph16 ph18 ph501200
noncomputable def t3 (F10 : (List (El T53)) → Option ((Int × (List (El T34) × Int)) × Unit)) (F11 : (El T62) → Option (List (El T34))) (F12 : (El T62) → Option (List (El (.int .u32)))) (F13 : (List (El (.int .u32))) → Int → Option (Bool)) (F14 : (El T62) → Option (Int)) (F15 : (El T32) → (El T32) → Option (Bool)) (F16 : Option (Bool)) (K : Nat) (a0 : List (El T53)) (l0 : Nat → Int → Int → Int → Int → (List (El T34)) → (List (Int)) → (List (El T34)) → Option (Bool)) : Option (Bool) := 
 (Option.bind (F10 a0) fun x0 => 
  (Option.bind (F11 x0.1) fun x1 => 
   (Option.bind (F12 x0.1) fun x2 => l0 K ((0 : Int)) ((0 : Int)) (x0.1.1) (x0.1.2.2) (x1) (x2) (x0.1.2.1))))
noncomputable def G3 (F10 : (List (El T53)) → Option ((Int × (List (El T34) × Int)) × Unit)) (F11 : (El T62) → Option (List (El T34))) (F12 : (El T62) → Option (List (El (.int .u32)))) (F13 : (List (El (.int .u32))) → Int → Option (Bool)) (F14 : (El T62) → Option (Int)) (F15 : (El T32) → (El T32) → Option (Bool)) (F16 : Option (Bool)) (K : Nat) (a0 : List (El T53)) : Option (Bool) := t3 F10 F11 F12 F13 F14 F15 F16 K a0 (L3_0 F10 F11 F12 F13 F14 F15 F16 K a0)
theorem lp3_1 (F10 : (List (El T53)) → Option ((Int × (List (El T34) × Int)) × Unit)) (F11 : (El T62) → Option (List (El T34))) (F12 : (El T62) → Option (List (El (.int .u32)))) (F13 : (List (El (.int .u32))) → Int → Option (Bool)) (F14 : (El T62) → Option (Int)) (F15 : (El T32) → (El T32) → Option (Bool)) (F16 : Option (Bool)) (K : Nat) (a0 : List (El T53)) : ∀ (m0 : Nat) (n : Nat) (ps6 : Int) (ps7 : Int) (ps8 : Bool) (ps9 : Bool) (ps10 : Int) (ph12_0 : Int) (ph12_2 : Int) (ph16 : List (El T34)) (ph18 : List (Int)) (ph501200 : List (El T34)), loopN Try.prog (tab3 F10 F11 F12 F13 F14 F15 F16) 0 K Try.f3 la3 dq3.k 1 [m0] n (hd3_1 a0 ps6 ps7 ps8 ps9 ps10 ph12_0 ph12_2 ph16 ph18 ph501200) = L3_1 F10 F11 F12 F13 F14 F15 F16 K a0 (fun q0 q1 q2 q3 q4 q5 q6 => loopN Try.prog (tab3 F10 F11 F12 F13 F14 F15 F16) 0 K Try.f3 la3 dq3.k 0 [] m0 (hd3_0 a0 q0 q1 q2 q3 q4 q5 q6)) n ps6 ps7 ps8 ps9 ps10 ph12_0 ph12_2 ph16 ph18 ph501200
  | m0, 0, _, _, _, _, _, _, _, _, _, _ => by kernel_rfl
  | m0, n + 1, ps6, ps7, ps8, ps9, ps10, ph12_0, ph12_2, ph16, ph18, ph501200 => by
    have h : loopN Try.prog (tab3 F10 F11 F12 F13 F14 F15 F16) 0 K Try.f3 la3 dq3.k 1 [m0] (n + 1) (hd3_1 a0 ps6 ps7 ps8 ps9 ps10 ph12_0 ph12_2 ph16 ph18 ph501200) = b3_1 F10 F11 F12 F13 F14 F15 F16 K a0 (fun q0 q1 q2 q3 q4 q5 q6 => loopN Try.prog (tab3 F10 F11 F12 F13 F14 F15 F16) 0 K Try.f3 la3 dq3.k 0 [] m0 (hd3_0 a0 q0 q1 q2 q3 q4 q5 q6)) (fun q0 q1 q2 q3 q4 q5 q6 q7 q8 q9 => loopN Try.prog (tab3 F10 F11 F12 F13 F14 F15 F16) 0 K Try.f3 la3 dq3.k 1 [m0] n (hd3_1 a0 q0 q1 q2 q3 q4 q5 q6 q7 q8 q9)) ps6 ps7 ps8 ps9 ps10 ph12_0 ph12_2 ph16 ph18 ph501200 := by kernel_rfl
    rw [h]
    simp only [lp3_1 F10 F11 F12 F13 F14 F15 F16 K a0 m0 n]
    rfl
theorem lp3_0 (F10 : (List (El T53)) → Option ((Int × (List (El T34) × Int)) × Unit)) (F11 : (El T62) → Option (List (El T34))) (F12 : (El T62) → Option (List (El (.int .u32)))) (F13 : (List (El (.int .u32))) → Int → Option (Bool)) (F14 : (El T62) → Option (Int)) (F15 : (El T32) → (El T32) → Option (Bool)) (F16 : Option (Bool)) (K : Nat) (a0 : List (El T53)) : ∀ (n : Nat) (ps6 : Int) (ps7 : Int) (ph12_0 : Int) (ph12_2 : Int) (ph16 : List (El T34)) (ph18 : List (Int)) (ph501200 : List (El T34)), loopN Try.prog (tab3 F10 F11 F12 F13 F14 F15 F16) 0 K Try.f3 la3 dq3.k 0 [] n (hd3_0 a0 ps6 ps7 ph12_0 ph12_2 ph16 ph18 ph501200) = L3_0 F10 F11 F12 F13 F14 F15 F16 K a0 n ps6 ps7 ph12_0 ph12_2 ph16 ph18 ph501200
  | 0, _, _, _, _, _, _, _ => by kernel_rfl
  | n + 1, ps6, ps7, ph12_0, ph12_2, ph16, ph18, ph501200 => by
    have h : loopN Try.prog (tab3 F10 F11 F12 F13 F14 F15 F16) 0 K Try.f3 la3 dq3.k 0 [] (n + 1) (hd3_0 a0 ps6 ps7 ph12_0 ph12_2 ph16 ph18 ph501200) = b3_0 F10 F11 F12 F13 F14 F15 F16 K a0 (fun q0 q1 q2 q3 q4 q5 q6 => loopN Try.prog (tab3 F10 F11 F12 F13 F14 F15 F16) 0 K Try.f3 la3 dq3.k 0 [] n (hd3_0 a0 q0 q1 q2 q3 q4 q5 q6)) (fun k q0 q1 q2 q3 q4 q5 q6 q7 q8 q9 => loopN Try.prog (tab3 F10 F11 F12 F13 F14 F15 F16) 0 K Try.f3 la3 dq3.k 1 [n] k (hd3_1 a0 q0 q1 q2 q3 q4 q5 q6 q7 q8 q9)) ps6 ps7 ph12_0 ph12_2 ph16 ph18 ph501200 := by kernel_rfl
    rw [h]
    simp only [lp3_0 F10 F11 F12 F13 F14 F15 F16 K a0 n, lp3_1 F10 F11 F12 F13 F14 F15 F16 K a0 n]
    rfl
theorem ev3 (F10 : (List (El T53)) → Option ((Int × (List (El T34) × Int)) × Unit)) (F11 : (El T62) → Option (List (El T34))) (F12 : (El T62) → Option (List (El (.int .u32)))) (F13 : (List (El (.int .u32))) → Int → Option (Bool)) (F14 : (El T62) → Option (Int)) (F15 : (El T32) → (El T32) → Option (Bool)) (F16 : Option (Bool)) (K : Nat) (a0 : List (El T53)) : evFun Try.prog (tab3 F10 F11 F12 F13 F14 F15 F16) 0 K Try.f3 la3 [.row T53 a0] [] dq3.k = G3 F10 F11 F12 F13 F14 F15 F16 K a0 := by
  have h : evFun Try.prog (tab3 F10 F11 F12 F13 F14 F15 F16) 0 K Try.f3 la3 [.row T53 a0] [] dq3.k = t3 F10 F11 F12 F13 F14 F15 F16 K a0 (fun k q0 q1 q2 q3 q4 q5 q6 => loopN Try.prog (tab3 F10 F11 F12 F13 F14 F15 F16) 0 K Try.f3 la3 dq3.k 0 [] k (hd3_0 a0 q0 q1 q2 q3 q4 q5 q6)) := by kernel_rfl
  rw [h]
  simp only [lp3_0 F10 F11 F12 F13 F14 F15 F16 K a0]
  rfl
noncomputable def F3 (K : Nat) (a0 : List (El T53)) : Option (Bool) := G3 (F10 K) (F11 K) (F12 K) (F13 K) (F14 K) (F15 K) (F16 K) K a0
theorem cok3 (K : Nat) : CallOK D Try.prog (tab3 (F10 K) (F11 K) (F12 K) (F13 K) (F14 K) (F15 K) (F16 K)) := (add_ok (add_ok (add_ok (add_ok (add_ok (add_ok (addG_ok none_ok ent10 (ok10 K)) ent11 (ok11 K)) ent12 (ok12 K)) ent13 (ok13 K)) ent14 (ok14 K)) ent15 (ok15 K)) ent16 (ok16 K))
theorem ok3 (K : Nat) : RowOK D Try.prog 3 (row ad3 dq3 fun p => F3 K p) := row_ok fun x r h => has_of (cok3 K) Try.func3 ((ev3 (F10 K) (F11 K) (F12 K) (F13 K) (F14 K) (F15 K) (F16 K) K x).trans h)
end Go.Proofs.YtlpalhgiiodjoaaE
