import Derived.Test.YtgkmfhmodojdcaaS12F1
set_option linter.all false
namespace Go.Proofs.YtgkmfhmodojdcaaE
open Go Go.Proofs
set_option maxRecDepth 100000
set_option linter.unusedVariables false
variable {D : Prop}
noncomputable def tab30 : Tab := Tab.none
noncomputable def t30 (K : Nat) (a0 : El T45) (a1 : El T45) : Option (Bool) := (if (a0.1 != a1.1) = true then some (decide (a0.1 > a1.1))
 else (if (a0.2.1 != a1.2.1) = true then some (decide (a0.2.1 < a1.2.1))
  else some (decide (a0.2.2 < a1.2.2))))
noncomputable def G30 (K : Nat) (a0 : El T45) (a1 : El T45) : Option (Bool) := t30 K a0 a1
theorem ev30 (K : Nat) (a0 : El T45) (a1 : El T45) : evFun Try.prog (tab30) 0 K Try.f30 [] [.agg (cellsOf T45 a0), .agg (cellsOf T45 a1)] [] dq30.k = G30 K a0 a1 := by
  kernel_rfl
noncomputable def F30 (K : Nat) (a0 : El T45) (a1 : El T45) : Option (Bool) := G30 K a0 a1
theorem cok30 (K : Nat) : CallOK D Try.prog (tab30) := none_ok
theorem ok30 (K : Nat) : RowOK D Try.prog 30 (row ad30 dq30 fun p => F30 K p.1 p.2) := row_ok fun x r h => has_of (cok30 K) Try.func30 ((ev30 K x.1 x.2).trans h)
noncomputable def tab41 : Tab := Tab.none
noncomputable def la41 : List (List Tidy) := [[.only [0, 3], .ids [], .top [1000000]], [.only [0, 3, 4], .ids [7], .top [1000001]]]
noncomputable def hd41_0 (a0 : List (El T45)) (ps3 : Int) : St := { tm := slots (nat_lit 27) [(nat_lit 0, AV.row T45 a0), (nat_lit 3, AV.sc (Value.int IntKind.i64 ps3))], H := [] }
noncomputable def hd41_1 (a0 : List (El T45)) (ps3 : Int) (ps4 : Int) : St := { tm := slots (nat_lit 27) [(nat_lit 0, AV.row T45 a0), (nat_lit 3, AV.sc (Value.int IntKind.i64 ps3)), (nat_lit 4, AV.sc (Value.int IntKind.i64 ps4))], H := [] }
noncomputable def b41_1 (K : Nat) (a0 : List (El T45)) (r0 : Int → Option (Bool)) (r1 : Int → Int → Option (Bool)) (ps3 : Int) (ps4 : Int) : Option (Bool) :=(if decide (ps4 < ps3) = true then (if decide ((0 : Int) ≤ ps4 ∧ ps4 < (↑a0.length : Int)) = true then (if decide ((0 : Int) ≤ ps3 ∧ ps3 < (↑a0.length : Int)) = true then (if ((a0.getD ps4.toNat (zEl T45)).2.2 == (a0.getD ps3.toNat (zEl T45)).2.2) = true then some (true)
     else r1 (ps3) (IntKind.i64.wrap (ps4 + (1 : Int))))
    else none)
   else none)
  else r0 (IntKind.i64.wrap (ps3 + (1 : Int))))
noncomputable def L41_1 (K : Nat) (a0 : List (El T45)) (r0 : Int → Option (Bool)) : Nat → Int → Int → Option (Bool)
  | 0, _, _ => none
  | n + 1, ps3, ps4 => b41_1 K a0 r0 (L41_1 K a0 r0 n) ps3 ps4
noncomputable def b41_0 (K : Nat) (a0 : List (El T45)) (r0 : Int → Option (Bool)) (l1 : Nat → Int → Int → Option (Bool)) (ps3 : Int) : Option (Bool) :=(if decide (ps3 < (↑a0.length : Int)) = true then l1 K (ps3) ((0 : Int))
  else some (false))
noncomputable def L41_0 (K : Nat) (a0 : List (El T45)) : Nat → Int → Option (Bool)
  | 0, _ => none
  | n + 1, ps3 => b41_0 K a0 (L41_0 K a0 n) (L41_1 K a0 (L41_0 K a0 n)) ps3
noncomputable def t41 (K : Nat) (a0 : List (El T45)) (l0 : Nat → Int → Option (Bool)) : Option (Bool) := l0 K ((0 : Int))
noncomputable def G41 (K : Nat) (a0 : List (El T45)) : Option (Bool) := t41 K a0 (L41_0 K a0)
theorem lp41_1 (K : Nat) (a0 : List (El T45)) : ∀ (m0 : Nat) (n : Nat) (ps3 : Int) (ps4 : Int), loopN Try.prog (tab41) 0 K Try.f41 la41 dq41.k 1 [m0] n (hd41_1 a0 ps3 ps4) = L41_1 K a0 (fun q0 => loopN Try.prog (tab41) 0 K Try.f41 la41 dq41.k 0 [] m0 (hd41_0 a0 q0)) n ps3 ps4
  | m0, 0, _, _ => by kernel_rfl
  | m0, n + 1, ps3, ps4 => by
    have h : loopN Try.prog (tab41) 0 K Try.f41 la41 dq41.k 1 [m0] (n + 1) (hd41_1 a0 ps3 ps4) = b41_1 K a0 (fun q0 => loopN Try.prog (tab41) 0 K Try.f41 la41 dq41.k 0 [] m0 (hd41_0 a0 q0)) (fun q0 q1 => loopN Try.prog (tab41) 0 K Try.f41 la41 dq41.k 1 [m0] n (hd41_1 a0 q0 q1)) ps3 ps4 := by kernel_rfl
    rw [h]
    simp only [lp41_1 K a0 m0 n]
    rfl
theorem lp41_0 (K : Nat) (a0 : List (El T45)) : ∀ (n : Nat) (ps3 : Int), loopN Try.prog (tab41) 0 K Try.f41 la41 dq41.k 0 [] n (hd41_0 a0 ps3) = L41_0 K a0 n ps3
  | 0, _ => by kernel_rfl
  | n + 1, ps3 => by
    have h : loopN Try.prog (tab41) 0 K Try.f41 la41 dq41.k 0 [] (n + 1) (hd41_0 a0 ps3) = b41_0 K a0 (fun q0 => loopN Try.prog (tab41) 0 K Try.f41 la41 dq41.k 0 [] n (hd41_0 a0 q0)) (fun k q0 q1 => loopN Try.prog (tab41) 0 K Try.f41 la41 dq41.k 1 [n] k (hd41_1 a0 q0 q1)) ps3 := by kernel_rfl
    rw [h]
    simp only [lp41_0 K a0 n, lp41_1 K a0 n]
    rfl
theorem ev41 (K : Nat) (a0 : List (El T45)) : evFun Try.prog (tab41) 0 K Try.f41 la41 [.row T45 a0] [] dq41.k = G41 K a0 := by
  have h : evFun Try.prog (tab41) 0 K Try.f41 la41 [.row T45 a0] [] dq41.k = t41 K a0 (fun k q0 => loopN Try.prog (tab41) 0 K Try.f41 la41 dq41.k 0 [] k (hd41_0 a0 q0)) := by kernel_rfl
  rw [h]
  simp only [lp41_0 K a0]
  rfl
noncomputable def F41 (K : Nat) (a0 : List (El T45)) : Option (Bool) := G41 K a0
theorem cok41 (K : Nat) : CallOK D Try.prog (tab41) := none_ok
theorem ok41 (K : Nat) : RowOK D Try.prog 41 (row ad41 dq41 fun p => F41 K p) := row_ok fun x r h => has_of (cok41 K) Try.func41 ((ev41 K x).trans h)
noncomputable def tab42 (F30 : (El T45) → (El T45) → Option (Bool)) : Tab := (Tab.none.add 30 (row ad30 dq30 fun p => F30 p.1 p.2))
noncomputable def la42 : List (List Tidy) := [[.only [0, 3, 5, 6], .pro 5 25 45 (T45), .ids [3, 25, 30, 31, 35, 36], .top [1000000]]]
noncomputable def hd42_0 (a0 : List (El T45)) (a1 : El T45) (ps6 : Int) (ph25 : List (El T45)) : St := { tm := slots (nat_lit 37) [(nat_lit 0, AV.row T45 a0), (nat_lit 3, AV.ptr (nat_lit 3) (nat_lit 0)), (nat_lit 5, AV.own (nat_lit 25)), (nat_lit 6, AV.sc (Value.int IntKind.i64 ps6))], H := [(nat_lit 3, ABlk.box (nat_lit 45) (cellsOf T45 a1)), (nat_lit 25, ABlk.arr (nat_lit 45) T45 ph25)] }
noncomputable def b42_0 (F30 : (El T45) → (El T45) → Option (Bool)) (K : Nat) (a0 : List (El T45)) (a1 : El T45) (r0 : Int → (List (El T45)) → Option (List (El T45))) (ps6 : Int) (ph25 : List (El T45)) : Option (List (El T45)) :=(if decide (ps6 < (↑a0.length : Int)) = true then (if decide ((0 : Int) ≤ ps6 ∧ ps6 < (↑a0.length : Int)) = true then 
    (Option.bind (F30 (a0.getD ps6.toNat (zEl T45)) a1) fun x0 => (if x0 = true then (if decide ((0 : Int) ≤ ps6 ∧ ps6 < (↑a0.length : Int)) = true then (if decide ((ph25.length + [a0.getD ps6.toNat (zEl T45)].length) * Try.prog.types[(45 : Nat)].bytes ≤ (140737488355328 : Nat)) = true then r0 (IntKind.i64.wrap (ps6 + (1 : Int))) (ph25 ++ [a0.getD ps6.toNat (zEl T45)])
       else none)
      else none)
     else (if decide ((ph25.length + [a1].length) * Try.prog.types[(45 : Nat)].bytes ≤ (140737488355328 : Nat)) = true then (if decide ((0 : Int) ≤ ps6 ∧ ps6 ≤ (↑a0.length : Int) ∧ (↑a0.length : Int) ≤ (↑a0.length : Int)) = true then (if decide (((ph25 ++ [a1]).length + (List.drop ps6.toNat (List.take (↑a0.length : Int).toNat a0)).length) * Try.prog.types[(45 : Nat)].bytes ≤ (140737488355328 : Nat)) = true then some (ph25 ++ [a1] ++ List.drop ps6.toNat (List.take (↑a0.length : Int).toNat a0))
        else none)
       else none)
      else none)))
   else none)
  else (if decide ((ph25.length + [a1].length) * Try.prog.types[(45 : Nat)].bytes ≤ (140737488355328 : Nat)) = true then (if decide ((0 : Int) ≤ ps6 ∧ ps6 ≤ (↑a0.length : Int) ∧ (↑a0.length : Int) ≤ (↑a0.length : Int)) = true then (if decide (((ph25 ++ [a1]).length + (List.drop ps6.toNat (List.take (↑a0.length : Int).toNat a0)).length) * Try.prog.types[(45 : Nat)].bytes ≤ (140737488355328 : Nat)) = true then some (ph25 ++ [a1] ++ List.drop ps6.toNat (List.take (↑a0.length : Int).toNat a0))
     else none)
    else none)
   else none))
noncomputable def L42_0 (F30 : (El T45) → (El T45) → Option (Bool)) (K : Nat) (a0 : List (El T45)) (a1 : El T45) : Nat → Int → (List (El T45)) → Option (List (El T45))
  | 0, _, _ => none
  | n + 1, ps6, ph25 => b42_0 F30 K a0 a1 (L42_0 F30 K a0 a1 n) ps6 ph25
noncomputable def t42 (F30 : (El T45) → (El T45) → Option (Bool)) (K : Nat) (a0 : List (El T45)) (a1 : El T45) (l0 : Nat → Int → (List (El T45)) → Option (List (El T45))) : Option (List (El T45)) := l0 K ((0 : Int)) ([])
noncomputable def G42 (F30 : (El T45) → (El T45) → Option (Bool)) (K : Nat) (a0 : List (El T45)) (a1 : El T45) : Option (List (El T45)) := t42 F30 K a0 a1 (L42_0 F30 K a0 a1)
theorem lp42_0 (F30 : (El T45) → (El T45) → Option (Bool)) (K : Nat) (a0 : List (El T45)) (a1 : El T45) : ∀ (n : Nat) (ps6 : Int) (ph25 : List (El T45)), loopN Try.prog (tab42 F30) 0 K Try.f42 la42 dq42.k 0 [] n (hd42_0 a0 a1 ps6 ph25) = L42_0 F30 K a0 a1 n ps6 ph25
  | 0, _, _ => by kernel_rfl
  | n + 1, ps6, ph25 => by
    have h : loopN Try.prog (tab42 F30) 0 K Try.f42 la42 dq42.k 0 [] (n + 1) (hd42_0 a0 a1 ps6 ph25) = b42_0 F30 K a0 a1 (fun q0 q1 => loopN Try.prog (tab42 F30) 0 K Try.f42 la42 dq42.k 0 [] n (hd42_0 a0 a1 q0 q1)) ps6 ph25 := by kernel_rfl
    rw [h]
    simp only [lp42_0 F30 K a0 a1 n]
    rfl
theorem ev42 (F30 : (El T45) → (El T45) → Option (Bool)) (K : Nat) (a0 : List (El T45)) (a1 : El T45) : evFun Try.prog (tab42 F30) 0 K Try.f42 la42 [.row T45 a0, .agg (cellsOf T45 a1)] [] dq42.k = G42 F30 K a0 a1 := by
  have h : evFun Try.prog (tab42 F30) 0 K Try.f42 la42 [.row T45 a0, .agg (cellsOf T45 a1)] [] dq42.k = t42 F30 K a0 a1 (fun k q0 q1 => loopN Try.prog (tab42 F30) 0 K Try.f42 la42 dq42.k 0 [] k (hd42_0 a0 a1 q0 q1)) := by kernel_rfl
  rw [h]
  simp only [lp42_0 F30 K a0 a1]
  rfl
noncomputable def F42 (K : Nat) (a0 : List (El T45)) (a1 : El T45) : Option (List (El T45)) := G42 (F30 K) K a0 a1
theorem cok42 (K : Nat) : CallOK D Try.prog (tab42 (F30 K)) := (add_ok none_ok ent30 (ok30 K))
theorem ok42 (K : Nat) : RowOK D Try.prog 42 (row ad42 dq42 fun p => F42 K p.1 p.2) := row_ok fun x r h => has_of (cok42 K) Try.func42 ((ev42 (F30 K) K x.1 x.2).trans h)
noncomputable def tab29 (F41 : (List (El T45)) → Option (Bool)) (F42 : (List (El T45)) → (El T45) → Option (List (El T45))) : Tab := ((Tab.none.add 41 (row ad41 dq41 fun p => F41 p)).add 42 (row ad42 dq42 fun p => F42 p.1 p.2))
noncomputable def la29 : List (List Tidy) := [[.only [0, 4, 5], .pro 4 19 45 (T45), .ids [7, 19], .top [1000000]]]
noncomputable def hd29_0 (a0 : List (El T45)) (ps5 : Int) (ph19 : List (El T45)) : St := { tm := slots (nat_lit 21) [(nat_lit 0, AV.row T45 a0), (nat_lit 4, AV.own (nat_lit 19)), (nat_lit 5, AV.sc (Value.int IntKind.i64 ps5))], H := [(nat_lit 19, ABlk.arr (nat_lit 45) T45 ph19)] }
noncomputable def b29_0 (F41 : (List (El T45)) → Option (Bool)) (F42 : (List (El T45)) → (El T45) → Option (List (El T45))) (K : Nat) (a0 : List (El T45)) (r0 : Int → (List (El T45)) → Option ((List (El T45)) × Int)) (ps5 : Int) (ph19 : List (El T45)) : Option ((List (El T45)) × Int) :=(if decide (ps5 < (↑a0.length : Int)) = true then (if decide ((0 : Int) ≤ ps5 ∧ ps5 < (↑a0.length : Int)) = true then 
    (Option.bind (F42 ph19 (a0.getD ps5.toNat (zEl T45))) fun x1 => r0 (IntKind.i64.wrap (ps5 + (1 : Int))) (x1))
   else none)
  else some ((ph19, (0 : Int))))
noncomputable def L29_0 (F41 : (List (El T45)) → Option (Bool)) (F42 : (List (El T45)) → (El T45) → Option (List (El T45))) (K : Nat) (a0 : List (El T45)) : Nat → Int → (List (El T45)) → Option ((List (El T45)) × Int)
  | 0, _, _ => none
  | n + 1, ps5, ph19 => b29_0 F41 F42 K a0 (L29_0 F41 F42 K a0 n) ps5 ph19
noncomputable def t29 (F41 : (List (El T45)) → Option (Bool)) (F42 : (List (El T45)) → (El T45) → Option (List (El T45))) (K : Nat) (a0 : List (El T45)) (l0 : Nat → Int → (List (El T45)) → Option ((List (El T45)) × Int)) : Option ((List (El T45)) × Int) := 
 (Option.bind (F41 a0) fun x0 => (if x0 = true then some (([], (30 : Int)))
  else l0 K ((0 : Int)) ([])))
noncomputable def G29 (F41 : (List (El T45)) → Option (Bool)) (F42 : (List (El T45)) → (El T45) → Option (List (El T45))) (K : Nat) (a0 : List (El T45)) : Option ((List (El T45)) × Int) := t29 F41 F42 K a0 (L29_0 F41 F42 K a0)
theorem lp29_0 (F41 : (List (El T45)) → Option (Bool)) (F42 : (List (El T45)) → (El T45) → Option (List (El T45))) (K : Nat) (a0 : List (El T45)) : ∀ (n : Nat) (ps5 : Int) (ph19 : List (El T45)), loopN Try.prog (tab29 F41 F42) 0 K Try.f29 la29 dq29.k 0 [] n (hd29_0 a0 ps5 ph19) = L29_0 F41 F42 K a0 n ps5 ph19
  | 0, _, _ => by kernel_rfl
  | n + 1, ps5, ph19 => by
    have h : loopN Try.prog (tab29 F41 F42) 0 K Try.f29 la29 dq29.k 0 [] (n + 1) (hd29_0 a0 ps5 ph19) = b29_0 F41 F42 K a0 (fun q0 q1 => loopN Try.prog (tab29 F41 F42) 0 K Try.f29 la29 dq29.k 0 [] n (hd29_0 a0 q0 q1)) ps5 ph19 := by kernel_rfl
    rw [h]
    simp only [lp29_0 F41 F42 K a0 n]
    rfl
theorem ev29 (F41 : (List (El T45)) → Option (Bool)) (F42 : (List (El T45)) → (El T45) → Option (List (El T45))) (K : Nat) (a0 : List (El T45)) : evFun Try.prog (tab29 F41 F42) 0 K Try.f29 la29 [.row T45 a0] [] dq29.k = G29 F41 F42 K a0 := by
  have h : evFun Try.prog (tab29 F41 F42) 0 K Try.f29 la29 [.row T45 a0] [] dq29.k = t29 F41 F42 K a0 (fun k q0 q1 => loopN Try.prog (tab29 F41 F42) 0 K Try.f29 la29 dq29.k 0 [] k (hd29_0 a0 q0 q1)) := by kernel_rfl
  rw [h]
  simp only [lp29_0 F41 F42 K a0]
  rfl
noncomputable def F29 (K : Nat) (a0 : List (El T45)) : Option ((List (El T45)) × Int) := G29 (F41 K) (F42 K) K a0
theorem cok29 (K : Nat) : CallOK D Try.prog (tab29 (F41 K) (F42 K)) := (add_ok (add_ok none_ok ent41 (ok41 K)) ent42 (ok42 K))
theorem ok29 (K : Nat) : RowOK D Try.prog 29 (row ad29 dq29 fun p => F29 K p) := row_ok fun x r h => has_of (cok29 K) Try.func29 ((ev29 (F41 K) (F42 K) K x).trans h)
noncomputable def tab20 : Tab := Tab.none
noncomputable def la20 : List (List Tidy) := [[.only [0, 1, 5], .ids [7, 9], .top [1000000]]]
noncomputable def hd20_0 (a0 : List (El T45)) (a1 : List (El T45)) (ps5 : Int) : St := { tm := slots (nat_lit 26) [(nat_lit 0, AV.row T45 a0), (nat_lit 1, AV.row T45 a1), (nat_lit 5, AV.sc (Value.int IntKind.i64 ps5))], H := [] }
noncomputable def b20_0 (K : Nat) (a0 : List (El T45)) (a1 : List (El T45)) (r0 : Int → Option (Bool)) (ps5 : Int) : Option (Bool) :=(if decide (ps5 < (↑a0.length : Int)) = true then (if decide ((0 : Int) ≤ ps5 ∧ ps5 < (↑a0.length : Int)) = true then (if decide ((0 : Int) ≤ ps5 ∧ ps5 < (↑a1.length : Int)) = true then (if (!((a0.getD ps5.toNat (zEl T45)).1 == (a1.getD ps5.toNat (zEl T45)).1 && ((a0.getD ps5.toNat (zEl T45)).2.1 == (a1.getD ps5.toNat (zEl T45)).2.1 && (a0.getD ps5.toNat (zEl T45)).2.2 == (a1.getD ps5.toNat (zEl T45)).2.2))) = true then some (false)
     else r0 (IntKind.i64.wrap (ps5 + (1 : Int))))
    else none)
   else none)
  else some (true))
noncomputable def L20_0 (K : Nat) (a0 : List (El T45)) (a1 : List (El T45)) : Nat → Int → Option (Bool)
  | 0, _ => none
  | n + 1, ps5 => b20_0 K a0 a1 (L20_0 K a0 a1 n) ps5
noncomputable def t20 (K : Nat) (a0 : List (El T45)) (a1 : List (El T45)) (l0 : Nat → Int → Option (Bool)) : Option (Bool) := (if ((↑a0.length : Int) != (↑a1.length : Int)) = true then some (false)
 else l0 K ((0 : Int)))
noncomputable def G20 (K : Nat) (a0 : List (El T45)) (a1 : List (El T45)) : Option (Bool) := t20 K a0 a1 (L20_0 K a0 a1)
theorem lp20_0 (K : Nat) (a0 : List (El T45)) (a1 : List (El T45)) : ∀ (n : Nat) (ps5 : Int), loopN Try.prog (tab20) 0 K Try.f20 la20 dq20.k 0 [] n (hd20_0 a0 a1 ps5) = L20_0 K a0 a1 n ps5
  | 0, _ => by kernel_rfl
  | n + 1, ps5 => by
    have h : loopN Try.prog (tab20) 0 K Try.f20 la20 dq20.k 0 [] (n + 1) (hd20_0 a0 a1 ps5) = b20_0 K a0 a1 (fun q0 => loopN Try.prog (tab20) 0 K Try.f20 la20 dq20.k 0 [] n (hd20_0 a0 a1 q0)) ps5 := by kernel_rfl
    rw [h]
    simp only [lp20_0 K a0 a1 n]
    rfl
theorem ev20 (K : Nat) (a0 : List (El T45)) (a1 : List (El T45)) : evFun Try.prog (tab20) 0 K Try.f20 la20 [.row T45 a0, .row T45 a1] [] dq20.k = G20 K a0 a1 := by
  have h : evFun Try.prog (tab20) 0 K Try.f20 la20 [.row T45 a0, .row T45 a1] [] dq20.k = t20 K a0 a1 (fun k q0 => loopN Try.prog (tab20) 0 K Try.f20 la20 dq20.k 0 [] k (hd20_0 a0 a1 q0)) := by kernel_rfl
  rw [h]
  simp only [lp20_0 K a0 a1]
  rfl
noncomputable def F20 (K : Nat) (a0 : List (El T45)) (a1 : List (El T45)) : Option (Bool) := G20 K a0 a1
theorem cok20 (K : Nat) : CallOK D Try.prog (tab20) := none_ok
theorem ok20 (K : Nat) : RowOK D Try.prog 20 (row ad20 dq20 fun p => F20 K p.1 p.2) := row_ok fun x r h => has_of (cok20 K) Try.func20 ((ev20 K x.1 x.2).trans h)
end Go.Proofs.YtgkmfhmodojdcaaE
