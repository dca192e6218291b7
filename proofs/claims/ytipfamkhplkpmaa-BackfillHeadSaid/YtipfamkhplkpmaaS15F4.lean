import Derived.Test.YtipfamkhplkpmaaS15F3
set_option linter.all false
namespace Go.Proofs.YtipfamkhplkpmaaE
open Go Go.Proofs
set_option maxRecDepth 100000
set_option linter.unusedVariables false
variable {D : Prop}
/-! ganger/gangerref15.later -/
noncomputable def tab47 : Tab := Tab.none
noncomputable def la47 : List (List Tidy) := [[.only [1, 2, 5, 6], .ids [2], .top [1000000]]]
noncomputable def hd47_0 (a0 : El T25) (a1 : Int) (ps5 : Int) (ps6 : Int) : St := { tm := slots (nat_lit 43) [(nat_lit 1, AV.sc (Value.int IntKind.i64 a1)), (nat_lit 2, AV.ptr (nat_lit 2) (nat_lit 0)), (nat_lit 5, AV.sc (Value.int IntKind.i64 ps5)), (nat_lit 6, AV.sc (Value.int IntKind.i64 ps6))], H := [(nat_lit 2, ABlk.box (nat_lit 25) (cellsOf T25 a0))] }
noncomputable def b47_0 (K : Nat) (a0 : El T25) (a1 : Int) (r0 : Int → Int → Option (Int)) (ps5 : Int) (ps6 : Int) : Option (Int) :=(if decide (ps6 < (↑(List.length a0.2.2) : Int)) = true then (if decide ((0 : Int) ≤ ps6 ∧ ps6 < (↑(List.length a0.2.2) : Int)) = true then (if decide ((List.getD a0.2.2 ps6.toNat (zEl T47)).2.2 > a1) = true then (if decide (ps5 < (0 : Int)) = true then (if decide ((0 : Int) ≤ ps6 ∧ ps6 < (↑(List.length a0.2.2) : Int)) = true then r0 ((List.getD a0.2.2 ps6.toNat (zEl T47)).2.2) (IntKind.i64.wrap (ps6 + (1 : Int)))
      else none)
     else (if decide ((0 : Int) ≤ ps6 ∧ ps6 < (↑(List.length a0.2.2) : Int)) = true then (if decide ((List.getD a0.2.2 ps6.toNat (zEl T47)).2.2 < ps5) = true then (if decide ((0 : Int) ≤ ps6 ∧ ps6 < (↑(List.length a0.2.2) : Int)) = true then r0 ((List.getD a0.2.2 ps6.toNat (zEl T47)).2.2) (IntKind.i64.wrap (ps6 + (1 : Int)))
        else none)
       else r0 (ps5) (IntKind.i64.wrap (ps6 + (1 : Int))))
      else none))
    else r0 (ps5) (IntKind.i64.wrap (ps6 + (1 : Int))))
   else none)
  else some (ps5))
noncomputable def L47_0 (K : Nat) (a0 : El T25) (a1 : Int) : Nat → Int → Int → Option (Int)
  | 0, _, _ => none
  | n + 1, ps5, ps6 => b47_0 K a0 a1 (L47_0 K a0 a1 n) ps5 ps6
noncomputable def t47 (K : Nat) (a0 : El T25) (a1 : Int) (l0 : Nat → Int → Int → Option (Int)) : Option (Int) := l0 K ((-1 : Int)) ((0 : Int))
noncomputable def G47 (K : Nat) (a0 : El T25) (a1 : Int) : Option (Int) := t47 K a0 a1 (L47_0 K a0 a1)
theorem lp47_0 (K : Nat) (a0 : El T25) (a1 : Int) : ∀ (n : Nat) (ps5 : Int) (ps6 : Int), loopN Try.prog (tab47) 0 K Try.f47 la47 dq47.k 0 [] n (hd47_0 a0 a1 ps5 ps6) = L47_0 K a0 a1 n ps5 ps6
  | 0, _, _ => by kernel_rfl
  | n + 1, ps5, ps6 => by
    have h : loopN Try.prog (tab47) 0 K Try.f47 la47 dq47.k 0 [] (n + 1) (hd47_0 a0 a1 ps5 ps6) = b47_0 K a0 a1 (fun q0 q1 => loopN Try.prog (tab47) 0 K Try.f47 la47 dq47.k 0 [] n (hd47_0 a0 a1 q0 q1)) ps5 ps6 := by kernel_rfl
    rw [h]
    simp only [lp47_0 K a0 a1 n]
    rfl
theorem ev47 (K : Nat) (a0 : El T25) (a1 : Int) : evFun Try.prog (tab47) 0 K Try.f47 la47 [.agg (cellsOf T25 a0), I .i64 a1] [] dq47.k = G47 K a0 a1 := by
  have h : evFun Try.prog (tab47) 0 K Try.f47 la47 [.agg (cellsOf T25 a0), I .i64 a1] [] dq47.k = t47 K a0 a1 (fun k q0 q1 => loopN Try.prog (tab47) 0 K Try.f47 la47 dq47.k 0 [] k (hd47_0 a0 a1 q0 q1)) := by kernel_rfl
  rw [h]
  simp only [lp47_0 K a0 a1]
  rfl
noncomputable def F47 (K : Nat) (a0 : El T25) (a1 : Int) : Option (Int) := G47 K a0 a1
theorem cok47 (K : Nat) : CallOK D Try.prog (tab47) := none_ok
theorem ok47 (K : Nat) : RowOK D Try.prog 47 (row ad47 dq47 fun p => F47 K p.1 p.2) := row_ok fun x r h => has_of (cok47 K) Try.func47 ((ev47 K x.1 x.2).trans h)
/-! ganger/gangerref15.when -/
noncomputable def tab31 (F34 : Int → Option (Int)) (F36 : (El T25) → (El T42) → Int → Int → Option (Bool)) (F47 : (El T25) → Int → Option (Int)) : Tab := (((Tab.none.add 34 (row ad34 dq34 fun p => F34 p)).add 36 (row ad36 dq36 fun p => F36 p.1 p.2.1 p.2.2.1 p.2.2.2)).add 47 (row ad47 dq47 fun p => F47 p.1 p.2))
noncomputable def la31 : List (List Tidy) := [[.only [1, 3, 4, 11, 12], .ids [4, 15], .top [1000000]], [.only [1, 3, 4, 11, 12, 13], .ids [4, 15, 40], .top [1000001]]]
noncomputable def hd31_0 (a0 : El T25) (a1 : Int) (a2 : Int) (a3 : Int) (ps11 : Int) (ps12 : Int) : St := { tm := slots (nat_lit 41) [(nat_lit 1, AV.sc (Value.int IntKind.i64 a1)), (nat_lit 3, AV.sc (Value.int IntKind.i64 a3)), (nat_lit 4, AV.ptr (nat_lit 4) (nat_lit 0)), (nat_lit 11, AV.sc (Value.int IntKind.i64 ps11)), (nat_lit 12, AV.sc (Value.int IntKind.i64 ps12))], H := [(nat_lit 4, ABlk.box (nat_lit 25) (cellsOf T25 a0))] }
noncomputable def hd31_1 (a0 : El T25) (a1 : Int) (a2 : Int) (a3 : Int) (ps11 : Int) (ps12 : Int) (ps13 : Int) : St := { tm := slots (nat_lit 41) [(nat_lit 1, AV.sc (Value.int IntKind.i64 a1)), (nat_lit 3, AV.sc (Value.int IntKind.i64 a3)), (nat_lit 4, AV.ptr (nat_lit 4) (nat_lit 0)), (nat_lit 11, AV.sc (Value.int IntKind.i64 ps11)), (nat_lit 12, AV.sc (Value.int IntKind.i64 ps12)), (nat_lit 13, AV.sc (Value.int IntKind.i64 ps13))], H := [(nat_lit 4, ABlk.box (nat_lit 25) (cellsOf T25 a0))] }
noncomputable def b31_1 (F34 : Int → Option (Int)) (F36 : (El T25) → (El T42) → Int → Int → Option (Bool)) (F47 : (El T25) → Int → Option (Int)) (K : Nat) (a0 : El T25) (a1 : Int) (a2 : Int) (a3 : Int) (r0 : Int → Int → Option (Int × Int × Int)) (r1 : Int → Int → Int → Option (Int × Int × Int)) (ps11 : Int) (ps12 : Int) (ps13 : Int) : Option (Int × Int × Int) :=
  (Option.bind (F34 a0.1) fun x1 => (if decide (ps13 < x1) = true then 
    (Option.bind (F36 a0 (ps13, a1) ps12 (IntKind.i64.wrap (ps12 + a3))) fun x2 => (if x2 = true then some ((ps12, ps13, (0 : Int)))
     else r1 (ps11) (ps12) (IntKind.i64.wrap (ps13 + ps11))))
   else 
    (Option.bind (F47 a0 ps12) fun x3 => r0 (ps11) (x3))))
noncomputable def L31_1 (F34 : Int → Option (Int)) (F36 : (El T25) → (El T42) → Int → Int → Option (Bool)) (F47 : (El T25) → Int → Option (Int)) (K : Nat) (a0 : El T25) (a1 : Int) (a2 : Int) (a3 : Int) (r0 : Int → Int → Option (Int × Int × Int)) : Nat → Int → Int → Int → Option (Int × Int × Int)
  | 0, _, _, _ => none
  | n + 1, ps11, ps12, ps13 => b31_1 F34 F36 F47 K a0 a1 a2 a3 r0 (L31_1 F34 F36 F47 K a0 a1 a2 a3 r0 n) ps11 ps12 ps13
noncomputable def b31_0 (F34 : Int → Option (Int)) (F36 : (El T25) → (El T42) → Int → Int → Option (Bool)) (F47 : (El T25) → Int → Option (Int)) (K : Nat) (a0 : El T25) (a1 : Int) (a2 : Int) (a3 : Int) (r0 : Int → Int → Option (Int × Int × Int)) (l1 : Nat → Int → Int → Int → Option (Int × Int × Int)) (ps11 : Int) (ps12 : Int) : Option (Int × Int × Int) :=(if decide (ps12 ≥ (0 : Int)) = true then l1 K (ps11) (ps12) ((0 : Int))
  else some (((0 : Int), (0 : Int), (5 : Int))))
noncomputable def L31_0 (F34 : Int → Option (Int)) (F36 : (El T25) → (El T42) → Int → Int → Option (Bool)) (F47 : (El T25) → Int → Option (Int)) (K : Nat) (a0 : El T25) (a1 : Int) (a2 : Int) (a3 : Int) : Nat → Int → Int → Option (Int × Int × Int)
  | 0, _, _ => none
  | n + 1, ps11, ps12 => b31_0 F34 F36 F47 K a0 a1 a2 a3 (L31_0 F34 F36 F47 K a0 a1 a2 a3 n) (L31_1 F34 F36 F47 K a0 a1 a2 a3 (L31_0 F34 F36 F47 K a0 a1 a2 a3 n)) ps11 ps12
noncomputable def t31 (F34 : Int → Option (Int)) (F36 : (El T25) → (El T42) → Int → Int → Option (Bool)) (F47 : (El T25) → Int → Option (Int)) (K : Nat) (a0 : El T25) (a1 : Int) (a2 : Int) (a3 : Int) (l0 : Nat → Int → Int → Option (Int × Int × Int)) : Option (Int × Int × Int) := 
 (Option.bind (F34 a1) fun x0 => l0 K (x0) (a2))
noncomputable def G31 (F34 : Int → Option (Int)) (F36 : (El T25) → (El T42) → Int → Int → Option (Bool)) (F47 : (El T25) → Int → Option (Int)) (K : Nat) (a0 : El T25) (a1 : Int) (a2 : Int) (a3 : Int) : Option (Int × Int × Int) := t31 F34 F36 F47 K a0 a1 a2 a3 (L31_0 F34 F36 F47 K a0 a1 a2 a3)
theorem lp31_1 (F34 : Int → Option (Int)) (F36 : (El T25) → (El T42) → Int → Int → Option (Bool)) (F47 : (El T25) → Int → Option (Int)) (K : Nat) (a0 : El T25) (a1 : Int) (a2 : Int) (a3 : Int) : ∀ (m0 : Nat) (n : Nat) (ps11 : Int) (ps12 : Int) (ps13 : Int), loopN Try.prog (tab31 F34 F36 F47) 0 K Try.f31 la31 dq31.k 1 [m0] n (hd31_1 a0 a1 a2 a3 ps11 ps12 ps13) = L31_1 F34 F36 F47 K a0 a1 a2 a3 (fun q0 q1 => loopN Try.prog (tab31 F34 F36 F47) 0 K Try.f31 la31 dq31.k 0 [] m0 (hd31_0 a0 a1 a2 a3 q0 q1)) n ps11 ps12 ps13
  | m0, 0, _, _, _ => by kernel_rfl
  | m0, n + 1, ps11, ps12, ps13 => by
    have h : loopN Try.prog (tab31 F34 F36 F47) 0 K Try.f31 la31 dq31.k 1 [m0] (n + 1) (hd31_1 a0 a1 a2 a3 ps11 ps12 ps13) = b31_1 F34 F36 F47 K a0 a1 a2 a3 (fun q0 q1 => loopN Try.prog (tab31 F34 F36 F47) 0 K Try.f31 la31 dq31.k 0 [] m0 (hd31_0 a0 a1 a2 a3 q0 q1)) (fun q0 q1 q2 => loopN Try.prog (tab31 F34 F36 F47) 0 K Try.f31 la31 dq31.k 1 [m0] n (hd31_1 a0 a1 a2 a3 q0 q1 q2)) ps11 ps12 ps13 := by kernel_rfl
    rw [h]
    simp only [lp31_1 F34 F36 F47 K a0 a1 a2 a3 m0 n]
    rfl
theorem lp31_0 (F34 : Int → Option (Int)) (F36 : (El T25) → (El T42) → Int → Int → Option (Bool)) (F47 : (El T25) → Int → Option (Int)) (K : Nat) (a0 : El T25) (a1 : Int) (a2 : Int) (a3 : Int) : ∀ (n : Nat) (ps11 : Int) (ps12 : Int), loopN Try.prog (tab31 F34 F36 F47) 0 K Try.f31 la31 dq31.k 0 [] n (hd31_0 a0 a1 a2 a3 ps11 ps12) = L31_0 F34 F36 F47 K a0 a1 a2 a3 n ps11 ps12
  | 0, _, _ => by kernel_rfl
  | n + 1, ps11, ps12 => by
    have h : loopN Try.prog (tab31 F34 F36 F47) 0 K Try.f31 la31 dq31.k 0 [] (n + 1) (hd31_0 a0 a1 a2 a3 ps11 ps12) = b31_0 F34 F36 F47 K a0 a1 a2 a3 (fun q0 q1 => loopN Try.prog (tab31 F34 F36 F47) 0 K Try.f31 la31 dq31.k 0 [] n (hd31_0 a0 a1 a2 a3 q0 q1)) (fun k q0 q1 q2 => loopN Try.prog (tab31 F34 F36 F47) 0 K Try.f31 la31 dq31.k 1 [n] k (hd31_1 a0 a1 a2 a3 q0 q1 q2)) ps11 ps12 := by kernel_rfl
    rw [h]
    simp only [lp31_0 F34 F36 F47 K a0 a1 a2 a3 n, lp31_1 F34 F36 F47 K a0 a1 a2 a3 n]
    rfl
theorem ev31 (F34 : Int → Option (Int)) (F36 : (El T25) → (El T42) → Int → Int → Option (Bool)) (F47 : (El T25) → Int → Option (Int)) (K : Nat) (a0 : El T25) (a1 : Int) (a2 : Int) (a3 : Int) : evFun Try.prog (tab31 F34 F36 F47) 0 K Try.f31 la31 [.agg (cellsOf T25 a0), I .i64 a1, I .i64 a2, I .i64 a3] [] dq31.k = G31 F34 F36 F47 K a0 a1 a2 a3 := by
  have h : evFun Try.prog (tab31 F34 F36 F47) 0 K Try.f31 la31 [.agg (cellsOf T25 a0), I .i64 a1, I .i64 a2, I .i64 a3] [] dq31.k = t31 F34 F36 F47 K a0 a1 a2 a3 (fun k q0 q1 => loopN Try.prog (tab31 F34 F36 F47) 0 K Try.f31 la31 dq31.k 0 [] k (hd31_0 a0 a1 a2 a3 q0 q1)) := by kernel_rfl
  rw [h]
  simp only [lp31_0 F34 F36 F47 K a0 a1 a2 a3]
  rfl
noncomputable def F31 (K : Nat) (a0 : El T25) (a1 : Int) (a2 : Int) (a3 : Int) : Option (Int × Int × Int) := G31 (F34 K) (F36 K) (F47 K) K a0 a1 a2 a3
theorem cok31 (K : Nat) : CallOK D Try.prog (tab31 (F34 K) (F36 K) (F47 K)) := (add_ok (add_ok (add_ok none_ok ent34 (ok34 K)) ent36 (ok36 K)) ent47 (ok47 K))
theorem ok31 (K : Nat) : RowOK D Try.prog 31 (row ad31 dq31 fun p => F31 K p.1 p.2.1 p.2.2.1 p.2.2.2) := row_ok fun x r h => has_of (cok31 K) Try.func31 ((ev31 (F34 K) (F36 K) (F47 K) K x.1 x.2.1 x.2.2.1 x.2.2.2).trans h)
/-! ganger/gangerref15.Earliest -/
noncomputable def tab17 (F21 : (El T25) → Option (Int)) (F31 : (El T25) → Int → Int → Int → Option (Int × Int × Int)) : Tab := ((Tab.none.add 21 (row ad21 dq21 fun p => F21 p)).add 31 (row ad31 dq31 fun p => F31 p.1 p.2.1 p.2.2.1 p.2.2.2))
noncomputable def t17 (F21 : (El T25) → Option (Int)) (F31 : (El T25) → Int → Int → Int → Option (Int × Int × Int)) (K : Nat) (a0 : El T25) (a1 : Int) (a2 : Int) (a3 : Int) : Option (Int × Int × Int) := 
 (Option.bind (F21 a0) fun x0 => (if (x0 != (0 : Int)) = true then some (((0 : Int), (0 : Int), (2 : Int)))
  else (if decide (a1 < (0 : Int)) = true then some (((0 : Int), (0 : Int), (2 : Int)))
   else (if decide (a1 > a0.1) = true then some (((0 : Int), (0 : Int), (2 : Int)))
    else (if decide (a2 < (0 : Int)) = true then some (((0 : Int), (0 : Int), (2 : Int)))
     else (if decide (a2 > (1099511627776 : Int)) = true then some (((0 : Int), (0 : Int), (2 : Int)))
      else (if decide (a3 < (1 : Int)) = true then some (((0 : Int), (0 : Int), (2 : Int)))
       else (if decide (a3 > (1099511627776 : Int)) = true then some (((0 : Int), (0 : Int), (2 : Int)))
        else 
         (Option.bind (F31 a0 a1 a2 a3) fun x1 => some (x1))))))))))
noncomputable def G17 (F21 : (El T25) → Option (Int)) (F31 : (El T25) → Int → Int → Int → Option (Int × Int × Int)) (K : Nat) (a0 : El T25) (a1 : Int) (a2 : Int) (a3 : Int) : Option (Int × Int × Int) := t17 F21 F31 K a0 a1 a2 a3
theorem ev17 (F21 : (El T25) → Option (Int)) (F31 : (El T25) → Int → Int → Int → Option (Int × Int × Int)) (K : Nat) (a0 : El T25) (a1 : Int) (a2 : Int) (a3 : Int) : evFun Try.prog (tab17 F21 F31) 0 K Try.f17 [] [.agg (cellsOf T25 a0), I .i64 a1, I .i64 a2, I .i64 a3] [] dq17.k = G17 F21 F31 K a0 a1 a2 a3 := by
  kernel_rfl
noncomputable def F17 (K : Nat) (a0 : El T25) (a1 : Int) (a2 : Int) (a3 : Int) : Option (Int × Int × Int) := G17 (F21 K) (F31 K) K a0 a1 a2 a3
theorem cok17 (K : Nat) : CallOK D Try.prog (tab17 (F21 K) (F31 K)) := (add_ok (add_ok none_ok ent21 (ok21 K)) ent31 (ok31 K))
theorem ok17 (K : Nat) : RowOK D Try.prog 17 (row ad17 dq17 fun p => F17 K p.1 p.2.1 p.2.2.1 p.2.2.2) := row_ok fun x r h => has_of (cok17 K) Try.func17 ((ev17 (F21 K) (F31 K) K x.1 x.2.1 x.2.2.1 x.2.2.2).trans h)
/-! ganger/gangerref15.Free -/
noncomputable def tab22 (F21 : (El T25) → Option (Int)) (F35 : (El T25) → (El T42) → Option (Bool)) (F36 : (El T25) → (El T42) → Int → Int → Option (Bool)) : Tab := (((Tab.none.add 21 (row ad21 dq21 fun p => F21 p)).add 35 (row ad35 dq35 fun p => F35 p.1 p.2)).add 36 (row ad36 dq36 fun p => F36 p.1 p.2.1 p.2.2.1 p.2.2.2))
noncomputable def t22 (F21 : (El T25) → Option (Int)) (F35 : (El T25) → (El T42) → Option (Bool)) (F36 : (El T25) → (El T42) → Int → Int → Option (Bool)) (K : Nat) (a0 : El T25) (a1 : El T42) (a2 : Int) (a3 : Int) : Option (Bool) := 
 (Option.bind (F21 a0) fun x0 => (if (x0 == (0 : Int)) = true then 
   (Option.bind (F35 a0 a1) fun x1 => (if x1 = true then (if decide (a2 ≥ (0 : Int)) = true then (if decide (a3 > a2) = true then 
       (Option.bind (F36 a0 a1 a2 a3) fun x2 => some (x2))
      else some (false))
     else some (false))
    else some (false)))
  else some (false)))
noncomputable def G22 (F21 : (El T25) → Option (Int)) (F35 : (El T25) → (El T42) → Option (Bool)) (F36 : (El T25) → (El T42) → Int → Int → Option (Bool)) (K : Nat) (a0 : El T25) (a1 : El T42) (a2 : Int) (a3 : Int) : Option (Bool) := t22 F21 F35 F36 K a0 a1 a2 a3
theorem ev22 (F21 : (El T25) → Option (Int)) (F35 : (El T25) → (El T42) → Option (Bool)) (F36 : (El T25) → (El T42) → Int → Int → Option (Bool)) (K : Nat) (a0 : El T25) (a1 : El T42) (a2 : Int) (a3 : Int) : evFun Try.prog (tab22 F21 F35 F36) 0 K Try.f22 [] [.agg (cellsOf T25 a0), .agg (cellsOf T42 a1), I .i64 a2, I .i64 a3] [] dq22.k = G22 F21 F35 F36 K a0 a1 a2 a3 := by
  kernel_rfl
noncomputable def F22 (K : Nat) (a0 : El T25) (a1 : El T42) (a2 : Int) (a3 : Int) : Option (Bool) := G22 (F21 K) (F35 K) (F36 K) K a0 a1 a2 a3
theorem cok22 (K : Nat) : CallOK D Try.prog (tab22 (F21 K) (F35 K) (F36 K)) := (add_ok (add_ok (add_ok none_ok ent21 (ok21 K)) ent35 (ok35 K)) ent36 (ok36 K))
theorem ok22 (K : Nat) : RowOK D Try.prog 22 (row ad22 dq22 fun p => F22 K p.1 p.2.1 p.2.2.1 p.2.2.2) := row_ok fun x r h => has_of (cok22 K) Try.func22 ((ev22 (F21 K) (F35 K) (F36 K) K x.1 x.2.1 x.2.2.1 x.2.2.2).trans h)
/-! ganger/gangerref15.At -/
noncomputable def tab20 (F21 : (El T25) → Option (Int)) (F34 : Int → Option (Int)) (F22 : (El T25) → (El T42) → Int → Int → Option (Bool)) : Tab := (((Tab.none.add 21 (row ad21 dq21 fun p => F21 p)).add 34 (row ad34 dq34 fun p => F34 p)).add 22 (row ad22 dq22 fun p => F22 p.1 p.2.1 p.2.2.1 p.2.2.2))
noncomputable def la20 : List (List Tidy) := [[.only [1, 2, 3, 4, 11, 12], .ids [4, 14, 28], .top [1000000]]]
noncomputable def hd20_0 (a0 : El T25) (a1 : Int) (a2 : Int) (a3 : Int) (ps11 : Int) (ps12 : Int) : St := { tm := slots (nat_lit 45) [(nat_lit 1, AV.sc (Value.int IntKind.i64 a1)), (nat_lit 2, AV.sc (Value.int IntKind.i64 a2)), (nat_lit 3, AV.sc (Value.int IntKind.i64 a3)), (nat_lit 4, AV.ptr (nat_lit 4) (nat_lit 0)), (nat_lit 11, AV.sc (Value.int IntKind.i64 ps11)), (nat_lit 12, AV.sc (Value.int IntKind.i64 ps12))], H := [(nat_lit 4, ABlk.box (nat_lit 25) (cellsOf T25 a0))] }
noncomputable def b20_0 (F21 : (El T25) → Option (Int)) (F34 : Int → Option (Int)) (F22 : (El T25) → (El T42) → Int → Int → Option (Bool)) (K : Nat) (a0 : El T25) (a1 : Int) (a2 : Int) (a3 : Int) (r0 : Int → Int → Option (Int × Bool)) (ps11 : Int) (ps12 : Int) : Option (Int × Bool) :=
  (Option.bind (F34 a0.1) fun x2 => (if decide (ps12 < x2) = true then 
    (Option.bind (F22 a0 (ps12, a1) a2 a3) fun x3 => (if x3 = true then some ((ps12, true))
     else r0 (ps11) (IntKind.i64.wrap (ps12 + ps11))))
   else some (((0 : Int), false))))
noncomputable def L20_0 (F21 : (El T25) → Option (Int)) (F34 : Int → Option (Int)) (F22 : (El T25) → (El T42) → Int → Int → Option (Bool)) (K : Nat) (a0 : El T25) (a1 : Int) (a2 : Int) (a3 : Int) : Nat → Int → Int → Option (Int × Bool)
  | 0, _, _ => none
  | n + 1, ps11, ps12 => b20_0 F21 F34 F22 K a0 a1 a2 a3 (L20_0 F21 F34 F22 K a0 a1 a2 a3 n) ps11 ps12
noncomputable def t20 (F21 : (El T25) → Option (Int)) (F34 : Int → Option (Int)) (F22 : (El T25) → (El T42) → Int → Int → Option (Bool)) (K : Nat) (a0 : El T25) (a1 : Int) (a2 : Int) (a3 : Int) (l0 : Nat → Int → Int → Option (Int × Bool)) : Option (Int × Bool) := 
 (Option.bind (F21 a0) fun x0 => (if (x0 != (0 : Int)) = true then some (((0 : Int), false))
  else (if decide (a1 < (0 : Int)) = true then some (((0 : Int), false))
   else (if decide (a1 > a0.1) = true then some (((0 : Int), false))
    else 
     (Option.bind (F34 a1) fun x1 => l0 K (x1) ((0 : Int)))))))
noncomputable def G20 (F21 : (El T25) → Option (Int)) (F34 : Int → Option (Int)) (F22 : (El T25) → (El T42) → Int → Int → Option (Bool)) (K : Nat) (a0 : El T25) (a1 : Int) (a2 : Int) (a3 : Int) : Option (Int × Bool) := t20 F21 F34 F22 K a0 a1 a2 a3 (L20_0 F21 F34 F22 K a0 a1 a2 a3)
theorem lp20_0 (F21 : (El T25) → Option (Int)) (F34 : Int → Option (Int)) (F22 : (El T25) → (El T42) → Int → Int → Option (Bool)) (K : Nat) (a0 : El T25) (a1 : Int) (a2 : Int) (a3 : Int) : ∀ (n : Nat) (ps11 : Int) (ps12 : Int), loopN Try.prog (tab20 F21 F34 F22) 0 K Try.f20 la20 dq20.k 0 [] n (hd20_0 a0 a1 a2 a3 ps11 ps12) = L20_0 F21 F34 F22 K a0 a1 a2 a3 n ps11 ps12
  | 0, _, _ => by kernel_rfl
  | n + 1, ps11, ps12 => by
    have h : loopN Try.prog (tab20 F21 F34 F22) 0 K Try.f20 la20 dq20.k 0 [] (n + 1) (hd20_0 a0 a1 a2 a3 ps11 ps12) = b20_0 F21 F34 F22 K a0 a1 a2 a3 (fun q0 q1 => loopN Try.prog (tab20 F21 F34 F22) 0 K Try.f20 la20 dq20.k 0 [] n (hd20_0 a0 a1 a2 a3 q0 q1)) ps11 ps12 := by kernel_rfl
    rw [h]
    simp only [lp20_0 F21 F34 F22 K a0 a1 a2 a3 n]
    rfl
theorem ev20 (F21 : (El T25) → Option (Int)) (F34 : Int → Option (Int)) (F22 : (El T25) → (El T42) → Int → Int → Option (Bool)) (K : Nat) (a0 : El T25) (a1 : Int) (a2 : Int) (a3 : Int) : evFun Try.prog (tab20 F21 F34 F22) 0 K Try.f20 la20 [.agg (cellsOf T25 a0), I .i64 a1, I .i64 a2, I .i64 a3] [] dq20.k = G20 F21 F34 F22 K a0 a1 a2 a3 := by
  have h : evFun Try.prog (tab20 F21 F34 F22) 0 K Try.f20 la20 [.agg (cellsOf T25 a0), I .i64 a1, I .i64 a2, I .i64 a3] [] dq20.k = t20 F21 F34 F22 K a0 a1 a2 a3 (fun k q0 q1 => loopN Try.prog (tab20 F21 F34 F22) 0 K Try.f20 la20 dq20.k 0 [] k (hd20_0 a0 a1 a2 a3 q0 q1)) := by kernel_rfl
  rw [h]
  simp only [lp20_0 F21 F34 F22 K a0 a1 a2 a3]
  rfl
noncomputable def F20 (K : Nat) (a0 : El T25) (a1 : Int) (a2 : Int) (a3 : Int) : Option (Int × Bool) := G20 (F21 K) (F34 K) (F22 K) K a0 a1 a2 a3
theorem cok20 (K : Nat) : CallOK D Try.prog (tab20 (F21 K) (F34 K) (F22 K)) := (add_ok (add_ok (add_ok none_ok ent21 (ok21 K)) ent34 (ok34 K)) ent22 (ok22 K))
theorem ok20 (K : Nat) : RowOK D Try.prog 20 (row ad20 dq20 fun p => F20 K p.1 p.2.1 p.2.2.1 p.2.2.2) := row_ok fun x r h => has_of (cok20 K) Try.func20 ((ev20 (F21 K) (F34 K) (F22 K) K x.1 x.2.1 x.2.2.1 x.2.2.2).trans h)
/-! ganger/gangerlaw15.stays -/
noncomputable def tab23 : Tab := Tab.none
noncomputable def la23 : List (List Tidy) := [[.only [2, 3, 5], .ids [2, 3, 28], .top [1000000]], [.only [2, 3, 6], .ids [2, 3, 10], .top [1000001]]]
noncomputable def hd23_0 (a0 : El T25) (a1 : El T25) (ps5 : Int) : St := { tm := slots (nat_lit 48) [(nat_lit 2, AV.ptr (nat_lit 2) (nat_lit 0)), (nat_lit 3, AV.ptr (nat_lit 3) (nat_lit 0)), (nat_lit 5, AV.sc (Value.int IntKind.i64 ps5))], H := [(nat_lit 2, ABlk.box (nat_lit 25) (cellsOf T25 a0)), (nat_lit 3, ABlk.box (nat_lit 25) (cellsOf T25 a1))] }
noncomputable def hd23_1 (a0 : El T25) (a1 : El T25) (ps6 : Int) : St := { tm := slots (nat_lit 48) [(nat_lit 2, AV.ptr (nat_lit 2) (nat_lit 0)), (nat_lit 3, AV.ptr (nat_lit 3) (nat_lit 0)), (nat_lit 6, AV.sc (Value.int IntKind.i64 ps6))], H := [(nat_lit 2, ABlk.box (nat_lit 25) (cellsOf T25 a0)), (nat_lit 3, ABlk.box (nat_lit 25) (cellsOf T25 a1))] }
noncomputable def b23_1 (K : Nat) (a0 : El T25) (a1 : El T25) (r1 : Int → Option (Bool)) (ps6 : Int) : Option (Bool) :=(if decide (ps6 < (↑(List.length a0.2.1) : Int)) = true then (if decide ((0 : Int) ≤ ps6 ∧ ps6 < (↑(List.length a0.2.1) : Int)) = true then (if decide ((0 : Int) ≤ ps6 ∧ ps6 < (↑(List.length a1.2.1) : Int)) = true then (if (List.getD a0.2.1 ps6.toNat (zEl (Ty.int IntKind.i64)) != List.getD a1.2.1 ps6.toNat (zEl (Ty.int IntKind.i64))) = true then some (false)
     else r1 (IntKind.i64.wrap (ps6 + (1 : Int))))
    else none)
   else none)
  else some (a0.1 == a1.1))
noncomputable def L23_1 (K : Nat) (a0 : El T25) (a1 : El T25) : Nat → Int → Option (Bool)
  | 0, _ => none
  | n + 1, ps6 => b23_1 K a0 a1 (L23_1 K a0 a1 n) ps6
noncomputable def b23_0 (K : Nat) (a0 : El T25) (a1 : El T25) (r0 : Int → Option (Bool)) (l1 : Nat → Int → Option (Bool)) (ps5 : Int) : Option (Bool) :=(if decide (ps5 < (↑(List.length a0.2.2) : Int)) = true then (if decide ((0 : Int) ≤ ps5 ∧ ps5 < (↑(List.length a0.2.2) : Int)) = true then (if decide ((0 : Int) ≤ ps5 ∧ ps5 < (↑(List.length a1.2.2) : Int)) = true then (if (!((List.getD a0.2.2 ps5.toNat (zEl T47)).1.1 == (List.getD a1.2.2 ps5.toNat (zEl T47)).1.1 && (List.getD a0.2.2 ps5.toNat (zEl T47)).1.2 == (List.getD a1.2.2 ps5.toNat (zEl T47)).1.2 && ((List.getD a0.2.2 ps5.toNat (zEl T47)).2.1 == (List.getD a1.2.2 ps5.toNat (zEl T47)).2.1 && (List.getD a0.2.2 ps5.toNat (zEl T47)).2.2 == (List.getD a1.2.2 ps5.toNat (zEl T47)).2.2))) = true then some (false)
     else r0 (IntKind.i64.wrap (ps5 + (1 : Int))))
    else none)
   else none)
  else l1 K ((0 : Int)))
noncomputable def L23_0 (K : Nat) (a0 : El T25) (a1 : El T25) : Nat → Int → Option (Bool)
  | 0, _ => none
  | n + 1, ps5 => b23_0 K a0 a1 (L23_0 K a0 a1 n) (L23_1 K a0 a1) ps5
noncomputable def t23 (K : Nat) (a0 : El T25) (a1 : El T25) (l0 : Nat → Int → Option (Bool)) : Option (Bool) := l0 K ((0 : Int))
noncomputable def G23 (K : Nat) (a0 : El T25) (a1 : El T25) : Option (Bool) := t23 K a0 a1 (L23_0 K a0 a1)
theorem lp23_1 (K : Nat) (a0 : El T25) (a1 : El T25) : ∀ (n : Nat) (ps6 : Int), loopN Try.prog (tab23) 0 K Try.f23 la23 dq23.k 1 [] n (hd23_1 a0 a1 ps6) = L23_1 K a0 a1 n ps6
  | 0, _ => by kernel_rfl
  | n + 1, ps6 => by
    have h : loopN Try.prog (tab23) 0 K Try.f23 la23 dq23.k 1 [] (n + 1) (hd23_1 a0 a1 ps6) = b23_1 K a0 a1 (fun q0 => loopN Try.prog (tab23) 0 K Try.f23 la23 dq23.k 1 [] n (hd23_1 a0 a1 q0)) ps6 := by kernel_rfl
    rw [h]
    simp only [lp23_1 K a0 a1 n]
    rfl
theorem lp23_0 (K : Nat) (a0 : El T25) (a1 : El T25) : ∀ (n : Nat) (ps5 : Int), loopN Try.prog (tab23) 0 K Try.f23 la23 dq23.k 0 [] n (hd23_0 a0 a1 ps5) = L23_0 K a0 a1 n ps5
  | 0, _ => by kernel_rfl
  | n + 1, ps5 => by
    have h : loopN Try.prog (tab23) 0 K Try.f23 la23 dq23.k 0 [] (n + 1) (hd23_0 a0 a1 ps5) = b23_0 K a0 a1 (fun q0 => loopN Try.prog (tab23) 0 K Try.f23 la23 dq23.k 0 [] n (hd23_0 a0 a1 q0)) (fun k q0 => loopN Try.prog (tab23) 0 K Try.f23 la23 dq23.k 1 [] k (hd23_1 a0 a1 q0)) ps5 := by kernel_rfl
    rw [h]
    simp only [lp23_0 K a0 a1 n, lp23_1 K a0 a1]
    rfl
theorem ev23 (K : Nat) (a0 : El T25) (a1 : El T25) : evFun Try.prog (tab23) 0 K Try.f23 la23 [.agg (cellsOf T25 a0), .agg (cellsOf T25 a1)] [] dq23.k = G23 K a0 a1 := by
  have h : evFun Try.prog (tab23) 0 K Try.f23 la23 [.agg (cellsOf T25 a0), .agg (cellsOf T25 a1)] [] dq23.k = t23 K a0 a1 (fun k q0 => loopN Try.prog (tab23) 0 K Try.f23 la23 dq23.k 0 [] k (hd23_0 a0 a1 q0)) := by kernel_rfl
  rw [h]
  simp only [lp23_0 K a0 a1]
  rfl
noncomputable def F23 (K : Nat) (a0 : El T25) (a1 : El T25) : Option (Bool) := G23 K a0 a1
theorem cok23 (K : Nat) : CallOK D Try.prog (tab23) := none_ok
theorem ok23 (K : Nat) : RowOK D Try.prog 23 (row ad23 dq23 fun p => F23 K p.1 p.2) := row_ok fun x r h => has_of (cok23 K) Try.func23 ((ev23 K x.1 x.2).trans h)
/-! ganger/gangerlaw15.copied -/
noncomputable def tab13 : Tab := Tab.none
noncomputable def t13 (K : Nat) (a0 : El T25) : Option (El T25) := (if decide (List.length a0.2.1 * Try.prog.types[(3 : Nat)].bytes ≤ (140737488355328 : Nat)) = true then (if decide (List.length a0.2.2 * Try.prog.types[(47 : Nat)].bytes ≤ (140737488355328 : Nat)) = true then some (a0)
  else none)
 else none)
noncomputable def G13 (K : Nat) (a0 : El T25) : Option (El T25) := t13 K a0
theorem ev13 (K : Nat) (a0 : El T25) : evFun Try.prog (tab13) 0 K Try.f13 [[.frz (List.range 60)]] [.agg (cellsOf T25 a0)] [] dq13.k = G13 K a0 := by
  kernel_rfl
noncomputable def F13 (K : Nat) (a0 : El T25) : Option (El T25) := G13 K a0
theorem cok13 (K : Nat) : CallOK D Try.prog (tab13) := none_ok
theorem ok13 (K : Nat) : RowOK D Try.prog 13 (row ad13 dq13 fun p => F13 K p) := row_ok fun x r h => has_of (cok13 K) Try.func13 ((ev13 K x).trans h)
/-! ganger/gangerlaw15.copied -/
noncomputable def tab1013 : Tab := Tab.none
noncomputable def t1013 (K : Nat) (a0 : El T25) : Option (Int × List Int × List (El T47)) := (if decide (List.length a0.2.1 * Try.prog.types[(3 : Nat)].bytes ≤ (140737488355328 : Nat)) = true then (if decide (List.length a0.2.2 * Try.prog.types[(47 : Nat)].bytes ≤ (140737488355328 : Nat)) = true then some (a0)
  else none)
 else none)
noncomputable def G1013 (K : Nat) (a0 : El T25) : Option (Int × List Int × List (El T47)) := t1013 K a0
theorem ev1013 (K : Nat) (a0 : El T25) : evFun Try.prog (tab1013) 0 K Try.f13 [[.frz [11]]] [.agg (cellsOf T25 a0)] [] dq1013.k = G1013 K a0 := by
  kernel_rfl
noncomputable def F1013 (K : Nat) (a0 : El T25) : Option (Int × List Int × List (El T47)) := G1013 K a0
theorem cok1013 (K : Nat) : CallOK D Try.prog (tab1013) := none_ok
theorem ok1013 (K : Nat) : RowOK D Try.prog 13 (row ad1013 dq1013 fun p => F1013 K p) := row_ok fun x r h => has_of (cok1013 K) Try.func13 ((ev1013 K x).trans h)
end Go.Proofs.YtipfamkhplkpmaaE
