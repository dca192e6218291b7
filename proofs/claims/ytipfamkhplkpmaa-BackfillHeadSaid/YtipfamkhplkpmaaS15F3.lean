import Derived.Test.YtipfamkhplkpmaaS15F2
set_option linter.all false
namespace Go.Proofs.YtipfamkhplkpmaaE
open Go Go.Proofs
set_option maxRecDepth 100000
set_option linter.unusedVariables false
variable {D : Prop}
/-! ganger/backfill.meet -/
noncomputable def tab44 (F32 : Int → Option (Int)) : Tab := (Tab.none.add 32 (row ad32 dq32 fun p => F32 p))
noncomputable def t44 (F32 : Int → Option (Int)) (K : Nat) (a0 : El T42) (a1 : El T42) : Option (Bool) := 
 (Option.bind (F32 a1.2) fun x0 => (if decide (a0.1 < IntKind.i64.wrap (a1.1 + x0)) = true then 
   (Option.bind (F32 a0.2) fun x1 => some (decide (a1.1 < IntKind.i64.wrap (a0.1 + x1))))
  else some (false)))
noncomputable def G44 (F32 : Int → Option (Int)) (K : Nat) (a0 : El T42) (a1 : El T42) : Option (Bool) := t44 F32 K a0 a1
theorem ev44 (F32 : Int → Option (Int)) (K : Nat) (a0 : El T42) (a1 : El T42) : evFun Try.prog (tab44 F32) 0 K Try.f44 [] [.agg (cellsOf T42 a0), .agg (cellsOf T42 a1)] [] dq44.k = G44 F32 K a0 a1 := by
  kernel_rfl
noncomputable def F44 (K : Nat) (a0 : El T42) (a1 : El T42) : Option (Bool) := G44 (F32 K) K a0 a1
theorem cok44 (K : Nat) : CallOK D Try.prog (tab44 (F32 K)) := (add_ok none_ok ent32 (ok32 K))
theorem ok44 (K : Nat) : RowOK D Try.prog 44 (row ad44 dq44 fun p => F44 K p.1 p.2) := row_ok fun x r h => has_of (cok44 K) Try.func44 ((ev44 (F32 K) K x.1 x.2).trans h)
/-! ganger/backfill.free -/
noncomputable def tab29 (F43 : (List (El (.int .i64))) → Int → Option (Int × Bool)) (F32 : Int → Option (Int)) (F44 : (El T42) → (El T42) → Option (Bool)) : Tab := (((Tab.none.add 43 (row ad43 dq43 fun p => F43 p.1 p.2)).add 32 (row ad32 dq32 fun p => F32 p)).add 44 (row ad44 dq44 fun p => F44 p.1 p.2))
noncomputable def la29 : List (List Tidy) := [[.only [2, 3, 5, 41, 42, 43], .ids [4, 5, 18, 24, 36, 42], .top [1000000]]]
noncomputable def hd29_0 (a0 : El T25) (a1 : El T42) (a2 : Int) (a3 : Int) (ps43 : Int) : St := { tm := slots (nat_lit 64) [(nat_lit 2, AV.sc (Value.int IntKind.i64 a2)), (nat_lit 3, AV.sc (Value.int IntKind.i64 a3)), (nat_lit 5, AV.ptr (nat_lit 5) (nat_lit 0)), (nat_lit 41, AV.row T47 a0.2.2), (nat_lit 42, AV.sc (Value.int IntKind.i64 (↑(List.length a0.2.2) : Int))), (nat_lit 43, AV.sc (Value.int IntKind.i64 ps43))], H := [(nat_lit 4, ABlk.box (nat_lit 25) (cellsOf T25 a0)), (nat_lit 5, ABlk.box (nat_lit 42) (cellsOf T42 a1))] }
noncomputable def b29_0 (F43 : (List (El (.int .i64))) → Int → Option (Int × Bool)) (F32 : Int → Option (Int)) (F44 : (El T42) → (El T42) → Option (Bool)) (K : Nat) (a0 : El T25) (a1 : El T42) (a2 : Int) (a3 : Int) (r0 : Int → Option (Bool)) (ps43 : Int) : Option (Bool) :=(if decide (ps43 < (↑(List.length a0.2.2) : Int)) = true then (if decide ((0 : Int) ≤ ps43 ∧ ps43 < (↑(List.length a0.2.2) : Int)) = true then (if decide ((List.getD a0.2.2 ps43.toNat (zEl T47)).2.1 < a3) = true then (if decide (a2 < (List.getD a0.2.2 ps43.toNat (zEl T47)).2.2) = true then 
      (Option.bind (F44 (List.getD a0.2.2 ps43.toNat (zEl T47)).1 a1) fun x2 => (if x2 = true then some (false)
       else r0 (IntKind.i64.wrap (ps43 + (1 : Int)))))
     else r0 (IntKind.i64.wrap (ps43 + (1 : Int))))
    else r0 (IntKind.i64.wrap (ps43 + (1 : Int))))
   else none)
  else some (true))
noncomputable def L29_0 (F43 : (List (El (.int .i64))) → Int → Option (Int × Bool)) (F32 : Int → Option (Int)) (F44 : (El T42) → (El T42) → Option (Bool)) (K : Nat) (a0 : El T25) (a1 : El T42) (a2 : Int) (a3 : Int) : Nat → Int → Option (Bool)
  | 0, _ => none
  | n + 1, ps43 => b29_0 F43 F32 F44 K a0 a1 a2 a3 (L29_0 F43 F32 F44 K a0 a1 a2 a3 n) ps43
noncomputable def t29 (F43 : (List (El (.int .i64))) → Int → Option (Int × Bool)) (F32 : Int → Option (Int)) (F44 : (El T42) → (El T42) → Option (Bool)) (K : Nat) (a0 : El T25) (a1 : El T42) (a2 : Int) (a3 : Int) (l0 : Nat → Int → Option (Bool)) : Option (Bool) := 
 (Option.bind (F43 a0.2.1 a1.1) fun x0 => (if decide (x0.1 < (↑(List.length a0.2.1) : Int)) = true then (if decide ((0 : Int) ≤ x0.1 ∧ x0.1 < (↑(List.length a0.2.1) : Int)) = true then 
    (Option.bind (F32 a1.2) fun x1 => (if decide (List.getD a0.2.1 x0.1.toNat (zEl (Ty.int IntKind.i64)) < IntKind.i64.wrap (a1.1 + x1)) = true then some (false)
     else l0 K ((0 : Int))))
   else none)
  else l0 K ((0 : Int))))
noncomputable def G29 (F43 : (List (El (.int .i64))) → Int → Option (Int × Bool)) (F32 : Int → Option (Int)) (F44 : (El T42) → (El T42) → Option (Bool)) (K : Nat) (a0 : El T25) (a1 : El T42) (a2 : Int) (a3 : Int) : Option (Bool) := t29 F43 F32 F44 K a0 a1 a2 a3 (L29_0 F43 F32 F44 K a0 a1 a2 a3)
theorem lp29_0 (F43 : (List (El (.int .i64))) → Int → Option (Int × Bool)) (F32 : Int → Option (Int)) (F44 : (El T42) → (El T42) → Option (Bool)) (K : Nat) (a0 : El T25) (a1 : El T42) (a2 : Int) (a3 : Int) : ∀ (n : Nat) (ps43 : Int), loopN Try.prog (tab29 F43 F32 F44) 0 K Try.f29 la29 dq29.k 0 [] n (hd29_0 a0 a1 a2 a3 ps43) = L29_0 F43 F32 F44 K a0 a1 a2 a3 n ps43
  | 0, _ => by kernel_rfl
  | n + 1, ps43 => by
    have h : loopN Try.prog (tab29 F43 F32 F44) 0 K Try.f29 la29 dq29.k 0 [] (n + 1) (hd29_0 a0 a1 a2 a3 ps43) = b29_0 F43 F32 F44 K a0 a1 a2 a3 (fun q0 => loopN Try.prog (tab29 F43 F32 F44) 0 K Try.f29 la29 dq29.k 0 [] n (hd29_0 a0 a1 a2 a3 q0)) ps43 := by kernel_rfl
    rw [h]
    simp only [lp29_0 F43 F32 F44 K a0 a1 a2 a3 n]
    rfl
theorem ev29 (F43 : (List (El (.int .i64))) → Int → Option (Int × Bool)) (F32 : Int → Option (Int)) (F44 : (El T42) → (El T42) → Option (Bool)) (K : Nat) (a0 : El T25) (a1 : El T42) (a2 : Int) (a3 : Int) : evFun Try.prog (tab29 F43 F32 F44) 0 K Try.f29 la29 [.agg (cellsOf T25 a0), .agg (cellsOf T42 a1), I .i64 a2, I .i64 a3] [] dq29.k = G29 F43 F32 F44 K a0 a1 a2 a3 := by
  have h : evFun Try.prog (tab29 F43 F32 F44) 0 K Try.f29 la29 [.agg (cellsOf T25 a0), .agg (cellsOf T42 a1), I .i64 a2, I .i64 a3] [] dq29.k = t29 F43 F32 F44 K a0 a1 a2 a3 (fun k q0 => loopN Try.prog (tab29 F43 F32 F44) 0 K Try.f29 la29 dq29.k 0 [] k (hd29_0 a0 a1 a2 a3 q0)) := by kernel_rfl
  rw [h]
  simp only [lp29_0 F43 F32 F44 K a0 a1 a2 a3]
  rfl
noncomputable def F29 (K : Nat) (a0 : El T25) (a1 : El T42) (a2 : Int) (a3 : Int) : Option (Bool) := G29 (F43 K) (F32 K) (F44 K) K a0 a1 a2 a3
theorem cok29 (K : Nat) : CallOK D Try.prog (tab29 (F43 K) (F32 K) (F44 K)) := (add_ok (add_ok (add_ok none_ok ent43 (ok43 K)) ent32 (ok32 K)) ent44 (ok44 K))
theorem ok29 (K : Nat) : RowOK D Try.prog 29 (row ad29 dq29 fun p => F29 K p.1 p.2.1 p.2.2.1 p.2.2.2) := row_ok fun x r h => has_of (cok29 K) Try.func29 ((ev29 (F43 K) (F32 K) (F44 K) K x.1 x.2.1 x.2.2.1 x.2.2.2).trans h)
/-! ganger/backfill.find -/
noncomputable def tab33 (F32 : Int → Option (Int)) (F29 : (El T25) → (El T42) → Int → Int → Option (Bool)) : Tab := ((Tab.none.add 32 (row ad32 dq32 fun p => F32 p)).add 29 (row ad29 dq29 fun p => F29 p.1 p.2.1 p.2.2.1 p.2.2.2))
noncomputable def la33 : List (List Tidy) := [[.only [1, 2, 3, 4, 10], .ids [4], .top [1000000]]]
noncomputable def hd33_0 (a0 : El T25) (a1 : Int) (a2 : Int) (a3 : Int) (ps10 : Int) : St := { tm := slots (nat_lit 36) [(nat_lit 1, AV.sc (Value.int IntKind.i64 a1)), (nat_lit 2, AV.sc (Value.int IntKind.i64 a2)), (nat_lit 3, AV.sc (Value.int IntKind.i64 a3)), (nat_lit 4, AV.ptr (nat_lit 4) (nat_lit 0)), (nat_lit 10, AV.sc (Value.int IntKind.i64 ps10))], H := [(nat_lit 4, ABlk.box (nat_lit 25) (cellsOf T25 a0))] }
noncomputable def b33_0 (F32 : Int → Option (Int)) (F29 : (El T25) → (El T42) → Int → Int → Option (Bool)) (K : Nat) (a0 : El T25) (a1 : Int) (a2 : Int) (a3 : Int) (r0 : Int → Option (Int × Bool)) (ps10 : Int) : Option (Int × Bool) :=
  (Option.bind (F32 a0.1) fun x0 => (if decide (ps10 < x0) = true then 
    (Option.bind (F29 a0 (ps10, a1) a2 a3) fun x1 => (if x1 = true then some ((ps10, true))
     else 
      (Option.bind (F32 a1) fun x2 => r0 (IntKind.i64.wrap (ps10 + x2)))))
   else some (((0 : Int), false))))
noncomputable def L33_0 (F32 : Int → Option (Int)) (F29 : (El T25) → (El T42) → Int → Int → Option (Bool)) (K : Nat) (a0 : El T25) (a1 : Int) (a2 : Int) (a3 : Int) : Nat → Int → Option (Int × Bool)
  | 0, _ => none
  | n + 1, ps10 => b33_0 F32 F29 K a0 a1 a2 a3 (L33_0 F32 F29 K a0 a1 a2 a3 n) ps10
noncomputable def t33 (F32 : Int → Option (Int)) (F29 : (El T25) → (El T42) → Int → Int → Option (Bool)) (K : Nat) (a0 : El T25) (a1 : Int) (a2 : Int) (a3 : Int) (l0 : Nat → Int → Option (Int × Bool)) : Option (Int × Bool) := (if decide (a1 < (0 : Int)) = true then some (((0 : Int), false))
 else (if decide (a1 > a0.1) = true then some (((0 : Int), false))
  else l0 K ((0 : Int))))
noncomputable def G33 (F32 : Int → Option (Int)) (F29 : (El T25) → (El T42) → Int → Int → Option (Bool)) (K : Nat) (a0 : El T25) (a1 : Int) (a2 : Int) (a3 : Int) : Option (Int × Bool) := t33 F32 F29 K a0 a1 a2 a3 (L33_0 F32 F29 K a0 a1 a2 a3)
theorem lp33_0 (F32 : Int → Option (Int)) (F29 : (El T25) → (El T42) → Int → Int → Option (Bool)) (K : Nat) (a0 : El T25) (a1 : Int) (a2 : Int) (a3 : Int) : ∀ (n : Nat) (ps10 : Int), loopN Try.prog (tab33 F32 F29) 0 K Try.f33 la33 dq33.k 0 [] n (hd33_0 a0 a1 a2 a3 ps10) = L33_0 F32 F29 K a0 a1 a2 a3 n ps10
  | 0, _ => by kernel_rfl
  | n + 1, ps10 => by
    have h : loopN Try.prog (tab33 F32 F29) 0 K Try.f33 la33 dq33.k 0 [] (n + 1) (hd33_0 a0 a1 a2 a3 ps10) = b33_0 F32 F29 K a0 a1 a2 a3 (fun q0 => loopN Try.prog (tab33 F32 F29) 0 K Try.f33 la33 dq33.k 0 [] n (hd33_0 a0 a1 a2 a3 q0)) ps10 := by kernel_rfl
    rw [h]
    simp only [lp33_0 F32 F29 K a0 a1 a2 a3 n]
    rfl
theorem ev33 (F32 : Int → Option (Int)) (F29 : (El T25) → (El T42) → Int → Int → Option (Bool)) (K : Nat) (a0 : El T25) (a1 : Int) (a2 : Int) (a3 : Int) : evFun Try.prog (tab33 F32 F29) 0 K Try.f33 la33 [.agg (cellsOf T25 a0), I .i64 a1, I .i64 a2, I .i64 a3] [] dq33.k = G33 F32 F29 K a0 a1 a2 a3 := by
  have h : evFun Try.prog (tab33 F32 F29) 0 K Try.f33 la33 [.agg (cellsOf T25 a0), I .i64 a1, I .i64 a2, I .i64 a3] [] dq33.k = t33 F32 F29 K a0 a1 a2 a3 (fun k q0 => loopN Try.prog (tab33 F32 F29) 0 K Try.f33 la33 dq33.k 0 [] k (hd33_0 a0 a1 a2 a3 q0)) := by kernel_rfl
  rw [h]
  simp only [lp33_0 F32 F29 K a0 a1 a2 a3]
  rfl
noncomputable def F33 (K : Nat) (a0 : El T25) (a1 : Int) (a2 : Int) (a3 : Int) : Option (Int × Bool) := G33 (F32 K) (F29 K) K a0 a1 a2 a3
theorem cok33 (K : Nat) : CallOK D Try.prog (tab33 (F32 K) (F29 K)) := (add_ok (add_ok none_ok ent32 (ok32 K)) ent29 (ok29 K))
theorem ok33 (K : Nat) : RowOK D Try.prog 33 (row ad33 dq33 fun p => F33 K p.1 p.2.1 p.2.2.1 p.2.2.2) := row_ok fun x r h => has_of (cok33 K) Try.func33 ((ev33 (F32 K) (F29 K) K x.1 x.2.1 x.2.2.1 x.2.2.2).trans h)
/-! ganger/gangerref04.Size -/
noncomputable def tab34 : Tab := Tab.none
noncomputable def la34 : List (List Tidy) := [[.only [0, 3, 4], .ids [], .top [1000000]]]
noncomputable def hd34_0 (a0 : Int) (ps3 : Int) (ps4 : Int) : St := { tm := slots (nat_lit 13) [(nat_lit 0, AV.sc (Value.int IntKind.i64 a0)), (nat_lit 3, AV.sc (Value.int IntKind.i64 ps3)), (nat_lit 4, AV.sc (Value.int IntKind.i64 ps4))], H := [] }
noncomputable def b34_0 (K : Nat) (a0 : Int) (r0 : Int → Int → Option (Int)) (ps3 : Int) (ps4 : Int) : Option (Int) :=(if decide (ps4 < a0) = true then r0 (IntKind.i64.wrap (ps3 * (2 : Int))) (IntKind.i64.wrap (ps4 + (1 : Int)))
  else some (ps3))
noncomputable def L34_0 (K : Nat) (a0 : Int) : Nat → Int → Int → Option (Int)
  | 0, _, _ => none
  | n + 1, ps3, ps4 => b34_0 K a0 (L34_0 K a0 n) ps3 ps4
noncomputable def t34 (K : Nat) (a0 : Int) (l0 : Nat → Int → Int → Option (Int)) : Option (Int) := l0 K ((1 : Int)) ((0 : Int))
noncomputable def G34 (K : Nat) (a0 : Int) : Option (Int) := t34 K a0 (L34_0 K a0)
theorem lp34_0 (K : Nat) (a0 : Int) : ∀ (n : Nat) (ps3 : Int) (ps4 : Int), loopN Try.prog (tab34) 0 K Try.f34 la34 dq34.k 0 [] n (hd34_0 a0 ps3 ps4) = L34_0 K a0 n ps3 ps4
  | 0, _, _ => by kernel_rfl
  | n + 1, ps3, ps4 => by
    have h : loopN Try.prog (tab34) 0 K Try.f34 la34 dq34.k 0 [] (n + 1) (hd34_0 a0 ps3 ps4) = b34_0 K a0 (fun q0 q1 => loopN Try.prog (tab34) 0 K Try.f34 la34 dq34.k 0 [] n (hd34_0 a0 q0 q1)) ps3 ps4 := by kernel_rfl
    rw [h]
    simp only [lp34_0 K a0 n]
    rfl
theorem ev34 (K : Nat) (a0 : Int) : evFun Try.prog (tab34) 0 K Try.f34 la34 [I .i64 a0] [] dq34.k = G34 K a0 := by
  have h : evFun Try.prog (tab34) 0 K Try.f34 la34 [I .i64 a0] [] dq34.k = t34 K a0 (fun k q0 q1 => loopN Try.prog (tab34) 0 K Try.f34 la34 dq34.k 0 [] k (hd34_0 a0 q0 q1)) := by kernel_rfl
  rw [h]
  simp only [lp34_0 K a0]
  rfl
noncomputable def F34 (K : Nat) (a0 : Int) : Option (Int) := G34 K a0
theorem cok34 (K : Nat) : CallOK D Try.prog (tab34) := none_ok
theorem ok34 (K : Nat) : RowOK D Try.prog 34 (row ad34 dq34 fun p => F34 K p) := row_ok fun x r h => has_of (cok34 K) Try.func34 ((ev34 K x).trans h)
/-! ganger/gangerref15.Fits -/
noncomputable def tab35 (F34 : Int → Option (Int)) : Tab := (Tab.none.add 34 (row ad34 dq34 fun p => F34 p))
noncomputable def t35 (F34 : Int → Option (Int)) (K : Nat) (a0 : El T25) (a1 : El T42) : Option (Bool) := (if decide (a1.2 < (0 : Int)) = true then some (false)
 else (if decide (a1.2 > a0.1) = true then some (false)
  else (if decide (a1.1 < (0 : Int)) = true then some (false)
   else 
    (Option.bind (F34 a1.2) fun x0 => (if (!x0 == (0 : Int)) = true then (if (Int.tmod a1.1 x0 == (0 : Int)) = true then 
       (Option.bind (F34 a0.1) fun x1 => some (decide (a1.1 ≤ IntKind.i64.wrap (x1 - x0))))
      else some (false))
     else none)))))
noncomputable def G35 (F34 : Int → Option (Int)) (K : Nat) (a0 : El T25) (a1 : El T42) : Option (Bool) := t35 F34 K a0 a1
theorem ev35 (F34 : Int → Option (Int)) (K : Nat) (a0 : El T25) (a1 : El T42) : evFun Try.prog (tab35 F34) 0 K Try.f35 [] [.agg (cellsOf T25 a0), .agg (cellsOf T42 a1)] [] dq35.k = G35 F34 K a0 a1 := by
  kernel_rfl
noncomputable def F35 (K : Nat) (a0 : El T25) (a1 : El T42) : Option (Bool) := G35 (F34 K) K a0 a1
theorem cok35 (K : Nat) : CallOK D Try.prog (tab35 (F34 K)) := (add_ok none_ok ent34 (ok34 K))
theorem ok35 (K : Nat) : RowOK D Try.prog 35 (row ad35 dq35 fun p => F35 K p.1 p.2) := row_ok fun x r h => has_of (cok35 K) Try.func35 ((ev35 (F34 K) K x.1 x.2).trans h)
/-! ganger/gangerref15.Check -/
noncomputable def tab21 (F34 : Int → Option (Int)) (F35 : (El T25) → (El T42) → Option (Bool)) : Tab := ((Tab.none.add 34 (row ad34 dq34 fun p => F34 p)).add 35 (row ad35 dq35 fun p => F35 p.1 p.2))
noncomputable def la21 : List (List Tidy) := [[.only [1, 3], .ids [1, 5, 17, 65, 77], .top [1000000]], [.only [1, 4], .ids [1, 17, 23, 41], .top [1000001]]]
noncomputable def hd21_0 (a0 : El T25) (ps3 : Int) : St := { tm := slots (nat_lit 96) [(nat_lit 1, AV.ptr (nat_lit 1) (nat_lit 0)), (nat_lit 3, AV.sc (Value.int IntKind.i64 ps3))], H := [(nat_lit 1, ABlk.box (nat_lit 25) (cellsOf T25 a0))] }
noncomputable def hd21_1 (a0 : El T25) (ps4 : Int) : St := { tm := slots (nat_lit 96) [(nat_lit 1, AV.ptr (nat_lit 1) (nat_lit 0)), (nat_lit 4, AV.sc (Value.int IntKind.i64 ps4))], H := [(nat_lit 1, ABlk.box (nat_lit 25) (cellsOf T25 a0))] }
noncomputable def b21_1 (F34 : Int → Option (Int)) (F35 : (El T25) → (El T42) → Option (Bool)) (K : Nat) (a0 : El T25) (r1 : Int → Option (Int)) (ps4 : Int) : Option (Int) :=(if decide (ps4 < (↑(List.length a0.2.2) : Int)) = true then (if decide ((0 : Int) ≤ ps4 ∧ ps4 < (↑(List.length a0.2.2) : Int)) = true then 
    (Option.bind (F35 a0 (List.getD a0.2.2 ps4.toNat (zEl T47)).1) fun x1 => (if (!x1) = true then some ((2 : Int))
     else (if decide ((List.getD a0.2.2 ps4.toNat (zEl T47)).2.1 < (0 : Int)) = true then some ((2 : Int))
      else (if decide ((List.getD a0.2.2 ps4.toNat (zEl T47)).2.1 ≥ (List.getD a0.2.2 ps4.toNat (zEl T47)).2.2) = true then some ((2 : Int))
       else (if decide ((List.getD a0.2.2 ps4.toNat (zEl T47)).2.2 > (4398046511104 : Int)) = true then some ((2 : Int))
        else r1 (IntKind.i64.wrap (ps4 + (1 : Int))))))))
   else none)
  else some ((0 : Int)))
noncomputable def L21_1 (F34 : Int → Option (Int)) (F35 : (El T25) → (El T42) → Option (Bool)) (K : Nat) (a0 : El T25) : Nat → Int → Option (Int)
  | 0, _ => none
  | n + 1, ps4 => b21_1 F34 F35 K a0 (L21_1 F34 F35 K a0 n) ps4
noncomputable def b21_0 (F34 : Int → Option (Int)) (F35 : (El T25) → (El T42) → Option (Bool)) (K : Nat) (a0 : El T25) (r0 : Int → Option (Int)) (l1 : Nat → Int → Option (Int)) (ps3 : Int) : Option (Int) :=(if decide (ps3 < (↑(List.length a0.2.1) : Int)) = true then (if decide ((0 : Int) ≤ ps3 ∧ ps3 < (↑(List.length a0.2.1) : Int)) = true then (if decide (List.getD a0.2.1 ps3.toNat (zEl (Ty.int IntKind.i64)) < (0 : Int)) = true then some ((2 : Int))
    else (if decide ((0 : Int) ≤ ps3 ∧ ps3 < (↑(List.length a0.2.1) : Int)) = true then 
      (Option.bind (F34 a0.1) fun x0 => (if decide (List.getD a0.2.1 ps3.toNat (zEl (Ty.int IntKind.i64)) ≥ x0) = true then some ((2 : Int))
       else (if decide (ps3 > (0 : Int)) = true then (if decide ((0 : Int) ≤ ps3 ∧ ps3 < (↑(List.length a0.2.1) : Int)) = true then (if decide ((0 : Int) ≤ IntKind.i64.wrap (ps3 - (1 : Int)) ∧ IntKind.i64.wrap (ps3 - (1 : Int)) < (↑(List.length a0.2.1) : Int)) = true then (if decide (List.getD a0.2.1 ps3.toNat (zEl (Ty.int IntKind.i64)) ≤ List.getD a0.2.1 (IntKind.i64.wrap (ps3 - (1 : Int))).toNat (zEl (Ty.int IntKind.i64))) = true then some ((2 : Int))
           else r0 (IntKind.i64.wrap (ps3 + (1 : Int))))
          else none)
         else none)
        else r0 (IntKind.i64.wrap (ps3 + (1 : Int))))))
     else none))
   else none)
  else l1 K ((0 : Int)))
noncomputable def L21_0 (F34 : Int → Option (Int)) (F35 : (El T25) → (El T42) → Option (Bool)) (K : Nat) (a0 : El T25) : Nat → Int → Option (Int)
  | 0, _ => none
  | n + 1, ps3 => b21_0 F34 F35 K a0 (L21_0 F34 F35 K a0 n) (L21_1 F34 F35 K a0) ps3
noncomputable def t21 (F34 : Int → Option (Int)) (F35 : (El T25) → (El T42) → Option (Bool)) (K : Nat) (a0 : El T25) (l0 : Nat → Int → Option (Int)) : Option (Int) := (if decide (a0.1 < (0 : Int)) = true then some ((2 : Int))
 else (if decide (a0.1 > (10 : Int)) = true then some ((2 : Int))
  else (if decide ((↑(List.length a0.2.2) : Int) > (300 : Int)) = true then some ((2 : Int))
   else l0 K ((0 : Int)))))
noncomputable def G21 (F34 : Int → Option (Int)) (F35 : (El T25) → (El T42) → Option (Bool)) (K : Nat) (a0 : El T25) : Option (Int) := t21 F34 F35 K a0 (L21_0 F34 F35 K a0)
theorem lp21_1 (F34 : Int → Option (Int)) (F35 : (El T25) → (El T42) → Option (Bool)) (K : Nat) (a0 : El T25) : ∀ (n : Nat) (ps4 : Int), loopN Try.prog (tab21 F34 F35) 0 K Try.f21 la21 dq21.k 1 [] n (hd21_1 a0 ps4) = L21_1 F34 F35 K a0 n ps4
  | 0, _ => by kernel_rfl
  | n + 1, ps4 => by
    have h : loopN Try.prog (tab21 F34 F35) 0 K Try.f21 la21 dq21.k 1 [] (n + 1) (hd21_1 a0 ps4) = b21_1 F34 F35 K a0 (fun q0 => loopN Try.prog (tab21 F34 F35) 0 K Try.f21 la21 dq21.k 1 [] n (hd21_1 a0 q0)) ps4 := by kernel_rfl
    rw [h]
    simp only [lp21_1 F34 F35 K a0 n]
    rfl
theorem lp21_0 (F34 : Int → Option (Int)) (F35 : (El T25) → (El T42) → Option (Bool)) (K : Nat) (a0 : El T25) : ∀ (n : Nat) (ps3 : Int), loopN Try.prog (tab21 F34 F35) 0 K Try.f21 la21 dq21.k 0 [] n (hd21_0 a0 ps3) = L21_0 F34 F35 K a0 n ps3
  | 0, _ => by kernel_rfl
  | n + 1, ps3 => by
    have h : loopN Try.prog (tab21 F34 F35) 0 K Try.f21 la21 dq21.k 0 [] (n + 1) (hd21_0 a0 ps3) = b21_0 F34 F35 K a0 (fun q0 => loopN Try.prog (tab21 F34 F35) 0 K Try.f21 la21 dq21.k 0 [] n (hd21_0 a0 q0)) (fun k q0 => loopN Try.prog (tab21 F34 F35) 0 K Try.f21 la21 dq21.k 1 [] k (hd21_1 a0 q0)) ps3 := by kernel_rfl
    rw [h]
    simp only [lp21_0 F34 F35 K a0 n, lp21_1 F34 F35 K a0]
    rfl
theorem ev21 (F34 : Int → Option (Int)) (F35 : (El T25) → (El T42) → Option (Bool)) (K : Nat) (a0 : El T25) : evFun Try.prog (tab21 F34 F35) 0 K Try.f21 la21 [.agg (cellsOf T25 a0)] [] dq21.k = G21 F34 F35 K a0 := by
  have h : evFun Try.prog (tab21 F34 F35) 0 K Try.f21 la21 [.agg (cellsOf T25 a0)] [] dq21.k = t21 F34 F35 K a0 (fun k q0 => loopN Try.prog (tab21 F34 F35) 0 K Try.f21 la21 dq21.k 0 [] k (hd21_0 a0 q0)) := by kernel_rfl
  rw [h]
  simp only [lp21_0 F34 F35 K a0]
  rfl
noncomputable def F21 (K : Nat) (a0 : El T25) : Option (Int) := G21 (F34 K) (F35 K) K a0
theorem cok21 (K : Nat) : CallOK D Try.prog (tab21 (F34 K) (F35 K)) := (add_ok (add_ok none_ok ent34 (ok34 K)) ent35 (ok35 K))
theorem ok21 (K : Nat) : RowOK D Try.prog 21 (row ad21 dq21 fun p => F21 K p) := row_ok fun x r h => has_of (cok21 K) Try.func21 ((ev21 (F34 K) (F35 K) K x).trans h)
/-! ganger/gangerref15.has -/
noncomputable def tab48 (F34 : Int → Option (Int)) : Tab := (Tab.none.add 34 (row ad34 dq34 fun p => F34 p))
noncomputable def t48 (F34 : Int → Option (Int)) (K : Nat) (a0 : El T42) (a1 : Int) : Option (Bool) := (if decide (a1 ≥ a0.1) = true then 
  (Option.bind (F34 a0.2) fun x0 => some (decide (a1 < IntKind.i64.wrap (a0.1 + x0))))
 else some (false))
noncomputable def G48 (F34 : Int → Option (Int)) (K : Nat) (a0 : El T42) (a1 : Int) : Option (Bool) := t48 F34 K a0 a1
theorem ev48 (F34 : Int → Option (Int)) (K : Nat) (a0 : El T42) (a1 : Int) : evFun Try.prog (tab48 F34) 0 K Try.f48 [] [.agg (cellsOf T42 a0), I .i64 a1] [] dq48.k = G48 F34 K a0 a1 := by
  kernel_rfl
noncomputable def F48 (K : Nat) (a0 : El T42) (a1 : Int) : Option (Bool) := G48 (F34 K) K a0 a1
theorem cok48 (K : Nat) : CallOK D Try.prog (tab48 (F34 K)) := (add_ok none_ok ent34 (ok34 K))
theorem ok48 (K : Nat) : RowOK D Try.prog 48 (row ad48 dq48 fun p => F48 K p.1 p.2) := row_ok fun x r h => has_of (cok48 K) Try.func48 ((ev48 (F34 K) K x.1 x.2).trans h)
/-! ganger/gangerref15.open -/
noncomputable def tab36 (F48 : (El T42) → Int → Option (Bool)) : Tab := (Tab.none.add 48 (row ad48 dq48 fun p => F48 p.1 p.2))
noncomputable def la36 : List (List Tidy) := [[.only [2, 3, 4, 5, 9], .ids [4, 5, 11, 29, 52, 58], .top [1000000]], [.only [2, 3, 4, 5, 10], .ids [4, 5, 15, 25], .top [1000001]]]
noncomputable def hd36_0 (a0 : El T25) (a1 : El T42) (a2 : Int) (a3 : Int) (ps9 : Int) : St := { tm := slots (nat_lit 60) [(nat_lit 2, AV.sc (Value.int IntKind.i64 a2)), (nat_lit 3, AV.sc (Value.int IntKind.i64 a3)), (nat_lit 4, AV.ptr (nat_lit 4) (nat_lit 0)), (nat_lit 5, AV.ptr (nat_lit 5) (nat_lit 0)), (nat_lit 9, AV.sc (Value.int IntKind.i64 ps9))], H := [(nat_lit 4, ABlk.box (nat_lit 25) (cellsOf T25 a0)), (nat_lit 5, ABlk.box (nat_lit 42) (cellsOf T42 a1))] }
noncomputable def hd36_1 (a0 : El T25) (a1 : El T42) (a2 : Int) (a3 : Int) (ps10 : Int) : St := { tm := slots (nat_lit 60) [(nat_lit 2, AV.sc (Value.int IntKind.i64 a2)), (nat_lit 3, AV.sc (Value.int IntKind.i64 a3)), (nat_lit 4, AV.ptr (nat_lit 4) (nat_lit 0)), (nat_lit 5, AV.ptr (nat_lit 5) (nat_lit 0)), (nat_lit 10, AV.sc (Value.int IntKind.i64 ps10))], H := [(nat_lit 4, ABlk.box (nat_lit 25) (cellsOf T25 a0)), (nat_lit 5, ABlk.box (nat_lit 42) (cellsOf T42 a1))] }
noncomputable def b36_1 (F48 : (El T42) → Int → Option (Bool)) (K : Nat) (a0 : El T25) (a1 : El T42) (a2 : Int) (a3 : Int) (r1 : Int → Option (Bool)) (ps10 : Int) : Option (Bool) :=(if decide (ps10 < (↑(List.length a0.2.2) : Int)) = true then (if decide ((0 : Int) ≤ ps10 ∧ ps10 < (↑(List.length a0.2.2) : Int)) = true then (if decide (a3 ≤ (List.getD a0.2.2 ps10.toNat (zEl T47)).2.1) = true then r1 (IntKind.i64.wrap (ps10 + (1 : Int)))
    else (if decide ((List.getD a0.2.2 ps10.toNat (zEl T47)).2.2 ≤ a2) = true then r1 (IntKind.i64.wrap (ps10 + (1 : Int)))
     else 
      (Option.bind (F48 a1 (List.getD a0.2.2 ps10.toNat (zEl T47)).1.1) fun x1 => (if x1 = true then some (false)
       else 
        (Option.bind (F48 (List.getD a0.2.2 ps10.toNat (zEl T47)).1 a1.1) fun x2 => (if x2 = true then some (false)
         else r1 (IntKind.i64.wrap (ps10 + (1 : Int)))))))))
   else none)
  else some (true))
noncomputable def L36_1 (F48 : (El T42) → Int → Option (Bool)) (K : Nat) (a0 : El T25) (a1 : El T42) (a2 : Int) (a3 : Int) : Nat → Int → Option (Bool)
  | 0, _ => none
  | n + 1, ps10 => b36_1 F48 K a0 a1 a2 a3 (L36_1 F48 K a0 a1 a2 a3 n) ps10
noncomputable def b36_0 (F48 : (El T42) → Int → Option (Bool)) (K : Nat) (a0 : El T25) (a1 : El T42) (a2 : Int) (a3 : Int) (r0 : Int → Option (Bool)) (l1 : Nat → Int → Option (Bool)) (ps9 : Int) : Option (Bool) :=(if decide (ps9 < (↑(List.length a0.2.1) : Int)) = true then (if decide ((0 : Int) ≤ ps9 ∧ ps9 < (↑(List.length a0.2.1) : Int)) = true then 
    (Option.bind (F48 a1 (List.getD a0.2.1 ps9.toNat (zEl (Ty.int IntKind.i64)))) fun x0 => (if x0 = true then some (false)
     else r0 (IntKind.i64.wrap (ps9 + (1 : Int)))))
   else none)
  else l1 K ((0 : Int)))
noncomputable def L36_0 (F48 : (El T42) → Int → Option (Bool)) (K : Nat) (a0 : El T25) (a1 : El T42) (a2 : Int) (a3 : Int) : Nat → Int → Option (Bool)
  | 0, _ => none
  | n + 1, ps9 => b36_0 F48 K a0 a1 a2 a3 (L36_0 F48 K a0 a1 a2 a3 n) (L36_1 F48 K a0 a1 a2 a3) ps9
noncomputable def t36 (F48 : (El T42) → Int → Option (Bool)) (K : Nat) (a0 : El T25) (a1 : El T42) (a2 : Int) (a3 : Int) (l0 : Nat → Int → Option (Bool)) : Option (Bool) := l0 K ((0 : Int))
noncomputable def G36 (F48 : (El T42) → Int → Option (Bool)) (K : Nat) (a0 : El T25) (a1 : El T42) (a2 : Int) (a3 : Int) : Option (Bool) := t36 F48 K a0 a1 a2 a3 (L36_0 F48 K a0 a1 a2 a3)
theorem lp36_1 (F48 : (El T42) → Int → Option (Bool)) (K : Nat) (a0 : El T25) (a1 : El T42) (a2 : Int) (a3 : Int) : ∀ (n : Nat) (ps10 : Int), loopN Try.prog (tab36 F48) 0 K Try.f36 la36 dq36.k 1 [] n (hd36_1 a0 a1 a2 a3 ps10) = L36_1 F48 K a0 a1 a2 a3 n ps10
  | 0, _ => by kernel_rfl
  | n + 1, ps10 => by
    have h : loopN Try.prog (tab36 F48) 0 K Try.f36 la36 dq36.k 1 [] (n + 1) (hd36_1 a0 a1 a2 a3 ps10) = b36_1 F48 K a0 a1 a2 a3 (fun q0 => loopN Try.prog (tab36 F48) 0 K Try.f36 la36 dq36.k 1 [] n (hd36_1 a0 a1 a2 a3 q0)) ps10 := by kernel_rfl
    rw [h]
    simp only [lp36_1 F48 K a0 a1 a2 a3 n]
    rfl
theorem lp36_0 (F48 : (El T42) → Int → Option (Bool)) (K : Nat) (a0 : El T25) (a1 : El T42) (a2 : Int) (a3 : Int) : ∀ (n : Nat) (ps9 : Int), loopN Try.prog (tab36 F48) 0 K Try.f36 la36 dq36.k 0 [] n (hd36_0 a0 a1 a2 a3 ps9) = L36_0 F48 K a0 a1 a2 a3 n ps9
  | 0, _ => by kernel_rfl
  | n + 1, ps9 => by
    have h : loopN Try.prog (tab36 F48) 0 K Try.f36 la36 dq36.k 0 [] (n + 1) (hd36_0 a0 a1 a2 a3 ps9) = b36_0 F48 K a0 a1 a2 a3 (fun q0 => loopN Try.prog (tab36 F48) 0 K Try.f36 la36 dq36.k 0 [] n (hd36_0 a0 a1 a2 a3 q0)) (fun k q0 => loopN Try.prog (tab36 F48) 0 K Try.f36 la36 dq36.k 1 [] k (hd36_1 a0 a1 a2 a3 q0)) ps9 := by kernel_rfl
    rw [h]
    simp only [lp36_0 F48 K a0 a1 a2 a3 n, lp36_1 F48 K a0 a1 a2 a3]
    rfl
theorem ev36 (F48 : (El T42) → Int → Option (Bool)) (K : Nat) (a0 : El T25) (a1 : El T42) (a2 : Int) (a3 : Int) : evFun Try.prog (tab36 F48) 0 K Try.f36 la36 [.agg (cellsOf T25 a0), .agg (cellsOf T42 a1), I .i64 a2, I .i64 a3] [] dq36.k = G36 F48 K a0 a1 a2 a3 := by
  have h : evFun Try.prog (tab36 F48) 0 K Try.f36 la36 [.agg (cellsOf T25 a0), .agg (cellsOf T42 a1), I .i64 a2, I .i64 a3] [] dq36.k = t36 F48 K a0 a1 a2 a3 (fun k q0 => loopN Try.prog (tab36 F48) 0 K Try.f36 la36 dq36.k 0 [] k (hd36_0 a0 a1 a2 a3 q0)) := by kernel_rfl
  rw [h]
  simp only [lp36_0 F48 K a0 a1 a2 a3]
  rfl
noncomputable def F36 (K : Nat) (a0 : El T25) (a1 : El T42) (a2 : Int) (a3 : Int) : Option (Bool) := G36 (F48 K) K a0 a1 a2 a3
theorem cok36 (K : Nat) : CallOK D Try.prog (tab36 (F48 K)) := (add_ok none_ok ent48 (ok48 K))
theorem ok36 (K : Nat) : RowOK D Try.prog 36 (row ad36 dq36 fun p => F36 K p.1 p.2.1 p.2.2.1 p.2.2.2) := row_ok fun x r h => has_of (cok36 K) Try.func36 ((ev36 (F48 K) K x.1 x.2.1 x.2.2.1 x.2.2.2).trans h)
end Go.Proofs.YtipfamkhplkpmaaE
