import Derived.Test.YtipfamkhplkpmaaS15F4
set_option linter.all false
namespace Go.Proofs.YtipfamkhplkpmaaE
open Go Go.Proofs
set_option maxRecDepth 100000
set_option linter.unusedVariables false
variable {D : Prop}
/-! ganger/gangerlaw15.want -/
noncomputable def tab14 : Tab := Tab.none
noncomputable def la14 : List (List Tidy) := [[.only [0, 3, 4, 6], .ids [3, 4], .top [1000000]]]
noncomputable def hd14_0 (a0 : List (El T38)) (a1 : El T44) (ps6 : Int) : St := { tm := slots (nat_lit 37) [(nat_lit 0, AV.row ((Ty.int IntKind.u32).pair T42) a0), (nat_lit 3, AV.ptr (nat_lit 3) (nat_lit 0)), (nat_lit 4, AV.ptr (nat_lit 4) (nat_lit 0)), (nat_lit 6, AV.sc (Value.int IntKind.i64 ps6))], H := [(nat_lit 3, ABlk.box (nat_lit 44) (cellsOf T44 a1)), (nat_lit 4, ABlk.box (nat_lit 38) (cellsOf T38 ((0 : Int), (0 : Int), (0 : Int))))] }
noncomputable def b14_0 (K : Nat) (a0 : List (El T38)) (a1 : El T44) (r0 : Int → Option ((El T38) × Bool)) (ps6 : Int) : Option ((El T38) × Bool) :=(if decide (ps6 < (↑a0.length : Int)) = true then (if decide ((0 : Int) ≤ ps6 ∧ ps6 < (↑a0.length : Int)) = true then (if ((a0.getD ps6.toNat (zEl ((Ty.int IntKind.u32).pair T42))).1 == a1.1) = true then (if decide ((0 : Int) ≤ ps6 ∧ ps6 < (↑a0.length : Int)) = true then (if ((a0.getD ps6.toNat (zEl ((Ty.int IntKind.u32).pair T42))).2.1 == a1.2.1.2) = true then (if decide ((0 : Int) ≤ ps6 ∧ ps6 < (↑a0.length : Int)) = true then some ((a0.getD ps6.toNat (zEl ((Ty.int IntKind.u32).pair T42)), true))
       else none)
      else r0 (IntKind.i64.wrap (ps6 + (1 : Int))))
     else none)
    else r0 (IntKind.i64.wrap (ps6 + (1 : Int))))
   else none)
  else some ((((0 : Int), (0 : Int), (0 : Int)), false)))
noncomputable def L14_0 (K : Nat) (a0 : List (El T38)) (a1 : El T44) : Nat → Int → Option ((El T38) × Bool)
  | 0, _ => none
  | n + 1, ps6 => b14_0 K a0 a1 (L14_0 K a0 a1 n) ps6
noncomputable def t14 (K : Nat) (a0 : List (El T38)) (a1 : El T44) (l0 : Nat → Int → Option ((El T38) × Bool)) : Option ((El T38) × Bool) := l0 K ((0 : Int))
noncomputable def G14 (K : Nat) (a0 : List (El T38)) (a1 : El T44) : Option ((El T38) × Bool) := t14 K a0 a1 (L14_0 K a0 a1)
theorem lp14_0 (K : Nat) (a0 : List (El T38)) (a1 : El T44) : ∀ (n : Nat) (ps6 : Int), loopN Try.prog (tab14) 0 K Try.f14 la14 dq14.k 0 [] n (hd14_0 a0 a1 ps6) = L14_0 K a0 a1 n ps6
  | 0, _ => by kernel_rfl
  | n + 1, ps6 => by
    have h : loopN Try.prog (tab14) 0 K Try.f14 la14 dq14.k 0 [] (n + 1) (hd14_0 a0 a1 ps6) = b14_0 K a0 a1 (fun q0 => loopN Try.prog (tab14) 0 K Try.f14 la14 dq14.k 0 [] n (hd14_0 a0 a1 q0)) ps6 := by kernel_rfl
    rw [h]
    simp only [lp14_0 K a0 a1 n]
    rfl
theorem ev14 (K : Nat) (a0 : List (El T38)) (a1 : El T44) : evFun Try.prog (tab14) 0 K Try.f14 la14 [.row T38 a0, .agg (cellsOf T44 a1)] [] dq14.k = G14 K a0 a1 := by
  have h : evFun Try.prog (tab14) 0 K Try.f14 la14 [.row T38 a0, .agg (cellsOf T44 a1)] [] dq14.k = t14 K a0 a1 (fun k q0 => loopN Try.prog (tab14) 0 K Try.f14 la14 dq14.k 0 [] k (hd14_0 a0 a1 q0)) := by kernel_rfl
  rw [h]
  simp only [lp14_0 K a0 a1]
  rfl
noncomputable def F14 (K : Nat) (a0 : List (El T38)) (a1 : El T44) : Option ((El T38) × Bool) := G14 K a0 a1
theorem cok14 (K : Nat) : CallOK D Try.prog (tab14) := none_ok
theorem ok14 (K : Nat) : RowOK D Try.prog 14 (row ad14 dq14 fun p => F14 K p.1 p.2) := row_ok fun x r h => has_of (cok14 K) Try.func14 ((ev14 K x.1 x.2).trans h)
/-! ganger/backfill.Free -/
noncomputable def tab15 (F18 : (El T25) → Option (Int)) (F28 : (El T25) → (El T42) → Option (Bool)) (F29 : (El T25) → (El T42) → Int → Int → Option (Bool)) : Tab := (((Tab.none.add 18 (row ad18 dq18 fun p => F18 p)).add 28 (row ad28 dq28 fun p => F28 p.1 p.2)).add 29 (row ad29 dq29 fun p => F29 p.1 p.2.1 p.2.2.1 p.2.2.2))
noncomputable def t15 (F18 : (El T25) → Option (Int)) (F28 : (El T25) → (El T42) → Option (Bool)) (F29 : (El T25) → (El T42) → Int → Int → Option (Bool)) (K : Nat) (a0 : El T25) (a1 : El T42) (a2 : Int) (a3 : Int) : Option (Bool) := 
 (Option.bind (F18 a0) fun x0 => (if (x0 == (0 : Int)) = true then 
   (Option.bind (F28 a0 a1) fun x1 => (if x1 = true then (if decide (a2 ≥ (0 : Int)) = true then (if decide (a3 > a2) = true then 
       (Option.bind (F29 a0 a1 a2 a3) fun x2 => some (x2))
      else some (false))
     else some (false))
    else some (false)))
  else some (false)))
noncomputable def G15 (F18 : (El T25) → Option (Int)) (F28 : (El T25) → (El T42) → Option (Bool)) (F29 : (El T25) → (El T42) → Int → Int → Option (Bool)) (K : Nat) (a0 : El T25) (a1 : El T42) (a2 : Int) (a3 : Int) : Option (Bool) := t15 F18 F28 F29 K a0 a1 a2 a3
theorem ev15 (F18 : (El T25) → Option (Int)) (F28 : (El T25) → (El T42) → Option (Bool)) (F29 : (El T25) → (El T42) → Int → Int → Option (Bool)) (K : Nat) (a0 : El T25) (a1 : El T42) (a2 : Int) (a3 : Int) : evFun Try.prog (tab15 F18 F28 F29) 0 K Try.f15 [] [.agg (cellsOf T25 a0), .agg (cellsOf T42 a1), I .i64 a2, I .i64 a3] [] dq15.k = G15 F18 F28 F29 K a0 a1 a2 a3 := by
  kernel_rfl
noncomputable def F15 (K : Nat) (a0 : El T25) (a1 : El T42) (a2 : Int) (a3 : Int) : Option (Bool) := G15 (F18 K) (F28 K) (F29 K) K a0 a1 a2 a3
theorem cok15 (K : Nat) : CallOK D Try.prog (tab15 (F18 K) (F28 K) (F29 K)) := (add_ok (add_ok (add_ok none_ok ent18 (ok18 K)) ent28 (ok28 K)) ent29 (ok29 K))
theorem ok15 (K : Nat) : RowOK D Try.prog 15 (row ad15 dq15 fun p => F15 K p.1 p.2.1 p.2.2.1 p.2.2.2) := row_ok fun x r h => has_of (cok15 K) Try.func15 ((ev15 (F18 K) (F28 K) (F29 K) K x.1 x.2.1 x.2.2.1 x.2.2.2).trans h)
/-! ganger/gangerref15.Same -/
noncomputable def tab25 : Tab := Tab.none
noncomputable def la25 : List (List Tidy) := [[.only [0, 1, 5], .ids [7, 9], .top [1000000]]]
noncomputable def hd25_0 (a0 : List (El T44)) (a1 : List (El T44)) (ps5 : Int) : St := { tm := slots (nat_lit 26) [(nat_lit 0, AV.row T44 a0), (nat_lit 1, AV.row T44 a1), (nat_lit 5, AV.sc (Value.int IntKind.i64 ps5))], H := [] }
noncomputable def b25_0 (K : Nat) (a0 : List (El T44)) (a1 : List (El T44)) (r0 : Int → Option (Bool)) (ps5 : Int) : Option (Bool) :=(if decide (ps5 < (↑a0.length : Int)) = true then (if decide ((0 : Int) ≤ ps5 ∧ ps5 < (↑a0.length : Int)) = true then (if decide ((0 : Int) ≤ ps5 ∧ ps5 < (↑a1.length : Int)) = true then (if (!((a0.getD ps5.toNat (zEl T44)).1 == (a1.getD ps5.toNat (zEl T44)).1 && ((a0.getD ps5.toNat (zEl T44)).2.1.1 == (a1.getD ps5.toNat (zEl T44)).2.1.1 && (a0.getD ps5.toNat (zEl T44)).2.1.2 == (a1.getD ps5.toNat (zEl T44)).2.1.2 && (a0.getD ps5.toNat (zEl T44)).2.2 == (a1.getD ps5.toNat (zEl T44)).2.2))) = true then some (false)
     else r0 (IntKind.i64.wrap (ps5 + (1 : Int))))
    else none)
   else none)
  else some (true))
noncomputable def L25_0 (K : Nat) (a0 : List (El T44)) (a1 : List (El T44)) : Nat → Int → Option (Bool)
  | 0, _ => none
  | n + 1, ps5 => b25_0 K a0 a1 (L25_0 K a0 a1 n) ps5
noncomputable def t25 (K : Nat) (a0 : List (El T44)) (a1 : List (El T44)) (l0 : Nat → Int → Option (Bool)) : Option (Bool) := (if ((↑a0.length : Int) != (↑a1.length : Int)) = true then some (false)
 else l0 K ((0 : Int)))
noncomputable def G25 (K : Nat) (a0 : List (El T44)) (a1 : List (El T44)) : Option (Bool) := t25 K a0 a1 (L25_0 K a0 a1)
theorem lp25_0 (K : Nat) (a0 : List (El T44)) (a1 : List (El T44)) : ∀ (n : Nat) (ps5 : Int), loopN Try.prog (tab25) 0 K Try.f25 la25 dq25.k 0 [] n (hd25_0 a0 a1 ps5) = L25_0 K a0 a1 n ps5
  | 0, _ => by kernel_rfl
  | n + 1, ps5 => by
    have h : loopN Try.prog (tab25) 0 K Try.f25 la25 dq25.k 0 [] (n + 1) (hd25_0 a0 a1 ps5) = b25_0 K a0 a1 (fun q0 => loopN Try.prog (tab25) 0 K Try.f25 la25 dq25.k 0 [] n (hd25_0 a0 a1 q0)) ps5 := by kernel_rfl
    rw [h]
    simp only [lp25_0 K a0 a1 n]
    rfl
theorem ev25 (K : Nat) (a0 : List (El T44)) (a1 : List (El T44)) : evFun Try.prog (tab25) 0 K Try.f25 la25 [.row T44 a0, .row T44 a1] [] dq25.k = G25 K a0 a1 := by
  have h : evFun Try.prog (tab25) 0 K Try.f25 la25 [.row T44 a0, .row T44 a1] [] dq25.k = t25 K a0 a1 (fun k q0 => loopN Try.prog (tab25) 0 K Try.f25 la25 dq25.k 0 [] k (hd25_0 a0 a1 q0)) := by kernel_rfl
  rw [h]
  simp only [lp25_0 K a0 a1]
  rfl
noncomputable def F25 (K : Nat) (a0 : List (El T44)) (a1 : List (El T44)) : Option (Bool) := G25 K a0 a1
theorem cok25 (K : Nat) : CallOK D Try.prog (tab25) := none_ok
theorem ok25 (K : Nat) : RowOK D Try.prog 25 (row ad25 dq25 fun p => F25 K p.1 p.2) := row_ok fun x r h => has_of (cok25 K) Try.func25 ((ev25 K x.1 x.2).trans h)
/-! ganger/backfill.At -/
noncomputable def tab19 (F18 : (El T25) → Option (Int)) (F33 : (El T25) → Int → Int → Int → Option (Int × Bool)) : Tab := ((Tab.none.add 18 (row ad18 dq18 fun p => F18 p)).add 33 (row ad33 dq33 fun p => F33 p.1 p.2.1 p.2.2.1 p.2.2.2))
noncomputable def t19 (F18 : (El T25) → Option (Int)) (F33 : (El T25) → Int → Int → Int → Option (Int × Bool)) (K : Nat) (a0 : El T25) (a1 : Int) (a2 : Int) (a3 : Int) : Option (Int × Bool) := 
 (Option.bind (F18 a0) fun x0 => (if (x0 != (0 : Int)) = true then some (((0 : Int), false))
  else (if decide (a2 < (0 : Int)) = true then some (((0 : Int), false))
   else (if decide (a3 ≤ a2) = true then some (((0 : Int), false))
    else 
     (Option.bind (F33 a0 a1 a2 a3) fun x1 => some (x1))))))
noncomputable def G19 (F18 : (El T25) → Option (Int)) (F33 : (El T25) → Int → Int → Int → Option (Int × Bool)) (K : Nat) (a0 : El T25) (a1 : Int) (a2 : Int) (a3 : Int) : Option (Int × Bool) := t19 F18 F33 K a0 a1 a2 a3
theorem ev19 (F18 : (El T25) → Option (Int)) (F33 : (El T25) → Int → Int → Int → Option (Int × Bool)) (K : Nat) (a0 : El T25) (a1 : Int) (a2 : Int) (a3 : Int) : evFun Try.prog (tab19 F18 F33) 0 K Try.f19 [] [.agg (cellsOf T25 a0), I .i64 a1, I .i64 a2, I .i64 a3] [] dq19.k = G19 F18 F33 K a0 a1 a2 a3 := by
  kernel_rfl
noncomputable def F19 (K : Nat) (a0 : El T25) (a1 : Int) (a2 : Int) (a3 : Int) : Option (Int × Bool) := G19 (F18 K) (F33 K) K a0 a1 a2 a3
theorem cok19 (K : Nat) : CallOK D Try.prog (tab19 (F18 K) (F33 K)) := (add_ok (add_ok none_ok ent18 (ok18 K)) ent33 (ok33 K))
theorem ok19 (K : Nat) : RowOK D Try.prog 19 (row ad19 dq19 fun p => F19 K p.1 p.2.1 p.2.2.1 p.2.2.2) := row_ok fun x r h => has_of (cok19 K) Try.func19 ((ev19 (F18 K) (F33 K) K x.1 x.2.1 x.2.2.1 x.2.2.2).trans h)
end Go.Proofs.YtipfamkhplkpmaaE
