import Derived.Test.YtipfamkhplkpmaaS15W45
set_option linter.all false
namespace Go.Proofs.YtipfamkhplkpmaaE
open Go Go.Proofs
set_option maxRecDepth 100000
set_option linter.unusedVariables false
variable {D : Prop}
/-! ganger/backfill.earliest -/
noncomputable def tab30 (F45 : Unit → List (El (.int .i64)) → Option (List (El (.int .i64)))) (F46 : Unit → List (El (.int .i64)) → Option (List (El (.int .i64)))) (F33 : (El T25) → Int → Int → Int → Option (Int × Bool)) : Tab := (((Tab.none.addW 45 (rowW (.int .i64) ad45 F45 false)).addW 46 (rowW (.int .i64) ad46 F46 true)).add 33 (row ad33 dq33 fun p => F33 p.1 p.2.1 p.2.2.1 p.2.2.2))
noncomputable def la30 : List (List Tidy) := [[.only [1, 2, 3, 4, 11, 21, 22, 23], .ren 35 19, .ids [4, 19, 22, 35, 38, 40, 41, 53], .top [1000000]], [.only [1, 3, 4, 40, 41, 42], .ids [4, 13, 19, 22, 34, 35, 38, 40, 41], .top [1000001]]]
noncomputable def hd30_0 (a0 : El T25) (a1 : Int) (a2 : Int) (a3 : Int) (ps23 : Int) (ph19 : List (Int)) : St := { tm := slots (nat_lit 60) [(nat_lit 1, AV.sc (Value.int IntKind.i64 a1)), (nat_lit 2, AV.sc (Value.int IntKind.i64 a2)), (nat_lit 3, AV.sc (Value.int IntKind.i64 a3)), (nat_lit 4, AV.ptr (nat_lit 4) (nat_lit 0)), (nat_lit 11, AV.own (nat_lit 19)), (nat_lit 21, AV.row T47 a0.2.2), (nat_lit 22, AV.sc (Value.int IntKind.i64 (↑(List.length a0.2.2) : Int))), (nat_lit 23, AV.sc (Value.int IntKind.i64 ps23))], H := [(nat_lit 4, ABlk.box (nat_lit 25) (cellsOf T25 a0)), (nat_lit 19, ABlk.arr (nat_lit 3) (Ty.int IntKind.i64) ph19)] }
noncomputable def hd30_1 (a0 : El T25) (a1 : Int) (a2 : Int) (a3 : Int) (ps41 : Int) (ps42 : Int) (ph40 : List (Int)) : St := { tm := slots (nat_lit 60) [(nat_lit 1, AV.sc (Value.int IntKind.i64 a1)), (nat_lit 3, AV.sc (Value.int IntKind.i64 a3)), (nat_lit 4, AV.ptr (nat_lit 4) (nat_lit 0)), (nat_lit 40, AV.own (nat_lit 40)), (nat_lit 41, AV.sc (Value.int IntKind.i64 ps41)), (nat_lit 42, AV.sc (Value.int IntKind.i64 ps42))], H := [(nat_lit 4, ABlk.box (nat_lit 25) (cellsOf T25 a0)), (nat_lit 40, ABlk.arr (nat_lit 3) (Ty.int IntKind.i64) ph40)] }
noncomputable def b30_1 (F45 : Unit → List (El (.int .i64)) → Option (List (El (.int .i64)))) (F46 : Unit → List (El (.int .i64)) → Option (List (El (.int .i64)))) (F33 : (El T25) → Int → Int → Int → Option (Int × Bool)) (K : Nat) (a0 : El T25) (a1 : Int) (a2 : Int) (a3 : Int) (r1 : Int → Int → (List (Int)) → Option (Int × Int × Int)) (ps41 : Int) (ps42 : Int) (ph40 : List (Int)) : Option (Int × Int × Int) :=(if decide (ps42 < ps41) = true then (if decide ((0 : Int) ≤ ps42 ∧ ps42 < (↑ph40.length : Int)) = true then 
    (Option.bind (F33 a0 a1 (ph40.getD ps42.toNat (zEl (Ty.int IntKind.i64))) (IntKind.i64.wrap (ph40.getD ps42.toNat (zEl (Ty.int IntKind.i64)) + a3))) fun x2 => (if x2.2 = true then some ((ph40.getD ps42.toNat (zEl (Ty.int IntKind.i64)), x2.1, (0 : Int)))
     else r1 (ps41) (IntKind.i64.wrap (ps42 + (1 : Int))) (ph40)))
   else none)
  else some (((0 : Int), (0 : Int), (5 : Int))))
noncomputable def L30_1 (F45 : Unit → List (El (.int .i64)) → Option (List (El (.int .i64)))) (F46 : Unit → List (El (.int .i64)) → Option (List (El (.int .i64)))) (F33 : (El T25) → Int → Int → Int → Option (Int × Bool)) (K : Nat) (a0 : El T25) (a1 : Int) (a2 : Int) (a3 : Int) : Nat → Int → Int → (List (Int)) → Option (Int × Int × Int)
  | 0, _, _, _ => none
  | n + 1, ps41, ps42, ph40 => b30_1 F45 F46 F33 K a0 a1 a2 a3 (L30_1 F45 F46 F33 K a0 a1 a2 a3 n) ps41 ps42 ph40
noncomputable def b30_0 (F45 : Unit → List (El (.int .i64)) → Option (List (El (.int .i64)))) (F46 : Unit → List (El (.int .i64)) → Option (List (El (.int .i64)))) (F33 : (El T25) → Int → Int → Int → Option (Int × Bool)) (K : Nat) (a0 : El T25) (a1 : Int) (a2 : Int) (a3 : Int) (r0 : Int → (List (Int)) → Option (Int × Int × Int)) (l1 : Nat → Int → Int → (List (Int)) → Option (Int × Int × Int)) (ps23 : Int) (ph19 : List (Int)) : Option (Int × Int × Int) :=(if decide (ps23 < (↑(List.length a0.2.2) : Int)) = true then (if decide ((0 : Int) ≤ ps23 ∧ ps23 < (↑(List.length a0.2.2) : Int)) = true then (if decide ((List.getD a0.2.2 ps23.toNat (zEl T47)).2.2 > a2) = true then (if decide ((ph19.length + [(List.getD a0.2.2 ps23.toNat (zEl T47)).2.2].length) * Try.prog.types[(3 : Nat)].bytes ≤ (140737488355328 : Nat)) = true then r0 (IntKind.i64.wrap (ps23 + (1 : Int))) (ph19 ++ [(List.getD a0.2.2 ps23.toNat (zEl T47)).2.2])
     else none)
    else r0 (IntKind.i64.wrap (ps23 + (1 : Int))) (ph19))
   else none)
  else 
   (Option.bind (F45 () ph19) fun x0 => 
    (Option.bind (F46 () x0) fun x1 => l1 K ((↑x1.length : Int)) ((0 : Int)) (x1))))
noncomputable def L30_0 (F45 : Unit → List (El (.int .i64)) → Option (List (El (.int .i64)))) (F46 : Unit → List (El (.int .i64)) → Option (List (El (.int .i64)))) (F33 : (El T25) → Int → Int → Int → Option (Int × Bool)) (K : Nat) (a0 : El T25) (a1 : Int) (a2 : Int) (a3 : Int) : Nat → Int → (List (Int)) → Option (Int × Int × Int)
  | 0, _, _ => none
  | n + 1, ps23, ph19 => b30_0 F45 F46 F33 K a0 a1 a2 a3 (L30_0 F45 F46 F33 K a0 a1 a2 a3 n) (L30_1 F45 F46 F33 K a0 a1 a2 a3) ps23 ph19
noncomputable def t30 (F45 : Unit → List (El (.int .i64)) → Option (List (El (.int .i64)))) (F46 : Unit → List (El (.int .i64)) → Option (List (El (.int .i64)))) (F33 : (El T25) → Int → Int → Int → Option (Int × Bool)) (K : Nat) (a0 : El T25) (a1 : Int) (a2 : Int) (a3 : Int) (l0 : Nat → Int → (List (Int)) → Option (Int × Int × Int)) : Option (Int × Int × Int) := l0 K ((0 : Int)) ([a2])
noncomputable def G30 (F45 : Unit → List (El (.int .i64)) → Option (List (El (.int .i64)))) (F46 : Unit → List (El (.int .i64)) → Option (List (El (.int .i64)))) (F33 : (El T25) → Int → Int → Int → Option (Int × Bool)) (K : Nat) (a0 : El T25) (a1 : Int) (a2 : Int) (a3 : Int) : Option (Int × Int × Int) := t30 F45 F46 F33 K a0 a1 a2 a3 (L30_0 F45 F46 F33 K a0 a1 a2 a3)
theorem lp30_1 (F45 : Unit → List (El (.int .i64)) → Option (List (El (.int .i64)))) (F46 : Unit → List (El (.int .i64)) → Option (List (El (.int .i64)))) (F33 : (El T25) → Int → Int → Int → Option (Int × Bool)) (K : Nat) (a0 : El T25) (a1 : Int) (a2 : Int) (a3 : Int) : ∀ (n : Nat) (ps41 : Int) (ps42 : Int) (ph40 : List (Int)), loopN Try.prog (tab30 F45 F46 F33) 0 K Try.f30 la30 dq30.k 1 [] n (hd30_1 a0 a1 a2 a3 ps41 ps42 ph40) = L30_1 F45 F46 F33 K a0 a1 a2 a3 n ps41 ps42 ph40
  | 0, _, _, _ => by kernel_rfl
  | n + 1, ps41, ps42, ph40 => by
    have h : loopN Try.prog (tab30 F45 F46 F33) 0 K Try.f30 la30 dq30.k 1 [] (n + 1) (hd30_1 a0 a1 a2 a3 ps41 ps42 ph40) = b30_1 F45 F46 F33 K a0 a1 a2 a3 (fun q0 q1 q2 => loopN Try.prog (tab30 F45 F46 F33) 0 K Try.f30 la30 dq30.k 1 [] n (hd30_1 a0 a1 a2 a3 q0 q1 q2)) ps41 ps42 ph40 := by kernel_rfl
    rw [h]
    simp only [lp30_1 F45 F46 F33 K a0 a1 a2 a3 n]
    rfl
theorem lp30_0 (F45 : Unit → List (El (.int .i64)) → Option (List (El (.int .i64)))) (F46 : Unit → List (El (.int .i64)) → Option (List (El (.int .i64)))) (F33 : (El T25) → Int → Int → Int → Option (Int × Bool)) (K : Nat) (a0 : El T25) (a1 : Int) (a2 : Int) (a3 : Int) : ∀ (n : Nat) (ps23 : Int) (ph19 : List (Int)), loopN Try.prog (tab30 F45 F46 F33) 0 K Try.f30 la30 dq30.k 0 [] n (hd30_0 a0 a1 a2 a3 ps23 ph19) = L30_0 F45 F46 F33 K a0 a1 a2 a3 n ps23 ph19
  | 0, _, _ => by kernel_rfl
  | n + 1, ps23, ph19 => by
    have h : loopN Try.prog (tab30 F45 F46 F33) 0 K Try.f30 la30 dq30.k 0 [] (n + 1) (hd30_0 a0 a1 a2 a3 ps23 ph19) = b30_0 F45 F46 F33 K a0 a1 a2 a3 (fun q0 q1 => loopN Try.prog (tab30 F45 F46 F33) 0 K Try.f30 la30 dq30.k 0 [] n (hd30_0 a0 a1 a2 a3 q0 q1)) (fun k q0 q1 q2 => loopN Try.prog (tab30 F45 F46 F33) 0 K Try.f30 la30 dq30.k 1 [] k (hd30_1 a0 a1 a2 a3 q0 q1 q2)) ps23 ph19 := by kernel_rfl
    rw [h]
    simp only [lp30_0 F45 F46 F33 K a0 a1 a2 a3 n, lp30_1 F45 F46 F33 K a0 a1 a2 a3]
    rfl
theorem ev30 (F45 : Unit → List (El (.int .i64)) → Option (List (El (.int .i64)))) (F46 : Unit → List (El (.int .i64)) → Option (List (El (.int .i64)))) (F33 : (El T25) → Int → Int → Int → Option (Int × Bool)) (K : Nat) (a0 : El T25) (a1 : Int) (a2 : Int) (a3 : Int) : evFun Try.prog (tab30 F45 F46 F33) 0 K Try.f30 la30 [.agg (cellsOf T25 a0), I .i64 a1, I .i64 a2, I .i64 a3] [] dq30.k = G30 F45 F46 F33 K a0 a1 a2 a3 := by
  have h : evFun Try.prog (tab30 F45 F46 F33) 0 K Try.f30 la30 [.agg (cellsOf T25 a0), I .i64 a1, I .i64 a2, I .i64 a3] [] dq30.k = t30 F45 F46 F33 K a0 a1 a2 a3 (fun k q0 q1 => loopN Try.prog (tab30 F45 F46 F33) 0 K Try.f30 la30 dq30.k 0 [] k (hd30_0 a0 a1 a2 a3 q0 q1)) := by kernel_rfl
  rw [h]
  simp only [lp30_0 F45 F46 F33 K a0 a1 a2 a3]
  rfl
noncomputable def F30 (K : Nat) (a0 : El T25) (a1 : Int) (a2 : Int) (a3 : Int) : Option (Int × Int × Int) := G30 (F45 K) (F46 K) (F33 K) K a0 a1 a2 a3
theorem cok30 (K : Nat) : CallOK D Try.prog (tab30 (F45 K) (F46 K) (F33 K)) := (add_ok (addW_ok (addW_ok none_ok ent45 (ok45 K)) ent46 (ok46 K)) ent33 (ok33 K))
theorem ok30 (K : Nat) : RowOK D Try.prog 30 (row ad30 dq30 fun p => F30 K p.1 p.2.1 p.2.2.1 p.2.2.2) := row_ok fun x r h => has_of (cok30 K) Try.func30 ((ev30 (F45 K) (F46 K) (F33 K) K x.1 x.2.1 x.2.2.1 x.2.2.2).trans h)
/-! ganger/backfill.Earliest -/
noncomputable def tab16 (F18 : (El T25) → Option (Int)) (F30 : (El T25) → Int → Int → Int → Option (Int × Int × Int)) : Tab := ((Tab.none.add 18 (row ad18 dq18 fun p => F18 p)).add 30 (row ad30 dq30 fun p => F30 p.1 p.2.1 p.2.2.1 p.2.2.2))
noncomputable def t16 (F18 : (El T25) → Option (Int)) (F30 : (El T25) → Int → Int → Int → Option (Int × Int × Int)) (K : Nat) (a0 : El T25) (a1 : Int) (a2 : Int) (a3 : Int) : Option (Int × Int × Int) := 
 (Option.bind (F18 a0) fun x0 => (if (x0 != (0 : Int)) = true then some (((0 : Int), (0 : Int), (2 : Int)))
  else (if decide (a1 < (0 : Int)) = true then some (((0 : Int), (0 : Int), (2 : Int)))
   else (if decide (a1 > a0.1) = true then some (((0 : Int), (0 : Int), (2 : Int)))
    else (if decide (a2 < (0 : Int)) = true then some (((0 : Int), (0 : Int), (2 : Int)))
     else (if decide (a2 > (1099511627776 : Int)) = true then some (((0 : Int), (0 : Int), (2 : Int)))
      else (if decide (a3 < (1 : Int)) = true then some (((0 : Int), (0 : Int), (2 : Int)))
       else (if decide (a3 > (1099511627776 : Int)) = true then some (((0 : Int), (0 : Int), (2 : Int)))
        else 
         (Option.bind (F30 a0 a1 a2 a3) fun x1 => some (x1))))))))))
noncomputable def G16 (F18 : (El T25) → Option (Int)) (F30 : (El T25) → Int → Int → Int → Option (Int × Int × Int)) (K : Nat) (a0 : El T25) (a1 : Int) (a2 : Int) (a3 : Int) : Option (Int × Int × Int) := t16 F18 F30 K a0 a1 a2 a3
theorem ev16 (F18 : (El T25) → Option (Int)) (F30 : (El T25) → Int → Int → Int → Option (Int × Int × Int)) (K : Nat) (a0 : El T25) (a1 : Int) (a2 : Int) (a3 : Int) : evFun Try.prog (tab16 F18 F30) 0 K Try.f16 [] [.agg (cellsOf T25 a0), I .i64 a1, I .i64 a2, I .i64 a3] [] dq16.k = G16 F18 F30 K a0 a1 a2 a3 := by
  kernel_rfl
noncomputable def F16 (K : Nat) (a0 : El T25) (a1 : Int) (a2 : Int) (a3 : Int) : Option (Int × Int × Int) := G16 (F18 K) (F30 K) K a0 a1 a2 a3
theorem cok16 (K : Nat) : CallOK D Try.prog (tab16 (F18 K) (F30 K)) := (add_ok (add_ok none_ok ent18 (ok18 K)) ent30 (ok30 K))
theorem ok16 (K : Nat) : RowOK D Try.prog 16 (row ad16 dq16 fun p => F16 K p.1 p.2.1 p.2.2.1 p.2.2.2) := row_ok fun x r h => has_of (cok16 K) Try.func16 ((ev16 (F18 K) (F30 K) K x.1 x.2.1 x.2.2.1 x.2.2.2).trans h)
/-! ganger/backfill.plan -/
noncomputable def tab1037 (F18 : (El T25) → Option (Int)) (F49 : (List (El T47)) → Option (List (El T47))) (F30 : (El T25) → Int → Int → Int → Option (Int × Int × Int)) (F33 : (El T25) → Int → Int → Int → Option (Int × Bool)) (F40 : Int → Option (Bool)) (F41 : Int → Option (Bool)) : Tab := ((((((Tab.none.add 18 (row ad18 dq18 fun p => F18 p)).add 49 (row ad49 dq49 fun p => F49 p)).add 30 (row ad30 dq30 fun p => F30 p.1 p.2.1 p.2.2.1 p.2.2.2)).add 33 (row ad33 dq33 fun p => F33 p.1 p.2.1 p.2.2.1 p.2.2.2)).add 40 (row ad40 dq40 fun p => F40 p)).add 41 (row ad41 dq41 fun p => F41 p))
noncomputable def la1037 : List (List Tidy) := [[.only [1, 2, 4, 7, 40, 41, 42], .ids [4, 7, 13, 16, 23, 25, 37, 41, 63, 66, 83, 99, 109, 117, 132, 133, 143, 144, 149], .top [1000000]], [.only [2, 4, 7, 12, 13, 14, 65, 66, 67], .pro 12 133 44 (T44), .ren 144 63, .ids [4, 7, 11, 13, 25, 37, 41, 63, 66, 133, 144], .top [1000001]]]
noncomputable def hd1037_0 (a0 : El T25) (a1 : List (El T38)) (a2 : Int) (a3 : (Unit × Unit)) (ps42 : Int) : St := { tm := slots (nat_lit 153) [(nat_lit 1, AV.row ((Ty.int IntKind.u32).pair T42) a1), (nat_lit 2, AV.sc (Value.int IntKind.i64 a2)), (nat_lit 4, AV.ptr (nat_lit 4) (nat_lit 0)), (nat_lit 7, AV.ptr (nat_lit 7) (nat_lit 0)), (nat_lit 40, AV.row ((Ty.int IntKind.u32).pair T42) a1), (nat_lit 41, AV.sc (Value.int IntKind.i64 (↑a1.length : Int))), (nat_lit 42, AV.sc (Value.int IntKind.i64 ps42))], H := [(nat_lit 4, ABlk.box (nat_lit 25) (cellsOf T25 a0)), (nat_lit 7, ABlk.box (nat_lit 68) [AV.fn (nat_lit 40) [], AV.fn (nat_lit 41) []])] }
noncomputable def hd1037_1 (a0 : El T25) (a1 : List (El T38)) (a2 : Int) (a3 : (Unit × Unit)) (ps14 : Int) (ps67 : Int) (ph63 : List (El T47)) (ph133 : List (El T44)) : St := { tm := slots (nat_lit 153) [(nat_lit 2, AV.sc (Value.int IntKind.i64 a2)), (nat_lit 4, AV.ptr (nat_lit 4) (nat_lit 0)), (nat_lit 7, AV.ptr (nat_lit 7) (nat_lit 0)), (nat_lit 12, AV.own (nat_lit 133)), (nat_lit 13, AV.ptr (nat_lit 13) (nat_lit 0)), (nat_lit 14, AV.sc (Value.int IntKind.i64 ps14)), (nat_lit 65, AV.row ((Ty.int IntKind.u32).pair T42) a1), (nat_lit 66, AV.sc (Value.int IntKind.i64 (↑a1.length : Int))), (nat_lit 67, AV.sc (Value.int IntKind.i64 ps67))], H := [(nat_lit 4, ABlk.box (nat_lit 25) [AV.sc (Value.int IntKind.i64 a0.1), AV.row (Ty.int IntKind.i64) a0.2.1, AV.own (nat_lit 63)]), (nat_lit 7, ABlk.box (nat_lit 68) [AV.fn (nat_lit 40) [], AV.fn (nat_lit 41) []]), (nat_lit 13, ABlk.box (nat_lit 25) (cellsOf T25 a0)), (nat_lit 63, ABlk.arr (nat_lit 47) T47 ph63), (nat_lit 133, ABlk.arr (nat_lit 44) T44 ph133)] }
noncomputable def b1037_1 (F18 : (El T25) → Option (Int)) (F49 : (List (El T47)) → Option (List (El T47))) (F30 : (El T25) → Int → Int → Int → Option (Int × Int × Int)) (F33 : (El T25) → Int → Int → Int → Option (Int × Bool)) (F40 : Int → Option (Bool)) (F41 : Int → Option (Bool)) (K : Nat) (a0 : El T25) (a1 : List (El T38)) (a2 : Int) (a3 : (Unit × Unit)) (r1 : Int → Int → (List (El T47)) → (List (El T44)) → Option ((List (El T44)) × Int)) (ps14 : Int) (ps67 : Int) (ph63 : List (El T47)) (ph133 : List (El T44)) : Option ((List (El T44)) × Int) :=(if decide (ps67 < (↑a1.length : Int)) = true then (if decide ((0 : Int) ≤ ps67 ∧ ps67 < (↑a1.length : Int)) = true then (if decide ((a1.getD ps67.toNat (zEl ((Ty.int IntKind.u32).pair T42))).2.1 > a0.1) = true then r1 (ps14) (IntKind.i64.wrap (ps67 + (1 : Int))) (ph63) (ph133)
    else 
     (Option.bind (F30 a0 (a1.getD ps67.toNat (zEl ((Ty.int IntKind.u32).pair T42))).2.1 a2 (a1.getD ps67.toNat (zEl ((Ty.int IntKind.u32).pair T42))).2.2) fun x2 => (if (x2.2.2 != (0 : Int)) = true then r1 (ps14) (IntKind.i64.wrap (ps67 + (1 : Int))) (ph63) (ph133)
      else 
       (Option.bind (F33 (a0.1, a0.2.1, ph63) (a1.getD ps67.toNat (zEl ((Ty.int IntKind.u32).pair T42))).2.1 a2 (IntKind.i64.wrap (a2 + (a1.getD ps67.toNat (zEl ((Ty.int IntKind.u32).pair T42))).2.2))) fun x3 => (if (!x3.2) = true then 
         (Option.bind (F40 (IntKind.i64.wrap (ps14 + (1 : Int)))) fun x4 => (if x4 = true then 
           (Option.bind (F30 (a0.1, a0.2.1, ph63) (a1.getD ps67.toNat (zEl ((Ty.int IntKind.u32).pair T42))).2.1 a2 (a1.getD ps67.toNat (zEl ((Ty.int IntKind.u32).pair T42))).2.2) fun x5 => (if decide ((ph133.length + [((a1.getD ps67.toNat (zEl ((Ty.int IntKind.u32).pair T42))).1, (x5.2.1, (a1.getD ps67.toNat (zEl ((Ty.int IntKind.u32).pair T42))).2.1), x5.1)].length) * Try.prog.types[(44 : Nat)].bytes ≤ (140737488355328 : Nat)) = true then (if decide ((ph63.length + [((x5.2.1, (a1.getD ps67.toNat (zEl ((Ty.int IntKind.u32).pair T42))).2.1), x5.1, IntKind.i64.wrap (x5.1 + (a1.getD ps67.toNat (zEl ((Ty.int IntKind.u32).pair T42))).2.2))].length) * Try.prog.types[(47 : Nat)].bytes ≤ (140737488355328 : Nat)) = true then 
              (Option.bind (F41 (IntKind.i64.wrap (ps14 + (1 : Int)))) fun x6 => (if (!x6) = true then some ((ph133 ++ [((a1.getD ps67.toNat (zEl ((Ty.int IntKind.u32).pair T42))).1, (x5.2.1, (a1.getD ps67.toNat (zEl ((Ty.int IntKind.u32).pair T42))).2.1), x5.1)], (0 : Int)))
               else r1 (IntKind.i64.wrap (ps14 + (1 : Int))) (IntKind.i64.wrap (ps67 + (1 : Int))) (ph63 ++ [((x5.2.1, (a1.getD ps67.toNat (zEl ((Ty.int IntKind.u32).pair T42))).2.1), x5.1, IntKind.i64.wrap (x5.1 + (a1.getD ps67.toNat (zEl ((Ty.int IntKind.u32).pair T42))).2.2))]) (ph133 ++ [((a1.getD ps67.toNat (zEl ((Ty.int IntKind.u32).pair T42))).1, (x5.2.1, (a1.getD ps67.toNat (zEl ((Ty.int IntKind.u32).pair T42))).2.1), x5.1)])))
             else none)
            else none))
          else (if x3.2 = true then (if decide ((ph133.length + [((a1.getD ps67.toNat (zEl ((Ty.int IntKind.u32).pair T42))).1, (x3.1, (a1.getD ps67.toNat (zEl ((Ty.int IntKind.u32).pair T42))).2.1), a2)].length) * Try.prog.types[(44 : Nat)].bytes ≤ (140737488355328 : Nat)) = true then (if decide ((ph63.length + [((x3.1, (a1.getD ps67.toNat (zEl ((Ty.int IntKind.u32).pair T42))).2.1), a2, IntKind.i64.wrap (a2 + (a1.getD ps67.toNat (zEl ((Ty.int IntKind.u32).pair T42))).2.2))].length) * Try.prog.types[(47 : Nat)].bytes ≤ (140737488355328 : Nat)) = true then 
              (Option.bind (F41 (IntKind.i64.wrap (ps14 + (1 : Int)))) fun x7 => (if (!x7) = true then some ((ph133 ++ [((a1.getD ps67.toNat (zEl ((Ty.int IntKind.u32).pair T42))).1, (x3.1, (a1.getD ps67.toNat (zEl ((Ty.int IntKind.u32).pair T42))).2.1), a2)], (0 : Int)))
               else r1 (IntKind.i64.wrap (ps14 + (1 : Int))) (IntKind.i64.wrap (ps67 + (1 : Int))) (ph63 ++ [((x3.1, (a1.getD ps67.toNat (zEl ((Ty.int IntKind.u32).pair T42))).2.1), a2, IntKind.i64.wrap (a2 + (a1.getD ps67.toNat (zEl ((Ty.int IntKind.u32).pair T42))).2.2))]) (ph133 ++ [((a1.getD ps67.toNat (zEl ((Ty.int IntKind.u32).pair T42))).1, (x3.1, (a1.getD ps67.toNat (zEl ((Ty.int IntKind.u32).pair T42))).2.1), a2)])))
             else none)
            else none)
           else 
            (Option.bind (F41 (IntKind.i64.wrap (ps14 + (1 : Int)))) fun x8 => (if (!x8) = true then some ((ph133, (0 : Int)))
             else r1 (IntKind.i64.wrap (ps14 + (1 : Int))) (IntKind.i64.wrap (ps67 + (1 : Int))) (ph63) (ph133))))))
        else (if x3.2 = true then (if decide ((ph133.length + [((a1.getD ps67.toNat (zEl ((Ty.int IntKind.u32).pair T42))).1, (x3.1, (a1.getD ps67.toNat (zEl ((Ty.int IntKind.u32).pair T42))).2.1), a2)].length) * Try.prog.types[(44 : Nat)].bytes ≤ (140737488355328 : Nat)) = true then (if decide ((ph63.length + [((x3.1, (a1.getD ps67.toNat (zEl ((Ty.int IntKind.u32).pair T42))).2.1), a2, IntKind.i64.wrap (a2 + (a1.getD ps67.toNat (zEl ((Ty.int IntKind.u32).pair T42))).2.2))].length) * Try.prog.types[(47 : Nat)].bytes ≤ (140737488355328 : Nat)) = true then 
            (Option.bind (F41 ps14) fun x9 => (if (!x9) = true then some ((ph133 ++ [((a1.getD ps67.toNat (zEl ((Ty.int IntKind.u32).pair T42))).1, (x3.1, (a1.getD ps67.toNat (zEl ((Ty.int IntKind.u32).pair T42))).2.1), a2)], (0 : Int)))
             else r1 (ps14) (IntKind.i64.wrap (ps67 + (1 : Int))) (ph63 ++ [((x3.1, (a1.getD ps67.toNat (zEl ((Ty.int IntKind.u32).pair T42))).2.1), a2, IntKind.i64.wrap (a2 + (a1.getD ps67.toNat (zEl ((Ty.int IntKind.u32).pair T42))).2.2))]) (ph133 ++ [((a1.getD ps67.toNat (zEl ((Ty.int IntKind.u32).pair T42))).1, (x3.1, (a1.getD ps67.toNat (zEl ((Ty.int IntKind.u32).pair T42))).2.1), a2)])))
           else none)
          else none)
         else 
          (Option.bind (F41 ps14) fun x10 => (if (!x10) = true then some ((ph133, (0 : Int)))
           else r1 (ps14) (IntKind.i64.wrap (ps67 + (1 : Int))) (ph63) (ph133)))))))))
   else none)
  else some ((ph133, (0 : Int))))
noncomputable def L1037_1 (F18 : (El T25) → Option (Int)) (F49 : (List (El T47)) → Option (List (El T47))) (F30 : (El T25) → Int → Int → Int → Option (Int × Int × Int)) (F33 : (El T25) → Int → Int → Int → Option (Int × Bool)) (F40 : Int → Option (Bool)) (F41 : Int → Option (Bool)) (K : Nat) (a0 : El T25) (a1 : List (El T38)) (a2 : Int) (a3 : (Unit × Unit)) : Nat → Int → Int → (List (El T47)) → (List (El T44)) → Option ((List (El T44)) × Int)
  | 0, _, _, _, _ => none
  | n + 1, ps14, ps67, ph63, ph133 => b1037_1 F18 F49 F30 F33 F40 F41 K a0 a1 a2 a3 (L1037_1 F18 F49 F30 F33 F40 F41 K a0 a1 a2 a3 n) ps14 ps67 ph63 ph133
noncomputable def b1037_0 (F18 : (El T25) → Option (Int)) (F49 : (List (El T47)) → Option (List (El T47))) (F30 : (El T25) → Int → Int → Int → Option (Int × Int × Int)) (F33 : (El T25) → Int → Int → Int → Option (Int × Bool)) (F40 : Int → Option (Bool)) (F41 : Int → Option (Bool)) (K : Nat) (a0 : El T25) (a1 : List (El T38)) (a2 : Int) (a3 : (Unit × Unit)) (r0 : Int → Option ((List (El T44)) × Int)) (l1 : Nat → Int → Int → (List (El T47)) → (List (El T44)) → Option ((List (El T44)) × Int)) (ps42 : Int) : Option ((List (El T44)) × Int) :=(if decide (ps42 < (↑a1.length : Int)) = true then (if decide ((0 : Int) ≤ ps42 ∧ ps42 < (↑a1.length : Int)) = true then (if decide ((a1.getD ps42.toNat (zEl ((Ty.int IntKind.u32).pair T42))).2.1 < (0 : Int)) = true then some (([], (2 : Int)))
    else (if decide ((a1.getD ps42.toNat (zEl ((Ty.int IntKind.u32).pair T42))).2.2 < (1 : Int)) = true then some (([], (2 : Int)))
     else (if decide ((a1.getD ps42.toNat (zEl ((Ty.int IntKind.u32).pair T42))).2.2 > (1099511627776 : Int)) = true then some (([], (2 : Int)))
      else r0 (IntKind.i64.wrap (ps42 + (1 : Int))))))
   else none)
  else 
   (Option.bind (F49 a0.2.2) fun x1 => l1 K ((0 : Int)) ((0 : Int)) (x1) ([])))
noncomputable def L1037_0 (F18 : (El T25) → Option (Int)) (F49 : (List (El T47)) → Option (List (El T47))) (F30 : (El T25) → Int → Int → Int → Option (Int × Int × Int)) (F33 : (El T25) → Int → Int → Int → Option (Int × Bool)) (F40 : Int → Option (Bool)) (F41 : Int → Option (Bool)) (K : Nat) (a0 : El T25) (a1 : List (El T38)) (a2 : Int) (a3 : (Unit × Unit)) : Nat → Int → Option ((List (El T44)) × Int)
  | 0, _ => none
  | n + 1, ps42 => b1037_0 F18 F49 F30 F33 F40 F41 K a0 a1 a2 a3 (L1037_0 F18 F49 F30 F33 F40 F41 K a0 a1 a2 a3 n) (L1037_1 F18 F49 F30 F33 F40 F41 K a0 a1 a2 a3) ps42
noncomputable def t1037 (F18 : (El T25) → Option (Int)) (F49 : (List (El T47)) → Option (List (El T47))) (F30 : (El T25) → Int → Int → Int → Option (Int × Int × Int)) (F33 : (El T25) → Int → Int → Int → Option (Int × Bool)) (F40 : Int → Option (Bool)) (F41 : Int → Option (Bool)) (K : Nat) (a0 : El T25) (a1 : List (El T38)) (a2 : Int) (a3 : (Unit × Unit)) (l0 : Nat → Int → Option ((List (El T44)) × Int)) : Option ((List (El T44)) × Int) := 
 (Option.bind (F18 a0) fun x0 => (if (x0 != (0 : Int)) = true then some (([], (2 : Int)))
  else (if decide (a2 < (0 : Int)) = true then some (([], (2 : Int)))
   else (if decide (a2 > (1099511627776 : Int)) = true then some (([], (2 : Int)))
    else (if decide ((↑a1.length : Int) > (300 : Int)) = true then some (([], (2 : Int)))
     else l0 K ((0 : Int)))))))
noncomputable def G1037 (F18 : (El T25) → Option (Int)) (F49 : (List (El T47)) → Option (List (El T47))) (F30 : (El T25) → Int → Int → Int → Option (Int × Int × Int)) (F33 : (El T25) → Int → Int → Int → Option (Int × Bool)) (F40 : Int → Option (Bool)) (F41 : Int → Option (Bool)) (K : Nat) (a0 : El T25) (a1 : List (El T38)) (a2 : Int) (a3 : (Unit × Unit)) : Option ((List (El T44)) × Int) := t1037 F18 F49 F30 F33 F40 F41 K a0 a1 a2 a3 (L1037_0 F18 F49 F30 F33 F40 F41 K a0 a1 a2 a3)
theorem lp1037_1 (F18 : (El T25) → Option (Int)) (F49 : (List (El T47)) → Option (List (El T47))) (F30 : (El T25) → Int → Int → Int → Option (Int × Int × Int)) (F33 : (El T25) → Int → Int → Int → Option (Int × Bool)) (F40 : Int → Option (Bool)) (F41 : Int → Option (Bool)) (K : Nat) (a0 : El T25) (a1 : List (El T38)) (a2 : Int) (a3 : (Unit × Unit)) : ∀ (n : Nat) (ps14 : Int) (ps67 : Int) (ph63 : List (El T47)) (ph133 : List (El T44)), loopN Try.prog (tab1037 F18 F49 F30 F33 F40 F41) 0 K Try.f37 la1037 dq1037.k 1 [] n (hd1037_1 a0 a1 a2 a3 ps14 ps67 ph63 ph133) = L1037_1 F18 F49 F30 F33 F40 F41 K a0 a1 a2 a3 n ps14 ps67 ph63 ph133
  | 0, _, _, _, _ => by kernel_rfl
  | n + 1, ps14, ps67, ph63, ph133 => by
    have h : loopN Try.prog (tab1037 F18 F49 F30 F33 F40 F41) 0 K Try.f37 la1037 dq1037.k 1 [] (n + 1) (hd1037_1 a0 a1 a2 a3 ps14 ps67 ph63 ph133) = b1037_1 F18 F49 F30 F33 F40 F41 K a0 a1 a2 a3 (fun q0 q1 q2 q3 => loopN Try.prog (tab1037 F18 F49 F30 F33 F40 F41) 0 K Try.f37 la1037 dq1037.k 1 [] n (hd1037_1 a0 a1 a2 a3 q0 q1 q2 q3)) ps14 ps67 ph63 ph133 := by kernel_rfl
    rw [h]
    simp only [lp1037_1 F18 F49 F30 F33 F40 F41 K a0 a1 a2 a3 n]
    rfl
theorem lp1037_0 (F18 : (El T25) → Option (Int)) (F49 : (List (El T47)) → Option (List (El T47))) (F30 : (El T25) → Int → Int → Int → Option (Int × Int × Int)) (F33 : (El T25) → Int → Int → Int → Option (Int × Bool)) (F40 : Int → Option (Bool)) (F41 : Int → Option (Bool)) (K : Nat) (a0 : El T25) (a1 : List (El T38)) (a2 : Int) (a3 : (Unit × Unit)) : ∀ (n : Nat) (ps42 : Int), loopN Try.prog (tab1037 F18 F49 F30 F33 F40 F41) 0 K Try.f37 la1037 dq1037.k 0 [] n (hd1037_0 a0 a1 a2 a3 ps42) = L1037_0 F18 F49 F30 F33 F40 F41 K a0 a1 a2 a3 n ps42
  | 0, _ => by kernel_rfl
  | n + 1, ps42 => by
    have h : loopN Try.prog (tab1037 F18 F49 F30 F33 F40 F41) 0 K Try.f37 la1037 dq1037.k 0 [] (n + 1) (hd1037_0 a0 a1 a2 a3 ps42) = b1037_0 F18 F49 F30 F33 F40 F41 K a0 a1 a2 a3 (fun q0 => loopN Try.prog (tab1037 F18 F49 F30 F33 F40 F41) 0 K Try.f37 la1037 dq1037.k 0 [] n (hd1037_0 a0 a1 a2 a3 q0)) (fun k q0 q1 q2 q3 => loopN Try.prog (tab1037 F18 F49 F30 F33 F40 F41) 0 K Try.f37 la1037 dq1037.k 1 [] k (hd1037_1 a0 a1 a2 a3 q0 q1 q2 q3)) ps42 := by kernel_rfl
    rw [h]
    simp only [lp1037_0 F18 F49 F30 F33 F40 F41 K a0 a1 a2 a3 n, lp1037_1 F18 F49 F30 F33 F40 F41 K a0 a1 a2 a3]
    rfl
theorem ev1037 (F18 : (El T25) → Option (Int)) (F49 : (List (El T47)) → Option (List (El T47))) (F30 : (El T25) → Int → Int → Int → Option (Int × Int × Int)) (F33 : (El T25) → Int → Int → Int → Option (Int × Bool)) (F40 : Int → Option (Bool)) (F41 : Int → Option (Bool)) (K : Nat) (a0 : El T25) (a1 : List (El T38)) (a2 : Int) (a3 : (Unit × Unit)) : evFun Try.prog (tab1037 F18 F49 F30 F33 F40 F41) 0 K Try.f37 la1037 [.agg (cellsOf T25 a0), .row T38 a1, I .i64 a2, .agg [.fn 40 [], .fn 41 []]] [] dq1037.k = G1037 F18 F49 F30 F33 F40 F41 K a0 a1 a2 a3 := by
  have h : evFun Try.prog (tab1037 F18 F49 F30 F33 F40 F41) 0 K Try.f37 la1037 [.agg (cellsOf T25 a0), .row T38 a1, I .i64 a2, .agg [.fn 40 [], .fn 41 []]] [] dq1037.k = t1037 F18 F49 F30 F33 F40 F41 K a0 a1 a2 a3 (fun k q0 => loopN Try.prog (tab1037 F18 F49 F30 F33 F40 F41) 0 K Try.f37 la1037 dq1037.k 0 [] k (hd1037_0 a0 a1 a2 a3 q0)) := by kernel_rfl
  rw [h]
  simp only [lp1037_0 F18 F49 F30 F33 F40 F41 K a0 a1 a2 a3]
  rfl
noncomputable def F1037 (K : Nat) (a0 : El T25) (a1 : List (El T38)) (a2 : Int) (a3 : (Unit × Unit)) : Option ((List (El T44)) × Int) := G1037 (F18 K) (F49 K) (F30 K) (F33 K) (F40 K) (F41 K) K a0 a1 a2 a3
theorem cok1037 (K : Nat) : CallOK D Try.prog (tab1037 (F18 K) (F49 K) (F30 K) (F33 K) (F40 K) (F41 K)) := (add_ok (add_ok (add_ok (add_ok (add_ok (add_ok none_ok ent18 (ok18 K)) ent49 (ok49 K)) ent30 (ok30 K)) ent33 (ok33 K)) ent40 (ok40 K)) ent41 (ok41 K))
theorem ok1037 (K : Nat) : RowOK D Try.prog 37 (row ad1037 dq1037 fun p => F1037 K p.1 p.2.1 p.2.2.1 p.2.2.2) := row_ok fun x r h => has_of (cok1037 K) Try.func37 ((ev1037 (F18 K) (F49 K) (F30 K) (F33 K) (F40 K) (F41 K) K x.1 x.2.1 x.2.2.1 x.2.2.2).trans h)
/-! ganger/backfill.plan -/
noncomputable def tab2037 (F18 : (El T25) → Option (Int)) (F49 : (List (El T47)) → Option (List (El T47))) (F30 : (El T25) → Int → Int → Int → Option (Int × Int × Int)) (F33 : (El T25) → Int → Int → Int → Option (Int × Bool)) (F38 : Int → Option (Bool)) (F39 : Int → Option (Bool)) : Tab := ((((((Tab.none.add 18 (row ad18 dq18 fun p => F18 p)).add 49 (row ad49 dq49 fun p => F49 p)).add 30 (row ad30 dq30 fun p => F30 p.1 p.2.1 p.2.2.1 p.2.2.2)).add 33 (row ad33 dq33 fun p => F33 p.1 p.2.1 p.2.2.1 p.2.2.2)).add 38 (row ad38 dq38 fun p => F38 p)).add 39 (row ad39 dq39 fun p => F39 p))
noncomputable def la2037 : List (List Tidy) := [[.only [1, 2, 4, 7, 40, 41, 42], .ids [4, 7, 13, 16, 23, 25, 37, 41, 63, 66, 83, 99, 109, 117, 132, 133, 143, 144, 149], .top [1000000]], [.only [2, 4, 7, 12, 13, 14, 65, 66, 67], .pro 12 133 44 (T44), .ren 144 63, .ids [4, 7, 11, 13, 25, 37, 41, 63, 66, 133, 144], .top [1000001]]]
noncomputable def hd2037_0 (a0 : El T25) (a1 : List (El T38)) (a2 : Int) (a3 : (Unit × Unit)) (ps42 : Int) : St := { tm := slots (nat_lit 153) [(nat_lit 1, AV.row ((Ty.int IntKind.u32).pair T42) a1), (nat_lit 2, AV.sc (Value.int IntKind.i64 a2)), (nat_lit 4, AV.ptr (nat_lit 4) (nat_lit 0)), (nat_lit 7, AV.ptr (nat_lit 7) (nat_lit 0)), (nat_lit 40, AV.row ((Ty.int IntKind.u32).pair T42) a1), (nat_lit 41, AV.sc (Value.int IntKind.i64 (↑a1.length : Int))), (nat_lit 42, AV.sc (Value.int IntKind.i64 ps42))], H := [(nat_lit 4, ABlk.box (nat_lit 25) (cellsOf T25 a0)), (nat_lit 7, ABlk.box (nat_lit 68) [AV.fn (nat_lit 38) [], AV.fn (nat_lit 39) []])] }
noncomputable def hd2037_1 (a0 : El T25) (a1 : List (El T38)) (a2 : Int) (a3 : (Unit × Unit)) (ps14 : Int) (ps67 : Int) (ph63 : List (El T47)) (ph133 : List (El T44)) : St := { tm := slots (nat_lit 153) [(nat_lit 2, AV.sc (Value.int IntKind.i64 a2)), (nat_lit 4, AV.ptr (nat_lit 4) (nat_lit 0)), (nat_lit 7, AV.ptr (nat_lit 7) (nat_lit 0)), (nat_lit 12, AV.own (nat_lit 133)), (nat_lit 13, AV.ptr (nat_lit 13) (nat_lit 0)), (nat_lit 14, AV.sc (Value.int IntKind.i64 ps14)), (nat_lit 65, AV.row ((Ty.int IntKind.u32).pair T42) a1), (nat_lit 66, AV.sc (Value.int IntKind.i64 (↑a1.length : Int))), (nat_lit 67, AV.sc (Value.int IntKind.i64 ps67))], H := [(nat_lit 4, ABlk.box (nat_lit 25) [AV.sc (Value.int IntKind.i64 a0.1), AV.row (Ty.int IntKind.i64) a0.2.1, AV.own (nat_lit 63)]), (nat_lit 7, ABlk.box (nat_lit 68) [AV.fn (nat_lit 38) [], AV.fn (nat_lit 39) []]), (nat_lit 13, ABlk.box (nat_lit 25) (cellsOf T25 a0)), (nat_lit 63, ABlk.arr (nat_lit 47) T47 ph63), (nat_lit 133, ABlk.arr (nat_lit 44) T44 ph133)] }
noncomputable def b2037_1 (F18 : (El T25) → Option (Int)) (F49 : (List (El T47)) → Option (List (El T47))) (F30 : (El T25) → Int → Int → Int → Option (Int × Int × Int)) (F33 : (El T25) → Int → Int → Int → Option (Int × Bool)) (F38 : Int → Option (Bool)) (F39 : Int → Option (Bool)) (K : Nat) (a0 : El T25) (a1 : List (El T38)) (a2 : Int) (a3 : (Unit × Unit)) (r1 : Int → Int → (List (El T47)) → (List (El T44)) → Option ((List (El T44)) × Int)) (ps14 : Int) (ps67 : Int) (ph63 : List (El T47)) (ph133 : List (El T44)) : Option ((List (El T44)) × Int) :=(if decide (ps67 < (↑a1.length : Int)) = true then (if decide ((0 : Int) ≤ ps67 ∧ ps67 < (↑a1.length : Int)) = true then (if decide ((a1.getD ps67.toNat (zEl ((Ty.int IntKind.u32).pair T42))).2.1 > a0.1) = true then r1 (ps14) (IntKind.i64.wrap (ps67 + (1 : Int))) (ph63) (ph133)
    else 
     (Option.bind (F30 a0 (a1.getD ps67.toNat (zEl ((Ty.int IntKind.u32).pair T42))).2.1 a2 (a1.getD ps67.toNat (zEl ((Ty.int IntKind.u32).pair T42))).2.2) fun x2 => (if (x2.2.2 != (0 : Int)) = true then r1 (ps14) (IntKind.i64.wrap (ps67 + (1 : Int))) (ph63) (ph133)
      else 
       (Option.bind (F33 (a0.1, a0.2.1, ph63) (a1.getD ps67.toNat (zEl ((Ty.int IntKind.u32).pair T42))).2.1 a2 (IntKind.i64.wrap (a2 + (a1.getD ps67.toNat (zEl ((Ty.int IntKind.u32).pair T42))).2.2))) fun x3 => (if (!x3.2) = true then 
         (Option.bind (F38 (IntKind.i64.wrap (ps14 + (1 : Int)))) fun x4 => (if x4 = true then 
           (Option.bind (F30 (a0.1, a0.2.1, ph63) (a1.getD ps67.toNat (zEl ((Ty.int IntKind.u32).pair T42))).2.1 a2 (a1.getD ps67.toNat (zEl ((Ty.int IntKind.u32).pair T42))).2.2) fun x5 => (if decide ((ph133.length + [((a1.getD ps67.toNat (zEl ((Ty.int IntKind.u32).pair T42))).1, (x5.2.1, (a1.getD ps67.toNat (zEl ((Ty.int IntKind.u32).pair T42))).2.1), x5.1)].length) * Try.prog.types[(44 : Nat)].bytes ≤ (140737488355328 : Nat)) = true then (if decide ((ph63.length + [((x5.2.1, (a1.getD ps67.toNat (zEl ((Ty.int IntKind.u32).pair T42))).2.1), x5.1, IntKind.i64.wrap (x5.1 + (a1.getD ps67.toNat (zEl ((Ty.int IntKind.u32).pair T42))).2.2))].length) * Try.prog.types[(47 : Nat)].bytes ≤ (140737488355328 : Nat)) = true then 
              (Option.bind (F39 (IntKind.i64.wrap (ps14 + (1 : Int)))) fun x6 => (if (!x6) = true then some ((ph133 ++ [((a1.getD ps67.toNat (zEl ((Ty.int IntKind.u32).pair T42))).1, (x5.2.1, (a1.getD ps67.toNat (zEl ((Ty.int IntKind.u32).pair T42))).2.1), x5.1)], (0 : Int)))
               else r1 (IntKind.i64.wrap (ps14 + (1 : Int))) (IntKind.i64.wrap (ps67 + (1 : Int))) (ph63 ++ [((x5.2.1, (a1.getD ps67.toNat (zEl ((Ty.int IntKind.u32).pair T42))).2.1), x5.1, IntKind.i64.wrap (x5.1 + (a1.getD ps67.toNat (zEl ((Ty.int IntKind.u32).pair T42))).2.2))]) (ph133 ++ [((a1.getD ps67.toNat (zEl ((Ty.int IntKind.u32).pair T42))).1, (x5.2.1, (a1.getD ps67.toNat (zEl ((Ty.int IntKind.u32).pair T42))).2.1), x5.1)])))
             else none)
            else none))
          else (if x3.2 = true then (if decide ((ph133.length + [((a1.getD ps67.toNat (zEl ((Ty.int IntKind.u32).pair T42))).1, (x3.1, (a1.getD ps67.toNat (zEl ((Ty.int IntKind.u32).pair T42))).2.1), a2)].length) * Try.prog.types[(44 : Nat)].bytes ≤ (140737488355328 : Nat)) = true then (if decide ((ph63.length + [((x3.1, (a1.getD ps67.toNat (zEl ((Ty.int IntKind.u32).pair T42))).2.1), a2, IntKind.i64.wrap (a2 + (a1.getD ps67.toNat (zEl ((Ty.int IntKind.u32).pair T42))).2.2))].length) * Try.prog.types[(47 : Nat)].bytes ≤ (140737488355328 : Nat)) = true then 
              (Option.bind (F39 (IntKind.i64.wrap (ps14 + (1 : Int)))) fun x7 => (if (!x7) = true then some ((ph133 ++ [((a1.getD ps67.toNat (zEl ((Ty.int IntKind.u32).pair T42))).1, (x3.1, (a1.getD ps67.toNat (zEl ((Ty.int IntKind.u32).pair T42))).2.1), a2)], (0 : Int)))
               else r1 (IntKind.i64.wrap (ps14 + (1 : Int))) (IntKind.i64.wrap (ps67 + (1 : Int))) (ph63 ++ [((x3.1, (a1.getD ps67.toNat (zEl ((Ty.int IntKind.u32).pair T42))).2.1), a2, IntKind.i64.wrap (a2 + (a1.getD ps67.toNat (zEl ((Ty.int IntKind.u32).pair T42))).2.2))]) (ph133 ++ [((a1.getD ps67.toNat (zEl ((Ty.int IntKind.u32).pair T42))).1, (x3.1, (a1.getD ps67.toNat (zEl ((Ty.int IntKind.u32).pair T42))).2.1), a2)])))
             else none)
            else none)
           else 
            (Option.bind (F39 (IntKind.i64.wrap (ps14 + (1 : Int)))) fun x8 => (if (!x8) = true then some ((ph133, (0 : Int)))
             else r1 (IntKind.i64.wrap (ps14 + (1 : Int))) (IntKind.i64.wrap (ps67 + (1 : Int))) (ph63) (ph133))))))
        else (if x3.2 = true then (if decide ((ph133.length + [((a1.getD ps67.toNat (zEl ((Ty.int IntKind.u32).pair T42))).1, (x3.1, (a1.getD ps67.toNat (zEl ((Ty.int IntKind.u32).pair T42))).2.1), a2)].length) * Try.prog.types[(44 : Nat)].bytes ≤ (140737488355328 : Nat)) = true then (if decide ((ph63.length + [((x3.1, (a1.getD ps67.toNat (zEl ((Ty.int IntKind.u32).pair T42))).2.1), a2, IntKind.i64.wrap (a2 + (a1.getD ps67.toNat (zEl ((Ty.int IntKind.u32).pair T42))).2.2))].length) * Try.prog.types[(47 : Nat)].bytes ≤ (140737488355328 : Nat)) = true then 
            (Option.bind (F39 ps14) fun x9 => (if (!x9) = true then some ((ph133 ++ [((a1.getD ps67.toNat (zEl ((Ty.int IntKind.u32).pair T42))).1, (x3.1, (a1.getD ps67.toNat (zEl ((Ty.int IntKind.u32).pair T42))).2.1), a2)], (0 : Int)))
             else r1 (ps14) (IntKind.i64.wrap (ps67 + (1 : Int))) (ph63 ++ [((x3.1, (a1.getD ps67.toNat (zEl ((Ty.int IntKind.u32).pair T42))).2.1), a2, IntKind.i64.wrap (a2 + (a1.getD ps67.toNat (zEl ((Ty.int IntKind.u32).pair T42))).2.2))]) (ph133 ++ [((a1.getD ps67.toNat (zEl ((Ty.int IntKind.u32).pair T42))).1, (x3.1, (a1.getD ps67.toNat (zEl ((Ty.int IntKind.u32).pair T42))).2.1), a2)])))
           else none)
          else none)
         else 
          (Option.bind (F39 ps14) fun x10 => (if (!x10) = true then some ((ph133, (0 : Int)))
           else r1 (ps14) (IntKind.i64.wrap (ps67 + (1 : Int))) (ph63) (ph133)))))))))
   else none)
  else some ((ph133, (0 : Int))))
noncomputable def L2037_1 (F18 : (El T25) → Option (Int)) (F49 : (List (El T47)) → Option (List (El T47))) (F30 : (El T25) → Int → Int → Int → Option (Int × Int × Int)) (F33 : (El T25) → Int → Int → Int → Option (Int × Bool)) (F38 : Int → Option (Bool)) (F39 : Int → Option (Bool)) (K : Nat) (a0 : El T25) (a1 : List (El T38)) (a2 : Int) (a3 : (Unit × Unit)) : Nat → Int → Int → (List (El T47)) → (List (El T44)) → Option ((List (El T44)) × Int)
  | 0, _, _, _, _ => none
  | n + 1, ps14, ps67, ph63, ph133 => b2037_1 F18 F49 F30 F33 F38 F39 K a0 a1 a2 a3 (L2037_1 F18 F49 F30 F33 F38 F39 K a0 a1 a2 a3 n) ps14 ps67 ph63 ph133
noncomputable def b2037_0 (F18 : (El T25) → Option (Int)) (F49 : (List (El T47)) → Option (List (El T47))) (F30 : (El T25) → Int → Int → Int → Option (Int × Int × Int)) (F33 : (El T25) → Int → Int → Int → Option (Int × Bool)) (F38 : Int → Option (Bool)) (F39 : Int → Option (Bool)) (K : Nat) (a0 : El T25) (a1 : List (El T38)) (a2 : Int) (a3 : (Unit × Unit)) (r0 : Int → Option ((List (El T44)) × Int)) (l1 : Nat → Int → Int → (List (El T47)) → (List (El T44)) → Option ((List (El T44)) × Int)) (ps42 : Int) : Option ((List (El T44)) × Int) :=(if decide (ps42 < (↑a1.length : Int)) = true then (if decide ((0 : Int) ≤ ps42 ∧ ps42 < (↑a1.length : Int)) = true then (if decide ((a1.getD ps42.toNat (zEl ((Ty.int IntKind.u32).pair T42))).2.1 < (0 : Int)) = true then some (([], (2 : Int)))
    else (if decide ((a1.getD ps42.toNat (zEl ((Ty.int IntKind.u32).pair T42))).2.2 < (1 : Int)) = true then some (([], (2 : Int)))
     else (if decide ((a1.getD ps42.toNat (zEl ((Ty.int IntKind.u32).pair T42))).2.2 > (1099511627776 : Int)) = true then some (([], (2 : Int)))
      else r0 (IntKind.i64.wrap (ps42 + (1 : Int))))))
   else none)
  else 
   (Option.bind (F49 a0.2.2) fun x1 => l1 K ((0 : Int)) ((0 : Int)) (x1) ([])))
noncomputable def L2037_0 (F18 : (El T25) → Option (Int)) (F49 : (List (El T47)) → Option (List (El T47))) (F30 : (El T25) → Int → Int → Int → Option (Int × Int × Int)) (F33 : (El T25) → Int → Int → Int → Option (Int × Bool)) (F38 : Int → Option (Bool)) (F39 : Int → Option (Bool)) (K : Nat) (a0 : El T25) (a1 : List (El T38)) (a2 : Int) (a3 : (Unit × Unit)) : Nat → Int → Option ((List (El T44)) × Int)
  | 0, _ => none
  | n + 1, ps42 => b2037_0 F18 F49 F30 F33 F38 F39 K a0 a1 a2 a3 (L2037_0 F18 F49 F30 F33 F38 F39 K a0 a1 a2 a3 n) (L2037_1 F18 F49 F30 F33 F38 F39 K a0 a1 a2 a3) ps42
noncomputable def t2037 (F18 : (El T25) → Option (Int)) (F49 : (List (El T47)) → Option (List (El T47))) (F30 : (El T25) → Int → Int → Int → Option (Int × Int × Int)) (F33 : (El T25) → Int → Int → Int → Option (Int × Bool)) (F38 : Int → Option (Bool)) (F39 : Int → Option (Bool)) (K : Nat) (a0 : El T25) (a1 : List (El T38)) (a2 : Int) (a3 : (Unit × Unit)) (l0 : Nat → Int → Option ((List (El T44)) × Int)) : Option ((List (El T44)) × Int) := 
 (Option.bind (F18 a0) fun x0 => (if (x0 != (0 : Int)) = true then some (([], (2 : Int)))
  else (if decide (a2 < (0 : Int)) = true then some (([], (2 : Int)))
   else (if decide (a2 > (1099511627776 : Int)) = true then some (([], (2 : Int)))
    else (if decide ((↑a1.length : Int) > (300 : Int)) = true then some (([], (2 : Int)))
     else l0 K ((0 : Int)))))))
noncomputable def G2037 (F18 : (El T25) → Option (Int)) (F49 : (List (El T47)) → Option (List (El T47))) (F30 : (El T25) → Int → Int → Int → Option (Int × Int × Int)) (F33 : (El T25) → Int → Int → Int → Option (Int × Bool)) (F38 : Int → Option (Bool)) (F39 : Int → Option (Bool)) (K : Nat) (a0 : El T25) (a1 : List (El T38)) (a2 : Int) (a3 : (Unit × Unit)) : Option ((List (El T44)) × Int) := t2037 F18 F49 F30 F33 F38 F39 K a0 a1 a2 a3 (L2037_0 F18 F49 F30 F33 F38 F39 K a0 a1 a2 a3)
theorem lp2037_1 (F18 : (El T25) → Option (Int)) (F49 : (List (El T47)) → Option (List (El T47))) (F30 : (El T25) → Int → Int → Int → Option (Int × Int × Int)) (F33 : (El T25) → Int → Int → Int → Option (Int × Bool)) (F38 : Int → Option (Bool)) (F39 : Int → Option (Bool)) (K : Nat) (a0 : El T25) (a1 : List (El T38)) (a2 : Int) (a3 : (Unit × Unit)) : ∀ (n : Nat) (ps14 : Int) (ps67 : Int) (ph63 : List (El T47)) (ph133 : List (El T44)), loopN Try.prog (tab2037 F18 F49 F30 F33 F38 F39) 0 K Try.f37 la2037 dq2037.k 1 [] n (hd2037_1 a0 a1 a2 a3 ps14 ps67 ph63 ph133) = L2037_1 F18 F49 F30 F33 F38 F39 K a0 a1 a2 a3 n ps14 ps67 ph63 ph133
  | 0, _, _, _, _ => by kernel_rfl
  | n + 1, ps14, ps67, ph63, ph133 => by
    have h : loopN Try.prog (tab2037 F18 F49 F30 F33 F38 F39) 0 K Try.f37 la2037 dq2037.k 1 [] (n + 1) (hd2037_1 a0 a1 a2 a3 ps14 ps67 ph63 ph133) = b2037_1 F18 F49 F30 F33 F38 F39 K a0 a1 a2 a3 (fun q0 q1 q2 q3 => loopN Try.prog (tab2037 F18 F49 F30 F33 F38 F39) 0 K Try.f37 la2037 dq2037.k 1 [] n (hd2037_1 a0 a1 a2 a3 q0 q1 q2 q3)) ps14 ps67 ph63 ph133 := by kernel_rfl
    rw [h]
    simp only [lp2037_1 F18 F49 F30 F33 F38 F39 K a0 a1 a2 a3 n]
    rfl
theorem lp2037_0 (F18 : (El T25) → Option (Int)) (F49 : (List (El T47)) → Option (List (El T47))) (F30 : (El T25) → Int → Int → Int → Option (Int × Int × Int)) (F33 : (El T25) → Int → Int → Int → Option (Int × Bool)) (F38 : Int → Option (Bool)) (F39 : Int → Option (Bool)) (K : Nat) (a0 : El T25) (a1 : List (El T38)) (a2 : Int) (a3 : (Unit × Unit)) : ∀ (n : Nat) (ps42 : Int), loopN Try.prog (tab2037 F18 F49 F30 F33 F38 F39) 0 K Try.f37 la2037 dq2037.k 0 [] n (hd2037_0 a0 a1 a2 a3 ps42) = L2037_0 F18 F49 F30 F33 F38 F39 K a0 a1 a2 a3 n ps42
  | 0, _ => by kernel_rfl
  | n + 1, ps42 => by
    have h : loopN Try.prog (tab2037 F18 F49 F30 F33 F38 F39) 0 K Try.f37 la2037 dq2037.k 0 [] (n + 1) (hd2037_0 a0 a1 a2 a3 ps42) = b2037_0 F18 F49 F30 F33 F38 F39 K a0 a1 a2 a3 (fun q0 => loopN Try.prog (tab2037 F18 F49 F30 F33 F38 F39) 0 K Try.f37 la2037 dq2037.k 0 [] n (hd2037_0 a0 a1 a2 a3 q0)) (fun k q0 q1 q2 q3 => loopN Try.prog (tab2037 F18 F49 F30 F33 F38 F39) 0 K Try.f37 la2037 dq2037.k 1 [] k (hd2037_1 a0 a1 a2 a3 q0 q1 q2 q3)) ps42 := by kernel_rfl
    rw [h]
    simp only [lp2037_0 F18 F49 F30 F33 F38 F39 K a0 a1 a2 a3 n, lp2037_1 F18 F49 F30 F33 F38 F39 K a0 a1 a2 a3]
    rfl
theorem ev2037 (F18 : (El T25) → Option (Int)) (F49 : (List (El T47)) → Option (List (El T47))) (F30 : (El T25) → Int → Int → Int → Option (Int × Int × Int)) (F33 : (El T25) → Int → Int → Int → Option (Int × Bool)) (F38 : Int → Option (Bool)) (F39 : Int → Option (Bool)) (K : Nat) (a0 : El T25) (a1 : List (El T38)) (a2 : Int) (a3 : (Unit × Unit)) : evFun Try.prog (tab2037 F18 F49 F30 F33 F38 F39) 0 K Try.f37 la2037 [.agg (cellsOf T25 a0), .row T38 a1, I .i64 a2, .agg [.fn 38 [], .fn 39 []]] [] dq2037.k = G2037 F18 F49 F30 F33 F38 F39 K a0 a1 a2 a3 := by
  have h : evFun Try.prog (tab2037 F18 F49 F30 F33 F38 F39) 0 K Try.f37 la2037 [.agg (cellsOf T25 a0), .row T38 a1, I .i64 a2, .agg [.fn 38 [], .fn 39 []]] [] dq2037.k = t2037 F18 F49 F30 F33 F38 F39 K a0 a1 a2 a3 (fun k q0 => loopN Try.prog (tab2037 F18 F49 F30 F33 F38 F39) 0 K Try.f37 la2037 dq2037.k 0 [] k (hd2037_0 a0 a1 a2 a3 q0)) := by kernel_rfl
  rw [h]
  simp only [lp2037_0 F18 F49 F30 F33 F38 F39 K a0 a1 a2 a3]
  rfl
noncomputable def F2037 (K : Nat) (a0 : El T25) (a1 : List (El T38)) (a2 : Int) (a3 : (Unit × Unit)) : Option ((List (El T44)) × Int) := G2037 (F18 K) (F49 K) (F30 K) (F33 K) (F38 K) (F39 K) K a0 a1 a2 a3
theorem cok2037 (K : Nat) : CallOK D Try.prog (tab2037 (F18 K) (F49 K) (F30 K) (F33 K) (F38 K) (F39 K)) := (add_ok (add_ok (add_ok (add_ok (add_ok (add_ok none_ok ent18 (ok18 K)) ent49 (ok49 K)) ent30 (ok30 K)) ent33 (ok33 K)) ent38 (ok38 K)) ent39 (ok39 K))
theorem ok2037 (K : Nat) : RowOK D Try.prog 37 (row ad2037 dq2037 fun p => F2037 K p.1 p.2.1 p.2.2.1 p.2.2.2) := row_ok fun x r h => has_of (cok2037 K) Try.func37 ((ev2037 (F18 K) (F49 K) (F30 K) (F33 K) (F38 K) (F39 K) K x.1 x.2.1 x.2.2.1 x.2.2.2).trans h)
/-! ganger/backfill.plan -/
noncomputable def tab3037 (F18 : (El T25) → Option (Int)) (F49 : (List (El T47)) → Option (List (El T47))) (F30 : (El T25) → Int → Int → Int → Option (Int × Int × Int)) (F33 : (El T25) → Int → Int → Int → Option (Int × Bool)) (F42 : Int → Option (Bool)) (F42 : Int → Option (Bool)) : Tab := ((((((Tab.none.add 18 (row ad18 dq18 fun p => F18 p)).add 49 (row ad49 dq49 fun p => F49 p)).add 30 (row ad30 dq30 fun p => F30 p.1 p.2.1 p.2.2.1 p.2.2.2)).add 33 (row ad33 dq33 fun p => F33 p.1 p.2.1 p.2.2.1 p.2.2.2)).add 42 (row ad42 dq42 fun p => F42 p)).add 42 (row ad42 dq42 fun p => F42 p))
noncomputable def la3037 : List (List Tidy) := [[.only [1, 2, 4, 7, 40, 41, 42], .ids [4, 7, 13, 16, 23, 25, 37, 41, 63, 66, 83, 99, 109, 117, 132, 133, 143, 144, 149], .top [1000000]], [.only [2, 4, 7, 12, 13, 14, 65, 66, 67], .pro 12 133 44 (T44), .ren 144 63, .ids [4, 7, 11, 13, 25, 37, 41, 63, 66, 133, 144], .top [1000001]]]
noncomputable def hd3037_0 (a0 : El T25) (a1 : List (El T38)) (a2 : Int) (a3 : (Unit × Unit)) (ps42 : Int) : St := { tm := slots (nat_lit 153) [(nat_lit 1, AV.row ((Ty.int IntKind.u32).pair T42) a1), (nat_lit 2, AV.sc (Value.int IntKind.i64 a2)), (nat_lit 4, AV.ptr (nat_lit 4) (nat_lit 0)), (nat_lit 7, AV.ptr (nat_lit 7) (nat_lit 0)), (nat_lit 40, AV.row ((Ty.int IntKind.u32).pair T42) a1), (nat_lit 41, AV.sc (Value.int IntKind.i64 (↑a1.length : Int))), (nat_lit 42, AV.sc (Value.int IntKind.i64 ps42))], H := [(nat_lit 4, ABlk.box (nat_lit 25) (cellsOf T25 a0)), (nat_lit 7, ABlk.box (nat_lit 68) [AV.fn (nat_lit 42) [], AV.fn (nat_lit 42) []])] }
noncomputable def hd3037_1 (a0 : El T25) (a1 : List (El T38)) (a2 : Int) (a3 : (Unit × Unit)) (ps14 : Int) (ps67 : Int) (ph63 : List (El T47)) (ph133 : List (El T44)) : St := { tm := slots (nat_lit 153) [(nat_lit 2, AV.sc (Value.int IntKind.i64 a2)), (nat_lit 4, AV.ptr (nat_lit 4) (nat_lit 0)), (nat_lit 7, AV.ptr (nat_lit 7) (nat_lit 0)), (nat_lit 12, AV.own (nat_lit 133)), (nat_lit 13, AV.ptr (nat_lit 13) (nat_lit 0)), (nat_lit 14, AV.sc (Value.int IntKind.i64 ps14)), (nat_lit 65, AV.row ((Ty.int IntKind.u32).pair T42) a1), (nat_lit 66, AV.sc (Value.int IntKind.i64 (↑a1.length : Int))), (nat_lit 67, AV.sc (Value.int IntKind.i64 ps67))], H := [(nat_lit 4, ABlk.box (nat_lit 25) [AV.sc (Value.int IntKind.i64 a0.1), AV.row (Ty.int IntKind.i64) a0.2.1, AV.own (nat_lit 63)]), (nat_lit 7, ABlk.box (nat_lit 68) [AV.fn (nat_lit 42) [], AV.fn (nat_lit 42) []]), (nat_lit 13, ABlk.box (nat_lit 25) (cellsOf T25 a0)), (nat_lit 63, ABlk.arr (nat_lit 47) T47 ph63), (nat_lit 133, ABlk.arr (nat_lit 44) T44 ph133)] }
noncomputable def b3037_1 (F18 : (El T25) → Option (Int)) (F49 : (List (El T47)) → Option (List (El T47))) (F30 : (El T25) → Int → Int → Int → Option (Int × Int × Int)) (F33 : (El T25) → Int → Int → Int → Option (Int × Bool)) (F42 : Int → Option (Bool)) (F42 : Int → Option (Bool)) (K : Nat) (a0 : El T25) (a1 : List (El T38)) (a2 : Int) (a3 : (Unit × Unit)) (r1 : Int → Int → (List (El T47)) → (List (El T44)) → Option ((List (El T44)) × Int)) (ps14 : Int) (ps67 : Int) (ph63 : List (El T47)) (ph133 : List (El T44)) : Option ((List (El T44)) × Int) :=(if decide (ps67 < (↑a1.length : Int)) = true then (if decide ((0 : Int) ≤ ps67 ∧ ps67 < (↑a1.length : Int)) = true then (if decide ((a1.getD ps67.toNat (zEl ((Ty.int IntKind.u32).pair T42))).2.1 > a0.1) = true then r1 (ps14) (IntKind.i64.wrap (ps67 + (1 : Int))) (ph63) (ph133)
    else 
     (Option.bind (F30 a0 (a1.getD ps67.toNat (zEl ((Ty.int IntKind.u32).pair T42))).2.1 a2 (a1.getD ps67.toNat (zEl ((Ty.int IntKind.u32).pair T42))).2.2) fun x2 => (if (x2.2.2 != (0 : Int)) = true then r1 (ps14) (IntKind.i64.wrap (ps67 + (1 : Int))) (ph63) (ph133)
      else 
       (Option.bind (F33 (a0.1, a0.2.1, ph63) (a1.getD ps67.toNat (zEl ((Ty.int IntKind.u32).pair T42))).2.1 a2 (IntKind.i64.wrap (a2 + (a1.getD ps67.toNat (zEl ((Ty.int IntKind.u32).pair T42))).2.2))) fun x3 => (if (!x3.2) = true then 
         (Option.bind (F42 (IntKind.i64.wrap (ps14 + (1 : Int)))) fun x4 => (if x4 = true then 
           (Option.bind (F30 (a0.1, a0.2.1, ph63) (a1.getD ps67.toNat (zEl ((Ty.int IntKind.u32).pair T42))).2.1 a2 (a1.getD ps67.toNat (zEl ((Ty.int IntKind.u32).pair T42))).2.2) fun x5 => (if decide ((ph133.length + [((a1.getD ps67.toNat (zEl ((Ty.int IntKind.u32).pair T42))).1, (x5.2.1, (a1.getD ps67.toNat (zEl ((Ty.int IntKind.u32).pair T42))).2.1), x5.1)].length) * Try.prog.types[(44 : Nat)].bytes ≤ (140737488355328 : Nat)) = true then (if decide ((ph63.length + [((x5.2.1, (a1.getD ps67.toNat (zEl ((Ty.int IntKind.u32).pair T42))).2.1), x5.1, IntKind.i64.wrap (x5.1 + (a1.getD ps67.toNat (zEl ((Ty.int IntKind.u32).pair T42))).2.2))].length) * Try.prog.types[(47 : Nat)].bytes ≤ (140737488355328 : Nat)) = true then 
              (Option.bind (F42 (IntKind.i64.wrap (ps14 + (1 : Int)))) fun x6 => (if (!x6) = true then some ((ph133 ++ [((a1.getD ps67.toNat (zEl ((Ty.int IntKind.u32).pair T42))).1, (x5.2.1, (a1.getD ps67.toNat (zEl ((Ty.int IntKind.u32).pair T42))).2.1), x5.1)], (0 : Int)))
               else r1 (IntKind.i64.wrap (ps14 + (1 : Int))) (IntKind.i64.wrap (ps67 + (1 : Int))) (ph63 ++ [((x5.2.1, (a1.getD ps67.toNat (zEl ((Ty.int IntKind.u32).pair T42))).2.1), x5.1, IntKind.i64.wrap (x5.1 + (a1.getD ps67.toNat (zEl ((Ty.int IntKind.u32).pair T42))).2.2))]) (ph133 ++ [((a1.getD ps67.toNat (zEl ((Ty.int IntKind.u32).pair T42))).1, (x5.2.1, (a1.getD ps67.toNat (zEl ((Ty.int IntKind.u32).pair T42))).2.1), x5.1)])))
             else none)
            else none))
          else (if x3.2 = true then (if decide ((ph133.length + [((a1.getD ps67.toNat (zEl ((Ty.int IntKind.u32).pair T42))).1, (x3.1, (a1.getD ps67.toNat (zEl ((Ty.int IntKind.u32).pair T42))).2.1), a2)].length) * Try.prog.types[(44 : Nat)].bytes ≤ (140737488355328 : Nat)) = true then (if decide ((ph63.length + [((x3.1, (a1.getD ps67.toNat (zEl ((Ty.int IntKind.u32).pair T42))).2.1), a2, IntKind.i64.wrap (a2 + (a1.getD ps67.toNat (zEl ((Ty.int IntKind.u32).pair T42))).2.2))].length) * Try.prog.types[(47 : Nat)].bytes ≤ (140737488355328 : Nat)) = true then 
              (Option.bind (F42 (IntKind.i64.wrap (ps14 + (1 : Int)))) fun x7 => (if (!x7) = true then some ((ph133 ++ [((a1.getD ps67.toNat (zEl ((Ty.int IntKind.u32).pair T42))).1, (x3.1, (a1.getD ps67.toNat (zEl ((Ty.int IntKind.u32).pair T42))).2.1), a2)], (0 : Int)))
               else r1 (IntKind.i64.wrap (ps14 + (1 : Int))) (IntKind.i64.wrap (ps67 + (1 : Int))) (ph63 ++ [((x3.1, (a1.getD ps67.toNat (zEl ((Ty.int IntKind.u32).pair T42))).2.1), a2, IntKind.i64.wrap (a2 + (a1.getD ps67.toNat (zEl ((Ty.int IntKind.u32).pair T42))).2.2))]) (ph133 ++ [((a1.getD ps67.toNat (zEl ((Ty.int IntKind.u32).pair T42))).1, (x3.1, (a1.getD ps67.toNat (zEl ((Ty.int IntKind.u32).pair T42))).2.1), a2)])))
             else none)
            else none)
           else 
            (Option.bind (F42 (IntKind.i64.wrap (ps14 + (1 : Int)))) fun x8 => (if (!x8) = true then some ((ph133, (0 : Int)))
             else r1 (IntKind.i64.wrap (ps14 + (1 : Int))) (IntKind.i64.wrap (ps67 + (1 : Int))) (ph63) (ph133))))))
        else (if x3.2 = true then (if decide ((ph133.length + [((a1.getD ps67.toNat (zEl ((Ty.int IntKind.u32).pair T42))).1, (x3.1, (a1.getD ps67.toNat (zEl ((Ty.int IntKind.u32).pair T42))).2.1), a2)].length) * Try.prog.types[(44 : Nat)].bytes ≤ (140737488355328 : Nat)) = true then (if decide ((ph63.length + [((x3.1, (a1.getD ps67.toNat (zEl ((Ty.int IntKind.u32).pair T42))).2.1), a2, IntKind.i64.wrap (a2 + (a1.getD ps67.toNat (zEl ((Ty.int IntKind.u32).pair T42))).2.2))].length) * Try.prog.types[(47 : Nat)].bytes ≤ (140737488355328 : Nat)) = true then 
            (Option.bind (F42 ps14) fun x9 => (if (!x9) = true then some ((ph133 ++ [((a1.getD ps67.toNat (zEl ((Ty.int IntKind.u32).pair T42))).1, (x3.1, (a1.getD ps67.toNat (zEl ((Ty.int IntKind.u32).pair T42))).2.1), a2)], (0 : Int)))
             else r1 (ps14) (IntKind.i64.wrap (ps67 + (1 : Int))) (ph63 ++ [((x3.1, (a1.getD ps67.toNat (zEl ((Ty.int IntKind.u32).pair T42))).2.1), a2, IntKind.i64.wrap (a2 + (a1.getD ps67.toNat (zEl ((Ty.int IntKind.u32).pair T42))).2.2))]) (ph133 ++ [((a1.getD ps67.toNat (zEl ((Ty.int IntKind.u32).pair T42))).1, (x3.1, (a1.getD ps67.toNat (zEl ((Ty.int IntKind.u32).pair T42))).2.1), a2)])))
           else none)
          else none)
         else 
          (Option.bind (F42 ps14) fun x10 => (if (!x10) = true then some ((ph133, (0 : Int)))
           else r1 (ps14) (IntKind.i64.wrap (ps67 + (1 : Int))) (ph63) (ph133)))))))))
   else none)
  else some ((ph133, (0 : Int))))
noncomputable def L3037_1 (F18 : (El T25) → Option (Int)) (F49 : (List (El T47)) → Option (List (El T47))) (F30 : (El T25) → Int → Int → Int → Option (Int × Int × Int)) (F33 : (El T25) → Int → Int → Int → Option (Int × Bool)) (F42 : Int → Option (Bool)) (F42 : Int → Option (Bool)) (K : Nat) (a0 : El T25) (a1 : List (El T38)) (a2 : Int) (a3 : (Unit × Unit)) : Nat → Int → Int → (List (El T47)) → (List (El T44)) → Option ((List (El T44)) × Int)
  | 0, _, _, _, _ => none
  | n + 1, ps14, ps67, ph63, ph133 => b3037_1 F18 F49 F30 F33 F42 F42 K a0 a1 a2 a3 (L3037_1 F18 F49 F30 F33 F42 F42 K a0 a1 a2 a3 n) ps14 ps67 ph63 ph133
noncomputable def b3037_0 (F18 : (El T25) → Option (Int)) (F49 : (List (El T47)) → Option (List (El T47))) (F30 : (El T25) → Int → Int → Int → Option (Int × Int × Int)) (F33 : (El T25) → Int → Int → Int → Option (Int × Bool)) (F42 : Int → Option (Bool)) (F42 : Int → Option (Bool)) (K : Nat) (a0 : El T25) (a1 : List (El T38)) (a2 : Int) (a3 : (Unit × Unit)) (r0 : Int → Option ((List (El T44)) × Int)) (l1 : Nat → Int → Int → (List (El T47)) → (List (El T44)) → Option ((List (El T44)) × Int)) (ps42 : Int) : Option ((List (El T44)) × Int) :=(if decide (ps42 < (↑a1.length : Int)) = true then (if decide ((0 : Int) ≤ ps42 ∧ ps42 < (↑a1.length : Int)) = true then (if decide ((a1.getD ps42.toNat (zEl ((Ty.int IntKind.u32).pair T42))).2.1 < (0 : Int)) = true then some (([], (2 : Int)))
    else (if decide ((a1.getD ps42.toNat (zEl ((Ty.int IntKind.u32).pair T42))).2.2 < (1 : Int)) = true then some (([], (2 : Int)))
     else (if decide ((a1.getD ps42.toNat (zEl ((Ty.int IntKind.u32).pair T42))).2.2 > (1099511627776 : Int)) = true then some (([], (2 : Int)))
      else r0 (IntKind.i64.wrap (ps42 + (1 : Int))))))
   else none)
  else 
   (Option.bind (F49 a0.2.2) fun x1 => l1 K ((0 : Int)) ((0 : Int)) (x1) ([])))
noncomputable def L3037_0 (F18 : (El T25) → Option (Int)) (F49 : (List (El T47)) → Option (List (El T47))) (F30 : (El T25) → Int → Int → Int → Option (Int × Int × Int)) (F33 : (El T25) → Int → Int → Int → Option (Int × Bool)) (F42 : Int → Option (Bool)) (F42 : Int → Option (Bool)) (K : Nat) (a0 : El T25) (a1 : List (El T38)) (a2 : Int) (a3 : (Unit × Unit)) : Nat → Int → Option ((List (El T44)) × Int)
  | 0, _ => none
  | n + 1, ps42 => b3037_0 F18 F49 F30 F33 F42 F42 K a0 a1 a2 a3 (L3037_0 F18 F49 F30 F33 F42 F42 K a0 a1 a2 a3 n) (L3037_1 F18 F49 F30 F33 F42 F42 K a0 a1 a2 a3) ps42
noncomputable def t3037 (F18 : (El T25) → Option (Int)) (F49 : (List (El T47)) → Option (List (El T47))) (F30 : (El T25) → Int → Int → Int → Option (Int × Int × Int)) (F33 : (El T25) → Int → Int → Int → Option (Int × Bool)) (F42 : Int → Option (Bool)) (F42 : Int → Option (Bool)) (K : Nat) (a0 : El T25) (a1 : List (El T38)) (a2 : Int) (a3 : (Unit × Unit)) (l0 : Nat → Int → Option ((List (El T44)) × Int)) : Option ((List (El T44)) × Int) := 
 (Option.bind (F18 a0) fun x0 => (if (x0 != (0 : Int)) = true then some (([], (2 : Int)))
  else (if decide (a2 < (0 : Int)) = true then some (([], (2 : Int)))
   else (if decide (a2 > (1099511627776 : Int)) = true then some (([], (2 : Int)))
    else (if decide ((↑a1.length : Int) > (300 : Int)) = true then some (([], (2 : Int)))
     else l0 K ((0 : Int)))))))
noncomputable def G3037 (F18 : (El T25) → Option (Int)) (F49 : (List (El T47)) → Option (List (El T47))) (F30 : (El T25) → Int → Int → Int → Option (Int × Int × Int)) (F33 : (El T25) → Int → Int → Int → Option (Int × Bool)) (F42 : Int → Option (Bool)) (F42 : Int → Option (Bool)) (K : Nat) (a0 : El T25) (a1 : List (El T38)) (a2 : Int) (a3 : (Unit × Unit)) : Option ((List (El T44)) × Int) := t3037 F18 F49 F30 F33 F42 F42 K a0 a1 a2 a3 (L3037_0 F18 F49 F30 F33 F42 F42 K a0 a1 a2 a3)
theorem lp3037_1 (F18 : (El T25) → Option (Int)) (F49 : (List (El T47)) → Option (List (El T47))) (F30 : (El T25) → Int → Int → Int → Option (Int × Int × Int)) (F33 : (El T25) → Int → Int → Int → Option (Int × Bool)) (F42 : Int → Option (Bool)) (F42 : Int → Option (Bool)) (K : Nat) (a0 : El T25) (a1 : List (El T38)) (a2 : Int) (a3 : (Unit × Unit)) : ∀ (n : Nat) (ps14 : Int) (ps67 : Int) (ph63 : List (El T47)) (ph133 : List (El T44)), loopN Try.prog (tab3037 F18 F49 F30 F33 F42 F42) 0 K Try.f37 la3037 dq3037.k 1 [] n (hd3037_1 a0 a1 a2 a3 ps14 ps67 ph63 ph133) = L3037_1 F18 F49 F30 F33 F42 F42 K a0 a1 a2 a3 n ps14 ps67 ph63 ph133
  | 0, _, _, _, _ => by kernel_rfl
  | n + 1, ps14, ps67, ph63, ph133 => by
    have h : loopN Try.prog (tab3037 F18 F49 F30 F33 F42 F42) 0 K Try.f37 la3037 dq3037.k 1 [] (n + 1) (hd3037_1 a0 a1 a2 a3 ps14 ps67 ph63 ph133) = b3037_1 F18 F49 F30 F33 F42 F42 K a0 a1 a2 a3 (fun q0 q1 q2 q3 => loopN Try.prog (tab3037 F18 F49 F30 F33 F42 F42) 0 K Try.f37 la3037 dq3037.k 1 [] n (hd3037_1 a0 a1 a2 a3 q0 q1 q2 q3)) ps14 ps67 ph63 ph133 := by kernel_rfl
    rw [h]
    simp only [lp3037_1 F18 F49 F30 F33 F42 F42 K a0 a1 a2 a3 n]
    rfl
theorem lp3037_0 (F18 : (El T25) → Option (Int)) (F49 : (List (El T47)) → Option (List (El T47))) (F30 : (El T25) → Int → Int → Int → Option (Int × Int × Int)) (F33 : (El T25) → Int → Int → Int → Option (Int × Bool)) (F42 : Int → Option (Bool)) (F42 : Int → Option (Bool)) (K : Nat) (a0 : El T25) (a1 : List (El T38)) (a2 : Int) (a3 : (Unit × Unit)) : ∀ (n : Nat) (ps42 : Int), loopN Try.prog (tab3037 F18 F49 F30 F33 F42 F42) 0 K Try.f37 la3037 dq3037.k 0 [] n (hd3037_0 a0 a1 a2 a3 ps42) = L3037_0 F18 F49 F30 F33 F42 F42 K a0 a1 a2 a3 n ps42
  | 0, _ => by kernel_rfl
  | n + 1, ps42 => by
    have h : loopN Try.prog (tab3037 F18 F49 F30 F33 F42 F42) 0 K Try.f37 la3037 dq3037.k 0 [] (n + 1) (hd3037_0 a0 a1 a2 a3 ps42) = b3037_0 F18 F49 F30 F33 F42 F42 K a0 a1 a2 a3 (fun q0 => loopN Try.prog (tab3037 F18 F49 F30 F33 F42 F42) 0 K Try.f37 la3037 dq3037.k 0 [] n (hd3037_0 a0 a1 a2 a3 q0)) (fun k q0 q1 q2 q3 => loopN Try.prog (tab3037 F18 F49 F30 F33 F42 F42) 0 K Try.f37 la3037 dq3037.k 1 [] k (hd3037_1 a0 a1 a2 a3 q0 q1 q2 q3)) ps42 := by kernel_rfl
    rw [h]
    simp only [lp3037_0 F18 F49 F30 F33 F42 F42 K a0 a1 a2 a3 n, lp3037_1 F18 F49 F30 F33 F42 F42 K a0 a1 a2 a3]
    rfl
theorem ev3037 (F18 : (El T25) → Option (Int)) (F49 : (List (El T47)) → Option (List (El T47))) (F30 : (El T25) → Int → Int → Int → Option (Int × Int × Int)) (F33 : (El T25) → Int → Int → Int → Option (Int × Bool)) (F42 : Int → Option (Bool)) (F42 : Int → Option (Bool)) (K : Nat) (a0 : El T25) (a1 : List (El T38)) (a2 : Int) (a3 : (Unit × Unit)) : evFun Try.prog (tab3037 F18 F49 F30 F33 F42 F42) 0 K Try.f37 la3037 [.agg (cellsOf T25 a0), .row T38 a1, I .i64 a2, .agg [.fn 42 [], .fn 42 []]] [] dq3037.k = G3037 F18 F49 F30 F33 F42 F42 K a0 a1 a2 a3 := by
  have h : evFun Try.prog (tab3037 F18 F49 F30 F33 F42 F42) 0 K Try.f37 la3037 [.agg (cellsOf T25 a0), .row T38 a1, I .i64 a2, .agg [.fn 42 [], .fn 42 []]] [] dq3037.k = t3037 F18 F49 F30 F33 F42 F42 K a0 a1 a2 a3 (fun k q0 => loopN Try.prog (tab3037 F18 F49 F30 F33 F42 F42) 0 K Try.f37 la3037 dq3037.k 0 [] k (hd3037_0 a0 a1 a2 a3 q0)) := by kernel_rfl
  rw [h]
  simp only [lp3037_0 F18 F49 F30 F33 F42 F42 K a0 a1 a2 a3]
  rfl
noncomputable def F3037 (K : Nat) (a0 : El T25) (a1 : List (El T38)) (a2 : Int) (a3 : (Unit × Unit)) : Option ((List (El T44)) × Int) := G3037 (F18 K) (F49 K) (F30 K) (F33 K) (F42 K) (F42 K) K a0 a1 a2 a3
theorem cok3037 (K : Nat) : CallOK D Try.prog (tab3037 (F18 K) (F49 K) (F30 K) (F33 K) (F42 K) (F42 K)) := (add_ok (add_ok (add_ok (add_ok (add_ok (add_ok none_ok ent18 (ok18 K)) ent49 (ok49 K)) ent30 (ok30 K)) ent33 (ok33 K)) ent42 (ok42 K)) ent42 (ok42 K))
theorem ok3037 (K : Nat) : RowOK D Try.prog 37 (row ad3037 dq3037 fun p => F3037 K p.1 p.2.1 p.2.2.1 p.2.2.2) := row_ok fun x r h => has_of (cok3037 K) Try.func37 ((ev3037 (F18 K) (F49 K) (F30 K) (F33 K) (F42 K) (F42 K) K x.1 x.2.1 x.2.2.1 x.2.2.2).trans h)
/-! ganger/backfill.FIFO -/
noncomputable def tab26 (F40 : Int → Option (Bool)) (F41 : Int → Option (Bool)) (F1037 : (El T25) → (List (El T38)) → Int → ((Unit × Unit)) → Option ((List (El T44)) × Int)) : Tab := (((Tab.none.add 40 (row ad40 dq40 fun p => F40 p)).add 41 (row ad41 dq41 fun p => F41 p)).add 37 (row ad1037 dq1037 fun p => F1037 p.1 p.2.1 p.2.2.1 p.2.2.2))
noncomputable def t26 (F40 : Int → Option (Bool)) (F41 : Int → Option (Bool)) (F1037 : (El T25) → (List (El T38)) → Int → ((Unit × Unit)) → Option ((List (El T44)) × Int)) (K : Nat) (a0 : El T25) (a1 : List (El T38)) (a2 : Int) : Option ((List (El T44)) × Int) := 
 (Option.bind (F1037 a0 a1 a2 ((), ())) fun x0 => some (x0))
noncomputable def G26 (F40 : Int → Option (Bool)) (F41 : Int → Option (Bool)) (F1037 : (El T25) → (List (El T38)) → Int → ((Unit × Unit)) → Option ((List (El T44)) × Int)) (K : Nat) (a0 : El T25) (a1 : List (El T38)) (a2 : Int) : Option ((List (El T44)) × Int) := t26 F40 F41 F1037 K a0 a1 a2
theorem ev26 (F40 : Int → Option (Bool)) (F41 : Int → Option (Bool)) (F1037 : (El T25) → (List (El T38)) → Int → ((Unit × Unit)) → Option ((List (El T44)) × Int)) (K : Nat) (a0 : El T25) (a1 : List (El T38)) (a2 : Int) : evFun Try.prog (tab26 F40 F41 F1037) 0 K Try.f26 [] [.agg (cellsOf T25 a0), .row T38 a1, I .i64 a2] [] dq26.k = G26 F40 F41 F1037 K a0 a1 a2 := by
  kernel_rfl
noncomputable def F26 (K : Nat) (a0 : El T25) (a1 : List (El T38)) (a2 : Int) : Option ((List (El T44)) × Int) := G26 (F40 K) (F41 K) (F1037 K) K a0 a1 a2
theorem cok26 (K : Nat) : CallOK D Try.prog (tab26 (F40 K) (F41 K) (F1037 K)) := (add_ok (add_ok (add_ok none_ok ent40 (ok40 K)) ent41 (ok41 K)) ent1037 (ok1037 K))
theorem ok26 (K : Nat) : RowOK D Try.prog 26 (row ad26 dq26 fun p => F26 K p.1 p.2.1 p.2.2) := row_ok fun x r h => has_of (cok26 K) Try.func26 ((ev26 (F40 K) (F41 K) (F1037 K) K x.1 x.2.1 x.2.2).trans h)
/-! ganger/backfill.Easy -/
noncomputable def tab24 (F38 : Int → Option (Bool)) (F39 : Int → Option (Bool)) (F2037 : (El T25) → (List (El T38)) → Int → ((Unit × Unit)) → Option ((List (El T44)) × Int)) : Tab := (((Tab.none.add 38 (row ad38 dq38 fun p => F38 p)).add 39 (row ad39 dq39 fun p => F39 p)).add 37 (row ad2037 dq2037 fun p => F2037 p.1 p.2.1 p.2.2.1 p.2.2.2))
noncomputable def t24 (F38 : Int → Option (Bool)) (F39 : Int → Option (Bool)) (F2037 : (El T25) → (List (El T38)) → Int → ((Unit × Unit)) → Option ((List (El T44)) × Int)) (K : Nat) (a0 : El T25) (a1 : List (El T38)) (a2 : Int) : Option ((List (El T44)) × Int) := 
 (Option.bind (F2037 a0 a1 a2 ((), ())) fun x0 => some (x0))
noncomputable def G24 (F38 : Int → Option (Bool)) (F39 : Int → Option (Bool)) (F2037 : (El T25) → (List (El T38)) → Int → ((Unit × Unit)) → Option ((List (El T44)) × Int)) (K : Nat) (a0 : El T25) (a1 : List (El T38)) (a2 : Int) : Option ((List (El T44)) × Int) := t24 F38 F39 F2037 K a0 a1 a2
theorem ev24 (F38 : Int → Option (Bool)) (F39 : Int → Option (Bool)) (F2037 : (El T25) → (List (El T38)) → Int → ((Unit × Unit)) → Option ((List (El T44)) × Int)) (K : Nat) (a0 : El T25) (a1 : List (El T38)) (a2 : Int) : evFun Try.prog (tab24 F38 F39 F2037) 0 K Try.f24 [] [.agg (cellsOf T25 a0), .row T38 a1, I .i64 a2] [] dq24.k = G24 F38 F39 F2037 K a0 a1 a2 := by
  kernel_rfl
noncomputable def F24 (K : Nat) (a0 : El T25) (a1 : List (El T38)) (a2 : Int) : Option ((List (El T44)) × Int) := G24 (F38 K) (F39 K) (F2037 K) K a0 a1 a2
theorem cok24 (K : Nat) : CallOK D Try.prog (tab24 (F38 K) (F39 K) (F2037 K)) := (add_ok (add_ok (add_ok none_ok ent38 (ok38 K)) ent39 (ok39 K)) ent2037 (ok2037 K))
theorem ok24 (K : Nat) : RowOK D Try.prog 24 (row ad24 dq24 fun p => F24 K p.1 p.2.1 p.2.2) := row_ok fun x r h => has_of (cok24 K) Try.func24 ((ev24 (F38 K) (F39 K) (F2037 K) K x.1 x.2.1 x.2.2).trans h)
/-! ganger/backfill.Conservative -/
noncomputable def tab27 (F42 : Int → Option (Bool)) (F3037 : (El T25) → (List (El T38)) → Int → ((Unit × Unit)) → Option ((List (El T44)) × Int)) : Tab := ((Tab.none.add 42 (row ad42 dq42 fun p => F42 p)).add 37 (row ad3037 dq3037 fun p => F3037 p.1 p.2.1 p.2.2.1 p.2.2.2))
noncomputable def t27 (F42 : Int → Option (Bool)) (F3037 : (El T25) → (List (El T38)) → Int → ((Unit × Unit)) → Option ((List (El T44)) × Int)) (K : Nat) (a0 : El T25) (a1 : List (El T38)) (a2 : Int) : Option ((List (El T44)) × Int) := 
 (Option.bind (F3037 a0 a1 a2 ((), ())) fun x0 => some (x0))
noncomputable def G27 (F42 : Int → Option (Bool)) (F3037 : (El T25) → (List (El T38)) → Int → ((Unit × Unit)) → Option ((List (El T44)) × Int)) (K : Nat) (a0 : El T25) (a1 : List (El T38)) (a2 : Int) : Option ((List (El T44)) × Int) := t27 F42 F3037 K a0 a1 a2
theorem ev27 (F42 : Int → Option (Bool)) (F3037 : (El T25) → (List (El T38)) → Int → ((Unit × Unit)) → Option ((List (El T44)) × Int)) (K : Nat) (a0 : El T25) (a1 : List (El T38)) (a2 : Int) : evFun Try.prog (tab27 F42 F3037) 0 K Try.f27 [] [.agg (cellsOf T25 a0), .row T38 a1, I .i64 a2] [] dq27.k = G27 F42 F3037 K a0 a1 a2 := by
  kernel_rfl
noncomputable def F27 (K : Nat) (a0 : El T25) (a1 : List (El T38)) (a2 : Int) : Option ((List (El T44)) × Int) := G27 (F42 K) (F3037 K) K a0 a1 a2
theorem cok27 (K : Nat) : CallOK D Try.prog (tab27 (F42 K) (F3037 K)) := (add_ok (add_ok none_ok ent42 (ok42 K)) ent3037 (ok3037 K))
theorem ok27 (K : Nat) : RowOK D Try.prog 27 (row ad27 dq27 fun p => F27 K p.1 p.2.1 p.2.2) := row_ok fun x r h => has_of (cok27 K) Try.func27 ((ev27 (F42 K) (F3037 K) K x.1 x.2.1 x.2.2).trans h)
end Go.Proofs.YtipfamkhplkpmaaE
