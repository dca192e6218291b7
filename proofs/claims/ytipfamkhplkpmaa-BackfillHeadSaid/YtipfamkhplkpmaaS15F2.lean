import Derived.Test.YtipfamkhplkpmaaS15F1
set_option linter.all false
namespace Go.Proofs.YtipfamkhplkpmaaE
open Go Go.Proofs
set_option maxRecDepth 100000
set_option linter.unusedVariables false
variable {D : Prop}
/-! ganger/backfill.size -/
noncomputable def tab32 : Tab := Tab.none
noncomputable def t32 (K : Nat) (a0 : Int) : Option (Int) := (if decide ((0 : Int) ≤ a0) = true then some (IntKind.i64.wrap ((1 : Int) * (2 : Int) ^ min a0.toNat IntKind.i64.bits))
 else none)
noncomputable def G32 (K : Nat) (a0 : Int) : Option (Int) := t32 K a0
theorem ev32 (K : Nat) (a0 : Int) : evFun Try.prog (tab32) 0 K Try.f32 [] [I .i64 a0] [] dq32.k = G32 K a0 := by
  kernel_rfl
noncomputable def F32 (K : Nat) (a0 : Int) : Option (Int) := G32 K a0
theorem cok32 (K : Nat) : CallOK D Try.prog (tab32) := none_ok
theorem ok32 (K : Nat) : RowOK D Try.prog 32 (row ad32 dq32 fun p => F32 K p) := row_ok fun x r h => has_of (cok32 K) Try.func32 ((ev32 K x).trans h)
/-! ganger/backfill.fits -/
noncomputable def tab28 (F32 : Int → Option (Int)) : Tab := (Tab.none.add 32 (row ad32 dq32 fun p => F32 p))
noncomputable def t28 (F32 : Int → Option (Int)) (K : Nat) (a0 : El T25) (a1 : El T42) : Option (Bool) := (if decide (a1.2 ≥ (0 : Int)) = true then (if decide (a1.2 ≤ a0.1) = true then (if decide (a1.1 ≥ (0 : Int)) = true then 
    (Option.bind (F32 a0.1) fun x0 => (if decide (a1.1 < x0) = true then 
      (Option.bind (F32 a1.2) fun x1 => (if (!x1 == (0 : Int)) = true then some (Int.tmod a1.1 x1 == (0 : Int))
       else none))
     else some (false)))
   else some (false))
  else some (false))
 else some (false))
noncomputable def G28 (F32 : Int → Option (Int)) (K : Nat) (a0 : El T25) (a1 : El T42) : Option (Bool) := t28 F32 K a0 a1
theorem ev28 (F32 : Int → Option (Int)) (K : Nat) (a0 : El T25) (a1 : El T42) : evFun Try.prog (tab28 F32) 0 K Try.f28 [] [.agg (cellsOf T25 a0), .agg (cellsOf T42 a1)] [] dq28.k = G28 F32 K a0 a1 := by
  kernel_rfl
noncomputable def F28 (K : Nat) (a0 : El T25) (a1 : El T42) : Option (Bool) := G28 (F32 K) K a0 a1
theorem cok28 (K : Nat) : CallOK D Try.prog (tab28 (F32 K)) := (add_ok none_ok ent32 (ok32 K))
theorem ok28 (K : Nat) : RowOK D Try.prog 28 (row ad28 dq28 fun p => F28 K p.1 p.2) := row_ok fun x r h => has_of (cok28 K) Try.func28 ((ev28 (F32 K) K x.1 x.2).trans h)
/-! ganger/backfill.Check -/
noncomputable def tab18 (F32 : Int → Option (Int)) (F28 : (El T25) → (El T42) → Option (Bool)) : Tab := ((Tab.none.add 32 (row ad32 dq32 fun p => F32 p)).add 28 (row ad28 dq28 fun p => F28 p.1 p.2))
noncomputable def la18 : List (List Tidy) := [[.only [1, 3, 23, 24, 25], .ids [1, 7, 19, 24, 43, 51], .top [1000000]], [.only [1, 42, 43, 44], .ids [1, 19, 24, 36, 43], .top [1000001]]]
noncomputable def hd18_0 (a0 : El T25) (ps3 : Int) (ps25 : Int) : St := { tm := slots (nat_lit 71) [(nat_lit 1, AV.ptr (nat_lit 1) (nat_lit 0)), (nat_lit 3, AV.sc (Value.int IntKind.i64 ps3)), (nat_lit 23, AV.row (Ty.int IntKind.i64) a0.2.1), (nat_lit 24, AV.sc (Value.int IntKind.i64 (↑(List.length a0.2.1) : Int))), (nat_lit 25, AV.sc (Value.int IntKind.i64 ps25))], H := [(nat_lit 1, ABlk.box (nat_lit 25) (cellsOf T25 a0))] }
noncomputable def hd18_1 (a0 : El T25) (ps44 : Int) : St := { tm := slots (nat_lit 71) [(nat_lit 1, AV.ptr (nat_lit 1) (nat_lit 0)), (nat_lit 42, AV.row T47 a0.2.2), (nat_lit 43, AV.sc (Value.int IntKind.i64 (↑(List.length a0.2.2) : Int))), (nat_lit 44, AV.sc (Value.int IntKind.i64 ps44))], H := [(nat_lit 1, ABlk.box (nat_lit 25) (cellsOf T25 a0))] }
noncomputable def b18_1 (F32 : Int → Option (Int)) (F28 : (El T25) → (El T42) → Option (Bool)) (K : Nat) (a0 : El T25) (r1 : Int → Option (Int)) (ps44 : Int) : Option (Int) :=(if decide (ps44 < (↑(List.length a0.2.2) : Int)) = true then (if decide ((0 : Int) ≤ ps44 ∧ ps44 < (↑(List.length a0.2.2) : Int)) = true then 
    (Option.bind (F28 a0 (List.getD a0.2.2 ps44.toNat (zEl T47)).1) fun x1 => (if (!x1) = true then some ((2 : Int))
     else (if decide ((List.getD a0.2.2 ps44.toNat (zEl T47)).2.1 < (0 : Int)) = true then some ((2 : Int))
      else (if decide ((List.getD a0.2.2 ps44.toNat (zEl T47)).2.2 ≤ (List.getD a0.2.2 ps44.toNat (zEl T47)).2.1) = true then some ((2 : Int))
       else (if decide ((List.getD a0.2.2 ps44.toNat (zEl T47)).2.2 > (4398046511104 : Int)) = true then some ((2 : Int))
        else r1 (IntKind.i64.wrap (ps44 + (1 : Int))))))))
   else none)
  else some ((0 : Int)))
noncomputable def L18_1 (F32 : Int → Option (Int)) (F28 : (El T25) → (El T42) → Option (Bool)) (K : Nat) (a0 : El T25) : Nat → Int → Option (Int)
  | 0, _ => none
  | n + 1, ps44 => b18_1 F32 F28 K a0 (L18_1 F32 F28 K a0 n) ps44
noncomputable def b18_0 (F32 : Int → Option (Int)) (F28 : (El T25) → (El T42) → Option (Bool)) (K : Nat) (a0 : El T25) (r0 : Int → Int → Option (Int)) (l1 : Nat → Int → Option (Int)) (ps3 : Int) (ps25 : Int) : Option (Int) :=(if decide (ps25 < (↑(List.length a0.2.1) : Int)) = true then (if decide ((0 : Int) ≤ ps25 ∧ ps25 < (↑(List.length a0.2.1) : Int)) = true then (if decide (List.getD a0.2.1 ps25.toNat (zEl (Ty.int IntKind.i64)) ≤ ps3) = true then some ((2 : Int))
    else 
     (Option.bind (F32 a0.1) fun x0 => (if decide (List.getD a0.2.1 ps25.toNat (zEl (Ty.int IntKind.i64)) ≥ x0) = true then some ((2 : Int))
      else r0 (List.getD a0.2.1 ps25.toNat (zEl (Ty.int IntKind.i64))) (IntKind.i64.wrap (ps25 + (1 : Int))))))
   else none)
  else l1 K ((0 : Int)))
noncomputable def L18_0 (F32 : Int → Option (Int)) (F28 : (El T25) → (El T42) → Option (Bool)) (K : Nat) (a0 : El T25) : Nat → Int → Int → Option (Int)
  | 0, _, _ => none
  | n + 1, ps3, ps25 => b18_0 F32 F28 K a0 (L18_0 F32 F28 K a0 n) (L18_1 F32 F28 K a0) ps3 ps25
noncomputable def t18 (F32 : Int → Option (Int)) (F28 : (El T25) → (El T42) → Option (Bool)) (K : Nat) (a0 : El T25) (l0 : Nat → Int → Int → Option (Int)) : Option (Int) := (if decide (a0.1 < (0 : Int)) = true then some ((2 : Int))
 else (if decide (a0.1 > (10 : Int)) = true then some ((2 : Int))
  else (if decide ((↑(List.length a0.2.2) : Int) > (300 : Int)) = true then some ((2 : Int))
   else l0 K ((-1 : Int)) ((0 : Int)))))
noncomputable def G18 (F32 : Int → Option (Int)) (F28 : (El T25) → (El T42) → Option (Bool)) (K : Nat) (a0 : El T25) : Option (Int) := t18 F32 F28 K a0 (L18_0 F32 F28 K a0)
theorem lp18_1 (F32 : Int → Option (Int)) (F28 : (El T25) → (El T42) → Option (Bool)) (K : Nat) (a0 : El T25) : ∀ (n : Nat) (ps44 : Int), loopN Try.prog (tab18 F32 F28) 0 K Try.f18 la18 dq18.k 1 [] n (hd18_1 a0 ps44) = L18_1 F32 F28 K a0 n ps44
  | 0, _ => by kernel_rfl
  | n + 1, ps44 => by
    have h : loopN Try.prog (tab18 F32 F28) 0 K Try.f18 la18 dq18.k 1 [] (n + 1) (hd18_1 a0 ps44) = b18_1 F32 F28 K a0 (fun q0 => loopN Try.prog (tab18 F32 F28) 0 K Try.f18 la18 dq18.k 1 [] n (hd18_1 a0 q0)) ps44 := by kernel_rfl
    rw [h]
    simp only [lp18_1 F32 F28 K a0 n]
    rfl
theorem lp18_0 (F32 : Int → Option (Int)) (F28 : (El T25) → (El T42) → Option (Bool)) (K : Nat) (a0 : El T25) : ∀ (n : Nat) (ps3 : Int) (ps25 : Int), loopN Try.prog (tab18 F32 F28) 0 K Try.f18 la18 dq18.k 0 [] n (hd18_0 a0 ps3 ps25) = L18_0 F32 F28 K a0 n ps3 ps25
  | 0, _, _ => by kernel_rfl
  | n + 1, ps3, ps25 => by
    have h : loopN Try.prog (tab18 F32 F28) 0 K Try.f18 la18 dq18.k 0 [] (n + 1) (hd18_0 a0 ps3 ps25) = b18_0 F32 F28 K a0 (fun q0 q1 => loopN Try.prog (tab18 F32 F28) 0 K Try.f18 la18 dq18.k 0 [] n (hd18_0 a0 q0 q1)) (fun k q0 => loopN Try.prog (tab18 F32 F28) 0 K Try.f18 la18 dq18.k 1 [] k (hd18_1 a0 q0)) ps3 ps25 := by kernel_rfl
    rw [h]
    simp only [lp18_0 F32 F28 K a0 n, lp18_1 F32 F28 K a0]
    rfl
theorem ev18 (F32 : Int → Option (Int)) (F28 : (El T25) → (El T42) → Option (Bool)) (K : Nat) (a0 : El T25) : evFun Try.prog (tab18 F32 F28) 0 K Try.f18 la18 [.agg (cellsOf T25 a0)] [] dq18.k = G18 F32 F28 K a0 := by
  have h : evFun Try.prog (tab18 F32 F28) 0 K Try.f18 la18 [.agg (cellsOf T25 a0)] [] dq18.k = t18 F32 F28 K a0 (fun k q0 q1 => loopN Try.prog (tab18 F32 F28) 0 K Try.f18 la18 dq18.k 0 [] k (hd18_0 a0 q0 q1)) := by kernel_rfl
  rw [h]
  simp only [lp18_0 F32 F28 K a0]
  rfl
noncomputable def F18 (K : Nat) (a0 : El T25) : Option (Int) := G18 (F32 K) (F28 K) K a0
theorem cok18 (K : Nat) : CallOK D Try.prog (tab18 (F32 K) (F28 K)) := (add_ok (add_ok none_ok ent32 (ok32 K)) ent28 (ok28 K))
theorem ok18 (K : Nat) : RowOK D Try.prog 18 (row ad18 dq18 fun p => F18 K p) := row_ok fun x r h => has_of (cok18 K) Try.func18 ((ev18 (F32 K) (F28 K) K x).trans h)
/-! slices.Clone[[]ganger/api.Held,ganger/api.Held] -/
noncomputable def tab49 : Tab := Tab.none
noncomputable def t49 (K : Nat) (a0 : List (El T47)) : Option (List (El T47)) := (if a0.length = (0 : Nat) then 
  (both (some ([]))
  ((if decide (((0 : Nat) + a0.length) * Try.prog.types[(47 : Nat)].bytes ≤ (140737488355328 : Nat)) = true then some (a0)
   else none)))
 else (if decide (((0 : Nat) + a0.length) * Try.prog.types[(47 : Nat)].bytes ≤ (140737488355328 : Nat)) = true then some (a0)
  else none))
noncomputable def G49 (K : Nat) (a0 : List (El T47)) : Option (List (El T47)) := t49 K a0
theorem ev49 (K : Nat) (a0 : List (El T47)) : evFun Try.prog (tab49) 0 K Try.f49 [] [.row T47 a0] [] dq49.k = G49 K a0 := by
  kernel_rfl
noncomputable def F49 (K : Nat) (a0 : List (El T47)) : Option (List (El T47)) := G49 K a0
theorem cok49 (K : Nat) : CallOK D Try.prog (tab49) := none_ok
theorem ok49 (K : Nat) : RowOK D Try.prog 49 (row ad49 dq49 fun p => F49 K p) := row_ok fun x r h => has_of (cok49 K) Try.func49 ((ev49 K x).trans h)
/-! cmp.isNaN[int] -/
noncomputable def tab54 : Tab := Tab.none
noncomputable def t54 (K : Nat) (a0 : Int) : Option (Bool) := some (a0 != a0)
noncomputable def G54 (K : Nat) (a0 : Int) : Option (Bool) := t54 K a0
theorem ev54 (K : Nat) (a0 : Int) : evFun Try.prog (tab54) 0 K Try.f54 [] [I .i64 a0] [] dq54.k = G54 K a0 := by
  kernel_rfl
noncomputable def F54 (K : Nat) (a0 : Int) : Option (Bool) := G54 K a0
theorem cok54 (K : Nat) : CallOK D Try.prog (tab54) := none_ok
theorem ok54 (K : Nat) : RowOK D Try.prog 54 (row ad54 dq54 fun p => F54 K p) := row_ok fun x r h => has_of (cok54 K) Try.func54 ((ev54 K x).trans h)
/-! cmp.Less[int] -/
noncomputable def tab50 (F54 : Int → Option (Bool)) : Tab := (Tab.none.add 54 (row ad54 dq54 fun p => F54 p))
noncomputable def t50 (F54 : Int → Option (Bool)) (K : Nat) (a0 : Int) (a1 : Int) : Option (Bool) := 
 (Option.bind (F54 a0) fun x0 => (if x0 = true then 
   (Option.bind (F54 a1) fun x1 => (if (!x1) = true then some (true)
    else some (decide (a0 < a1))))
  else some (decide (a0 < a1))))
noncomputable def G50 (F54 : Int → Option (Bool)) (K : Nat) (a0 : Int) (a1 : Int) : Option (Bool) := t50 F54 K a0 a1
theorem ev50 (F54 : Int → Option (Bool)) (K : Nat) (a0 : Int) (a1 : Int) : evFun Try.prog (tab50 F54) 0 K Try.f50 [] [I .i64 a0, I .i64 a1] [] dq50.k = G50 F54 K a0 a1 := by
  kernel_rfl
noncomputable def F50 (K : Nat) (a0 : Int) (a1 : Int) : Option (Bool) := G50 (F54 K) K a0 a1
theorem cok50 (K : Nat) : CallOK D Try.prog (tab50 (F54 K)) := (add_ok none_ok ent54 (ok54 K))
theorem ok50 (K : Nat) : RowOK D Try.prog 50 (row ad50 dq50 fun p => F50 K p.1 p.2) := row_ok fun x r h => has_of (cok50 K) Try.func50 ((ev50 (F54 K) K x.1 x.2).trans h)
/-! slices.isNaN[int] -/
noncomputable def tab51 : Tab := Tab.none
noncomputable def t51 (K : Nat) (a0 : Int) : Option (Bool) := some (a0 != a0)
noncomputable def G51 (K : Nat) (a0 : Int) : Option (Bool) := t51 K a0
theorem ev51 (K : Nat) (a0 : Int) : evFun Try.prog (tab51) 0 K Try.f51 [] [I .i64 a0] [] dq51.k = G51 K a0 := by
  kernel_rfl
noncomputable def F51 (K : Nat) (a0 : Int) : Option (Bool) := G51 K a0
theorem cok51 (K : Nat) : CallOK D Try.prog (tab51) := none_ok
theorem ok51 (K : Nat) : RowOK D Try.prog 51 (row ad51 dq51 fun p => F51 K p) := row_ok fun x r h => has_of (cok51 K) Try.func51 ((ev51 K x).trans h)
/-! slices.BinarySearch[[]int,int] -/
noncomputable def tab43 (F50 : Int → Int → Option (Bool)) (F51 : Int → Option (Bool)) : Tab := ((Tab.none.add 50 (row ad50 dq50 fun p => F50 p.1 p.2)).add 51 (row ad51 dq51 fun p => F51 p))
noncomputable def la43 : List (List Tidy) := [[.only [0, 1, 6, 7, 8], .ids [11, 47, 50], .top [1000000]]]
noncomputable def hd43_0 (a0 : List (El (.int .i64))) (a1 : Int) (ps7 : Int) (ps8 : Int) : St := { tm := slots (nat_lit 54) [(nat_lit 0, AV.row (Ty.int IntKind.i64) a0), (nat_lit 1, AV.sc (Value.int IntKind.i64 a1)), (nat_lit 6, AV.sc (Value.int IntKind.i64 (↑a0.length : Int))), (nat_lit 7, AV.sc (Value.int IntKind.i64 ps7)), (nat_lit 8, AV.sc (Value.int IntKind.i64 ps8))], H := [] }
noncomputable def b43_0 (F50 : Int → Int → Option (Bool)) (F51 : Int → Option (Bool)) (K : Nat) (a0 : List (El (.int .i64))) (a1 : Int) (r0 : Int → Int → Option (Int × Bool)) (ps7 : Int) (ps8 : Int) : Option (Int × Bool) :=(if decide (ps7 < ps8) = true then (if decide ((0 : Int) ≤ IntKind.i64.wrap ((IntKind.u64.wrap (IntKind.i64.wrap (ps7 + ps8))).fdiv ((2 : Int) ^ min (Int.toNat (1 : Int)) IntKind.u64.bits)) ∧ IntKind.i64.wrap ((IntKind.u64.wrap (IntKind.i64.wrap (ps7 + ps8))).fdiv ((2 : Int) ^ min (Int.toNat (1 : Int)) IntKind.u64.bits)) < (↑a0.length : Int)) = true then 
    (Option.bind (F50 (a0.getD (IntKind.i64.wrap ((IntKind.u64.wrap (IntKind.i64.wrap (ps7 + ps8))).fdiv ((2 : Int) ^ min (Int.toNat (1 : Int)) IntKind.u64.bits))).toNat (zEl (Ty.int IntKind.i64))) a1) fun x0 => (if x0 = true then r0 (IntKind.i64.wrap (IntKind.i64.wrap ((IntKind.u64.wrap (IntKind.i64.wrap (ps7 + ps8))).fdiv ((2 : Int) ^ min (Int.toNat (1 : Int)) IntKind.u64.bits)) + (1 : Int))) (ps8)
     else r0 (ps7) (IntKind.i64.wrap ((IntKind.u64.wrap (IntKind.i64.wrap (ps7 + ps8))).fdiv ((2 : Int) ^ min (Int.toNat (1 : Int)) IntKind.u64.bits)))))
   else none)
  else (if decide (ps7 < (↑a0.length : Int)) = true then (if decide ((0 : Int) ≤ ps7 ∧ ps7 < (↑a0.length : Int)) = true then (if (a0.getD ps7.toNat (zEl (Ty.int IntKind.i64)) == a1) = true then some ((ps7, true))
     else (if decide ((0 : Int) ≤ ps7 ∧ ps7 < (↑a0.length : Int)) = true then 
       (Option.bind (F51 (a0.getD ps7.toNat (zEl (Ty.int IntKind.i64)))) fun x1 => (if x1 = true then 
         (Option.bind (F51 a1) fun x2 => some ((ps7, x2)))
        else some ((ps7, false))))
      else none))
    else none)
   else some ((ps7, false))))
noncomputable def L43_0 (F50 : Int → Int → Option (Bool)) (F51 : Int → Option (Bool)) (K : Nat) (a0 : List (El (.int .i64))) (a1 : Int) : Nat → Int → Int → Option (Int × Bool)
  | 0, _, _ => none
  | n + 1, ps7, ps8 => b43_0 F50 F51 K a0 a1 (L43_0 F50 F51 K a0 a1 n) ps7 ps8
noncomputable def t43 (F50 : Int → Int → Option (Bool)) (F51 : Int → Option (Bool)) (K : Nat) (a0 : List (El (.int .i64))) (a1 : Int) (l0 : Nat → Int → Int → Option (Int × Bool)) : Option (Int × Bool) := l0 K ((0 : Int)) ((↑a0.length : Int))
noncomputable def G43 (F50 : Int → Int → Option (Bool)) (F51 : Int → Option (Bool)) (K : Nat) (a0 : List (El (.int .i64))) (a1 : Int) : Option (Int × Bool) := t43 F50 F51 K a0 a1 (L43_0 F50 F51 K a0 a1)
theorem lp43_0 (F50 : Int → Int → Option (Bool)) (F51 : Int → Option (Bool)) (K : Nat) (a0 : List (El (.int .i64))) (a1 : Int) : ∀ (n : Nat) (ps7 : Int) (ps8 : Int), loopN Try.prog (tab43 F50 F51) 0 K Try.f43 la43 dq43.k 0 [] n (hd43_0 a0 a1 ps7 ps8) = L43_0 F50 F51 K a0 a1 n ps7 ps8
  | 0, _, _ => by kernel_rfl
  | n + 1, ps7, ps8 => by
    have h : loopN Try.prog (tab43 F50 F51) 0 K Try.f43 la43 dq43.k 0 [] (n + 1) (hd43_0 a0 a1 ps7 ps8) = b43_0 F50 F51 K a0 a1 (fun q0 q1 => loopN Try.prog (tab43 F50 F51) 0 K Try.f43 la43 dq43.k 0 [] n (hd43_0 a0 a1 q0 q1)) ps7 ps8 := by kernel_rfl
    rw [h]
    simp only [lp43_0 F50 F51 K a0 a1 n]
    rfl
theorem ev43 (F50 : Int → Int → Option (Bool)) (F51 : Int → Option (Bool)) (K : Nat) (a0 : List (El (.int .i64))) (a1 : Int) : evFun Try.prog (tab43 F50 F51) 0 K Try.f43 la43 [.row (.int .i64) a0, I .i64 a1] [] dq43.k = G43 F50 F51 K a0 a1 := by
  have h : evFun Try.prog (tab43 F50 F51) 0 K Try.f43 la43 [.row (.int .i64) a0, I .i64 a1] [] dq43.k = t43 F50 F51 K a0 a1 (fun k q0 q1 => loopN Try.prog (tab43 F50 F51) 0 K Try.f43 la43 dq43.k 0 [] k (hd43_0 a0 a1 q0 q1)) := by kernel_rfl
  rw [h]
  simp only [lp43_0 F50 F51 K a0 a1]
  rfl
noncomputable def F43 (K : Nat) (a0 : List (El (.int .i64))) (a1 : Int) : Option (Int × Bool) := G43 (F50 K) (F51 K) K a0 a1
theorem cok43 (K : Nat) : CallOK D Try.prog (tab43 (F50 K) (F51 K)) := (add_ok (add_ok none_ok ent50 (ok50 K)) ent51 (ok51 K))
theorem ok43 (K : Nat) : RowOK D Try.prog 43 (row ad43 dq43 fun p => F43 K p.1 p.2) := row_ok fun x r h => has_of (cok43 K) Try.func43 ((ev43 (F50 K) (F51 K) K x.1 x.2).trans h)
end Go.Proofs.YtipfamkhplkpmaaE
