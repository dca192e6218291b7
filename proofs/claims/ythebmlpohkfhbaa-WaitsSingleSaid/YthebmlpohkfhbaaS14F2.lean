import Derived.Test.YthebmlpohkfhbaaS14F1
set_option linter.all false
namespace Go.Proofs.YthebmlpohkfhbaaE
open Go Go.Proofs
set_option maxRecDepth 100000
set_option linter.unusedVariables false
/-! slices.Index[[]int,int] -/
noncomputable def tab52 : Tab := Tab.none
noncomputable def la52 : List (List Tidy) := [[.only [0, 1, 7, 8], .ids [7], .top [1000000]]]
noncomputable def hd52_0 (a0 : List (El (.int .i64))) (a1 : Int) (ps8 : Int) : St := { tm := slots (nat_lit 19) [(nat_lit 0, AV.row (Ty.int IntKind.i64) a0), (nat_lit 1, AV.sc (Value.int IntKind.i64 a1)), (nat_lit 7, AV.sc (Value.int IntKind.i64 (↑a0.length : Int))), (nat_lit 8, AV.sc (Value.int IntKind.i64 ps8))], H := [] }
noncomputable def b52_0 (K : Nat) (a0 : List (El (.int .i64))) (a1 : Int) (r0 : Int → Option (Int)) (ps8 : Int) : Option (Int) :=(if decide (ps8 < (↑a0.length : Int)) = true then (if decide ((0 : Int) ≤ ps8 ∧ ps8 < (↑a0.length : Int)) = true then (if (a1 == a0.getD ps8.toNat (zEl (Ty.int IntKind.i64))) = true then some (ps8)
    else r0 (IntKind.i64.wrap (ps8 + (1 : Int))))
   else none)
  else some ((-1 : Int)))
noncomputable def L52_0 (K : Nat) (a0 : List (El (.int .i64))) (a1 : Int) : Nat → Int → Option (Int)
  | 0, _ => none
  | n + 1, ps8 => b52_0 K a0 a1 (L52_0 K a0 a1 n) ps8
noncomputable def t52 (K : Nat) (a0 : List (El (.int .i64))) (a1 : Int) (l0 : Nat → Int → Option (Int)) : Option (Int) := l0 K ((0 : Int))
noncomputable def G52 (K : Nat) (a0 : List (El (.int .i64))) (a1 : Int) : Option (Int) := t52 K a0 a1 (L52_0 K a0 a1)
theorem lp52_0 (K : Nat) (a0 : List (El (.int .i64))) (a1 : Int) : ∀ (n : Nat) (ps8 : Int), loopN Try.prog (tab52) 0 K Try.f52 la52 dq52.k 0 [] n (hd52_0 a0 a1 ps8) = L52_0 K a0 a1 n ps8
  | 0, _ => by kernel_rfl
  | n + 1, ps8 => by
    have h : loopN Try.prog (tab52) 0 K Try.f52 la52 dq52.k 0 [] (n + 1) (hd52_0 a0 a1 ps8) = b52_0 K a0 a1 (fun q0 => loopN Try.prog (tab52) 0 K Try.f52 la52 dq52.k 0 [] n (hd52_0 a0 a1 q0)) ps8 := by kernel_rfl
    rw [h]
    simp only [lp52_0 K a0 a1 n]
    rfl
theorem ev52 (K : Nat) (a0 : List (El (.int .i64))) (a1 : Int) : evFun Try.prog (tab52) 0 K Try.f52 la52 [.row (.int .i64) a0, I .i64 a1] [] dq52.k = G52 K a0 a1 := by
  have h : evFun Try.prog (tab52) 0 K Try.f52 la52 [.row (.int .i64) a0, I .i64 a1] [] dq52.k = t52 K a0 a1 (fun k q0 => loopN Try.prog (tab52) 0 K Try.f52 la52 dq52.k 0 [] k (hd52_0 a0 a1 q0)) := by kernel_rfl
  rw [h]
  simp only [lp52_0 K a0 a1]
  rfl
noncomputable def F52 (K : Nat) (a0 : List (El (.int .i64))) (a1 : Int) : Option (Int) := G52 K a0 a1
theorem cok52 (K : Nat) : CallOK Try.prog (tab52) := none_ok
theorem ok52 (K : Nat) : RowOK Try.prog 52 (row ad52 dq52 fun p => F52 K p.1 p.2) := row_ok fun x r h => has_of (cok52 K) Try.func52 ((ev52 K x.1 x.2).trans h)
/-! slices.Index[[]uint32,uint32] -/
noncomputable def tab53 : Tab := Tab.none
noncomputable def la53 : List (List Tidy) := [[.only [0, 1, 7, 8], .ids [7], .top [1000000]]]
noncomputable def hd53_0 (a0 : List (El (.int .u32))) (a1 : Int) (ps8 : Int) : St := { tm := slots (nat_lit 19) [(nat_lit 0, AV.row (Ty.int IntKind.u32) a0), (nat_lit 1, AV.sc (Value.int IntKind.u32 a1)), (nat_lit 7, AV.sc (Value.int IntKind.i64 (↑a0.length : Int))), (nat_lit 8, AV.sc (Value.int IntKind.i64 ps8))], H := [] }
noncomputable def b53_0 (K : Nat) (a0 : List (El (.int .u32))) (a1 : Int) (r0 : Int → Option (Int)) (ps8 : Int) : Option (Int) :=(if decide (ps8 < (↑a0.length : Int)) = true then (if decide ((0 : Int) ≤ ps8 ∧ ps8 < (↑a0.length : Int)) = true then (if (a1 == a0.getD ps8.toNat (zEl (Ty.int IntKind.u32))) = true then some (ps8)
    else r0 (IntKind.i64.wrap (ps8 + (1 : Int))))
   else none)
  else some ((-1 : Int)))
noncomputable def L53_0 (K : Nat) (a0 : List (El (.int .u32))) (a1 : Int) : Nat → Int → Option (Int)
  | 0, _ => none
  | n + 1, ps8 => b53_0 K a0 a1 (L53_0 K a0 a1 n) ps8
noncomputable def t53 (K : Nat) (a0 : List (El (.int .u32))) (a1 : Int) (l0 : Nat → Int → Option (Int)) : Option (Int) := l0 K ((0 : Int))
noncomputable def G53 (K : Nat) (a0 : List (El (.int .u32))) (a1 : Int) : Option (Int) := t53 K a0 a1 (L53_0 K a0 a1)
theorem lp53_0 (K : Nat) (a0 : List (El (.int .u32))) (a1 : Int) : ∀ (n : Nat) (ps8 : Int), loopN Try.prog (tab53) 0 K Try.f53 la53 dq53.k 0 [] n (hd53_0 a0 a1 ps8) = L53_0 K a0 a1 n ps8
  | 0, _ => by kernel_rfl
  | n + 1, ps8 => by
    have h : loopN Try.prog (tab53) 0 K Try.f53 la53 dq53.k 0 [] (n + 1) (hd53_0 a0 a1 ps8) = b53_0 K a0 a1 (fun q0 => loopN Try.prog (tab53) 0 K Try.f53 la53 dq53.k 0 [] n (hd53_0 a0 a1 q0)) ps8 := by kernel_rfl
    rw [h]
    simp only [lp53_0 K a0 a1 n]
    rfl
theorem ev53 (K : Nat) (a0 : List (El (.int .u32))) (a1 : Int) : evFun Try.prog (tab53) 0 K Try.f53 la53 [.row (.int .u32) a0, I .u32 a1] [] dq53.k = G53 K a0 a1 := by
  have h : evFun Try.prog (tab53) 0 K Try.f53 la53 [.row (.int .u32) a0, I .u32 a1] [] dq53.k = t53 K a0 a1 (fun k q0 => loopN Try.prog (tab53) 0 K Try.f53 la53 dq53.k 0 [] k (hd53_0 a0 a1 q0)) := by kernel_rfl
  rw [h]
  simp only [lp53_0 K a0 a1]
  rfl
noncomputable def F53 (K : Nat) (a0 : List (El (.int .u32))) (a1 : Int) : Option (Int) := G53 K a0 a1
theorem cok53 (K : Nat) : CallOK Try.prog (tab53) := none_ok
theorem ok53 (K : Nat) : RowOK Try.prog 53 (row ad53 dq53 fun p => F53 K p.1 p.2) := row_ok fun x r h => has_of (cok53 K) Try.func53 ((ev53 K x.1 x.2).trans h)
/-! slices.Contains[[]int,int] -/
noncomputable def tab47 (F52 : (List (El (.int .i64))) → Int → Option (Int)) : Tab := (Tab.none.add 52 (row ad52 dq52 fun p => F52 p.1 p.2))
noncomputable def t47 (F52 : (List (El (.int .i64))) → Int → Option (Int)) (K : Nat) (a0 : List (El (.int .i64))) (a1 : Int) : Option (Bool) := 
 (Option.bind (F52 a0 a1) fun x0 => some (decide (x0 ≥ (0 : Int))))
noncomputable def G47 (F52 : (List (El (.int .i64))) → Int → Option (Int)) (K : Nat) (a0 : List (El (.int .i64))) (a1 : Int) : Option (Bool) := t47 F52 K a0 a1
theorem ev47 (F52 : (List (El (.int .i64))) → Int → Option (Int)) (K : Nat) (a0 : List (El (.int .i64))) (a1 : Int) : evFun Try.prog (tab47 F52) 0 K Try.f47 [] [.row (.int .i64) a0, I .i64 a1] [] dq47.k = G47 F52 K a0 a1 := by
  kernel_rfl
noncomputable def F47 (K : Nat) (a0 : List (El (.int .i64))) (a1 : Int) : Option (Bool) := G47 (F52 K) K a0 a1
theorem cok47 (K : Nat) : CallOK Try.prog (tab47 (F52 K)) := (add_ok none_ok ent52 (ok52 K))
theorem ok47 (K : Nat) : RowOK Try.prog 47 (row ad47 dq47 fun p => F47 K p.1 p.2) := row_ok fun x r h => has_of (cok47 K) Try.func47 ((ev47 (F52 K) K x.1 x.2).trans h)
/-! slices.Contains[[]uint32,uint32] -/
noncomputable def tab49 (F53 : (List (El (.int .u32))) → Int → Option (Int)) : Tab := (Tab.none.add 53 (row ad53 dq53 fun p => F53 p.1 p.2))
noncomputable def t49 (F53 : (List (El (.int .u32))) → Int → Option (Int)) (K : Nat) (a0 : List (El (.int .u32))) (a1 : Int) : Option (Bool) := 
 (Option.bind (F53 a0 a1) fun x0 => some (decide (x0 ≥ (0 : Int))))
noncomputable def G49 (F53 : (List (El (.int .u32))) → Int → Option (Int)) (K : Nat) (a0 : List (El (.int .u32))) (a1 : Int) : Option (Bool) := t49 F53 K a0 a1
theorem ev49 (F53 : (List (El (.int .u32))) → Int → Option (Int)) (K : Nat) (a0 : List (El (.int .u32))) (a1 : Int) : evFun Try.prog (tab49 F53) 0 K Try.f49 [] [.row (.int .u32) a0, I .u32 a1] [] dq49.k = G49 F53 K a0 a1 := by
  kernel_rfl
noncomputable def F49 (K : Nat) (a0 : List (El (.int .u32))) (a1 : Int) : Option (Bool) := G49 (F53 K) K a0 a1
theorem cok49 (K : Nat) : CallOK Try.prog (tab49 (F53 K)) := (add_ok none_ok ent53 (ok53 K))
theorem ok49 (K : Nat) : RowOK Try.prog 49 (row ad49 dq49 fun p => F49 K p.1 p.2) := row_ok fun x r h => has_of (cok49 K) Try.func49 ((ev49 (F53 K) K x.1 x.2).trans h)
/-! ganger/waits.at -/
noncomputable def tab31 (F16 : (List (El T45)) → Option (Int)) : Tab := (Tab.none.add 16 (row ad16 dq16 fun p => F16 p))
noncomputable def t31 (F16 : (List (El T45)) → Option (Int)) (K : Nat) (a0 : List (El T45)) (a1 : Int) : Option ((El T45) × Bool) := 
 (Option.bind (F16 a0) fun x0 => (if (x0 != (0 : Int)) = true then some ((((0 : Int), (0 : Int), (0 : Int), ({ data := #[] }, { data := #[] }, { data := #[] }, { data := #[] }, (0 : Int), (0 : Int), ([], (0 : Int)), (false, []), (0 : Int), (0 : Int), false, false, { data := #[] }), (0 : Int), (0 : Int), (0 : Int), (0 : Int), (0 : Int), (0 : Int), (0 : Int), (0 : Int)), false))
  else (if (a1 == (0 : Int)) = true then some ((((0 : Int), (0 : Int), (0 : Int), ({ data := #[] }, { data := #[] }, { data := #[] }, { data := #[] }, (0 : Int), (0 : Int), ([], (0 : Int)), (false, []), (0 : Int), (0 : Int), false, false, { data := #[] }), (0 : Int), (0 : Int), (0 : Int), (0 : Int), (0 : Int), (0 : Int), (0 : Int), (0 : Int)), false))
   else (if decide (IntKind.i64.wrap a1 > (↑a0.length : Int)) = true then some ((((0 : Int), (0 : Int), (0 : Int), ({ data := #[] }, { data := #[] }, { data := #[] }, { data := #[] }, (0 : Int), (0 : Int), ([], (0 : Int)), (false, []), (0 : Int), (0 : Int), false, false, { data := #[] }), (0 : Int), (0 : Int), (0 : Int), (0 : Int), (0 : Int), (0 : Int), (0 : Int), (0 : Int)), false))
    else (if decide ((0 : Int) ≤ IntKind.u32.wrap (a1 - (1 : Int)) ∧ IntKind.u32.wrap (a1 - (1 : Int)) < (↑a0.length : Int)) = true then some ((a0.getD (IntKind.u32.wrap (a1 - (1 : Int))).toNat (zEl T45), true))
     else none)))))
noncomputable def G31 (F16 : (List (El T45)) → Option (Int)) (K : Nat) (a0 : List (El T45)) (a1 : Int) : Option ((El T45) × Bool) := t31 F16 K a0 a1
theorem ev31 (F16 : (List (El T45)) → Option (Int)) (K : Nat) (a0 : List (El T45)) (a1 : Int) : evFun Try.prog (tab31 F16) 0 K Try.f31 [] [.row T45 a0, I .u32 a1] [] dq31.k = G31 F16 K a0 a1 := by
  kernel_rfl
noncomputable def F31 (K : Nat) (a0 : List (El T45)) (a1 : Int) : Option ((El T45) × Bool) := G31 (F16 K) K a0 a1
theorem cok31 (K : Nat) : CallOK Try.prog (tab31 (F16 K)) := (add_ok none_ok ent16 (ok16 K))
theorem ok31 (K : Nat) : RowOK Try.prog 31 (row ad31 dq31 fun p => F31 K p.1 p.2) := row_ok fun x r h => has_of (cok31 K) Try.func31 ((ev31 (F16 K) K x.1 x.2).trans h)
/-! ganger/waits.wheres -/
noncomputable def tab33 (F22 : (El T45) → Option (Int)) : Tab := (Tab.none.add 22 (row ad22 dq22 fun p => F22 p))
noncomputable def la33 : List (List Tidy) := [[.only [3, 6, 7, 8], .pro 3 19 70 (T70), .ids [7, 19], .top [1000000]]]
noncomputable def hd33_0 (a0 : List (El T45)) (ps8 : Int) (ph19 : List (El T70)) : St := { tm := slots (nat_lit 22) [(nat_lit 3, AV.own (nat_lit 19)), (nat_lit 6, AV.row T45 a0), (nat_lit 7, AV.sc (Value.int IntKind.i64 (↑a0.length : Int))), (nat_lit 8, AV.sc (Value.int IntKind.i64 ps8))], H := [(nat_lit 19, ABlk.arr (nat_lit 70) T70 ph19)] }
noncomputable def b33_0 (F22 : (El T45) → Option (Int)) (K : Nat) (a0 : List (El T45)) (r0 : Int → (List (El T70)) → Option (List (El T70))) (ps8 : Int) (ph19 : List (El T70)) : Option (List (El T70)) :=(if decide (ps8 < (↑a0.length : Int)) = true then (if decide ((0 : Int) ≤ ps8 ∧ ps8 < (↑a0.length : Int)) = true then 
    (Option.bind (F22 (a0.getD ps8.toNat (zEl T45))) fun x0 => (if decide ((ph19.length + [((a0.getD ps8.toNat (zEl T45)).1, x0)].length) * Try.prog.types[(70 : Nat)].bytes ≤ (140737488355328 : Nat)) = true then r0 (IntKind.i64.wrap (ps8 + (1 : Int))) (ph19 ++ [((a0.getD ps8.toNat (zEl T45)).1, x0)])
     else none))
   else none)
  else some (ph19))
noncomputable def L33_0 (F22 : (El T45) → Option (Int)) (K : Nat) (a0 : List (El T45)) : Nat → Int → (List (El T70)) → Option (List (El T70))
  | 0, _, _ => none
  | n + 1, ps8, ph19 => b33_0 F22 K a0 (L33_0 F22 K a0 n) ps8 ph19
noncomputable def t33 (F22 : (El T45) → Option (Int)) (K : Nat) (a0 : List (El T45)) (l0 : Nat → Int → (List (El T70)) → Option (List (El T70))) : Option (List (El T70)) := l0 K ((0 : Int)) ([])
noncomputable def G33 (F22 : (El T45) → Option (Int)) (K : Nat) (a0 : List (El T45)) : Option (List (El T70)) := t33 F22 K a0 (L33_0 F22 K a0)
theorem lp33_0 (F22 : (El T45) → Option (Int)) (K : Nat) (a0 : List (El T45)) : ∀ (n : Nat) (ps8 : Int) (ph19 : List (El T70)), loopN Try.prog (tab33 F22) 0 K Try.f33 la33 dq33.k 0 [] n (hd33_0 a0 ps8 ph19) = L33_0 F22 K a0 n ps8 ph19
  | 0, _, _ => by kernel_rfl
  | n + 1, ps8, ph19 => by
    have h : loopN Try.prog (tab33 F22) 0 K Try.f33 la33 dq33.k 0 [] (n + 1) (hd33_0 a0 ps8 ph19) = b33_0 F22 K a0 (fun q0 q1 => loopN Try.prog (tab33 F22) 0 K Try.f33 la33 dq33.k 0 [] n (hd33_0 a0 q0 q1)) ps8 ph19 := by kernel_rfl
    rw [h]
    simp only [lp33_0 F22 K a0 n]
    rfl
theorem ev33 (F22 : (El T45) → Option (Int)) (K : Nat) (a0 : List (El T45)) : evFun Try.prog (tab33 F22) 0 K Try.f33 la33 [.row T45 a0] [] dq33.k = G33 F22 K a0 := by
  have h : evFun Try.prog (tab33 F22) 0 K Try.f33 la33 [.row T45 a0] [] dq33.k = t33 F22 K a0 (fun k q0 q1 => loopN Try.prog (tab33 F22) 0 K Try.f33 la33 dq33.k 0 [] k (hd33_0 a0 q0 q1)) := by kernel_rfl
  rw [h]
  simp only [lp33_0 F22 K a0]
  rfl
noncomputable def F33 (K : Nat) (a0 : List (El T45)) : Option (List (El T70)) := G33 (F22 K) K a0
theorem cok33 (K : Nat) : CallOK Try.prog (tab33 (F22 K)) := (add_ok none_ok ent22 (ok22 K))
theorem ok33 (K : Nat) : RowOK Try.prog 33 (row ad33 dq33 fun p => F33 K p) := row_ok fun x r h => has_of (cok33 K) Try.func33 ((ev33 (F22 K) K x).trans h)
/-! ganger/waits.room -/
noncomputable def tab36 (F22 : (El T45) → Option (Int)) : Tab := (Tab.none.add 22 (row ad22 dq22 fun p => F22 p))
noncomputable def la36 : List (List Tidy) := [[.only [3, 5, 6, 20, 21, 22], .ids [3, 21], .top [1000000]]]
noncomputable def hd36_0 (a0 : List (El T45)) (a1 : El T45) (ps6 : Int) (ps22 : Int) : St := { tm := slots (nat_lit 42) [(nat_lit 3, AV.ptr (nat_lit 3) (nat_lit 0)), (nat_lit 5, AV.sc (Value.int IntKind.i64 a1.2.2.2.1.2.2.2.2.2.2.1.2)), (nat_lit 6, AV.sc (Value.int IntKind.i64 ps6)), (nat_lit 20, AV.row T45 a0), (nat_lit 21, AV.sc (Value.int IntKind.i64 (↑a0.length : Int))), (nat_lit 22, AV.sc (Value.int IntKind.i64 ps22))], H := [(nat_lit 3, ABlk.box (nat_lit 45) (cellsOf T45 a1))] }
noncomputable def b36_0 (F22 : (El T45) → Option (Int)) (K : Nat) (a0 : List (El T45)) (a1 : El T45) (r0 : Int → Int → Option (Bool)) (ps6 : Int) (ps22 : Int) : Option (Bool) :=(if decide (ps22 < (↑a0.length : Int)) = true then (if decide ((0 : Int) ≤ ps22 ∧ ps22 < (↑a0.length : Int)) = true then (if ((a0.getD ps22.toNat (zEl T45)).2.1 == a1.2.1) = true then 
     (Option.bind (F22 (a0.getD ps22.toNat (zEl T45))) fun x0 => (if (x0 == (2 : Int)) = true then r0 (IntKind.i64.wrap (ps6 + (1 : Int))) (IntKind.i64.wrap (ps22 + (1 : Int)))
      else r0 (ps6) (IntKind.i64.wrap (ps22 + (1 : Int)))))
    else r0 (ps6) (IntKind.i64.wrap (ps22 + (1 : Int))))
   else none)
  else some (decide (ps6 < a1.2.2.2.1.2.2.2.2.2.2.1.2)))
noncomputable def L36_0 (F22 : (El T45) → Option (Int)) (K : Nat) (a0 : List (El T45)) (a1 : El T45) : Nat → Int → Int → Option (Bool)
  | 0, _, _ => none
  | n + 1, ps6, ps22 => b36_0 F22 K a0 a1 (L36_0 F22 K a0 a1 n) ps6 ps22
noncomputable def t36 (F22 : (El T45) → Option (Int)) (K : Nat) (a0 : List (El T45)) (a1 : El T45) (l0 : Nat → Int → Int → Option (Bool)) : Option (Bool) := (if (a1.2.1 == (0 : Int)) = true then some (true)
 else (if (a1.2.2.2.1.2.2.2.2.2.2.1.2 == (0 : Int)) = true then some (true)
  else l0 K ((0 : Int)) ((0 : Int))))
noncomputable def G36 (F22 : (El T45) → Option (Int)) (K : Nat) (a0 : List (El T45)) (a1 : El T45) : Option (Bool) := t36 F22 K a0 a1 (L36_0 F22 K a0 a1)
theorem lp36_0 (F22 : (El T45) → Option (Int)) (K : Nat) (a0 : List (El T45)) (a1 : El T45) : ∀ (n : Nat) (ps6 : Int) (ps22 : Int), loopN Try.prog (tab36 F22) 0 K Try.f36 la36 dq36.k 0 [] n (hd36_0 a0 a1 ps6 ps22) = L36_0 F22 K a0 a1 n ps6 ps22
  | 0, _, _ => by kernel_rfl
  | n + 1, ps6, ps22 => by
    have h : loopN Try.prog (tab36 F22) 0 K Try.f36 la36 dq36.k 0 [] (n + 1) (hd36_0 a0 a1 ps6 ps22) = b36_0 F22 K a0 a1 (fun q0 q1 => loopN Try.prog (tab36 F22) 0 K Try.f36 la36 dq36.k 0 [] n (hd36_0 a0 a1 q0 q1)) ps6 ps22 := by kernel_rfl
    rw [h]
    simp only [lp36_0 F22 K a0 a1 n]
    rfl
theorem ev36 (F22 : (El T45) → Option (Int)) (K : Nat) (a0 : List (El T45)) (a1 : El T45) : evFun Try.prog (tab36 F22) 0 K Try.f36 la36 [.row T45 a0, .agg (cellsOf T45 a1)] [] dq36.k = G36 F22 K a0 a1 := by
  have h : evFun Try.prog (tab36 F22) 0 K Try.f36 la36 [.row T45 a0, .agg (cellsOf T45 a1)] [] dq36.k = t36 F22 K a0 a1 (fun k q0 q1 => loopN Try.prog (tab36 F22) 0 K Try.f36 la36 dq36.k 0 [] k (hd36_0 a0 a1 q0 q1)) := by kernel_rfl
  rw [h]
  simp only [lp36_0 F22 K a0 a1]
  rfl
noncomputable def F36 (K : Nat) (a0 : List (El T45)) (a1 : El T45) : Option (Bool) := G36 (F22 K) K a0 a1
theorem cok36 (K : Nat) : CallOK Try.prog (tab36 (F22 K)) := (add_ok none_ok ent22 (ok22 K))
theorem ok36 (K : Nat) : RowOK Try.prog 36 (row ad36 dq36 fun p => F36 K p.1 p.2) := row_ok fun x r h => has_of (cok36 K) Try.func36 ((ev36 (F22 K) K x.1 x.2).trans h)
/-! ganger/gangerref14.there -/
noncomputable def tab35 (F21 : (List (El T45)) → Option (Int)) : Tab := (Tab.none.add 21 (row ad21 dq21 fun p => F21 p))
noncomputable def t35 (F21 : (List (El T45)) → Option (Int)) (K : Nat) (a0 : List (El T45)) (a1 : Int) : Option (Bool) := 
 (Option.bind (F21 a0) fun x0 => (if (x0 == (0 : Int)) = true then (if decide (a1 ≥ (1 : Int)) = true then some (decide (IntKind.i64.wrap a1 ≤ (↑a0.length : Int)))
   else some (false))
  else some (false)))
noncomputable def G35 (F21 : (List (El T45)) → Option (Int)) (K : Nat) (a0 : List (El T45)) (a1 : Int) : Option (Bool) := t35 F21 K a0 a1
theorem ev35 (F21 : (List (El T45)) → Option (Int)) (K : Nat) (a0 : List (El T45)) (a1 : Int) : evFun Try.prog (tab35 F21) 0 K Try.f35 [] [.row T45 a0, I .u32 a1] [] dq35.k = G35 F21 K a0 a1 := by
  kernel_rfl
noncomputable def F35 (K : Nat) (a0 : List (El T45)) (a1 : Int) : Option (Bool) := G35 (F21 K) K a0 a1
theorem cok35 (K : Nat) : CallOK Try.prog (tab35 (F21 K)) := (add_ok none_ok ent21 (ok21 K))
theorem ok35 (K : Nat) : RowOK Try.prog 35 (row ad35 dq35 fun p => F35 K p.1 p.2) := row_ok fun x r h => has_of (cok35 K) Try.func35 ((ev35 (F21 K) K x.1 x.2).trans h)
end Go.Proofs.YthebmlpohkfhbaaE
