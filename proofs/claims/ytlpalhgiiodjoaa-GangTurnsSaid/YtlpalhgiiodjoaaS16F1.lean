import Derived.Test.YtlpalhgiiodjoaaS16W48
set_option linter.all false
namespace Go.Proofs.YtlpalhgiiodjoaaE
open Go Go.Proofs
set_option maxRecDepth 100000
set_option linter.unusedVariables false
variable {D : Prop}
/-! cmp.isNaN[uint32] -/
noncomputable def tab76 : Tab := Tab.none
noncomputable def t76 (K : Nat) (a0 : Int) : Option (Bool) := some (a0 != a0)
noncomputable def G76 (K : Nat) (a0 : Int) : Option (Bool) := t76 K a0
theorem ev76 (K : Nat) (a0 : Int) : evFun Try.prog (tab76) 0 K Try.f76 [] [I .u32 a0] [] dq76.k = G76 K a0 := by
  kernel_rfl
noncomputable def F76 (K : Nat) (a0 : Int) : Option (Bool) := G76 K a0
theorem cok76 (K : Nat) : CallOK D Try.prog (tab76) := none_ok
theorem ok76 (K : Nat) : RowOK D Try.prog 76 (row ad76 dq76 fun p => F76 K p) := row_ok fun x r h => has_of (cok76 K) Try.func76 ((ev76 K x).trans h)
/-! cmp.Less[uint32] -/
noncomputable def tab64 (F76 : Int → Option (Bool)) : Tab := (Tab.none.add 76 (row ad76 dq76 fun p => F76 p))
noncomputable def t64 (F76 : Int → Option (Bool)) (K : Nat) (a0 : Int) (a1 : Int) : Option (Bool) := 
 (Option.bind (F76 a0) fun x0 => (if x0 = true then 
   (Option.bind (F76 a1) fun x1 => (if (!x1) = true then some (true)
    else some (decide (a0 < a1))))
  else some (decide (a0 < a1))))
noncomputable def G64 (F76 : Int → Option (Bool)) (K : Nat) (a0 : Int) (a1 : Int) : Option (Bool) := t64 F76 K a0 a1
theorem ev64 (F76 : Int → Option (Bool)) (K : Nat) (a0 : Int) (a1 : Int) : evFun Try.prog (tab64 F76) 0 K Try.f64 [] [I .u32 a0, I .u32 a1] [] dq64.k = G64 F76 K a0 a1 := by
  kernel_rfl
noncomputable def F64 (K : Nat) (a0 : Int) (a1 : Int) : Option (Bool) := G64 (F76 K) K a0 a1
theorem cok64 (K : Nat) : CallOK D Try.prog (tab64 (F76 K)) := (add_ok none_ok ent76 (ok76 K))
theorem ok64 (K : Nat) : RowOK D Try.prog 64 (row ad64 dq64 fun p => F64 K p.1 p.2) := row_ok fun x r h => has_of (cok64 K) Try.func64 ((ev64 (F76 K) K x.1 x.2).trans h)
/-! slices.insertionSortOrdered[uint32] -/
noncomputable def tab58 (F64 : Int → Int → Option (Bool)) : Tab := (Tab.none.add 64 (row ad64 dq64 fun p => F64 p.1 p.2))
noncomputable def la58 : List (List Tidy) := [[.only [0, 1, 2, 6], .ids [], .top [1000000]], [.only [0, 1, 2, 6, 7], .ids [], .top [1000001]]]
noncomputable def hd58_0 (a0 : Int) (a1 : Int) (o0 : List Int) (ps6 : Int) (ph2000000 : List (Int)) : St := { tm := slots (nat_lit 49) [(nat_lit 0, AV.own (nat_lit 2000000)), (nat_lit 1, AV.sc (Value.int IntKind.i64 a0)), (nat_lit 2, AV.sc (Value.int IntKind.i64 a1)), (nat_lit 6, AV.sc (Value.int IntKind.i64 ps6))], H := [(nat_lit 2000000, ABlk.arr (nat_lit 30) (Ty.int IntKind.u32) ph2000000)] }
noncomputable def hd58_1 (a0 : Int) (a1 : Int) (o0 : List Int) (ps6 : Int) (ps7 : Int) (ph2000000 : List (Int)) : St := { tm := slots (nat_lit 49) [(nat_lit 0, AV.own (nat_lit 2000000)), (nat_lit 1, AV.sc (Value.int IntKind.i64 a0)), (nat_lit 2, AV.sc (Value.int IntKind.i64 a1)), (nat_lit 6, AV.sc (Value.int IntKind.i64 ps6)), (nat_lit 7, AV.sc (Value.int IntKind.i64 ps7))], H := [(nat_lit 2000000, ABlk.arr (nat_lit 30) (Ty.int IntKind.u32) ph2000000)] }
noncomputable def b58_1 (F64 : Int → Int → Option (Bool)) (K : Nat) (a0 : Int) (a1 : Int) (o0 : List Int) (r0 : Int → (List (Int)) → Option (Unit × List Int)) (r1 : Int → Int → (List (Int)) → Option (Unit × List Int)) (ps6 : Int) (ps7 : Int) (ph2000000 : List (Int)) : Option (Unit × List Int) :=(if decide (ps7 > a0) = true then (if decide ((0 : Int) ≤ ps7 ∧ ps7 < (↑ph2000000.length : Int)) = true then (if decide ((0 : Int) ≤ IntKind.i64.wrap (ps7 - (1 : Int)) ∧ IntKind.i64.wrap (ps7 - (1 : Int)) < (↑ph2000000.length : Int)) = true then 
     (Option.bind (F64 (ph2000000.getD ps7.toNat (zEl (Ty.int IntKind.u32))) (ph2000000.getD (IntKind.i64.wrap (ps7 - (1 : Int))).toNat (zEl (Ty.int IntKind.u32)))) fun x0 => (if x0 = true then (if decide ((0 : Int) ≤ IntKind.i64.wrap (ps7 - (1 : Int)) ∧ IntKind.i64.wrap (ps7 - (1 : Int)) < (↑ph2000000.length : Int)) = true then (if decide ((0 : Int) ≤ ps7 ∧ ps7 < (↑ph2000000.length : Int)) = true then (if decide ((0 : Int) ≤ ps7 ∧ ps7 < (↑ph2000000.length : Int)) = true then (if decide ((0 : Int) ≤ IntKind.i64.wrap (ps7 - (1 : Int)) ∧ IntKind.i64.wrap (ps7 - (1 : Int)) < (↑(ph2000000.set ps7.toNat (ph2000000.getD (IntKind.i64.wrap (ps7 - (1 : Int))).toNat (zEl (Ty.int IntKind.u32)))).length : Int)) = true then r1 (ps6) (IntKind.i64.wrap (ps7 - (1 : Int))) ((ph2000000.set ps7.toNat (ph2000000.getD (IntKind.i64.wrap (ps7 - (1 : Int))).toNat (zEl (Ty.int IntKind.u32)))).set (IntKind.i64.wrap (ps7 - (1 : Int))).toNat (ph2000000.getD ps7.toNat (zEl (Ty.int IntKind.u32))))
          else none)
         else none)
        else none)
       else none)
      else r0 (IntKind.i64.wrap (ps6 + (1 : Int))) (ph2000000)))
    else none)
   else none)
  else r0 (IntKind.i64.wrap (ps6 + (1 : Int))) (ph2000000))
noncomputable def L58_1 (F64 : Int → Int → Option (Bool)) (K : Nat) (a0 : Int) (a1 : Int) (o0 : List Int) (r0 : Int → (List (Int)) → Option (Unit × List Int)) : Nat → Int → Int → (List (Int)) → Option (Unit × List Int)
  | 0, _, _, _ => none
  | n + 1, ps6, ps7, ph2000000 => b58_1 F64 K a0 a1 o0 r0 (L58_1 F64 K a0 a1 o0 r0 n) ps6 ps7 ph2000000
noncomputable def b58_0 (F64 : Int → Int → Option (Bool)) (K : Nat) (a0 : Int) (a1 : Int) (o0 : List Int) (r0 : Int → (List (Int)) → Option (Unit × List Int)) (l1 : Nat → Int → Int → (List (Int)) → Option (Unit × List Int)) (ps6 : Int) (ph2000000 : List (Int)) : Option (Unit × List Int) :=(if decide (ps6 < a1) = true then l1 K (ps6) (ps6) (ph2000000)
  else some (((), ph2000000)))
noncomputable def L58_0 (F64 : Int → Int → Option (Bool)) (K : Nat) (a0 : Int) (a1 : Int) (o0 : List Int) : Nat → Int → (List (Int)) → Option (Unit × List Int)
  | 0, _, _ => none
  | n + 1, ps6, ph2000000 => b58_0 F64 K a0 a1 o0 (L58_0 F64 K a0 a1 o0 n) (L58_1 F64 K a0 a1 o0 (L58_0 F64 K a0 a1 o0 n)) ps6 ph2000000
noncomputable def t58 (F64 : Int → Int → Option (Bool)) (K : Nat) (a0 : Int) (a1 : Int) (o0 : List Int) (l0 : Nat → Int → (List (Int)) → Option (Unit × List Int)) : Option (Unit × List Int) := l0 K (IntKind.i64.wrap (a0 + (1 : Int))) (o0)
noncomputable def G58 (F64 : Int → Int → Option (Bool)) (K : Nat) (a0 : Int) (a1 : Int) (o0 : List Int) : Option (Unit × List Int) := t58 F64 K a0 a1 o0 (L58_0 F64 K a0 a1 o0)
theorem lp58_1 (F64 : Int → Int → Option (Bool)) (K : Nat) (a0 : Int) (a1 : Int) (o0 : List Int) : ∀ (m0 : Nat) (n : Nat) (ps6 : Int) (ps7 : Int) (ph2000000 : List (Int)), loopN Try.prog (tab58 F64) 0 K Try.f58 la58 gq58.k 1 [m0] n (hd58_1 a0 a1 o0 ps6 ps7 ph2000000) = L58_1 F64 K a0 a1 o0 (fun q0 q1 => loopN Try.prog (tab58 F64) 0 K Try.f58 la58 gq58.k 0 [] m0 (hd58_0 a0 a1 o0 q0 q1)) n ps6 ps7 ph2000000
  | m0, 0, _, _, _ => by kernel_rfl
  | m0, n + 1, ps6, ps7, ph2000000 => by
    have h : loopN Try.prog (tab58 F64) 0 K Try.f58 la58 gq58.k 1 [m0] (n + 1) (hd58_1 a0 a1 o0 ps6 ps7 ph2000000) = b58_1 F64 K a0 a1 o0 (fun q0 q1 => loopN Try.prog (tab58 F64) 0 K Try.f58 la58 gq58.k 0 [] m0 (hd58_0 a0 a1 o0 q0 q1)) (fun q0 q1 q2 => loopN Try.prog (tab58 F64) 0 K Try.f58 la58 gq58.k 1 [m0] n (hd58_1 a0 a1 o0 q0 q1 q2)) ps6 ps7 ph2000000 := by kernel_rfl
    rw [h]
    simp only [lp58_1 F64 K a0 a1 o0 m0 n]
    rfl
theorem lp58_0 (F64 : Int → Int → Option (Bool)) (K : Nat) (a0 : Int) (a1 : Int) (o0 : List Int) : ∀ (n : Nat) (ps6 : Int) (ph2000000 : List (Int)), loopN Try.prog (tab58 F64) 0 K Try.f58 la58 gq58.k 0 [] n (hd58_0 a0 a1 o0 ps6 ph2000000) = L58_0 F64 K a0 a1 o0 n ps6 ph2000000
  | 0, _, _ => by kernel_rfl
  | n + 1, ps6, ph2000000 => by
    have h : loopN Try.prog (tab58 F64) 0 K Try.f58 la58 gq58.k 0 [] (n + 1) (hd58_0 a0 a1 o0 ps6 ph2000000) = b58_0 F64 K a0 a1 o0 (fun q0 q1 => loopN Try.prog (tab58 F64) 0 K Try.f58 la58 gq58.k 0 [] n (hd58_0 a0 a1 o0 q0 q1)) (fun k q0 q1 q2 => loopN Try.prog (tab58 F64) 0 K Try.f58 la58 gq58.k 1 [n] k (hd58_1 a0 a1 o0 q0 q1 q2)) ps6 ph2000000 := by kernel_rfl
    rw [h]
    simp only [lp58_0 F64 K a0 a1 o0 n, lp58_1 F64 K a0 a1 o0 n]
    rfl
theorem ev58 (F64 : Int → Int → Option (Bool)) (K : Nat) (a0 : Int) (a1 : Int) (o0 : List Int) : evFun Try.prog (tab58 F64) 0 K Try.f58 la58 [.own 2000000, I .i64 a0, I .i64 a1] (hpB ob58 o0) gq58.k = G58 F64 K a0 a1 o0 := by
  have h : evFun Try.prog (tab58 F64) 0 K Try.f58 la58 [.own 2000000, I .i64 a0, I .i64 a1] (hpB ob58 o0) gq58.k = t58 F64 K a0 a1 o0 (fun k q0 q1 => loopN Try.prog (tab58 F64) 0 K Try.f58 la58 gq58.k 0 [] k (hd58_0 a0 a1 o0 q0 q1)) := by kernel_rfl
  rw [h]
  simp only [lp58_0 F64 K a0 a1 o0]
  rfl
noncomputable def F58 (K : Nat) (a0 : Int) (a1 : Int) (o0 : List Int) : Option (Unit × List Int) := G58 (F64 K) K a0 a1 o0
theorem cok58 (K : Nat) : CallOK D Try.prog (tab58 (F64 K)) := (add_ok none_ok ent64 (ok64 K))
theorem ok58 (K : Nat) : RowG D Try.prog 58 (rowG (gad ag58 ob58) gq58 fun p => F58 K p.1.1 p.1.2.1 p.2) := rowG_ok fun x r h => ghas_of (cok58 K) Try.func58 ((ev58 (F64 K) K x.1.1 x.1.2.1 x.2).trans h)
/-! slices.pdqsortOrdered[uint32] -/
noncomputable def tab47 (F58 : Int → Int → (List Int) → Option (Unit × List Int)) : Tab := (Tab.none.addG 58 (rowG (gad ag58 ob58) gq58 fun p => F58 p.1.1 p.1.2.1 p.2))
noncomputable def la47 : List (List Tidy) := [[.only [0, 1, 2, 3, 8, 9], .ids [], .top [1000000]]]
noncomputable def hd47_0 (a0 : Int) (a1 : Int) (a2 : Int) (o0 : List Int) : St := { tm := slots (nat_lit 134) [(nat_lit 0, AV.own (nat_lit 2000000)), (nat_lit 1, AV.sc (Value.int IntKind.i64 a0)), (nat_lit 2, AV.sc (Value.int IntKind.i64 a1)), (nat_lit 3, AV.sc (Value.int IntKind.i64 a2)), (nat_lit 8, AV.sc (Value.bool true)), (nat_lit 9, AV.sc (Value.bool true))], H := [(nat_lit 2000000, ABlk.arr (nat_lit 30) (Ty.int IntKind.u32) o0)] }
noncomputable def b47_0 (F58 : Int → Int → (List Int) → Option (Unit × List Int)) (K : Nat) (a0 : Int) (a1 : Int) (a2 : Int) (o0 : List Int) (r0 : Option (Unit × List Int)) : Option (Unit × List Int) :=(if decide (IntKind.i64.wrap (a1 - a0) ≤ (12 : Int)) = true then 
   (Option.bind (F58 a0 a1 o0) fun x0 => some (((), x0.2)))
  else (if (a2 == (0 : Int)) = true then none
   else none))
noncomputable def L47_0 (F58 : Int → Int → (List Int) → Option (Unit × List Int)) (K : Nat) (a0 : Int) (a1 : Int) (a2 : Int) (o0 : List Int) : Nat → Option (Unit × List Int)
  | 0 => none
  | n + 1 => b47_0 F58 K a0 a1 a2 o0 (L47_0 F58 K a0 a1 a2 o0 n)
noncomputable def t47 (F58 : Int → Int → (List Int) → Option (Unit × List Int)) (K : Nat) (a0 : Int) (a1 : Int) (a2 : Int) (o0 : List Int) (l0 : Nat → Option (Unit × List Int)) : Option (Unit × List Int) := l0 K
noncomputable def G47 (F58 : Int → Int → (List Int) → Option (Unit × List Int)) (K : Nat) (a0 : Int) (a1 : Int) (a2 : Int) (o0 : List Int) : Option (Unit × List Int) := t47 F58 K a0 a1 a2 o0 (L47_0 F58 K a0 a1 a2 o0)
theorem lp47_0 (F58 : Int → Int → (List Int) → Option (Unit × List Int)) (K : Nat) (a0 : Int) (a1 : Int) (a2 : Int) (o0 : List Int) : ∀ (n : Nat), loopN Try.prog (tab47 F58) 0 K Try.f47 la47 gq47.k 0 [] n (hd47_0 a0 a1 a2 o0) = L47_0 F58 K a0 a1 a2 o0 n
  | 0 => by kernel_rfl
  | n + 1 => by
    have h : loopN Try.prog (tab47 F58) 0 K Try.f47 la47 gq47.k 0 [] (n + 1) (hd47_0 a0 a1 a2 o0) = b47_0 F58 K a0 a1 a2 o0 (loopN Try.prog (tab47 F58) 0 K Try.f47 la47 gq47.k 0 [] n (hd47_0 a0 a1 a2 o0)) := by kernel_rfl
    rw [h]
    simp only [lp47_0 F58 K a0 a1 a2 o0 n]
    rfl
theorem ev47 (F58 : Int → Int → (List Int) → Option (Unit × List Int)) (K : Nat) (a0 : Int) (a1 : Int) (a2 : Int) (o0 : List Int) : evFun Try.prog (tab47 F58) 0 K Try.f47 la47 [.own 2000000, I .i64 a0, I .i64 a1, I .i64 a2] (hpB ob47 o0) gq47.k = G47 F58 K a0 a1 a2 o0 := by
  have h : evFun Try.prog (tab47 F58) 0 K Try.f47 la47 [.own 2000000, I .i64 a0, I .i64 a1, I .i64 a2] (hpB ob47 o0) gq47.k = t47 F58 K a0 a1 a2 o0 (fun k => loopN Try.prog (tab47 F58) 0 K Try.f47 la47 gq47.k 0 [] k (hd47_0 a0 a1 a2 o0)) := by kernel_rfl
  rw [h]
  simp only [lp47_0 F58 K a0 a1 a2 o0]
  rfl
noncomputable def F47 (K : Nat) (a0 : Int) (a1 : Int) (a2 : Int) (o0 : List Int) : Option (Unit × List Int) := G47 (F58 K) K a0 a1 a2 o0
theorem cok47 (K : Nat) : CallOK D Try.prog (tab47 (F58 K)) := (addG_ok none_ok ent58 (ok58 K))
theorem ok47 (K : Nat) : RowG D Try.prog 47 (rowG (gad ag47 ob47) gq47 fun p => F47 K p.1.1 p.1.2.1 p.1.2.2.1 p.2) := rowG_ok fun x r h => ghas_of (cok47 K) Try.func47 ((ev47 (F58 K) K x.1.1 x.1.2.1 x.1.2.2.1 x.2).trans h)
/-! slices.order2Ordered[uint32] -/
noncomputable def tab85 (F64 : Int → Int → Option (Bool)) : Tab := (Tab.none.add 64 (row ad64 dq64 fun p => F64 p.1 p.2))
noncomputable def t85 (F64 : Int → Int → Option (Bool)) (K : Nat) (a0 : Int) (a1 : Int) (o0 : List Int) (o1 : Int) : Option ((Int × Int) × (List Int × Int)) := (if decide ((0 : Int) ≤ a1 ∧ a1 < (↑o0.length : Int)) = true then (if decide ((0 : Int) ≤ a0 ∧ a0 < (↑o0.length : Int)) = true then 
   (Option.bind (F64 (o0.getD a1.toNat (zEl (Ty.int IntKind.u32))) (o0.getD a0.toNat (zEl (Ty.int IntKind.u32)))) fun x0 => (if x0 = true then some (((a1, a0), o0, IntKind.i64.wrap (o1 + (1 : Int))))
    else some (((a0, a1), o0, o1))))
  else none)
 else none)
noncomputable def G85 (F64 : Int → Int → Option (Bool)) (K : Nat) (a0 : Int) (a1 : Int) (o0 : List Int) (o1 : Int) : Option ((Int × Int) × (List Int × Int)) := t85 F64 K a0 a1 o0 o1
theorem ev85 (F64 : Int → Int → Option (Bool)) (K : Nat) (a0 : Int) (a1 : Int) (o0 : List Int) (o1 : Int) : evFun Try.prog (tab85 F64) 0 K Try.f85 [] [.own 2000000, I .i64 a0, I .i64 a1, .ptr 2000001 0] (hpB ob85 (o0, o1)) gq85.k = G85 F64 K a0 a1 o0 o1 := by
  kernel_rfl
noncomputable def F85 (K : Nat) (a0 : Int) (a1 : Int) (o0 : List Int) (o1 : Int) : Option ((Int × Int) × (List Int × Int)) := G85 (F64 K) K a0 a1 o0 o1
theorem cok85 (K : Nat) : CallOK D Try.prog (tab85 (F64 K)) := (add_ok none_ok ent64 (ok64 K))
theorem ok85 (K : Nat) : RowG D Try.prog 85 (rowG (gad ag85 ob85) gq85 fun p => F85 K p.1.1 p.1.2.1 p.2.1 p.2.2) := rowG_ok fun x r h => ghas_of (cok85 K) Try.func85 ((ev85 (F64 K) K x.1.1 x.1.2.1 x.2.1 x.2.2).trans h)
/-! slices.medianOrdered[uint32] -/
noncomputable def tab75 (F85 : Int → Int → (List Int) → Int → Option ((Int × Int) × (List Int × Int))) : Tab := (Tab.none.addG 85 (rowG (gad ag85 ob85) gq85 fun p => F85 p.1.1 p.1.2.1 p.2.1 p.2.2))
noncomputable def t75 (F85 : Int → Int → (List Int) → Int → Option ((Int × Int) × (List Int × Int))) (K : Nat) (a0 : Int) (a1 : Int) (a2 : Int) (o0 : List Int) (o1 : Int) : Option (Int × (List Int × Int)) := 
 (Option.bind (F85 a0 a1 o0 o1) fun x0 => 
  (Option.bind (F85 x0.1.2 a2 x0.2.1 x0.2.2) fun x1 => 
   (Option.bind (F85 x0.1.1 x1.1.1 x1.2.1 x1.2.2) fun x2 => some ((x2.1.2, x2.2)))))
noncomputable def G75 (F85 : Int → Int → (List Int) → Int → Option ((Int × Int) × (List Int × Int))) (K : Nat) (a0 : Int) (a1 : Int) (a2 : Int) (o0 : List Int) (o1 : Int) : Option (Int × (List Int × Int)) := t75 F85 K a0 a1 a2 o0 o1
theorem ev75 (F85 : Int → Int → (List Int) → Int → Option ((Int × Int) × (List Int × Int))) (K : Nat) (a0 : Int) (a1 : Int) (a2 : Int) (o0 : List Int) (o1 : Int) : evFun Try.prog (tab75 F85) 0 K Try.f75 [] [.own 2000000, I .i64 a0, I .i64 a1, I .i64 a2, .ptr 2000001 0] (hpB ob75 (o0, o1)) gq75.k = G75 F85 K a0 a1 a2 o0 o1 := by
  kernel_rfl
noncomputable def F75 (K : Nat) (a0 : Int) (a1 : Int) (a2 : Int) (o0 : List Int) (o1 : Int) : Option (Int × (List Int × Int)) := G75 (F85 K) K a0 a1 a2 o0 o1
theorem cok75 (K : Nat) : CallOK D Try.prog (tab75 (F85 K)) := (addG_ok none_ok ent85 (ok85 K))
theorem ok75 (K : Nat) : RowG D Try.prog 75 (rowG (gad ag75 ob75) gq75 fun p => F75 K p.1.1 p.1.2.1 p.1.2.2.1 p.2.1 p.2.2) := rowG_ok fun x r h => ghas_of (cok75 K) Try.func75 ((ev75 (F85 K) K x.1.1 x.1.2.1 x.1.2.2.1 x.2.1 x.2.2).trans h)
/-! slices.choosePivotOrdered[uint32] -/
noncomputable def tab61 (F75 : Int → Int → Int → (List Int) → Int → Option (Int × (List Int × Int))) : Tab := (Tab.none.addG 75 (rowG (gad ag75 ob75) gq75 fun p => F75 p.1.1 p.1.2.1 p.1.2.2.1 p.2.1 p.2.2))
noncomputable def t61 (F75 : Int → Int → Int → (List Int) → Int → Option (Int × (List Int × Int))) (K : Nat) (a0 : Int) (a1 : Int) (o0 : List Int) : Option ((Int × Int) × List Int) := (if decide (IntKind.i64.wrap (a1 - a0) ≥ (8 : Int)) = true then (if decide (IntKind.i64.wrap (a1 - a0) ≥ (50 : Int)) = true then none
  else 
   (Option.bind (F75 (IntKind.i64.wrap (a0 + IntKind.i64.wrap (IntKind.i64.wrap ((IntKind.i64.wrap (a1 - a0)).tdiv (4 : Int)) * (1 : Int)))) (IntKind.i64.wrap (a0 + IntKind.i64.wrap (IntKind.i64.wrap ((IntKind.i64.wrap (a1 - a0)).tdiv (4 : Int)) * (2 : Int)))) (IntKind.i64.wrap (a0 + IntKind.i64.wrap (IntKind.i64.wrap ((IntKind.i64.wrap (a1 - a0)).tdiv (4 : Int)) * (3 : Int)))) o0 (0 : Int)) fun x0 => (if (x0.2.2 == (0 : Int)) = true then some (((x0.1, (1 : Int)), x0.2.1))
    else (if (x0.2.2 == (12 : Int)) = true then some (((x0.1, (2 : Int)), x0.2.1))
     else some (((x0.1, (0 : Int)), x0.2.1))))))
 else some (((IntKind.i64.wrap (a0 + IntKind.i64.wrap (IntKind.i64.wrap ((IntKind.i64.wrap (a1 - a0)).tdiv (4 : Int)) * (2 : Int))), (1 : Int)), o0)))
noncomputable def G61 (F75 : Int → Int → Int → (List Int) → Int → Option (Int × (List Int × Int))) (K : Nat) (a0 : Int) (a1 : Int) (o0 : List Int) : Option ((Int × Int) × List Int) := t61 F75 K a0 a1 o0
theorem ev61 (F75 : Int → Int → Int → (List Int) → Int → Option (Int × (List Int × Int))) (K : Nat) (a0 : Int) (a1 : Int) (o0 : List Int) : evFun Try.prog (tab61 F75) 0 K Try.f61 [] [.own 2000000, I .i64 a0, I .i64 a1] (hpB ob61 o0) gq61.k = G61 F75 K a0 a1 o0 := by
  kernel_rfl
noncomputable def F61 (K : Nat) (a0 : Int) (a1 : Int) (o0 : List Int) : Option ((Int × Int) × List Int) := G61 (F75 K) K a0 a1 o0
theorem cok61 (K : Nat) : CallOK D Try.prog (tab61 (F75 K)) := (addG_ok none_ok ent75 (ok75 K))
theorem ok61 (K : Nat) : RowG D Try.prog 61 (rowG (gad ag61 ob61) gq61 fun p => F61 K p.1.1 p.1.2.1 p.2) := rowG_ok fun x r h => ghas_of (cok61 K) Try.func61 ((ev61 (F75 K) K x.1.1 x.1.2.1 x.2).trans h)
/-! slices.reverseRangeOrdered[uint32] -/
noncomputable def tab62 : Tab := Tab.none
noncomputable def la62 : List (List Tidy) := [[.only [0, 6, 7], .ids [], .top [1000000]]]
noncomputable def hd62_0 (a0 : Int) (a1 : Int) (o0 : List Int) (ps6 : Int) (ps7 : Int) (ph2000000 : List (Int)) : St := { tm := slots (nat_lit 32) [(nat_lit 0, AV.own (nat_lit 2000000)), (nat_lit 6, AV.sc (Value.int IntKind.i64 ps6)), (nat_lit 7, AV.sc (Value.int IntKind.i64 ps7))], H := [(nat_lit 2000000, ABlk.arr (nat_lit 30) (Ty.int IntKind.u32) ph2000000)] }
noncomputable def b62_0 (K : Nat) (a0 : Int) (a1 : Int) (o0 : List Int) (r0 : Int → Int → (List (Int)) → Option (Unit × List Int)) (ps6 : Int) (ps7 : Int) (ph2000000 : List (Int)) : Option (Unit × List Int) :=(if decide (ps6 < ps7) = true then (if decide ((0 : Int) ≤ ps7 ∧ ps7 < (↑ph2000000.length : Int)) = true then (if decide ((0 : Int) ≤ ps6 ∧ ps6 < (↑ph2000000.length : Int)) = true then (if decide ((0 : Int) ≤ ps6 ∧ ps6 < (↑ph2000000.length : Int)) = true then (if decide ((0 : Int) ≤ ps7 ∧ ps7 < (↑(ph2000000.set ps6.toNat (ph2000000.getD ps7.toNat (zEl (Ty.int IntKind.u32)))).length : Int)) = true then r0 (IntKind.i64.wrap (ps6 + (1 : Int))) (IntKind.i64.wrap (ps7 - (1 : Int))) ((ph2000000.set ps6.toNat (ph2000000.getD ps7.toNat (zEl (Ty.int IntKind.u32)))).set ps7.toNat (ph2000000.getD ps6.toNat (zEl (Ty.int IntKind.u32))))
      else none)
     else none)
    else none)
   else none)
  else some (((), ph2000000)))
noncomputable def L62_0 (K : Nat) (a0 : Int) (a1 : Int) (o0 : List Int) : Nat → Int → Int → (List (Int)) → Option (Unit × List Int)
  | 0, _, _, _ => none
  | n + 1, ps6, ps7, ph2000000 => b62_0 K a0 a1 o0 (L62_0 K a0 a1 o0 n) ps6 ps7 ph2000000
noncomputable def t62 (K : Nat) (a0 : Int) (a1 : Int) (o0 : List Int) (l0 : Nat → Int → Int → (List (Int)) → Option (Unit × List Int)) : Option (Unit × List Int) := l0 K (a0) (IntKind.i64.wrap (a1 - (1 : Int))) (o0)
noncomputable def G62 (K : Nat) (a0 : Int) (a1 : Int) (o0 : List Int) : Option (Unit × List Int) := t62 K a0 a1 o0 (L62_0 K a0 a1 o0)
theorem lp62_0 (K : Nat) (a0 : Int) (a1 : Int) (o0 : List Int) : ∀ (n : Nat) (ps6 : Int) (ps7 : Int) (ph2000000 : List (Int)), loopN Try.prog (tab62) 0 K Try.f62 la62 gq62.k 0 [] n (hd62_0 a0 a1 o0 ps6 ps7 ph2000000) = L62_0 K a0 a1 o0 n ps6 ps7 ph2000000
  | 0, _, _, _ => by kernel_rfl
  | n + 1, ps6, ps7, ph2000000 => by
    have h : loopN Try.prog (tab62) 0 K Try.f62 la62 gq62.k 0 [] (n + 1) (hd62_0 a0 a1 o0 ps6 ps7 ph2000000) = b62_0 K a0 a1 o0 (fun q0 q1 q2 => loopN Try.prog (tab62) 0 K Try.f62 la62 gq62.k 0 [] n (hd62_0 a0 a1 o0 q0 q1 q2)) ps6 ps7 ph2000000 := by kernel_rfl
    rw [h]
    simp only [lp62_0 K a0 a1 o0 n]
    rfl
theorem ev62 (K : Nat) (a0 : Int) (a1 : Int) (o0 : List Int) : evFun Try.prog (tab62) 0 K Try.f62 la62 [.own 2000000, I .i64 a0, I .i64 a1] (hpB ob62 o0) gq62.k = G62 K a0 a1 o0 := by
  have h : evFun Try.prog (tab62) 0 K Try.f62 la62 [.own 2000000, I .i64 a0, I .i64 a1] (hpB ob62 o0) gq62.k = t62 K a0 a1 o0 (fun k q0 q1 q2 => loopN Try.prog (tab62) 0 K Try.f62 la62 gq62.k 0 [] k (hd62_0 a0 a1 o0 q0 q1 q2)) := by kernel_rfl
  rw [h]
  simp only [lp62_0 K a0 a1 o0]
  rfl
noncomputable def F62 (K : Nat) (a0 : Int) (a1 : Int) (o0 : List Int) : Option (Unit × List Int) := G62 K a0 a1 o0
theorem cok62 (K : Nat) : CallOK D Try.prog (tab62) := none_ok
theorem ok62 (K : Nat) : RowG D Try.prog 62 (rowG (gad ag62 ob62) gq62 fun p => F62 K p.1.1 p.1.2.1 p.2) := rowG_ok fun x r h => ghas_of (cok62 K) Try.func62 ((ev62 K x.1.1 x.1.2.1 x.2).trans h)
end Go.Proofs.YtlpalhgiiodjoaaE
