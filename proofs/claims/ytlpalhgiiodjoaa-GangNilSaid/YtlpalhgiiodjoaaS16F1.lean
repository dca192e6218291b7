import Derived.Test.YtlpalhgiiodjoaaS16W48
set_option linter.all false
namespace Go.Proofs.YtlpalhgiiodjoaaE
open Go Go.Proofs
set_option maxRecDepth 100000
set_option linter.unusedVariables false
variable {D : Prop}
/-! cmp.isNaN[uint32] -/
noncomputable def tab76 : Tab := Tab.none
noncomputable def t76 (K : Nat) (a0 : Int) : Option (Bool) := some (a0 != a0)
noncomputable def G76 (K : Nat) (a0 : Int) : Option (Bool) := t76 K a0
theorem ev76 (K : Nat) (a0 : Int) : evFun Try.prog (tab76) 0 K Try.f76 [] [I .u32 a0] [] dq76.k = G76 K a0 := by
  kernel_rfl
noncomputable def F76 (K : Nat) (a0 : Int) : Option (Bool) := G76 K a0
theorem cok76 (K : Nat) : CallOK D Try.prog (tab76) := none_ok
theorem ok76 (K : Nat) : RowOK D Try.prog 76 (row ad76 dq76 fun p => F76 K p) := row_ok fun x r h => has_of (cok76 K) Try.func76 ((ev76 K x).trans h)
/-! cmp.Less[uint32] -/
noncomputable def tab64 (F76 : Int → Option (Bool)) : Tab := (Tab.none.add 76 (row ad76 dq76 fun p => F76 p))
noncomputable def t64 (F76 : Int → Option (Bool)) (K : Nat) (a0 : Int) (a1 : Int) : Option (Bool) := 
 (Option.bind (F76 a0) fun x0 => (if x0 = true then 
   (Option.bind (F76 a1) fun x1 => (if (!x1) = true then some (true)
    else some (decide (a0 < a1))))
  else some (decide (a0 < a1))))
noncomputable def G64 (F76 : Int → Option (Bool)) (K : Nat) (a0 : Int) (a1 : Int) : Option (Bool) := t64 F76 K a0 a1
theorem ev64 (F76 : Int → Option (Bool)) (K : Nat) (a0 : Int) (a1 : Int) : evFun Try.prog (tab64 F76) 0 K Try.f64 [] [I .u32 a0, I .u32 a1] [] dq64.k = G64 F76 K a0 a1 := by
  kernel_rfl
noncomputable def F64 (K : Nat) (a0 : Int) (a1 : Int) : Option (Bool) := G64 (F76 K) K a0 a1
theorem cok64 (K : Nat) : CallOK D Try.prog (tab64 (F76 K)) := (add_ok none_ok ent76 (ok76 K))
theorem ok64 (K : Nat) : RowOK D Try.prog 64 (row ad64 dq64 fun p => F64 K p.1 p.2) := row_ok fun x r h => has_of (cok64 K) Try.func64 ((ev64 (F76 K) K x.1 x.2).trans h)
/-! slices.insertionSortOrdered[uint32] -/
noncomputable def tab58 (F64 : Int → Int → Option (Bool)) : Tab := (Tab.none.add 64 (row ad64 dq64 fun p => F64 p.1 p.2))
noncomputable def la58 : List (List Tidy) := [[.only [0, 1, 2, 6], .ids [], .top [1000000]], [.only [0, 1, 2, 6, 7], .ids [], .top [1000001]]]
noncomputable def hd58_0 (a0 : Int) (a1 : Int) (o0 : List Int) (ps6 : Int) (ph2000000 : List (Int)) : St := { tm := slots (nat_lit 49) [(nat_lit 0, AV.own (nat_lit 2000000)), (nat_lit 1, AV.sc (Value.int IntKind.i64 a0)), (nat_lit 2, AV.sc (Value.int IntKind.i64 a1)), (nat_lit 6, AV.sc (Value.int IntKind.i64 ps6))], H := [(nat_lit 2000000, ABlk.arr (nat_lit 30) (Ty.int IntKind.u32) ph2000000)] }
noncomputable def hd58_1 (a0 : Int) (a1 : Int) (o0 : List Int) (ps6 : Int) (ps7 : Int) (ph2000000 : List (Int)) : St := { tm := slots (nat_lit 49) [(nat_lit 0, AV.own (nat_lit 2000000)), (nat_lit 1, AV.sc (Value.int IntKind.i64 a0)), (nat_lit 2, AV.sc (Value.int IntKind.i64 a1)), (nat_lit 6, AV.sc (Value.int IntKind.i64 ps6)), (nat_lit 7, AV.sc (Value.int IntKind.i64 ps7))], H := [(nat_lit 2000000, ABlk.arr (nat_lit 30) (Ty.int IntKind.u32) ph2000000)] }
noncomputable def b58_1 (F64 : Int → Int → Option (Bool)) (K : Nat) (a0 : Int) (a1 : Int) (o0 : List Int) (r0 : Int → (List (Int)) → Option (Unit × List Int)) (r1 : Int → Int → (List (Int)) → Option (Unit × List Int)) (ps6 : Int) (ps7 : Int) (ph2000000 : List (Int)) : Option (Unit × List Int) :=(if decide (ps7 > a0) = true then (if decide ((0 : Int) ≤ ps7 ∧ ps7 < (↑ph2000000.length : Int)) = true then (if decide ((0 : Int) ≤ IntKind.i64.wrap (ps7 - (1 : Int)) ∧ IntKind.i64.wrap (ps7 - (1 : Int)) < (↑ph2000000.length : Int)) = true then 
     (Option.bind (F64 (ph2000000.getD ps7.toNat (zEl (Ty.int IntKind.u32))) (ph2000000.getD (IntKind.i64.wrap (ps7 - (1 : Int))).toNat (zEl (Ty.int IntKind.u32)))) fun x0 => (if x0 = true then (if decide ((0 : Int) ≤ IntKind.i64.wrap (ps7 - (1 : Int)) ∧ IntKind.i64.wrap (ps7 - (1 : Int)) < (↑ph2000000.length : Int)) = true then (if decide ((0 : Int) ≤ ps7 ∧ ps7 < (↑ph2000000.length : Int)) = true then (if decide ((0 : Int) ≤ ps7 ∧ ps7 < (↑ph2000000.length : Int)) = true then (if decide ((0 : Int) ≤ IntKind.i64.wrap (ps7 - (1 : Int)) ∧ IntKind.i64.wrap (ps7 - (1 : Int)) < (↑(ph2000000.set ps7.toNat (ph2000000.getD (IntKind.i64.wrap (ps7 - (1 : Int))).toNat (zEl (Ty.int IntKind.u32)))).length : Int)) = true then r1 (ps6) (IntKind.i64.wrap (ps7 - (1 : Int))) ((ph2000000.set ps7.toNat (ph2000000.getD (IntKind.i64.wrap (ps7 - (1 : Int))).toNat (zEl (Ty.int IntKind.u32)))).set (IntKind.i64.wrap (ps7 - (1 : Int))).toNat (ph2000000.getD ps7.toNat (zEl (Ty.int IntKind.u32))))
          else none)
         else none)
        else none)
       else none)
      else r0 (IntKind.i64.wrap (ps6 + (1 : Int))) (ph2000000)))
    else none)
   else none)
  else r0 (IntKind.i64.wrap (ps6 + (1 : Int))) (ph2000000))
noncomputable def L58_1 (F64 : Int → Int → Option (Bool)) (K : Nat) (a0 : Int) (a1 : Int) (o0 : List Int) (r0 : Int → (List (Int)) → Option (Unit × List Int)) : Nat → Int → Int → (List (Int)) → Option (Unit × List Int)
  | 0, _, _, _ => none
  | n + 1, ps6, ps7, ph2000000 => b58_1 F64 K a0 a1 o0 r0 (L58_1 F64 K a0 a1 o0 r0 n) ps6 ps7 ph2000000
noncomputable def b58_0 (F64 : Int → Int → Option (Bool)) (K : Nat) (a0 : Int) (a1 : Int) (o0 : List Int) (r0 : Int → (List (Int)) → Option (Unit × List Int)) (l1 : Nat → Int → Int → (List (Int)) → Option (Unit × List Int)) (ps6 : Int) (ph2000000 : List (Int)) : Option (Unit × List Int) :=(if decide (ps6 < a1) = true then l1 K (ps6) (ps6) (ph2000000)
  else some (((), ph2000000)))
noncomputable def L58_0 (F64 : Int → Int → Option (Bool)) (K : Nat) (a0 : Int) (a1 : Int) (o0 : List Int) : Nat → Int → (List (Int)) → Option (Unit × List Int)
  | 0, _, _ => none
  | n + 1, ps6, ph2000000 => b58_0 F64 K a0 a1 o0 (L58_0 F64 K a0 a1 o0 n) (L58_1 F64 K a0 a1 o0 (L58_0 F64 K a0 a1 o0 n)) ps6 ph2000000
noncomputable def t58 (F64 : Int → Int → Option (Bool)) (K : Nat) (a0 : Int) (a1 : Int) (o0 : List Int) (l0 : Nat → Int → (List (Int)) → Option (Unit × List Int)) : Option (Unit × List Int) := l0 K (IntKind.i64.wrap (a0 + (1 : Int))) (o0)
noncomputable def G58 (F64 : Int → Int → Option (Bool)) (K : Nat) (a0 : Int) (a1 : Int) (o0 : List Int) : Option (Unit × List Int) := t58 F64 K a0 a1 o0 (L58_0 F64 K a0 a1 o0)
theorem lp58_1 (F64 : Int → Int → Option (Bool)) (K : Nat) (a0 : Int) (a1 : Int) (o0 : List Int) : ∀ (m0 : Nat) (n : Nat) (ps6 : Int) (ps7 : Int) (ph2000000 : List (Int)), loopN Try.prog (tab58 F64) 0 K Try.f58 la58 gq58.k 1 [m0] n (hd58_1 a0 a1 o0 ps6 ps7 ph2000000) = L58_1 F64 K a0 a1 o0 (fun q0 q1 => loopN Try.prog (tab58 F64) 0 K Try.f58 la58 gq58.k 0 [] m0 (hd58_0 a0 a1 o0 q0 q1)) n ps6 ps7 ph2000000
  | m0, 0, _, _, _ => by kernel_rfl
  | m0, n + 1, ps6, ps7, ph2000000 => by
    have h : loopN Try.prog (tab58 F64) 0 K Try.f58 la58 gq58.k 1 [m0] (n + 1) (hd58_1 a0 a1 o0 ps6 ps7 ph2000000) = b58_1 F64 K a0 a1 o0 (fun q0 q1 => loopN Try.prog (tab58 F64) 0 K Try.f58 la58 gq58.k 0 [] m0 (hd58_0 a0 a1 o0 q0 q1)) (fun q0 q1 q2 => loopN Try.prog (tab58 F64) 0 K Try.f58 la58 gq58.k 1 [m0] n (hd58_1 a0 a1 o0 q0 q1 q2)) ps6 ps7 ph2000000 := by kernel_rfl
    rw [h]
    simp only [lp58_1 F64 K a0 a1 o0 m0 n]
    rfl
theorem lp58_0 (F64 : Int → Int → Option (Bool)) (K : Nat) (a0 : Int) (a1 : Int) (o0 : List Int) : ∀ (n : Nat) (ps6 : Int) (ph2000000 : List (Int)), loopN Try.prog (tab58 F64) 0 K Try.f58 la58 gq58.k 0 [] n (hd58_0 a0 a1 o0 ps6 ph2000000) = L58_0 F64 K a0 a1 o0 n ps6 ph2000000
  | 0, _, _ => by kernel_rfl
  | n + 1, ps6, ph2000000 => by
    have h : loopN Try.prog (tab58 F64) 0 K Try.f58 la58 gq58.k 0 [] (n + 1) (hd58_0 a0 a1 o0 ps6 ph2000000) = b58_0 F64 K a0 a1 o0 (fun q0 q1 => loopN Try.prog (tab58 F64) 0 K Try.f58 la58 gq58.k 0 [] n (hd58_0 a0 a1 o0 q0 q1)) (fun k q0 q1 q2 => loopN Try.prog (tab58 F64) 0 K Try.f58 la58 gq58.k 1 [n] k (hd58_1 a0 a1 o0 q0 q1 q2)) ps6 ph2000000 := by kernel_rfl
    rw [h]
    simp only [lp58_0 F64 K a0 a1 o0 n, lp58_1 F64 K a0 a1 o0 n]
    rfl
theorem ev58 (F64 : Int → Int → Option (Bool)) (K : Nat) (a0 : Int) (a1 : Int) (o0 : List Int) : evFun Try.prog (tab58 F64) 0 K Try.f58 la58 [.own 2000000, I .i64 a0, I .i64 a1] (hpB ob58 o0) gq58.k = G58 F64 K a0 a1 o0 := by
  have h : evFun Try.prog (tab58 F64) 0 K Try.f58 la58 [.own 2000000, I .i64 a0, I .i64 a1] (hpB ob58 o0) gq58.k = t58 F64 K a0 a1 o0 (fun k q0 q1 => loopN Try.prog (tab58 F64) 0 K Try.f58 la58 gq58.k 0 [] k (hd58_0 a0 a1 o0 q0 q1)) := by kernel_rfl
  rw [h]
  simp only [lp58_0 F64 K a0 a1 o0]
  rfl
noncomputable def F58 (K : Nat) (a0 : Int) (a1 : Int) (o0 : List Int) : Option (Unit × List Int) := G58 (F64 K) K a0 a1 o0
theorem cok58 (K : Nat) : CallOK D Try.prog (tab58 (F64 K)) := (add_ok none_ok ent64 (ok64 K))
theorem ok58 (K : Nat) : RowG D Try.prog 58 (rowG (gad ag58 ob58) gq58 fun p => F58 K p.1.1 p.1.2.1 p.2) := rowG_ok fun x r h => ghas_of (cok58 K) Try.func58 ((ev58 (F64 K) K x.1.1 x.1.2.1 x.2).trans h)
/-! slices.pdqsortOrdered[uint32] -/
noncomputable def tab47 (F58 : Int → Int → (List Int) → Option (Unit × List Int)) : Tab := (Tab.none.addG 58 (rowG (gad ag58 ob58) gq58 fun p => F58 p.1.1 p.1.2.1 p.2))
noncomputable def la47 : List (List Tidy) := [[.only [0, 1, 2, 3, 8, 9], .ids [], .top [1000000]]]
noncomputable def hd47_0 (a0 : Int) (a1 : Int) (a2 : Int) (o0 : List Int) : St := { tm := slots (nat_lit 134) [(nat_lit 0, AV.own (nat_lit 2000000)), (nat_lit 1, AV.sc (Value.int IntKind.i64 a0)), (nat_lit 2, AV.sc (Value.int IntKind.i64 a1)), (nat_lit 3, AV.sc (Value.int IntKind.i64 a2)), (nat_lit 8, AV.sc (Value.bool true)), (nat_lit 9, AV.sc (Value.bool true))], H := [(nat_lit 2000000, ABlk.arr (nat_lit 30) (Ty.int IntKind.u32) o0)] }
noncomputable def b47_0 (F58 : Int → Int → (List Int) → Option (Unit × List Int)) (K : Nat) (a0 : Int) (a1 : Int) (a2 : Int) (o0 : List Int) (r0 : Option (Unit × List Int)) : Option (Unit × List Int) :=(if decide (IntKind.i64.wrap (a1 - a0) ≤ (12 : Int)) = true then 
   (Option.bind (F58 a0 a1 o0) fun x0 => some (((), x0.2)))
  else (if (a2 == (0 : Int)) = true then none
   else none))
noncomputable def L47_0 (F58 : Int → Int → (List Int) → Option (Unit × List Int)) (K : Nat) (a0 : Int) (a1 : Int) (a2 : Int) (o0 : List Int) : Nat → Option (Unit × List Int)
  | 0 => none
  | n + 1 => b47_0 F58 K a0 a1 a2 o0 (L47_0 F58 K a0 a1 a2 o0 n)
noncomputable def t47 (F58 : Int → Int → (List Int) → Option (Unit × List Int)) (K : Nat) (a0 : Int) (a1 : Int) (a2 : Int) (o0 : List Int) (l0 : Nat → Option (Unit × List Int)) : Option (Unit × List Int) := l0 K
noncomputable def G47 (F58 : Int → Int → (List Int) → Option (Unit × List Int)) (K : Nat) (a0 : Int) (a1 : Int) (a2 : Int) (o0 : List Int) : Option (Unit × List Int) := t47 F58 K a0 a1 a2 o0 (L47_0 F58 K a0 a1 a2 o0)
theorem lp47_0 (F58 : Int → Int → (List Int) → Option (Unit × List Int)) (K : Nat) (a0 : Int) (a1 : Int) (a2 : Int) (o0 : List Int) : ∀ (n : Nat), loopN Try.prog (tab47 F58) 0 K Try.f47 la47 gq47.k 0 [] n (hd47_0 a0 a1 a2 o0) = L47_0 F58 K a0 a1 a2 o0 n
  | 0 => by kernel_rfl
  | n + 1 => by
    have h : loopN Try.prog (tab47 F58) 0 K Try.f47 la47 gq47.k 0 [] (n + 1) (hd47_0 a0 a1 a2 o0) = b47_0 F58 K a0 a1 a2 o0 (loopN Try.prog (tab47 F58) 0 K Try.f47 la47 gq47.k 0 [] n (hd47_0 a0 a1 a2 o0)) := by kernel_rfl
    rw [h]
    simp only [lp47_0 F58 K a0 a1 a2 o0 n]
    rfl
theorem ev47 (F58 : Int → Int → (List Int) → Option (Unit × List Int)) (K : Nat) (a0 : Int) (a1 : Int) (a2 : Int) (o0 : List Int) : evFun Try.prog (tab47 F58) 0 K Try.f47 la47 [.own 2000000, I .i64 a0, I .i64 a1, I .i64 a2] (hpB ob47 o0) gq47.k = G47 F58 K a0 a1 a2 o0 := by
  have h : evFun Try.prog (tab47 F58) 0 K Try.f47 la47 [.own 2000000, I .i64 a0, I .i64 a1, I .i64 a2] (hpB ob47 o0) gq47.k = t47 F58 K a0 a1 a2 o0 (fun k => loopN Try.prog (tab47 F58) 0 K Try.f47 la47 gq47.k 0 [] k (hd47_0 a0 a1 a2 o0)) := by kernel_rfl
  rw [h]
  simp only [lp47_0 F58 K a0 a1 a2 o0]
  rfl
noncomputable def F47 (K : Nat) (a0 : Int) (a1 : Int) (a2 : Int) (o0 : List Int) : Option (Unit × List Int) := G47 (F58 K) K a0 a1 a2 o0
theorem cok47 (K : Nat) : CallOK D Try.prog (tab47 (F58 K)) := (addG_ok none_ok ent58 (ok58 K))
theorem ok47 (K : Nat) : RowG D Try.prog 47 (rowG (gad ag47 ob47) gq47 fun p => F47 K p.1.1 p.1.2.1 p.1.2.2.1 p.2) := rowG_ok fun x r h => ghas_of (cok47 K) Try.func47 ((ev47 (F58 K) K x.1.1 x.1.2.1 x.1.2.2.1 x.2).trans h)
/-! slices.Sort[[]uint32,uint32] -/
noncomputable def tab35 (F48 : Int → Option (Int)) (F47 : Int → Int → Int → (List Int) → Option (Unit × List Int)) : Tab := ((Tab.none.add 48 (row ad48 dq48 fun p => F48 p)).addG 47 (rowG (gad ag47 ob47) gq47 fun p => F47 p.1.1 p.1.2.1 p.1.2.2.1 p.2))
noncomputable def t35 (F48 : Int → Option (Int)) (F47 : Int → Int → Int → (List Int) → Option (Unit × List Int)) (K : Nat) (o0 : List Int) : Option (Unit × List Int) := 
 (Option.bind (F48 (IntKind.u64.wrap (↑o0.length : Int))) fun x0 => 
  (Option.bind (F47 (0 : Int) (↑o0.length : Int) x0 o0) fun x1 => some (((), x1.2))))
noncomputable def G35 (F48 : Int → Option (Int)) (F47 : Int → Int → Int → (List Int) → Option (Unit × List Int)) (K : Nat) (o0 : List Int) : Option (Unit × List Int) := t35 F48 F47 K o0
theorem ev35 (F48 : Int → Option (Int)) (F47 : Int → Int → Int → (List Int) → Option (Unit × List Int)) (K : Nat) (o0 : List Int) : evFun Try.prog (tab35 F48 F47) 0 K Try.f35 [] [.own 2000000] (hpB ob35 o0) gq35.k = G35 F48 F47 K o0 := by
  kernel_rfl
noncomputable def F35 (K : Nat) (o0 : List Int) : Option (Unit × List Int) := G35 (F48 K) (F47 K) K o0
theorem cok35 (K : Nat) : CallOK D Try.prog (tab35 (F48 K) (F47 K)) := (addG_ok (add_ok none_ok ent48 (ok48 K)) ent47 (ok47 K))
theorem ok35 (K : Nat) : RowG D Try.prog 35 (rowG (gad ag35 ob35) gq35 fun p => F35 K p.2) := rowG_ok fun x r h => ghas_of (cok35 K) Try.func35 ((ev35 (F48 K) (F47 K) K x.2).trans h)
/-! (*ganger/gang.Matrix).at$1 -/
noncomputable def tab54 : Tab := Tab.none
noncomputable def t54 (K : Nat) (a0 : El T34) (a1 : Int) : Option (Bool) := some (a0.1 == a1)
noncomputable def G54 (K : Nat) (a0 : El T34) (a1 : Int) : Option (Bool) := t54 K a0 a1
theorem ev54 (K : Nat) (a0 : El T34) (a1 : Int) : evFun Try.prog (tab54) 0 K Try.f54 [] [.agg (cellsOf T34 a0), .eptr (.int .u32) a1 0] [] dq54.k = G54 K a0 a1 := by
  kernel_rfl
noncomputable def F54 (K : Nat) (a0 : El T34) (a1 : Int) : Option (Bool) := G54 K a0 a1
theorem cok54 (K : Nat) : CallOK D Try.prog (tab54) := none_ok
theorem ok54 (K : Nat) : RowOK D Try.prog 54 (row ad54 dq54 fun p => F54 K p.1 p.2) := row_ok fun x r h => has_of (cok54 K) Try.func54 ((ev54 K x.1 x.2).trans h)
/-! slices.IndexFunc[[]ganger/api.Cell,ganger/api.Cell] -/
noncomputable def tab53 (F54 : (El T34) → Int → Option (Bool)) : Tab := (Tab.none.add 54 (row ad54 dq54 fun p => F54 p.1 p.2))
noncomputable def la53 : List (List Tidy) := [[.only [0, 1, 7, 8], .ids [7], .top [1000000]]]
noncomputable def hd53_0 (a0 : List (El T34)) (a1 : Int) (ps8 : Int) : St := { tm := slots (nat_lit 19) [(nat_lit 0, AV.row T34 a0), (nat_lit 1, AV.fn (nat_lit 54) [AV.eptr (Ty.int IntKind.u32) a1 (nat_lit 0)]), (nat_lit 7, AV.sc (Value.int IntKind.i64 (↑a0.length : Int))), (nat_lit 8, AV.sc (Value.int IntKind.i64 ps8))], H := [] }
noncomputable def b53_0 (F54 : (El T34) → Int → Option (Bool)) (K : Nat) (a0 : List (El T34)) (a1 : Int) (r0 : Int → Option (Int)) (ps8 : Int) : Option (Int) :=(if decide (ps8 < (↑a0.length : Int)) = true then (if decide ((0 : Int) ≤ ps8 ∧ ps8 < (↑a0.length : Int)) = true then 
    (Option.bind (F54 (a0.getD ps8.toNat (zEl T34)) a1) fun x0 => (if x0 = true then some (ps8)
     else r0 (IntKind.i64.wrap (ps8 + (1 : Int)))))
   else none)
  else some ((-1 : Int)))
noncomputable def L53_0 (F54 : (El T34) → Int → Option (Bool)) (K : Nat) (a0 : List (El T34)) (a1 : Int) : Nat → Int → Option (Int)
  | 0, _ => none
  | n + 1, ps8 => b53_0 F54 K a0 a1 (L53_0 F54 K a0 a1 n) ps8
noncomputable def t53 (F54 : (El T34) → Int → Option (Bool)) (K : Nat) (a0 : List (El T34)) (a1 : Int) (l0 : Nat → Int → Option (Int)) : Option (Int) := l0 K ((0 : Int))
noncomputable def G53 (F54 : (El T34) → Int → Option (Bool)) (K : Nat) (a0 : List (El T34)) (a1 : Int) : Option (Int) := t53 F54 K a0 a1 (L53_0 F54 K a0 a1)
theorem lp53_0 (F54 : (El T34) → Int → Option (Bool)) (K : Nat) (a0 : List (El T34)) (a1 : Int) : ∀ (n : Nat) (ps8 : Int), loopN Try.prog (tab53 F54) 0 K Try.f53 la53 dq53.k 0 [] n (hd53_0 a0 a1 ps8) = L53_0 F54 K a0 a1 n ps8
  | 0, _ => by kernel_rfl
  | n + 1, ps8 => by
    have h : loopN Try.prog (tab53 F54) 0 K Try.f53 la53 dq53.k 0 [] (n + 1) (hd53_0 a0 a1 ps8) = b53_0 F54 K a0 a1 (fun q0 => loopN Try.prog (tab53 F54) 0 K Try.f53 la53 dq53.k 0 [] n (hd53_0 a0 a1 q0)) ps8 := by kernel_rfl
    rw [h]
    simp only [lp53_0 F54 K a0 a1 n]
    rfl
theorem ev53 (F54 : (El T34) → Int → Option (Bool)) (K : Nat) (a0 : List (El T34)) (a1 : Int) : evFun Try.prog (tab53 F54) 0 K Try.f53 la53 [.row T34 a0, .fn 54 [.eptr (.int .u32) a1 0]] [] dq53.k = G53 F54 K a0 a1 := by
  have h : evFun Try.prog (tab53 F54) 0 K Try.f53 la53 [.row T34 a0, .fn 54 [.eptr (.int .u32) a1 0]] [] dq53.k = t53 F54 K a0 a1 (fun k q0 => loopN Try.prog (tab53 F54) 0 K Try.f53 la53 dq53.k 0 [] k (hd53_0 a0 a1 q0)) := by kernel_rfl
  rw [h]
  simp only [lp53_0 F54 K a0 a1]
  rfl
noncomputable def F53 (K : Nat) (a0 : List (El T34)) (a1 : Int) : Option (Int) := G53 (F54 K) K a0 a1
theorem cok53 (K : Nat) : CallOK D Try.prog (tab53 (F54 K)) := (add_ok none_ok ent54 (ok54 K))
theorem ok53 (K : Nat) : RowOK D Try.prog 53 (row ad53 dq53 fun p => F53 K p.1 p.2) := row_ok fun x r h => has_of (cok53 K) Try.func53 ((ev53 (F54 K) K x.1 x.2).trans h)
/-! (*ganger/gang.Matrix).at -/
noncomputable def tab39 (F53 : (List (El T34)) → Int → Option (Int)) : Tab := (Tab.none.add 53 (row ad53 dq53 fun p => F53 p.1 p.2))
noncomputable def t39 (F53 : (List (El T34)) → Int → Option (Int)) (K : Nat) (a0 : El T62) (a1 : Int) : Option (Int) := 
 (Option.bind (F53 a0.2.1 a1) fun x0 => some (x0))
noncomputable def G39 (F53 : (List (El T34)) → Int → Option (Int)) (K : Nat) (a0 : El T62) (a1 : Int) : Option (Int) := t39 F53 K a0 a1
theorem ev39 (F53 : (List (El T34)) → Int → Option (Int)) (K : Nat) (a0 : El T62) (a1 : Int) : evFun Try.prog (tab39 F53) 0 K Try.f39 [] [.eptr T62 a0 0, I .u32 a1] [] dq39.k = G39 F53 K a0 a1 := by
  kernel_rfl
noncomputable def F39 (K : Nat) (a0 : El T62) (a1 : Int) : Option (Int) := G39 (F53 K) K a0 a1
theorem cok39 (K : Nat) : CallOK D Try.prog (tab39 (F53 K)) := (add_ok none_ok ent53 (ok53 K))
theorem ok39 (K : Nat) : RowOK D Try.prog 39 (row ad39 dq39 fun p => F39 K p.1 p.2) := row_ok fun x r h => has_of (cok39 K) Try.func39 ((ev39 (F53 K) K x.1 x.2).trans h)
end Go.Proofs.YtlpalhgiiodjoaaE
