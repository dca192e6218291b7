import Derived.Test.YtigekmmdflaeaaaDoorS08F7
set_option linter.all false
namespace Go.Proofs.YtigekmmdflaeaaaDoorE
open Go Go.Proofs
set_option maxRecDepth 100000
set_option linter.unusedVariables false
variable {D : Cx}
/-! slices.nextPowerOfTwo -/
noncomputable def tab84 (F50 : Int → Option (Int)) : Tab := (Tab.none.add 50 (row ad50 dq50 fun p => F50 p))
noncomputable def t84 (F50 : Int → Option (Int)) (K : Nat) (a0 : Int) : Option (Int) := 
 (Option.bind (F50 (IntKind.u64.wrap a0)) fun x0 => (if decide ((0 : Int) ≤ x0) = true then some (IntKind.u64.wrap ((1 : Int) * (2 : Int) ^ min (Int.toNat x0) IntKind.u64.bits))
  else none))
noncomputable def G84 (F50 : Int → Option (Int)) (K : Nat) (a0 : Int) : Option (Int) := t84 F50 K a0
theorem ev84 (F50 : Int → Option (Int)) (K : Nat) (a0 : Int) : evFun Tryd.prog (tab84 F50) 0 K Tryd.f84 [] [I .i64 a0] [] dq84.k = G84 F50 K a0 := by
  kernel_rfl
noncomputable def F84 (K : Nat) (a0 : Int) : Option (Int) := G84 (F50 K) K a0
theorem cok84 (K : Nat) : CallOK D Tryd.prog (tab84 (F50 K)) := (add_ok none_ok ent50 (ok50 K))
theorem ok84 (K : Nat) : RowOK D Tryd.prog 84 (row ad84 dq84 fun p => F84 K p) := row_ok fun x r h => has_of (cok84 K) Tryd.func84 ((ev84 (F50 K) K x).trans h)
/-! (*slices.xorshift).Next -/
noncomputable def tab85 : Tab := Tab.none
noncomputable def t85 (K : Nat) (o0 : Int) : Option (Int × Int) := some ((IntKind.u64.wrap (↑(BitVec.ofInt IntKind.u64.bits (IntKind.u64.wrap (↑(BitVec.ofInt IntKind.u64.bits (IntKind.u64.wrap (↑(BitVec.ofInt IntKind.u64.bits o0 ^^^ BitVec.ofInt IntKind.u64.bits (IntKind.u64.wrap (o0 * (2 : Int) ^ min (Int.toNat (13 : Int)) IntKind.u64.bits))).toNat : Int)) ^^^ BitVec.ofInt IntKind.u64.bits ((IntKind.u64.wrap (↑(BitVec.ofInt IntKind.u64.bits o0 ^^^ BitVec.ofInt IntKind.u64.bits (IntKind.u64.wrap (o0 * (2 : Int) ^ min (Int.toNat (13 : Int)) IntKind.u64.bits))).toNat : Int)).fdiv ((2 : Int) ^ min (Int.toNat (7 : Int)) IntKind.u64.bits))).toNat : Int)) ^^^ BitVec.ofInt IntKind.u64.bits (IntKind.u64.wrap (IntKind.u64.wrap (↑(BitVec.ofInt IntKind.u64.bits (IntKind.u64.wrap (↑(BitVec.ofInt IntKind.u64.bits o0 ^^^ BitVec.ofInt IntKind.u64.bits (IntKind.u64.wrap (o0 * (2 : Int) ^ min (Int.toNat (13 : Int)) IntKind.u64.bits))).toNat : Int)) ^^^ BitVec.ofInt IntKind.u64.bits ((IntKind.u64.wrap (↑(BitVec.ofInt IntKind.u64.bits o0 ^^^ BitVec.ofInt IntKind.u64.bits (IntKind.u64.wrap (o0 * (2 : Int) ^ min (Int.toNat (13 : Int)) IntKind.u64.bits))).toNat : Int)).fdiv ((2 : Int) ^ min (Int.toNat (7 : Int)) IntKind.u64.bits))).toNat : Int) * (2 : Int) ^ min (Int.toNat (17 : Int)) IntKind.u64.bits))).toNat : Int), IntKind.u64.wrap (↑(BitVec.ofInt IntKind.u64.bits (IntKind.u64.wrap (↑(BitVec.ofInt IntKind.u64.bits (IntKind.u64.wrap (↑(BitVec.ofInt IntKind.u64.bits o0 ^^^ BitVec.ofInt IntKind.u64.bits (IntKind.u64.wrap (o0 * (2 : Int) ^ min (Int.toNat (13 : Int)) IntKind.u64.bits))).toNat : Int)) ^^^ BitVec.ofInt IntKind.u64.bits ((IntKind.u64.wrap (↑(BitVec.ofInt IntKind.u64.bits o0 ^^^ BitVec.ofInt IntKind.u64.bits (IntKind.u64.wrap (o0 * (2 : Int) ^ min (Int.toNat (13 : Int)) IntKind.u64.bits))).toNat : Int)).fdiv ((2 : Int) ^ min (Int.toNat (7 : Int)) IntKind.u64.bits))).toNat : Int)) ^^^ BitVec.ofInt IntKind.u64.bits (IntKind.u64.wrap (IntKind.u64.wrap (↑(BitVec.ofInt IntKind.u64.bits (IntKind.u64.wrap (↑(BitVec.ofInt IntKind.u64.bits o0 ^^^ BitVec.ofInt IntKind.u64.bits (IntKind.u64.wrap (o0 * (2 : Int) ^ min (Int.toNat (13 : Int)) IntKind.u64.bits))).toNat : Int)) ^^^ BitVec.ofInt IntKind.u64.bits ((IntKind.u64.wrap (↑(BitVec.ofInt IntKind.u64.bits o0 ^^^ BitVec.ofInt IntKind.u64.bits (IntKind.u64.wrap (o0 * (2 : Int) ^ min (Int.toNat (13 : Int)) IntKind.u64.bits))).toNat : Int)).fdiv ((2 : Int) ^ min (Int.toNat (7 : Int)) IntKind.u64.bits))).toNat : Int) * (2 : Int) ^ min (Int.toNat (17 : Int)) IntKind.u64.bits))).toNat : Int)))
noncomputable def G85 (K : Nat) (o0 : Int) : Option (Int × Int) := t85 K o0
theorem ev85 (K : Nat) (o0 : Int) : evFun Tryd.prog (tab85) 0 K Tryd.f85 [] [.ptr 2000000 0] (hpB ob85 o0) gq85.k = G85 K o0 := by
  kernel_rfl
noncomputable def F85 (K : Nat) (o0 : Int) : Option (Int × Int) := G85 K o0
theorem cok85 (K : Nat) : CallOK D Tryd.prog (tab85) := none_ok
theorem ok85 (K : Nat) : RowG D Tryd.prog 85 (rowG (gad ag85 ob85) gq85 fun p => F85 K p.2) := rowG_ok fun x r h => ghas_of (cok85 K) Tryd.func85 ((ev85 K x.2).trans h)
/-! slices.breakPatternsOrdered[uint32] -/
noncomputable def tab65 (F84 : Int → Option (Int)) (F85 : Int → Option (Int × Int)) : Tab := ((Tab.none.add 84 (row ad84 dq84 fun p => F84 p)).addG 85 (rowG (gad ag85 ob85) gq85 fun p => F85 p.2))
noncomputable def la65 : List (List Tidy) := [[.only [0, 1, 6, 7, 8, 9], .ids [7, 19], .top [1000000]]]
noncomputable def hd65_0 (a0 : Int) (a1 : Int) (o0 : List Int) (ps8 : Int) (ps9 : Int) (ph7_0 : Int) (ph2000000 : List (Int)) : St := { tm := slots (nat_lit 65) [(nat_lit 0, AV.own (nat_lit 2000000)), (nat_lit 1, AV.sc (Value.int IntKind.i64 a0)), (nat_lit 6, AV.sc (Value.int IntKind.i64 (IntKind.i64.wrap (a1 - a0)))), (nat_lit 7, AV.ptr (nat_lit 7) (nat_lit 0)), (nat_lit 8, AV.sc (Value.int IntKind.u64 ps8)), (nat_lit 9, AV.sc (Value.int IntKind.i64 ps9))], H := [(nat_lit 7, ABlk.box (nat_lit 124) [AV.sc (Value.int IntKind.u64 ph7_0)]), (nat_lit 2000000, ABlk.arr (nat_lit 38) (Ty.int IntKind.u32) ph2000000)] }
noncomputable def b65_0 (F84 : Int → Option (Int)) (F85 : Int → Option (Int × Int)) (K : Nat) (a0 : Int) (a1 : Int) (o0 : List Int) (r0 : Int → Int → Int → (List (Int)) → Option (Unit × List Int)) (ps8 : Int) (ps9 : Int) (ph7_0 : Int) (ph2000000 : List (Int)) : Option (Unit × List Int) :=(if decide (ps9 ≤ IntKind.i64.wrap (IntKind.i64.wrap (a0 + IntKind.i64.wrap (IntKind.i64.wrap ((IntKind.i64.wrap (a1 - a0)).tdiv (4 : Int)) * (2 : Int))) + (1 : Int))) = true then 
   (Option.bind (F85 ph7_0) fun x1 => (if decide (IntKind.i64.wrap (IntKind.u64.wrap (↑(BitVec.ofInt IntKind.u64.bits x1.1 &&& BitVec.ofInt IntKind.u64.bits (IntKind.u64.wrap (ps8 - (1 : Int)))).toNat : Int)) ≥ IntKind.i64.wrap (a1 - a0)) = true then (if decide ((0 : Int) ≤ IntKind.i64.wrap (a0 + IntKind.i64.wrap (IntKind.i64.wrap (IntKind.u64.wrap (↑(BitVec.ofInt IntKind.u64.bits x1.1 &&& BitVec.ofInt IntKind.u64.bits (IntKind.u64.wrap (ps8 - (1 : Int)))).toNat : Int)) - IntKind.i64.wrap (a1 - a0))) ∧ IntKind.i64.wrap (a0 + IntKind.i64.wrap (IntKind.i64.wrap (IntKind.u64.wrap (↑(BitVec.ofInt IntKind.u64.bits x1.1 &&& BitVec.ofInt IntKind.u64.bits (IntKind.u64.wrap (ps8 - (1 : Int)))).toNat : Int)) - IntKind.i64.wrap (a1 - a0))) < (↑ph2000000.length : Int)) = true then (if decide ((0 : Int) ≤ ps9 ∧ ps9 < (↑ph2000000.length : Int)) = true then (if decide ((0 : Int) ≤ ps9 ∧ ps9 < (↑ph2000000.length : Int)) = true then (if decide ((0 : Int) ≤ IntKind.i64.wrap (a0 + IntKind.i64.wrap (IntKind.i64.wrap (IntKind.u64.wrap (↑(BitVec.ofInt IntKind.u64.bits x1.1 &&& BitVec.ofInt IntKind.u64.bits (IntKind.u64.wrap (ps8 - (1 : Int)))).toNat : Int)) - IntKind.i64.wrap (a1 - a0))) ∧ IntKind.i64.wrap (a0 + IntKind.i64.wrap (IntKind.i64.wrap (IntKind.u64.wrap (↑(BitVec.ofInt IntKind.u64.bits x1.1 &&& BitVec.ofInt IntKind.u64.bits (IntKind.u64.wrap (ps8 - (1 : Int)))).toNat : Int)) - IntKind.i64.wrap (a1 - a0))) < (↑(ph2000000.set ps9.toNat (ph2000000.getD (IntKind.i64.wrap (a0 + IntKind.i64.wrap (IntKind.i64.wrap (IntKind.u64.wrap (↑(BitVec.ofInt IntKind.u64.bits x1.1 &&& BitVec.ofInt IntKind.u64.bits (IntKind.u64.wrap (ps8 - (1 : Int)))).toNat : Int)) - IntKind.i64.wrap (a1 - a0)))).toNat (zEl (Ty.int IntKind.u32)))).length : Int)) = true then r0 (ps8) (IntKind.i64.wrap (ps9 + (1 : Int))) (x1.2) ((ph2000000.set ps9.toNat (ph2000000.getD (IntKind.i64.wrap (a0 + IntKind.i64.wrap (IntKind.i64.wrap (IntKind.u64.wrap (↑(BitVec.ofInt IntKind.u64.bits x1.1 &&& BitVec.ofInt IntKind.u64.bits (IntKind.u64.wrap (ps8 - (1 : Int)))).toNat : Int)) - IntKind.i64.wrap (a1 - a0)))).toNat (zEl (Ty.int IntKind.u32)))).set (IntKind.i64.wrap (a0 + IntKind.i64.wrap (IntKind.i64.wrap (IntKind.u64.wrap (↑(BitVec.ofInt IntKind.u64.bits x1.1 &&& BitVec.ofInt IntKind.u64.bits (IntKind.u64.wrap (ps8 - (1 : Int)))).toNat : Int)) - IntKind.i64.wrap (a1 - a0)))).toNat (ph2000000.getD ps9.toNat (zEl (Ty.int IntKind.u32))))
        else none)
       else none)
      else none)
     else none)
    else (if decide ((0 : Int) ≤ IntKind.i64.wrap (a0 + IntKind.i64.wrap (IntKind.u64.wrap (↑(BitVec.ofInt IntKind.u64.bits x1.1 &&& BitVec.ofInt IntKind.u64.bits (IntKind.u64.wrap (ps8 - (1 : Int)))).toNat : Int))) ∧ IntKind.i64.wrap (a0 + IntKind.i64.wrap (IntKind.u64.wrap (↑(BitVec.ofInt IntKind.u64.bits x1.1 &&& BitVec.ofInt IntKind.u64.bits (IntKind.u64.wrap (ps8 - (1 : Int)))).toNat : Int))) < (↑ph2000000.length : Int)) = true then (if decide ((0 : Int) ≤ ps9 ∧ ps9 < (↑ph2000000.length : Int)) = true then (if decide ((0 : Int) ≤ ps9 ∧ ps9 < (↑ph2000000.length : Int)) = true then (if decide ((0 : Int) ≤ IntKind.i64.wrap (a0 + IntKind.i64.wrap (IntKind.u64.wrap (↑(BitVec.ofInt IntKind.u64.bits x1.1 &&& BitVec.ofInt IntKind.u64.bits (IntKind.u64.wrap (ps8 - (1 : Int)))).toNat : Int))) ∧ IntKind.i64.wrap (a0 + IntKind.i64.wrap (IntKind.u64.wrap (↑(BitVec.ofInt IntKind.u64.bits x1.1 &&& BitVec.ofInt IntKind.u64.bits (IntKind.u64.wrap (ps8 - (1 : Int)))).toNat : Int))) < (↑(ph2000000.set ps9.toNat (ph2000000.getD (IntKind.i64.wrap (a0 + IntKind.i64.wrap (IntKind.u64.wrap (↑(BitVec.ofInt IntKind.u64.bits x1.1 &&& BitVec.ofInt IntKind.u64.bits (IntKind.u64.wrap (ps8 - (1 : Int)))).toNat : Int)))).toNat (zEl (Ty.int IntKind.u32)))).length : Int)) = true then r0 (ps8) (IntKind.i64.wrap (ps9 + (1 : Int))) (x1.2) ((ph2000000.set ps9.toNat (ph2000000.getD (IntKind.i64.wrap (a0 + IntKind.i64.wrap (IntKind.u64.wrap (↑(BitVec.ofInt IntKind.u64.bits x1.1 &&& BitVec.ofInt IntKind.u64.bits (IntKind.u64.wrap (ps8 - (1 : Int)))).toNat : Int)))).toNat (zEl (Ty.int IntKind.u32)))).set (IntKind.i64.wrap (a0 + IntKind.i64.wrap (IntKind.u64.wrap (↑(BitVec.ofInt IntKind.u64.bits x1.1 &&& BitVec.ofInt IntKind.u64.bits (IntKind.u64.wrap (ps8 - (1 : Int)))).toNat : Int)))).toNat (ph2000000.getD ps9.toNat (zEl (Ty.int IntKind.u32))))
        else none)
       else none)
      else none)
     else none)))
  else some (((), ph2000000)))
noncomputable def L65_0 (F84 : Int → Option (Int)) (F85 : Int → Option (Int × Int)) (K : Nat) (a0 : Int) (a1 : Int) (o0 : List Int) : Nat → Int → Int → Int → (List (Int)) → Option (Unit × List Int)
  | 0, _, _, _, _ => none
  | n + 1, ps8, ps9, ph7_0, ph2000000 => b65_0 F84 F85 K a0 a1 o0 (L65_0 F84 F85 K a0 a1 o0 n) ps8 ps9 ph7_0 ph2000000
noncomputable def t65 (F84 : Int → Option (Int)) (F85 : Int → Option (Int × Int)) (K : Nat) (a0 : Int) (a1 : Int) (o0 : List Int) (l0 : Nat → Int → Int → Int → (List (Int)) → Option (Unit × List Int)) : Option (Unit × List Int) := (if decide (IntKind.i64.wrap (a1 - a0) ≥ (8 : Int)) = true then 
  (Option.bind (F84 (IntKind.i64.wrap (a1 - a0))) fun x0 => l0 K (x0) (IntKind.i64.wrap (IntKind.i64.wrap (a0 + IntKind.i64.wrap (IntKind.i64.wrap ((IntKind.i64.wrap (a1 - a0)).tdiv (4 : Int)) * (2 : Int))) - (1 : Int))) (IntKind.u64.wrap (IntKind.i64.wrap (a1 - a0))) (o0))
 else some (((), o0)))
noncomputable def G65 (F84 : Int → Option (Int)) (F85 : Int → Option (Int × Int)) (K : Nat) (a0 : Int) (a1 : Int) (o0 : List Int) : Option (Unit × List Int) := t65 F84 F85 K a0 a1 o0 (L65_0 F84 F85 K a0 a1 o0)
theorem lp65_0 (F84 : Int → Option (Int)) (F85 : Int → Option (Int × Int)) (K : Nat) (a0 : Int) (a1 : Int) (o0 : List Int) : ∀ (n : Nat) (ps8 : Int) (ps9 : Int) (ph7_0 : Int) (ph2000000 : List (Int)), loopN Tryd.prog (tab65 F84 F85) 0 K Tryd.f65 la65 gq65.k 0 [] n (hd65_0 a0 a1 o0 ps8 ps9 ph7_0 ph2000000) = L65_0 F84 F85 K a0 a1 o0 n ps8 ps9 ph7_0 ph2000000
  | 0, _, _, _, _ => by kernel_rfl
  | n + 1, ps8, ps9, ph7_0, ph2000000 => by
    have h : loopN Tryd.prog (tab65 F84 F85) 0 K Tryd.f65 la65 gq65.k 0 [] (n + 1) (hd65_0 a0 a1 o0 ps8 ps9 ph7_0 ph2000000) = b65_0 F84 F85 K a0 a1 o0 (fun q0 q1 q2 q3 => loopN Tryd.prog (tab65 F84 F85) 0 K Tryd.f65 la65 gq65.k 0 [] n (hd65_0 a0 a1 o0 q0 q1 q2 q3)) ps8 ps9 ph7_0 ph2000000 := by kernel_rfl
    rw [h]
    simp only [lp65_0 F84 F85 K a0 a1 o0 n]
    rfl
theorem ev65 (F84 : Int → Option (Int)) (F85 : Int → Option (Int × Int)) (K : Nat) (a0 : Int) (a1 : Int) (o0 : List Int) : evFun Tryd.prog (tab65 F84 F85) 0 K Tryd.f65 la65 [.own 2000000, I .i64 a0, I .i64 a1] (hpB ob65 o0) gq65.k = G65 F84 F85 K a0 a1 o0 := by
  have h : evFun Tryd.prog (tab65 F84 F85) 0 K Tryd.f65 la65 [.own 2000000, I .i64 a0, I .i64 a1] (hpB ob65 o0) gq65.k = t65 F84 F85 K a0 a1 o0 (fun k q0 q1 q2 q3 => loopN Tryd.prog (tab65 F84 F85) 0 K Tryd.f65 la65 gq65.k 0 [] k (hd65_0 a0 a1 o0 q0 q1 q2 q3)) := by kernel_rfl
  rw [h]
  simp only [lp65_0 F84 F85 K a0 a1 o0]
  rfl
noncomputable def F65 (K : Nat) (a0 : Int) (a1 : Int) (o0 : List Int) : Option (Unit × List Int) := G65 (F84 K) (F85 K) K a0 a1 o0
theorem cok65 (K : Nat) : CallOK D Tryd.prog (tab65 (F84 K) (F85 K)) := (addG_ok (add_ok none_ok ent84 (ok84 K)) ent85 (ok85 K))
theorem ok65 (K : Nat) : RowG D Tryd.prog 65 (rowG (gad ag65 ob65) gq65 fun p => F65 K p.1.1 p.1.2.1 p.2) := rowG_ok fun x r h => ghas_of (cok65 K) Tryd.func65 ((ev65 (F84 K) (F85 K) K x.1.1 x.1.2.1 x.2).trans h)
/-! slices.order2Ordered[uint32] -/
noncomputable def tab98 (F69 : Int → Int → Option (Bool)) : Tab := (Tab.none.add 69 (row ad69 dq69 fun p => F69 p.1 p.2))
noncomputable def t98 (F69 : Int → Int → Option (Bool)) (K : Nat) (a0 : Int) (a1 : Int) (o0 : List Int) (o1 : Int) : Option ((Int × Int) × (List Int × Int)) := (if decide ((0 : Int) ≤ a1 ∧ a1 < (↑o0.length : Int)) = true then (if decide ((0 : Int) ≤ a0 ∧ a0 < (↑o0.length : Int)) = true then 
   (Option.bind (F69 (o0.getD a1.toNat (zEl (Ty.int IntKind.u32))) (o0.getD a0.toNat (zEl (Ty.int IntKind.u32)))) fun x0 => (if x0 = true then some (((a1, a0), o0, IntKind.i64.wrap (o1 + (1 : Int))))
    else some (((a0, a1), o0, o1))))
  else none)
 else none)
noncomputable def G98 (F69 : Int → Int → Option (Bool)) (K : Nat) (a0 : Int) (a1 : Int) (o0 : List Int) (o1 : Int) : Option ((Int × Int) × (List Int × Int)) := t98 F69 K a0 a1 o0 o1
theorem ev98 (F69 : Int → Int → Option (Bool)) (K : Nat) (a0 : Int) (a1 : Int) (o0 : List Int) (o1 : Int) : evFun Tryd.prog (tab98 F69) 0 K Tryd.f98 [] [.own 2000000, I .i64 a0, I .i64 a1, .ptr 2000001 0] (hpB ob98 (o0, o1)) gq98.k = G98 F69 K a0 a1 o0 o1 := by
  kernel_rfl
noncomputable def F98 (K : Nat) (a0 : Int) (a1 : Int) (o0 : List Int) (o1 : Int) : Option ((Int × Int) × (List Int × Int)) := G98 (F69 K) K a0 a1 o0 o1
theorem cok98 (K : Nat) : CallOK D Tryd.prog (tab98 (F69 K)) := (add_ok none_ok ent69 (ok69 K))
theorem ok98 (K : Nat) : RowG D Tryd.prog 98 (rowG (gad ag98 ob98) gq98 fun p => F98 K p.1.1 p.1.2.1 p.2.1 p.2.2) := rowG_ok fun x r h => ghas_of (cok98 K) Tryd.func98 ((ev98 (F69 K) K x.1.1 x.1.2.1 x.2.1 x.2.2).trans h)
/-! slices.medianOrdered[uint32] -/
noncomputable def tab87 (F98 : Int → Int → (List Int) → Int → Option ((Int × Int) × (List Int × Int))) : Tab := (Tab.none.addG 98 (rowG (gad ag98 ob98) gq98 fun p => F98 p.1.1 p.1.2.1 p.2.1 p.2.2))
noncomputable def t87 (F98 : Int → Int → (List Int) → Int → Option ((Int × Int) × (List Int × Int))) (K : Nat) (a0 : Int) (a1 : Int) (a2 : Int) (o0 : List Int) (o1 : Int) : Option (Int × (List Int × Int)) := 
 (Option.bind (F98 a0 a1 o0 o1) fun x0 => 
  (Option.bind (F98 x0.1.2 a2 x0.2.1 x0.2.2) fun x1 => 
   (Option.bind (F98 x0.1.1 x1.1.1 x1.2.1 x1.2.2) fun x2 => some ((x2.1.2, x2.2)))))
noncomputable def G87 (F98 : Int → Int → (List Int) → Int → Option ((Int × Int) × (List Int × Int))) (K : Nat) (a0 : Int) (a1 : Int) (a2 : Int) (o0 : List Int) (o1 : Int) : Option (Int × (List Int × Int)) := t87 F98 K a0 a1 a2 o0 o1
theorem ev87 (F98 : Int → Int → (List Int) → Int → Option ((Int × Int) × (List Int × Int))) (K : Nat) (a0 : Int) (a1 : Int) (a2 : Int) (o0 : List Int) (o1 : Int) : evFun Tryd.prog (tab87 F98) 0 K Tryd.f87 [] [.own 2000000, I .i64 a0, I .i64 a1, I .i64 a2, .ptr 2000001 0] (hpB ob87 (o0, o1)) gq87.k = G87 F98 K a0 a1 a2 o0 o1 := by
  kernel_rfl
noncomputable def F87 (K : Nat) (a0 : Int) (a1 : Int) (a2 : Int) (o0 : List Int) (o1 : Int) : Option (Int × (List Int × Int)) := G87 (F98 K) K a0 a1 a2 o0 o1
theorem cok87 (K : Nat) : CallOK D Tryd.prog (tab87 (F98 K)) := (addG_ok none_ok ent98 (ok98 K))
theorem ok87 (K : Nat) : RowG D Tryd.prog 87 (rowG (gad ag87 ob87) gq87 fun p => F87 K p.1.1 p.1.2.1 p.1.2.2.1 p.2.1 p.2.2) := rowG_ok fun x r h => ghas_of (cok87 K) Tryd.func87 ((ev87 (F98 K) K x.1.1 x.1.2.1 x.1.2.2.1 x.2.1 x.2.2).trans h)
/-! slices.medianAdjacentOrdered[uint32] -/
noncomputable def tab86 (F87 : Int → Int → Int → (List Int) → Int → Option (Int × (List Int × Int))) : Tab := (Tab.none.addG 87 (rowG (gad ag87 ob87) gq87 fun p => F87 p.1.1 p.1.2.1 p.1.2.2.1 p.2.1 p.2.2))
noncomputable def t86 (F87 : Int → Int → Int → (List Int) → Int → Option (Int × (List Int × Int))) (K : Nat) (a0 : Int) (o0 : List Int) (o1 : Int) : Option (Int × (List Int × Int)) := 
 (Option.bind (F87 (IntKind.i64.wrap (a0 - (1 : Int))) a0 (IntKind.i64.wrap (a0 + (1 : Int))) o0 o1) fun x0 => some (x0))
noncomputable def G86 (F87 : Int → Int → Int → (List Int) → Int → Option (Int × (List Int × Int))) (K : Nat) (a0 : Int) (o0 : List Int) (o1 : Int) : Option (Int × (List Int × Int)) := t86 F87 K a0 o0 o1
theorem ev86 (F87 : Int → Int → Int → (List Int) → Int → Option (Int × (List Int × Int))) (K : Nat) (a0 : Int) (o0 : List Int) (o1 : Int) : evFun Tryd.prog (tab86 F87) 0 K Tryd.f86 [] [.own 2000000, I .i64 a0, .ptr 2000001 0] (hpB ob86 (o0, o1)) gq86.k = G86 F87 K a0 o0 o1 := by
  kernel_rfl
noncomputable def F86 (K : Nat) (a0 : Int) (o0 : List Int) (o1 : Int) : Option (Int × (List Int × Int)) := G86 (F87 K) K a0 o0 o1
theorem cok86 (K : Nat) : CallOK D Tryd.prog (tab86 (F87 K)) := (addG_ok none_ok ent87 (ok87 K))
theorem ok86 (K : Nat) : RowG D Tryd.prog 86 (rowG (gad ag86 ob86) gq86 fun p => F86 K p.1.1 p.2.1 p.2.2) := rowG_ok fun x r h => ghas_of (cok86 K) Tryd.func86 ((ev86 (F87 K) K x.1.1 x.2.1 x.2.2).trans h)
/-! slices.choosePivotOrdered[uint32] -/
noncomputable def tab66 (F86 : Int → (List Int) → Int → Option (Int × (List Int × Int))) (F87 : Int → Int → Int → (List Int) → Int → Option (Int × (List Int × Int))) : Tab := ((Tab.none.addG 86 (rowG (gad ag86 ob86) gq86 fun p => F86 p.1.1 p.2.1 p.2.2)).addG 87 (rowG (gad ag87 ob87) gq87 fun p => F87 p.1.1 p.1.2.1 p.1.2.2.1 p.2.1 p.2.2))
noncomputable def t66 (F86 : Int → (List Int) → Int → Option (Int × (List Int × Int))) (F87 : Int → Int → Int → (List Int) → Int → Option (Int × (List Int × Int))) (K : Nat) (a0 : Int) (a1 : Int) (o0 : List Int) : Option ((Int × Int) × List Int) := (if decide (IntKind.i64.wrap (a1 - a0) ≥ (8 : Int)) = true then (if decide (IntKind.i64.wrap (a1 - a0) ≥ (50 : Int)) = true then 
   (Option.bind (F86 (IntKind.i64.wrap (a0 + IntKind.i64.wrap (IntKind.i64.wrap ((IntKind.i64.wrap (a1 - a0)).tdiv (4 : Int)) * (1 : Int)))) o0 (0 : Int)) fun x0 => 
    (Option.bind (F86 (IntKind.i64.wrap (a0 + IntKind.i64.wrap (IntKind.i64.wrap ((IntKind.i64.wrap (a1 - a0)).tdiv (4 : Int)) * (2 : Int)))) x0.2.1 x0.2.2) fun x1 => 
     (Option.bind (F86 (IntKind.i64.wrap (a0 + IntKind.i64.wrap (IntKind.i64.wrap ((IntKind.i64.wrap (a1 - a0)).tdiv (4 : Int)) * (3 : Int)))) x1.2.1 x1.2.2) fun x2 => 
      (Option.bind (F87 x0.1 x1.1 x2.1 x2.2.1 x2.2.2) fun x3 => (if (x3.2.2 == (0 : Int)) = true then some (((x3.1, (1 : Int)), x3.2.1))
       else (if (x3.2.2 == (12 : Int)) = true then some (((x3.1, (2 : Int)), x3.2.1))
        else some (((x3.1, (0 : Int)), x3.2.1))))))))
  else 
   (Option.bind (F87 (IntKind.i64.wrap (a0 + IntKind.i64.wrap (IntKind.i64.wrap ((IntKind.i64.wrap (a1 - a0)).tdiv (4 : Int)) * (1 : Int)))) (IntKind.i64.wrap (a0 + IntKind.i64.wrap (IntKind.i64.wrap ((IntKind.i64.wrap (a1 - a0)).tdiv (4 : Int)) * (2 : Int)))) (IntKind.i64.wrap (a0 + IntKind.i64.wrap (IntKind.i64.wrap ((IntKind.i64.wrap (a1 - a0)).tdiv (4 : Int)) * (3 : Int)))) o0 (0 : Int)) fun x4 => (if (x4.2.2 == (0 : Int)) = true then some (((x4.1, (1 : Int)), x4.2.1))
    else (if (x4.2.2 == (12 : Int)) = true then some (((x4.1, (2 : Int)), x4.2.1))
     else some (((x4.1, (0 : Int)), x4.2.1))))))
 else some (((IntKind.i64.wrap (a0 + IntKind.i64.wrap (IntKind.i64.wrap ((IntKind.i64.wrap (a1 - a0)).tdiv (4 : Int)) * (2 : Int))), (1 : Int)), o0)))
noncomputable def G66 (F86 : Int → (List Int) → Int → Option (Int × (List Int × Int))) (F87 : Int → Int → Int → (List Int) → Int → Option (Int × (List Int × Int))) (K : Nat) (a0 : Int) (a1 : Int) (o0 : List Int) : Option ((Int × Int) × List Int) := t66 F86 F87 K a0 a1 o0
theorem ev66 (F86 : Int → (List Int) → Int → Option (Int × (List Int × Int))) (F87 : Int → Int → Int → (List Int) → Int → Option (Int × (List Int × Int))) (K : Nat) (a0 : Int) (a1 : Int) (o0 : List Int) : evFun Tryd.prog (tab66 F86 F87) 0 K Tryd.f66 [] [.own 2000000, I .i64 a0, I .i64 a1] (hpB ob66 o0) gq66.k = G66 F86 F87 K a0 a1 o0 := by
  kernel_rfl
noncomputable def F66 (K : Nat) (a0 : Int) (a1 : Int) (o0 : List Int) : Option ((Int × Int) × List Int) := G66 (F86 K) (F87 K) K a0 a1 o0
theorem cok66 (K : Nat) : CallOK D Tryd.prog (tab66 (F86 K) (F87 K)) := (addG_ok (addG_ok none_ok ent86 (ok86 K)) ent87 (ok87 K))
theorem ok66 (K : Nat) : RowG D Tryd.prog 66 (rowG (gad ag66 ob66) gq66 fun p => F66 K p.1.1 p.1.2.1 p.2) := rowG_ok fun x r h => ghas_of (cok66 K) Tryd.func66 ((ev66 (F86 K) (F87 K) K x.1.1 x.1.2.1 x.2).trans h)
/-! slices.reverseRangeOrdered[uint32] -/
noncomputable def tab67 : Tab := Tab.none
noncomputable def la67 : List (List Tidy) := [[.only [0, 6, 7], .ids [], .top [1000000]]]
noncomputable def hd67_0 (a0 : Int) (a1 : Int) (o0 : List Int) (ps6 : Int) (ps7 : Int) (ph2000000 : List (Int)) : St := { tm := slots (nat_lit 32) [(nat_lit 0, AV.own (nat_lit 2000000)), (nat_lit 6, AV.sc (Value.int IntKind.i64 ps6)), (nat_lit 7, AV.sc (Value.int IntKind.i64 ps7))], H := [(nat_lit 2000000, ABlk.arr (nat_lit 38) (Ty.int IntKind.u32) ph2000000)] }
noncomputable def b67_0 (K : Nat) (a0 : Int) (a1 : Int) (o0 : List Int) (r0 : Int → Int → (List (Int)) → Option (Unit × List Int)) (ps6 : Int) (ps7 : Int) (ph2000000 : List (Int)) : Option (Unit × List Int) :=(if decide (ps6 < ps7) = true then (if decide ((0 : Int) ≤ ps7 ∧ ps7 < (↑ph2000000.length : Int)) = true then (if decide ((0 : Int) ≤ ps6 ∧ ps6 < (↑ph2000000.length : Int)) = true then (if decide ((0 : Int) ≤ ps6 ∧ ps6 < (↑ph2000000.length : Int)) = true then (if decide ((0 : Int) ≤ ps7 ∧ ps7 < (↑(ph2000000.set ps6.toNat (ph2000000.getD ps7.toNat (zEl (Ty.int IntKind.u32)))).length : Int)) = true then r0 (IntKind.i64.wrap (ps6 + (1 : Int))) (IntKind.i64.wrap (ps7 - (1 : Int))) ((ph2000000.set ps6.toNat (ph2000000.getD ps7.toNat (zEl (Ty.int IntKind.u32)))).set ps7.toNat (ph2000000.getD ps6.toNat (zEl (Ty.int IntKind.u32))))
      else none)
     else none)
    else none)
   else none)
  else some (((), ph2000000)))
noncomputable def L67_0 (K : Nat) (a0 : Int) (a1 : Int) (o0 : List Int) : Nat → Int → Int → (List (Int)) → Option (Unit × List Int)
  | 0, _, _, _ => none
  | n + 1, ps6, ps7, ph2000000 => b67_0 K a0 a1 o0 (L67_0 K a0 a1 o0 n) ps6 ps7 ph2000000
noncomputable def t67 (K : Nat) (a0 : Int) (a1 : Int) (o0 : List Int) (l0 : Nat → Int → Int → (List (Int)) → Option (Unit × List Int)) : Option (Unit × List Int) := l0 K (a0) (IntKind.i64.wrap (a1 - (1 : Int))) (o0)
noncomputable def G67 (K : Nat) (a0 : Int) (a1 : Int) (o0 : List Int) : Option (Unit × List Int) := t67 K a0 a1 o0 (L67_0 K a0 a1 o0)
theorem lp67_0 (K : Nat) (a0 : Int) (a1 : Int) (o0 : List Int) : ∀ (n : Nat) (ps6 : Int) (ps7 : Int) (ph2000000 : List (Int)), loopN Tryd.prog (tab67) 0 K Tryd.f67 la67 gq67.k 0 [] n (hd67_0 a0 a1 o0 ps6 ps7 ph2000000) = L67_0 K a0 a1 o0 n ps6 ps7 ph2000000
  | 0, _, _, _ => by kernel_rfl
  | n + 1, ps6, ps7, ph2000000 => by
    have h : loopN Tryd.prog (tab67) 0 K Tryd.f67 la67 gq67.k 0 [] (n + 1) (hd67_0 a0 a1 o0 ps6 ps7 ph2000000) = b67_0 K a0 a1 o0 (fun q0 q1 q2 => loopN Tryd.prog (tab67) 0 K Tryd.f67 la67 gq67.k 0 [] n (hd67_0 a0 a1 o0 q0 q1 q2)) ps6 ps7 ph2000000 := by kernel_rfl
    rw [h]
    simp only [lp67_0 K a0 a1 o0 n]
    rfl
theorem ev67 (K : Nat) (a0 : Int) (a1 : Int) (o0 : List Int) : evFun Tryd.prog (tab67) 0 K Tryd.f67 la67 [.own 2000000, I .i64 a0, I .i64 a1] (hpB ob67 o0) gq67.k = G67 K a0 a1 o0 := by
  have h : evFun Tryd.prog (tab67) 0 K Tryd.f67 la67 [.own 2000000, I .i64 a0, I .i64 a1] (hpB ob67 o0) gq67.k = t67 K a0 a1 o0 (fun k q0 q1 q2 => loopN Tryd.prog (tab67) 0 K Tryd.f67 la67 gq67.k 0 [] k (hd67_0 a0 a1 o0 q0 q1 q2)) := by kernel_rfl
  rw [h]
  simp only [lp67_0 K a0 a1 o0]
  rfl
noncomputable def F67 (K : Nat) (a0 : Int) (a1 : Int) (o0 : List Int) : Option (Unit × List Int) := G67 K a0 a1 o0
theorem cok67 (K : Nat) : CallOK D Tryd.prog (tab67) := none_ok
theorem ok67 (K : Nat) : RowG D Tryd.prog 67 (rowG (gad ag67 ob67) gq67 fun p => F67 K p.1.1 p.1.2.1 p.2) := rowG_ok fun x r h => ghas_of (cok67 K) Tryd.func67 ((ev67 K x.1.1 x.1.2.1 x.2).trans h)
end Go.Proofs.YtigekmmdflaeaaaDoorE
