import Derived.Test.YtiicginipjbloaaS04F8
set_option linter.all false
namespace Go.Proofs.YtiicginipjbloaaE
open Go Go.Proofs
set_option maxRecDepth 100000
set_option linter.unusedVariables false
variable {D : Prop}
/-! (*ganger/gangerref04.Yard).TakeAt -/
noncomputable def tab57 (F55 : Int → Option (Int)) (F60 : (El T85) → Option (List (El .bool))) (F61 : (List (El .bool)) → Int → Int → Option (Bool)) : Tab := (((Tab.none.add 55 (row ad55 dq55 fun p => F55 p)).add 60 (row ad60 dq60 fun p => F60 p)).add 61 (row ad61 dq61 fun p => F61 p.1 p.2.1 p.2.2))
noncomputable def t57 (F55 : Int → Option (Int)) (F60 : (El T85) → Option (List (El .bool))) (F61 : (List (El .bool)) → Int → Int → Option (Bool)) (K : Nat) (a0 : El T29) (o0 : Int × (List (El T29) × List Bool)) : Option (Int × (Int × (List (El T29) × List Bool))) := (if decide (a0.2 < (0 : Int)) = true then some (((2 : Int), o0))
 else (if decide (a0.2 > o0.1) = true then some (((2 : Int), o0))
  else (if decide (a0.1 < (0 : Int)) = true then some (((2 : Int), o0))
   else (if decide (a0.1 ≥ (↑o0.2.2.length : Int)) = true then some (((2 : Int), o0))
    else 
     (Option.bind (F55 a0.2) fun x0 => (if (!x0 == (0 : Int)) = true then (if (Int.tmod a0.1 x0 != (0 : Int)) = true then some (((2 : Int), o0))
       else 
        (Option.bind (F60 o0) fun x1 => 
         (Option.bind (F55 a0.2) fun x2 => 
          (Option.bind (F61 x1 a0.1 x2) fun x3 => (if (!x3) = true then some (((5 : Int), o0))
           else (if decide ((o0.2.1.length + [a0].length) * Try.prog.types[(29 : Nat)].bytes ≤ (140737488355328 : Nat)) = true then some (((0 : Int), o0.1, o0.2.1 ++ [a0], o0.2.2))
            else none))))))
      else none))))))
noncomputable def G57 (F55 : Int → Option (Int)) (F60 : (El T85) → Option (List (El .bool))) (F61 : (List (El .bool)) → Int → Int → Option (Bool)) (K : Nat) (a0 : El T29) (o0 : Int × (List (El T29) × List Bool)) : Option (Int × (Int × (List (El T29) × List Bool))) := t57 F55 F60 F61 K a0 o0
theorem ev57 (F55 : Int → Option (Int)) (F60 : (El T85) → Option (List (El .bool))) (F61 : (List (El .bool)) → Int → Int → Option (Bool)) (K : Nat) (a0 : El T29) (o0 : Int × (List (El T29) × List Bool)) : evFun Try.prog (tab57 F55 F60 F61) 0 K Try.f57 [] [.ptr 2000000 0, .agg (cellsOf T29 a0)] (hpB ob57 o0) gq57.k = G57 F55 F60 F61 K a0 o0 := by
  kernel_rfl
noncomputable def F57 (K : Nat) (a0 : El T29) (o0 : Int × (List (El T29) × List Bool)) : Option (Int × (Int × (List (El T29) × List Bool))) := G57 (F55 K) (F60 K) (F61 K) K a0 o0
theorem cok57 (K : Nat) : CallOK D Try.prog (tab57 (F55 K) (F60 K) (F61 K)) := (add_ok (add_ok (add_ok none_ok ent55 (ok55 K)) ent60 (ok60 K)) ent61 (ok61 K))
theorem ok57 (K : Nat) : RowG D Try.prog 57 (rowG (gad ag57 ob57) gq57 fun p => F57 K p.1.1 p.2) := rowG_ok fun x r h => ghas_of (cok57 K) Try.func57 ((ev57 (F55 K) (F60 K) (F61 K) K x.1.1 x.2).trans h)
/-! (*ganger/gangerref04.Yard).Give -/
noncomputable def tab58 : Tab := Tab.none
noncomputable def la58 : List (List Tidy) := [[.only [0, 1, 5, 6], .pro 5 35 29 (T29), .ids [35, 37, 42], .top [1000000]]]
noncomputable def hd58_0 (a0 : Int) (o0 : Int × (List (El T29) × List Bool)) (ps6 : Int) (ph35 : List (El T29)) : St := { tm := slots (nat_lit 48) [(nat_lit 0, AV.ptr (nat_lit 2000000) (nat_lit 0)), (nat_lit 1, AV.sc (Value.int IntKind.i64 a0)), (nat_lit 5, AV.own (nat_lit 35)), (nat_lit 6, AV.sc (Value.int IntKind.i64 ps6))], H := [(nat_lit 35, ABlk.arr (nat_lit 29) T29 ph35), (nat_lit 400000, ABlk.arr (nat_lit 29) T29 o0.2.1), (nat_lit 400001, ABlk.arr (nat_lit 4) Ty.bool o0.2.2), (nat_lit 2000000, ABlk.box (nat_lit 85) [AV.sc (Value.int IntKind.i64 o0.1), AV.own (nat_lit 400000), AV.own (nat_lit 400001)])] }
noncomputable def b58_0 (K : Nat) (a0 : Int) (o0 : Int × (List (El T29) × List Bool)) (r0 : Int → (List (El T29)) → Option (Int × (Int × (List (El T29) × List Bool)))) (ps6 : Int) (ph35 : List (El T29)) : Option (Int × (Int × (List (El T29) × List Bool))) :=(if decide (ps6 < (↑o0.2.1.length : Int)) = true then (if decide ((0 : Int) ≤ ps6 ∧ ps6 < (↑o0.2.1.length : Int)) = true then (if ((o0.2.1.getD ps6.toNat (zEl T29)).1 != a0) = true then (if decide ((0 : Int) ≤ ps6 ∧ ps6 < (↑o0.2.1.length : Int)) = true then (if decide ((ph35.length + [o0.2.1.getD ps6.toNat (zEl T29)].length) * Try.prog.types[(29 : Nat)].bytes ≤ (140737488355328 : Nat)) = true then r0 (IntKind.i64.wrap (ps6 + (1 : Int))) (ph35 ++ [o0.2.1.getD ps6.toNat (zEl T29)])
      else none)
     else none)
    else r0 (IntKind.i64.wrap (ps6 + (1 : Int))) (ph35))
   else none)
  else (if ((↑ph35.length : Int) == (↑o0.2.1.length : Int)) = true then some (((4 : Int), o0))
   else some (((0 : Int), o0.1, ph35, o0.2.2))))
noncomputable def L58_0 (K : Nat) (a0 : Int) (o0 : Int × (List (El T29) × List Bool)) : Nat → Int → (List (El T29)) → Option (Int × (Int × (List (El T29) × List Bool)))
  | 0, _, _ => none
  | n + 1, ps6, ph35 => b58_0 K a0 o0 (L58_0 K a0 o0 n) ps6 ph35
noncomputable def t58 (K : Nat) (a0 : Int) (o0 : Int × (List (El T29) × List Bool)) (l0 : Nat → Int → (List (El T29)) → Option (Int × (Int × (List (El T29) × List Bool)))) : Option (Int × (Int × (List (El T29) × List Bool))) := l0 K ((0 : Int)) ([])
noncomputable def G58 (K : Nat) (a0 : Int) (o0 : Int × (List (El T29) × List Bool)) : Option (Int × (Int × (List (El T29) × List Bool))) := t58 K a0 o0 (L58_0 K a0 o0)
theorem lp58_0 (K : Nat) (a0 : Int) (o0 : Int × (List (El T29) × List Bool)) : ∀ (n : Nat) (ps6 : Int) (ph35 : List (El T29)), loopN Try.prog (tab58) 0 K Try.f58 la58 gq58.k 0 [] n (hd58_0 a0 o0 ps6 ph35) = L58_0 K a0 o0 n ps6 ph35
  | 0, _, _ => by kernel_rfl
  | n + 1, ps6, ph35 => by
    have h : loopN Try.prog (tab58) 0 K Try.f58 la58 gq58.k 0 [] (n + 1) (hd58_0 a0 o0 ps6 ph35) = b58_0 K a0 o0 (fun q0 q1 => loopN Try.prog (tab58) 0 K Try.f58 la58 gq58.k 0 [] n (hd58_0 a0 o0 q0 q1)) ps6 ph35 := by kernel_rfl
    rw [h]
    simp only [lp58_0 K a0 o0 n]
    rfl
theorem ev58 (K : Nat) (a0 : Int) (o0 : Int × (List (El T29) × List Bool)) : evFun Try.prog (tab58) 0 K Try.f58 la58 [.ptr 2000000 0, I .i64 a0] (hpB ob58 o0) gq58.k = G58 K a0 o0 := by
  have h : evFun Try.prog (tab58) 0 K Try.f58 la58 [.ptr 2000000 0, I .i64 a0] (hpB ob58 o0) gq58.k = t58 K a0 o0 (fun k q0 q1 => loopN Try.prog (tab58) 0 K Try.f58 la58 gq58.k 0 [] k (hd58_0 a0 o0 q0 q1)) := by kernel_rfl
  rw [h]
  simp only [lp58_0 K a0 o0]
  rfl
noncomputable def F58 (K : Nat) (a0 : Int) (o0 : Int × (List (El T29) × List Bool)) : Option (Int × (Int × (List (El T29) × List Bool))) := G58 K a0 o0
theorem cok58 (K : Nat) : CallOK D Try.prog (tab58) := none_ok
theorem ok58 (K : Nat) : RowG D Try.prog 58 (rowG (gad ag58 ob58) gq58 fun p => F58 K p.1.1 p.2) := rowG_ok fun x r h => ghas_of (cok58 K) Try.func58 ((ev58 K x.1.1 x.2).trans h)
/-! (*ganger/gangerref04.Yard).Give -/
noncomputable def tab1058 : Tab := Tab.none
noncomputable def la1058 : List (List Tidy) := [[.only [0, 1, 5, 6], .pro 5 35 29 (T29), .ids [35, 37, 42], .top [1000000]], [.frz (List.range 60)]]
noncomputable def hd1058_0 (a0 : Int) (o0 : Int × (List (El T29) × List Bool)) (ps6 : Int) (ph35 : List (El T29)) : St := { tm := slots (nat_lit 48) [(nat_lit 0, AV.ptr (nat_lit 2000000) (nat_lit 0)), (nat_lit 1, AV.sc (Value.int IntKind.i64 a0)), (nat_lit 5, AV.own (nat_lit 35)), (nat_lit 6, AV.sc (Value.int IntKind.i64 ps6))], H := [(nat_lit 35, ABlk.arr (nat_lit 29) T29 ph35), (nat_lit 2000000, ABlk.box (nat_lit 85) (cellsOf T85 o0))] }
noncomputable def b1058_0 (K : Nat) (a0 : Int) (o0 : Int × (List (El T29) × List Bool)) (r0 : Int → (List (El T29)) → Option (Int × (Int × (List (El T29) × List Bool)))) (ps6 : Int) (ph35 : List (El T29)) : Option (Int × (Int × (List (El T29) × List Bool))) :=(if decide (ps6 < (↑o0.2.1.length : Int)) = true then (if decide ((0 : Int) ≤ ps6 ∧ ps6 < (↑o0.2.1.length : Int)) = true then (if ((o0.2.1.getD ps6.toNat (zEl T29)).1 != a0) = true then (if decide ((0 : Int) ≤ ps6 ∧ ps6 < (↑o0.2.1.length : Int)) = true then (if decide ((ph35.length + [o0.2.1.getD ps6.toNat (zEl T29)].length) * Try.prog.types[(29 : Nat)].bytes ≤ (140737488355328 : Nat)) = true then r0 (IntKind.i64.wrap (ps6 + (1 : Int))) (ph35 ++ [o0.2.1.getD ps6.toNat (zEl T29)])
      else none)
     else none)
    else r0 (IntKind.i64.wrap (ps6 + (1 : Int))) (ph35))
   else none)
  else (if ((↑ph35.length : Int) == (↑o0.2.1.length : Int)) = true then some (((4 : Int), o0))
   else some (((0 : Int), o0.1, ph35, o0.2.2))))
noncomputable def L1058_0 (K : Nat) (a0 : Int) (o0 : Int × (List (El T29) × List Bool)) : Nat → Int → (List (El T29)) → Option (Int × (Int × (List (El T29) × List Bool)))
  | 0, _, _ => none
  | n + 1, ps6, ph35 => b1058_0 K a0 o0 (L1058_0 K a0 o0 n) ps6 ph35
noncomputable def t1058 (K : Nat) (a0 : Int) (o0 : Int × (List (El T29) × List Bool)) (l0 : Nat → Int → (List (El T29)) → Option (Int × (Int × (List (El T29) × List Bool)))) : Option (Int × (Int × (List (El T29) × List Bool))) := l0 K ((0 : Int)) ([])
noncomputable def G1058 (K : Nat) (a0 : Int) (o0 : Int × (List (El T29) × List Bool)) : Option (Int × (Int × (List (El T29) × List Bool))) := t1058 K a0 o0 (L1058_0 K a0 o0)
theorem lp1058_0 (K : Nat) (a0 : Int) (o0 : Int × (List (El T29) × List Bool)) : ∀ (n : Nat) (ps6 : Int) (ph35 : List (El T29)), loopN Try.prog (tab1058) 0 K Try.f58 la1058 gq1058.k 0 [] n (hd1058_0 a0 o0 ps6 ph35) = L1058_0 K a0 o0 n ps6 ph35
  | 0, _, _ => by kernel_rfl
  | n + 1, ps6, ph35 => by
    have h : loopN Try.prog (tab1058) 0 K Try.f58 la1058 gq1058.k 0 [] (n + 1) (hd1058_0 a0 o0 ps6 ph35) = b1058_0 K a0 o0 (fun q0 q1 => loopN Try.prog (tab1058) 0 K Try.f58 la1058 gq1058.k 0 [] n (hd1058_0 a0 o0 q0 q1)) ps6 ph35 := by kernel_rfl
    rw [h]
    simp only [lp1058_0 K a0 o0 n]
    rfl
theorem ev1058 (K : Nat) (a0 : Int) (o0 : Int × (List (El T29) × List Bool)) : evFun Try.prog (tab1058) 0 K Try.f58 la1058 [.ptr 2000000 0, I .i64 a0] (hpB ob1058 o0) gq1058.k = G1058 K a0 o0 := by
  have h : evFun Try.prog (tab1058) 0 K Try.f58 la1058 [.ptr 2000000 0, I .i64 a0] (hpB ob1058 o0) gq1058.k = t1058 K a0 o0 (fun k q0 q1 => loopN Try.prog (tab1058) 0 K Try.f58 la1058 gq1058.k 0 [] k (hd1058_0 a0 o0 q0 q1)) := by kernel_rfl
  rw [h]
  simp only [lp1058_0 K a0 o0]
  rfl
noncomputable def F1058 (K : Nat) (a0 : Int) (o0 : Int × (List (El T29) × List Bool)) : Option (Int × (Int × (List (El T29) × List Bool))) := G1058 K a0 o0
theorem cok1058 (K : Nat) : CallOK D Try.prog (tab1058) := none_ok
theorem ok1058 (K : Nat) : RowG D Try.prog 58 (rowG (gad ag1058 ob1058) gq1058 fun p => F1058 K p.1.1 p.2) := rowG_ok fun x r h => ghas_of (cok1058 K) Try.func58 ((ev1058 K x.1.1 x.2).trans h)
/-! (*ganger/gangerref04.Yard).Mark -/
noncomputable def tab59 : Tab := Tab.none
noncomputable def t59 (K : Nat) (a0 : Int) (a1 : Bool) (o0 : Int × (List (El T29) × List Bool)) : Option (Int × (Int × (List (El T29) × List Bool))) := (if decide (a0 < (0 : Int)) = true then some (((2 : Int), o0))
 else (if decide (a0 ≥ (↑o0.2.2.length : Int)) = true then some (((2 : Int), o0))
  else (if a1 = true then (if decide ((0 : Int) ≤ a0 ∧ a0 < (↑o0.2.2.length : Int)) = true then (if o0.2.2.getD a0.toNat (zEl Ty.bool) = true then some (((30 : Int), o0))
     else (if (!a1) = true then (if decide ((0 : Int) ≤ a0 ∧ a0 < (↑o0.2.2.length : Int)) = true then (if (!o0.2.2.getD a0.toNat (zEl Ty.bool)) = true then some (((4 : Int), o0))
        else (if decide ((0 : Int) ≤ a0 ∧ a0 < (↑o0.2.2.length : Int)) = true then some (((0 : Int), o0.1, o0.2.1, o0.2.2.set a0.toNat a1))
         else none))
       else none)
      else (if decide ((0 : Int) ≤ a0 ∧ a0 < (↑o0.2.2.length : Int)) = true then some (((0 : Int), o0.1, o0.2.1, o0.2.2.set a0.toNat a1))
       else none)))
    else none)
   else (if (!a1) = true then (if decide ((0 : Int) ≤ a0 ∧ a0 < (↑o0.2.2.length : Int)) = true then (if (!o0.2.2.getD a0.toNat (zEl Ty.bool)) = true then some (((4 : Int), o0))
      else (if decide ((0 : Int) ≤ a0 ∧ a0 < (↑o0.2.2.length : Int)) = true then some (((0 : Int), o0.1, o0.2.1, o0.2.2.set a0.toNat a1))
       else none))
     else none)
    else (if decide ((0 : Int) ≤ a0 ∧ a0 < (↑o0.2.2.length : Int)) = true then some (((0 : Int), o0.1, o0.2.1, o0.2.2.set a0.toNat a1))
     else none)))))
noncomputable def G59 (K : Nat) (a0 : Int) (a1 : Bool) (o0 : Int × (List (El T29) × List Bool)) : Option (Int × (Int × (List (El T29) × List Bool))) := t59 K a0 a1 o0
theorem ev59 (K : Nat) (a0 : Int) (a1 : Bool) (o0 : Int × (List (El T29) × List Bool)) : evFun Try.prog (tab59) 0 K Try.f59 [] [.ptr 2000000 0, I .i64 a0, B a1] (hpB ob59 o0) gq59.k = G59 K a0 a1 o0 := by
  kernel_rfl
noncomputable def F59 (K : Nat) (a0 : Int) (a1 : Bool) (o0 : Int × (List (El T29) × List Bool)) : Option (Int × (Int × (List (El T29) × List Bool))) := G59 K a0 a1 o0
theorem cok59 (K : Nat) : CallOK D Try.prog (tab59) := none_ok
theorem ok59 (K : Nat) : RowG D Try.prog 59 (rowG (gad ag59 ob59) gq59 fun p => F59 K p.1.1 p.1.2.1 p.2) := rowG_ok fun x r h => ghas_of (cok59 K) Try.func59 ((ev59 K x.1.1 x.1.2.1 x.2).trans h)
/-! ganger/gangerlaw04.told -/
noncomputable def tab29 (F56 : Int → (Int × (List (El T29) × List Bool)) → Option ((Int × Int) × (Int × (List (El T29) × List Bool)))) (F57 : (El T29) → (Int × (List (El T29) × List Bool)) → Option (Int × (Int × (List (El T29) × List Bool)))) (F58 : Int → (Int × (List (El T29) × List Bool)) → Option (Int × (Int × (List (El T29) × List Bool)))) (F59 : Int → Bool → (Int × (List (El T29) × List Bool)) → Option (Int × (Int × (List (El T29) × List Bool)))) : Tab := ((((Tab.none.addG 56 (rowG (gad ag56 ob56) gq56 fun p => F56 p.1.1 p.2)).addG 57 (rowG (gad ag57 ob57) gq57 fun p => F57 p.1.1 p.2)).addG 58 (rowG (gad ag58 ob58) gq58 fun p => F58 p.1.1 p.2)).addG 59 (rowG (gad ag59 ob59) gq59 fun p => F59 p.1.1 p.1.2.1 p.2))
noncomputable def t29 (F56 : Int → (Int × (List (El T29) × List Bool)) → Option ((Int × Int) × (Int × (List (El T29) × List Bool)))) (F57 : (El T29) → (Int × (List (El T29) × List Bool)) → Option (Int × (Int × (List (El T29) × List Bool)))) (F58 : Int → (Int × (List (El T29) × List Bool)) → Option (Int × (Int × (List (El T29) × List Bool)))) (F59 : Int → Bool → (Int × (List (El T29) × List Bool)) → Option (Int × (Int × (List (El T29) × List Bool)))) (K : Nat) (a0 : El T57) (o0 : Int × (List (El T29) × List Bool)) : Option ((Int × Int) × (Int × (List (El T29) × List Bool))) := (if (a0.1 == (0 : Int)) = true then 
  (Option.bind (F56 a0.2.1 o0) fun x0 => some (x0))
 else (if (a0.1 == (1 : Int)) = true then 
   (Option.bind (F56 a0.2.1 o0) fun x1 => some (x1))
  else (if (a0.1 == (2 : Int)) = true then 
    (Option.bind (F56 a0.2.1 o0) fun x2 => some (x2))
   else (if (a0.1 == (3 : Int)) = true then 
     (Option.bind (F57 (a0.2.2, a0.2.1) o0) fun x3 => some ((((0 : Int), x3.1), x3.2)))
    else (if (a0.1 == (4 : Int)) = true then 
      (Option.bind (F58 a0.2.2 o0) fun x4 => some ((((0 : Int), x4.1), x4.2)))
     else (if (a0.1 == (5 : Int)) = true then 
       (Option.bind (F58 a0.2.2 o0) fun x5 => some ((((0 : Int), x5.1), x5.2)))
      else (if (a0.1 == (6 : Int)) = true then 
        (Option.bind (F59 a0.2.2 true o0) fun x6 => some ((((0 : Int), x6.1), x6.2)))
       else 
        (Option.bind (F59 a0.2.2 false o0) fun x7 => some ((((0 : Int), x7.1), x7.2))))))))))
noncomputable def G29 (F56 : Int → (Int × (List (El T29) × List Bool)) → Option ((Int × Int) × (Int × (List (El T29) × List Bool)))) (F57 : (El T29) → (Int × (List (El T29) × List Bool)) → Option (Int × (Int × (List (El T29) × List Bool)))) (F58 : Int → (Int × (List (El T29) × List Bool)) → Option (Int × (Int × (List (El T29) × List Bool)))) (F59 : Int → Bool → (Int × (List (El T29) × List Bool)) → Option (Int × (Int × (List (El T29) × List Bool)))) (K : Nat) (a0 : El T57) (o0 : Int × (List (El T29) × List Bool)) : Option ((Int × Int) × (Int × (List (El T29) × List Bool))) := t29 F56 F57 F58 F59 K a0 o0
theorem ev29 (F56 : Int → (Int × (List (El T29) × List Bool)) → Option ((Int × Int) × (Int × (List (El T29) × List Bool)))) (F57 : (El T29) → (Int × (List (El T29) × List Bool)) → Option (Int × (Int × (List (El T29) × List Bool)))) (F58 : Int → (Int × (List (El T29) × List Bool)) → Option (Int × (Int × (List (El T29) × List Bool)))) (F59 : Int → Bool → (Int × (List (El T29) × List Bool)) → Option (Int × (Int × (List (El T29) × List Bool)))) (K : Nat) (a0 : El T57) (o0 : Int × (List (El T29) × List Bool)) : evFun Try.prog (tab29 F56 F57 F58 F59) 0 K Try.f29 [] [.ptr 2000000 0, .agg (cellsOf T57 a0)] (hpB ob29 o0) gq29.k = G29 F56 F57 F58 F59 K a0 o0 := by
  kernel_rfl
noncomputable def F29 (K : Nat) (a0 : El T57) (o0 : Int × (List (El T29) × List Bool)) : Option ((Int × Int) × (Int × (List (El T29) × List Bool))) := G29 (F56 K) (F57 K) (F58 K) (F59 K) K a0 o0
theorem cok29 (K : Nat) : CallOK D Try.prog (tab29 (F56 K) (F57 K) (F58 K) (F59 K)) := (addG_ok (addG_ok (addG_ok (addG_ok none_ok ent56 (ok56 K)) ent57 (ok57 K)) ent58 (ok58 K)) ent59 (ok59 K))
theorem ok29 (K : Nat) : RowG D Try.prog 29 (rowG (gad ag29 ob29) gq29 fun p => F29 K p.1.1 p.2) := rowG_ok fun x r h => ghas_of (cok29 K) Try.func29 ((ev29 (F56 K) (F57 K) (F58 K) (F59 K) K x.1.1 x.2).trans h)
/-! (*ganger/gangerref04.Yard).Taken -/
noncomputable def tab31 : Tab := Tab.none
noncomputable def la31 : List (List Tidy) := [[.only [0, 3, 4], .pro 3 43 29 (T29), .ids [43], .top [1000000]], [.only [0, 3, 4, 5], .pro 3 43 29 (T29), .ids [11, 43], .top [1000001]]]
noncomputable def hd31_0 (a0 : El T85) (ps4 : Int) (ph43 : List (El T29)) : St := { tm := slots (nat_lit 45) [(nat_lit 0, AV.eptr T85 a0 (nat_lit 0)), (nat_lit 3, AV.own (nat_lit 43)), (nat_lit 4, AV.sc (Value.int IntKind.i64 ps4))], H := [(nat_lit 43, ABlk.arr (nat_lit 29) T29 ph43)] }
noncomputable def hd31_1 (a0 : El T85) (ps4 : Int) (ps5 : Int) (ph43 : List (El T29)) : St := { tm := slots (nat_lit 45) [(nat_lit 0, AV.eptr T85 a0 (nat_lit 0)), (nat_lit 3, AV.own (nat_lit 43)), (nat_lit 4, AV.sc (Value.int IntKind.i64 ps4)), (nat_lit 5, AV.sc (Value.int IntKind.i64 ps5))], H := [(nat_lit 43, ABlk.arr (nat_lit 29) T29 ph43)] }
noncomputable def b31_1 (K : Nat) (a0 : El T85) (r0 : Int → (List (El T29)) → Option (List (El T29))) (r1 : Int → Int → (List (El T29)) → Option (List (El T29))) (ps4 : Int) (ps5 : Int) (ph43 : List (El T29)) : Option (List (El T29)) :=(if decide (ps5 < (↑(List.length a0.2.1) : Int)) = true then (if decide ((0 : Int) ≤ ps5 ∧ ps5 < (↑(List.length a0.2.1) : Int)) = true then (if ((List.getD a0.2.1 ps5.toNat (zEl T29)).1 == ps4) = true then (if decide ((0 : Int) ≤ ps5 ∧ ps5 < (↑(List.length a0.2.1) : Int)) = true then (if decide ((ph43.length + [List.getD a0.2.1 ps5.toNat (zEl T29)].length) * Try.prog.types[(29 : Nat)].bytes ≤ (140737488355328 : Nat)) = true then r1 (ps4) (IntKind.i64.wrap (ps5 + (1 : Int))) (ph43 ++ [List.getD a0.2.1 ps5.toNat (zEl T29)])
      else none)
     else none)
    else r1 (ps4) (IntKind.i64.wrap (ps5 + (1 : Int))) (ph43))
   else none)
  else r0 (IntKind.i64.wrap (ps4 + (1 : Int))) (ph43))
noncomputable def L31_1 (K : Nat) (a0 : El T85) (r0 : Int → (List (El T29)) → Option (List (El T29))) : Nat → Int → Int → (List (El T29)) → Option (List (El T29))
  | 0, _, _, _ => none
  | n + 1, ps4, ps5, ph43 => b31_1 K a0 r0 (L31_1 K a0 r0 n) ps4 ps5 ph43
noncomputable def b31_0 (K : Nat) (a0 : El T85) (r0 : Int → (List (El T29)) → Option (List (El T29))) (l1 : Nat → Int → Int → (List (El T29)) → Option (List (El T29))) (ps4 : Int) (ph43 : List (El T29)) : Option (List (El T29)) :=(if decide (ps4 < (↑(List.length a0.2.2) : Int)) = true then l1 K (ps4) ((0 : Int)) (ph43)
  else some (ph43))
noncomputable def L31_0 (K : Nat) (a0 : El T85) : Nat → Int → (List (El T29)) → Option (List (El T29))
  | 0, _, _ => none
  | n + 1, ps4, ph43 => b31_0 K a0 (L31_0 K a0 n) (L31_1 K a0 (L31_0 K a0 n)) ps4 ph43
noncomputable def t31 (K : Nat) (a0 : El T85) (l0 : Nat → Int → (List (El T29)) → Option (List (El T29))) : Option (List (El T29)) := l0 K ((0 : Int)) ([])
noncomputable def G31 (K : Nat) (a0 : El T85) : Option (List (El T29)) := t31 K a0 (L31_0 K a0)
theorem lp31_1 (K : Nat) (a0 : El T85) : ∀ (m0 : Nat) (n : Nat) (ps4 : Int) (ps5 : Int) (ph43 : List (El T29)), loopN Try.prog (tab31) 0 K Try.f31 la31 dq31.k 1 [m0] n (hd31_1 a0 ps4 ps5 ph43) = L31_1 K a0 (fun q0 q1 => loopN Try.prog (tab31) 0 K Try.f31 la31 dq31.k 0 [] m0 (hd31_0 a0 q0 q1)) n ps4 ps5 ph43
  | m0, 0, _, _, _ => by kernel_rfl
  | m0, n + 1, ps4, ps5, ph43 => by
    have h : loopN Try.prog (tab31) 0 K Try.f31 la31 dq31.k 1 [m0] (n + 1) (hd31_1 a0 ps4 ps5 ph43) = b31_1 K a0 (fun q0 q1 => loopN Try.prog (tab31) 0 K Try.f31 la31 dq31.k 0 [] m0 (hd31_0 a0 q0 q1)) (fun q0 q1 q2 => loopN Try.prog (tab31) 0 K Try.f31 la31 dq31.k 1 [m0] n (hd31_1 a0 q0 q1 q2)) ps4 ps5 ph43 := by kernel_rfl
    rw [h]
    simp only [lp31_1 K a0 m0 n]
    rfl
theorem lp31_0 (K : Nat) (a0 : El T85) : ∀ (n : Nat) (ps4 : Int) (ph43 : List (El T29)), loopN Try.prog (tab31) 0 K Try.f31 la31 dq31.k 0 [] n (hd31_0 a0 ps4 ph43) = L31_0 K a0 n ps4 ph43
  | 0, _, _ => by kernel_rfl
  | n + 1, ps4, ph43 => by
    have h : loopN Try.prog (tab31) 0 K Try.f31 la31 dq31.k 0 [] (n + 1) (hd31_0 a0 ps4 ph43) = b31_0 K a0 (fun q0 q1 => loopN Try.prog (tab31) 0 K Try.f31 la31 dq31.k 0 [] n (hd31_0 a0 q0 q1)) (fun k q0 q1 q2 => loopN Try.prog (tab31) 0 K Try.f31 la31 dq31.k 1 [n] k (hd31_1 a0 q0 q1 q2)) ps4 ph43 := by kernel_rfl
    rw [h]
    simp only [lp31_0 K a0 n, lp31_1 K a0 n]
    rfl
theorem ev31 (K : Nat) (a0 : El T85) : evFun Try.prog (tab31) 0 K Try.f31 la31 [.eptr T85 a0 0] [] dq31.k = G31 K a0 := by
  have h : evFun Try.prog (tab31) 0 K Try.f31 la31 [.eptr T85 a0 0] [] dq31.k = t31 K a0 (fun k q0 q1 => loopN Try.prog (tab31) 0 K Try.f31 la31 dq31.k 0 [] k (hd31_0 a0 q0 q1)) := by kernel_rfl
  rw [h]
  simp only [lp31_0 K a0]
  rfl
noncomputable def F31 (K : Nat) (a0 : El T85) : Option (List (El T29)) := G31 K a0
theorem cok31 (K : Nat) : CallOK D Try.prog (tab31) := none_ok
theorem ok31 (K : Nat) : RowOK D Try.prog 31 (row ad31 dq31 fun p => F31 K p) := row_ok fun x r h => has_of (cok31 K) Try.func31 ((ev31 K x).trans h)
/-! (*ganger/gangerref04.Yard).Failed -/
noncomputable def tab32 : Tab := Tab.none
noncomputable def la32 : List (List Tidy) := [[.only [0, 3, 4], .pro 3 24 3 (Ty.int IntKind.i64), .ids [24], .top [1000000]]]
noncomputable def hd32_0 (a0 : El T85) (ps4 : Int) (ph24 : List (Int)) : St := { tm := slots (nat_lit 26) [(nat_lit 0, AV.eptr T85 a0 (nat_lit 0)), (nat_lit 3, AV.own (nat_lit 24)), (nat_lit 4, AV.sc (Value.int IntKind.i64 ps4))], H := [(nat_lit 24, ABlk.arr (nat_lit 3) (Ty.int IntKind.i64) ph24)] }
noncomputable def b32_0 (K : Nat) (a0 : El T85) (r0 : Int → (List (Int)) → Option (List (El (.int .i64)))) (ps4 : Int) (ph24 : List (Int)) : Option (List (El (.int .i64))) :=(if decide (ps4 < (↑(List.length a0.2.2) : Int)) = true then (if decide ((0 : Int) ≤ ps4 ∧ ps4 < (↑(List.length a0.2.2) : Int)) = true then (if List.getD a0.2.2 ps4.toNat (zEl Ty.bool) = true then (if decide ((ph24.length + [ps4].length) * Try.prog.types[(3 : Nat)].bytes ≤ (140737488355328 : Nat)) = true then r0 (IntKind.i64.wrap (ps4 + (1 : Int))) (ph24 ++ [ps4])
     else none)
    else r0 (IntKind.i64.wrap (ps4 + (1 : Int))) (ph24))
   else none)
  else some (ph24))
noncomputable def L32_0 (K : Nat) (a0 : El T85) : Nat → Int → (List (Int)) → Option (List (El (.int .i64)))
  | 0, _, _ => none
  | n + 1, ps4, ph24 => b32_0 K a0 (L32_0 K a0 n) ps4 ph24
noncomputable def t32 (K : Nat) (a0 : El T85) (l0 : Nat → Int → (List (Int)) → Option (List (El (.int .i64)))) : Option (List (El (.int .i64))) := l0 K ((0 : Int)) ([])
noncomputable def G32 (K : Nat) (a0 : El T85) : Option (List (El (.int .i64))) := t32 K a0 (L32_0 K a0)
theorem lp32_0 (K : Nat) (a0 : El T85) : ∀ (n : Nat) (ps4 : Int) (ph24 : List (Int)), loopN Try.prog (tab32) 0 K Try.f32 la32 dq32.k 0 [] n (hd32_0 a0 ps4 ph24) = L32_0 K a0 n ps4 ph24
  | 0, _, _ => by kernel_rfl
  | n + 1, ps4, ph24 => by
    have h : loopN Try.prog (tab32) 0 K Try.f32 la32 dq32.k 0 [] (n + 1) (hd32_0 a0 ps4 ph24) = b32_0 K a0 (fun q0 q1 => loopN Try.prog (tab32) 0 K Try.f32 la32 dq32.k 0 [] n (hd32_0 a0 q0 q1)) ps4 ph24 := by kernel_rfl
    rw [h]
    simp only [lp32_0 K a0 n]
    rfl
theorem ev32 (K : Nat) (a0 : El T85) : evFun Try.prog (tab32) 0 K Try.f32 la32 [.eptr T85 a0 0] [] dq32.k = G32 K a0 := by
  have h : evFun Try.prog (tab32) 0 K Try.f32 la32 [.eptr T85 a0 0] [] dq32.k = t32 K a0 (fun k q0 q1 => loopN Try.prog (tab32) 0 K Try.f32 la32 dq32.k 0 [] k (hd32_0 a0 q0 q1)) := by kernel_rfl
  rw [h]
  simp only [lp32_0 K a0]
  rfl
noncomputable def F32 (K : Nat) (a0 : El T85) : Option (List (El (.int .i64))) := G32 K a0
theorem cok32 (K : Nat) : CallOK D Try.prog (tab32) := none_ok
theorem ok32 (K : Nat) : RowOK D Try.prog 32 (row ad32 dq32 fun p => F32 K p) := row_ok fun x r h => has_of (cok32 K) Try.func32 ((ev32 K x).trans h)
/-! (*ganger/gangerref04.Yard).Held -/
noncomputable def tab33 (F55 : Int → Option (Int)) : Tab := (Tab.none.add 55 (row ad55 dq55 fun p => F55 p))
noncomputable def la33 : List (List Tidy) := [[.only [0, 1, 4, 6], .ids [4], .top [1000000]]]
noncomputable def hd33_0 (a0 : El T85) (a1 : Int) (ps6 : Int) : St := { tm := slots (nat_lit 56) [(nat_lit 0, AV.eptr T85 a0 (nat_lit 0)), (nat_lit 1, AV.sc (Value.int IntKind.i64 a1)), (nat_lit 4, AV.ptr (nat_lit 4) (nat_lit 0)), (nat_lit 6, AV.sc (Value.int IntKind.i64 ps6))], H := [(nat_lit 4, ABlk.box (nat_lit 29) (cellsOf T29 ((0 : Int), (0 : Int))))] }
noncomputable def b33_0 (F55 : Int → Option (Int)) (K : Nat) (a0 : El T85) (a1 : Int) (r0 : Int → Option ((El T29) × Bool)) (ps6 : Int) : Option ((El T29) × Bool) :=(if decide (ps6 < (↑(List.length a0.2.1) : Int)) = true then (if decide ((0 : Int) ≤ ps6 ∧ ps6 < (↑(List.length a0.2.1) : Int)) = true then (if decide (a1 ≥ (List.getD a0.2.1 ps6.toNat (zEl T29)).1) = true then (if decide ((0 : Int) ≤ ps6 ∧ ps6 < (↑(List.length a0.2.1) : Int)) = true then (if decide ((0 : Int) ≤ ps6 ∧ ps6 < (↑(List.length a0.2.1) : Int)) = true then 
       (Option.bind (F55 (List.getD a0.2.1 ps6.toNat (zEl T29)).2) fun x0 => (if decide (a1 < IntKind.i64.wrap ((List.getD a0.2.1 ps6.toNat (zEl T29)).1 + x0)) = true then (if decide ((0 : Int) ≤ ps6 ∧ ps6 < (↑(List.length a0.2.1) : Int)) = true then some ((List.getD a0.2.1 ps6.toNat (zEl T29), true))
         else none)
        else r0 (IntKind.i64.wrap (ps6 + (1 : Int)))))
      else none)
     else none)
    else r0 (IntKind.i64.wrap (ps6 + (1 : Int))))
   else none)
  else some ((((0 : Int), (0 : Int)), false)))
noncomputable def L33_0 (F55 : Int → Option (Int)) (K : Nat) (a0 : El T85) (a1 : Int) : Nat → Int → Option ((El T29) × Bool)
  | 0, _ => none
  | n + 1, ps6 => b33_0 F55 K a0 a1 (L33_0 F55 K a0 a1 n) ps6
noncomputable def t33 (F55 : Int → Option (Int)) (K : Nat) (a0 : El T85) (a1 : Int) (l0 : Nat → Int → Option ((El T29) × Bool)) : Option ((El T29) × Bool) := l0 K ((0 : Int))
noncomputable def G33 (F55 : Int → Option (Int)) (K : Nat) (a0 : El T85) (a1 : Int) : Option ((El T29) × Bool) := t33 F55 K a0 a1 (L33_0 F55 K a0 a1)
theorem lp33_0 (F55 : Int → Option (Int)) (K : Nat) (a0 : El T85) (a1 : Int) : ∀ (n : Nat) (ps6 : Int), loopN Try.prog (tab33 F55) 0 K Try.f33 la33 dq33.k 0 [] n (hd33_0 a0 a1 ps6) = L33_0 F55 K a0 a1 n ps6
  | 0, _ => by kernel_rfl
  | n + 1, ps6 => by
    have h : loopN Try.prog (tab33 F55) 0 K Try.f33 la33 dq33.k 0 [] (n + 1) (hd33_0 a0 a1 ps6) = b33_0 F55 K a0 a1 (fun q0 => loopN Try.prog (tab33 F55) 0 K Try.f33 la33 dq33.k 0 [] n (hd33_0 a0 a1 q0)) ps6 := by kernel_rfl
    rw [h]
    simp only [lp33_0 F55 K a0 a1 n]
    rfl
theorem ev33 (F55 : Int → Option (Int)) (K : Nat) (a0 : El T85) (a1 : Int) : evFun Try.prog (tab33 F55) 0 K Try.f33 la33 [.eptr T85 a0 0, I .i64 a1] [] dq33.k = G33 F55 K a0 a1 := by
  have h : evFun Try.prog (tab33 F55) 0 K Try.f33 la33 [.eptr T85 a0 0, I .i64 a1] [] dq33.k = t33 F55 K a0 a1 (fun k q0 => loopN Try.prog (tab33 F55) 0 K Try.f33 la33 dq33.k 0 [] k (hd33_0 a0 a1 q0)) := by kernel_rfl
  rw [h]
  simp only [lp33_0 F55 K a0 a1]
  rfl
noncomputable def F33 (K : Nat) (a0 : El T85) (a1 : Int) : Option ((El T29) × Bool) := G33 (F55 K) K a0 a1
theorem cok33 (K : Nat) : CallOK D Try.prog (tab33 (F55 K)) := (add_ok none_ok ent55 (ok55 K))
theorem ok33 (K : Nat) : RowOK D Try.prog 33 (row ad33 dq33 fun p => F33 K p.1 p.2) := row_ok fun x r h => has_of (cok33 K) Try.func33 ((ev33 (F55 K) K x.1 x.2).trans h)
end Go.Proofs.YtiicginipjbloaaE
