import Derived.Test.YtcnfilanbmkpaaaS03W46
set_option linter.all false
namespace Go.Proofs.YtcnfilanbmkpaaaE
open Go Go.Proofs
set_option maxRecDepth 100000
set_option linter.unusedVariables false
variable {D : Prop}
/-! ganger/rank.Put -/
noncomputable def tab28 (F13 : (List (El T35)) → Option (Int)) (F42 : (List (El T35)) → (El T35) → Option (Bool)) (F44 : (List (El T35)) → (El T35) → Unit → Option (Int × Bool)) (F34 : (El T35) → (El T35) → Option (Int)) (F35 : (List (El T35)) → Option (List (El T35))) (F45 : (Int × List (El T35)) → List (El T35) → Option (List (El T35))) : Tab := ((((((Tab.none.add 13 (row ad13 dq13 fun p => F13 p)).add 42 (row ad42 dq42 fun p => F42 p.1 p.2)).add 44 (row ad44 dq44 fun p => F44 p.1 p.2.1 p.2.2)).add 34 (row ad34 dq34 fun p => F34 p.1 p.2)).add 35 (row ad35 dq35 fun p => F35 p)).addW 45 (rowWE 35 T35 ad45 F45 true))
noncomputable def t28 (F13 : (List (El T35)) → Option (Int)) (F42 : (List (El T35)) → (El T35) → Option (Bool)) (F44 : (List (El T35)) → (El T35) → Unit → Option (Int × Bool)) (F34 : (El T35) → (El T35) → Option (Int)) (F35 : (List (El T35)) → Option (List (El T35))) (F45 : (Int × List (El T35)) → List (El T35) → Option (List (El T35))) (K : Nat) (a0 : List (El T35)) (a1 : El T35) : Option ((List (El T35)) × Int) := 
 (Option.bind (F13 a0) fun x0 => (if (x0 != (0 : Int)) = true then some (([], x0))
  else 
   (Option.bind (F42 a0 a1) fun x1 => (if x1 = true then some (([], (30 : Int)))
    else 
     (Option.bind (F44 a0 a1 ()) fun x2 => 
      (Option.bind (F35 a0) fun x3 => 
       (Option.bind (F45 (x2.1, [a1]) x3) fun x4 => some ((x4, (0 : Int))))))))))
noncomputable def G28 (F13 : (List (El T35)) → Option (Int)) (F42 : (List (El T35)) → (El T35) → Option (Bool)) (F44 : (List (El T35)) → (El T35) → Unit → Option (Int × Bool)) (F34 : (El T35) → (El T35) → Option (Int)) (F35 : (List (El T35)) → Option (List (El T35))) (F45 : (Int × List (El T35)) → List (El T35) → Option (List (El T35))) (K : Nat) (a0 : List (El T35)) (a1 : El T35) : Option ((List (El T35)) × Int) := t28 F13 F42 F44 F34 F35 F45 K a0 a1
theorem ev28 (F13 : (List (El T35)) → Option (Int)) (F42 : (List (El T35)) → (El T35) → Option (Bool)) (F44 : (List (El T35)) → (El T35) → Unit → Option (Int × Bool)) (F34 : (El T35) → (El T35) → Option (Int)) (F35 : (List (El T35)) → Option (List (El T35))) (F45 : (Int × List (El T35)) → List (El T35) → Option (List (El T35))) (K : Nat) (a0 : List (El T35)) (a1 : El T35) : evFun Try.prog (tab28 F13 F42 F44 F34 F35 F45) 0 K Try.f28 [] [.row T35 a0, .agg (cellsOf T35 a1)] [] dq28.k = G28 F13 F42 F44 F34 F35 F45 K a0 a1 := by
  kernel_rfl
noncomputable def F28 (K : Nat) (a0 : List (El T35)) (a1 : El T35) : Option ((List (El T35)) × Int) := G28 (F13 K) (F42 K) (F44 K) (F34 K) (F35 K) (F45 K) K a0 a1
theorem cok28 (K : Nat) : CallOK D Try.prog (tab28 (F13 K) (F42 K) (F44 K) (F34 K) (F35 K) (F45 K)) := (addW_ok (add_ok (add_ok (add_ok (add_ok (add_ok none_ok ent13 (ok13 K)) ent42 (ok42 K)) ent44 (ok44 K)) ent34 (ok34 K)) ent35 (ok35 K)) ent45 (ok45 K))
theorem ok28 (K : Nat) : RowOK D Try.prog 28 (row ad28 dq28 fun p => F28 K p.1 p.2) := row_ok fun x r h => has_of (cok28 K) Try.func28 ((ev28 (F13 K) (F42 K) (F44 K) (F34 K) (F35 K) (F45 K) K x.1 x.2).trans h)
/-! ganger/gangerref03.Put -/
noncomputable def tab29 (F16 : (List (El T35)) → Option (Int)) (F38 : (List (El T35)) → (El T35) → Option (List (El T35))) : Tab := ((Tab.none.add 16 (row ad16 dq16 fun p => F16 p)).add 38 (row ad38 dq38 fun p => F38 p.1 p.2))
noncomputable def la29 : List (List Tidy) := [[.only [0, 3, 7], .ids [3, 9, 29], .top [1000000]]]
noncomputable def hd29_0 (a0 : List (El T35)) (a1 : El T35) (ps7 : Int) : St := { tm := slots (nat_lit 30) [(nat_lit 0, AV.row T35 a0), (nat_lit 3, AV.ptr (nat_lit 3) (nat_lit 0)), (nat_lit 7, AV.sc (Value.int IntKind.i64 ps7))], H := [(nat_lit 3, ABlk.box (nat_lit 35) (cellsOf T35 a1))] }
noncomputable def b29_0 (F16 : (List (El T35)) → Option (Int)) (F38 : (List (El T35)) → (El T35) → Option (List (El T35))) (K : Nat) (a0 : List (El T35)) (a1 : El T35) (r0 : Int → Option ((List (El T35)) × Int)) (ps7 : Int) : Option ((List (El T35)) × Int) :=(if decide (ps7 < (↑a0.length : Int)) = true then (if decide ((0 : Int) ≤ ps7 ∧ ps7 < (↑a0.length : Int)) = true then (if ((a0.getD ps7.toNat (zEl T35)).2.2 == a1.2.2) = true then some (([], (30 : Int)))
    else r0 (IntKind.i64.wrap (ps7 + (1 : Int))))
   else none)
  else 
   (Option.bind (F38 a0 a1) fun x1 => some ((x1, (0 : Int)))))
noncomputable def L29_0 (F16 : (List (El T35)) → Option (Int)) (F38 : (List (El T35)) → (El T35) → Option (List (El T35))) (K : Nat) (a0 : List (El T35)) (a1 : El T35) : Nat → Int → Option ((List (El T35)) × Int)
  | 0, _ => none
  | n + 1, ps7 => b29_0 F16 F38 K a0 a1 (L29_0 F16 F38 K a0 a1 n) ps7
noncomputable def t29 (F16 : (List (El T35)) → Option (Int)) (F38 : (List (El T35)) → (El T35) → Option (List (El T35))) (K : Nat) (a0 : List (El T35)) (a1 : El T35) (l0 : Nat → Int → Option ((List (El T35)) × Int)) : Option ((List (El T35)) × Int) := 
 (Option.bind (F16 a0) fun x0 => (if (x0 != (0 : Int)) = true then some (([], x0))
  else l0 K ((0 : Int))))
noncomputable def G29 (F16 : (List (El T35)) → Option (Int)) (F38 : (List (El T35)) → (El T35) → Option (List (El T35))) (K : Nat) (a0 : List (El T35)) (a1 : El T35) : Option ((List (El T35)) × Int) := t29 F16 F38 K a0 a1 (L29_0 F16 F38 K a0 a1)
theorem lp29_0 (F16 : (List (El T35)) → Option (Int)) (F38 : (List (El T35)) → (El T35) → Option (List (El T35))) (K : Nat) (a0 : List (El T35)) (a1 : El T35) : ∀ (n : Nat) (ps7 : Int), loopN Try.prog (tab29 F16 F38) 0 K Try.f29 la29 dq29.k 0 [] n (hd29_0 a0 a1 ps7) = L29_0 F16 F38 K a0 a1 n ps7
  | 0, _ => by kernel_rfl
  | n + 1, ps7 => by
    have h : loopN Try.prog (tab29 F16 F38) 0 K Try.f29 la29 dq29.k 0 [] (n + 1) (hd29_0 a0 a1 ps7) = b29_0 F16 F38 K a0 a1 (fun q0 => loopN Try.prog (tab29 F16 F38) 0 K Try.f29 la29 dq29.k 0 [] n (hd29_0 a0 a1 q0)) ps7 := by kernel_rfl
    rw [h]
    simp only [lp29_0 F16 F38 K a0 a1 n]
    rfl
theorem ev29 (F16 : (List (El T35)) → Option (Int)) (F38 : (List (El T35)) → (El T35) → Option (List (El T35))) (K : Nat) (a0 : List (El T35)) (a1 : El T35) : evFun Try.prog (tab29 F16 F38) 0 K Try.f29 la29 [.row T35 a0, .agg (cellsOf T35 a1)] [] dq29.k = G29 F16 F38 K a0 a1 := by
  have h : evFun Try.prog (tab29 F16 F38) 0 K Try.f29 la29 [.row T35 a0, .agg (cellsOf T35 a1)] [] dq29.k = t29 F16 F38 K a0 a1 (fun k q0 => loopN Try.prog (tab29 F16 F38) 0 K Try.f29 la29 dq29.k 0 [] k (hd29_0 a0 a1 q0)) := by kernel_rfl
  rw [h]
  simp only [lp29_0 F16 F38 K a0 a1]
  rfl
noncomputable def F29 (K : Nat) (a0 : List (El T35)) (a1 : El T35) : Option ((List (El T35)) × Int) := G29 (F16 K) (F38 K) K a0 a1
theorem cok29 (K : Nat) : CallOK D Try.prog (tab29 (F16 K) (F38 K)) := (add_ok (add_ok none_ok ent16 (ok16 K)) ent38 (ok38 K))
theorem ok29 (K : Nat) : RowOK D Try.prog 29 (row ad29 dq29 fun p => F29 K p.1 p.2) := row_ok fun x r h => has_of (cok29 K) Try.func29 ((ev29 (F16 K) (F38 K) K x.1 x.2).trans h)
/-! ganger/rank.Drop -/
noncomputable def tab30 (F13 : (List (El T35)) → Option (Int)) (F35 : (List (El T35)) → Option (List (El T35))) (F46 : Int → List (El T35) → Option (List (El T35))) : Tab := (((Tab.none.add 13 (row ad13 dq13 fun p => F13 p)).add 35 (row ad35 dq35 fun p => F35 p)).addW 46 (rowW T35 ad46 F46 true))
noncomputable def t30 (F13 : (List (El T35)) → Option (Int)) (F35 : (List (El T35)) → Option (List (El T35))) (F46 : Int → List (El T35) → Option (List (El T35))) (K : Nat) (a0 : List (El T35)) (a1 : Int) : Option ((List (El T35)) × Bool) := 
 (Option.bind (F13 a0) fun x0 => (if (x0 != (0 : Int)) = true then some (([], false))
  else 
   (Option.bind (F35 a0) fun x1 => 
    (Option.bind (F46 a1 x1) fun x2 => some ((x2, decide ((↑x2.length : Int) < (↑a0.length : Int))))))))
noncomputable def G30 (F13 : (List (El T35)) → Option (Int)) (F35 : (List (El T35)) → Option (List (El T35))) (F46 : Int → List (El T35) → Option (List (El T35))) (K : Nat) (a0 : List (El T35)) (a1 : Int) : Option ((List (El T35)) × Bool) := t30 F13 F35 F46 K a0 a1
theorem ev30 (F13 : (List (El T35)) → Option (Int)) (F35 : (List (El T35)) → Option (List (El T35))) (F46 : Int → List (El T35) → Option (List (El T35))) (K : Nat) (a0 : List (El T35)) (a1 : Int) : evFun Try.prog (tab30 F13 F35 F46) 0 K Try.f30 [] [.row T35 a0, I .u32 a1] [] dq30.k = G30 F13 F35 F46 K a0 a1 := by
  kernel_rfl
noncomputable def F30 (K : Nat) (a0 : List (El T35)) (a1 : Int) : Option ((List (El T35)) × Bool) := G30 (F13 K) (F35 K) (F46 K) K a0 a1
theorem cok30 (K : Nat) : CallOK D Try.prog (tab30 (F13 K) (F35 K) (F46 K)) := (addW_ok (add_ok (add_ok none_ok ent13 (ok13 K)) ent35 (ok35 K)) ent46 (ok46 K))
theorem ok30 (K : Nat) : RowOK D Try.prog 30 (row ad30 dq30 fun p => F30 K p.1 p.2) := row_ok fun x r h => has_of (cok30 K) Try.func30 ((ev30 (F13 K) (F35 K) (F46 K) K x.1 x.2).trans h)
/-! ganger/gangerref03.Drop -/
noncomputable def tab31 (F16 : (List (El T35)) → Option (Int)) : Tab := (Tab.none.add 16 (row ad16 dq16 fun p => F16 p))
noncomputable def la31 : List (List Tidy) := [[.only [0, 1, 7, 8], .pro 7 32 35 (T35), .ids [10, 32, 35, 37], .top [1000000]]]
noncomputable def hd31_0 (a0 : List (El T35)) (a1 : Int) (ps8 : Int) (ph32 : List (El T35)) : St := { tm := slots (nat_lit 39) [(nat_lit 0, AV.row T35 a0), (nat_lit 1, AV.sc (Value.int IntKind.u32 a1)), (nat_lit 7, AV.own (nat_lit 32)), (nat_lit 8, AV.sc (Value.int IntKind.i64 ps8))], H := [(nat_lit 32, ABlk.arr (nat_lit 35) T35 ph32)] }
noncomputable def b31_0 (F16 : (List (El T35)) → Option (Int)) (K : Nat) (a0 : List (El T35)) (a1 : Int) (r0 : Int → (List (El T35)) → Option ((List (El T35)) × Bool)) (ps8 : Int) (ph32 : List (El T35)) : Option ((List (El T35)) × Bool) :=(if decide (ps8 < (↑a0.length : Int)) = true then (if decide ((0 : Int) ≤ ps8 ∧ ps8 < (↑a0.length : Int)) = true then (if ((a0.getD ps8.toNat (zEl T35)).2.2 != a1) = true then (if decide ((0 : Int) ≤ ps8 ∧ ps8 < (↑a0.length : Int)) = true then (if decide ((ph32.length + [a0.getD ps8.toNat (zEl T35)].length) * Try.prog.types[(35 : Nat)].bytes ≤ (140737488355328 : Nat)) = true then r0 (IntKind.i64.wrap (ps8 + (1 : Int))) (ph32 ++ [a0.getD ps8.toNat (zEl T35)])
      else none)
     else none)
    else r0 (IntKind.i64.wrap (ps8 + (1 : Int))) (ph32))
   else none)
  else some ((ph32, (↑ph32.length : Int) != (↑a0.length : Int))))
noncomputable def L31_0 (F16 : (List (El T35)) → Option (Int)) (K : Nat) (a0 : List (El T35)) (a1 : Int) : Nat → Int → (List (El T35)) → Option ((List (El T35)) × Bool)
  | 0, _, _ => none
  | n + 1, ps8, ph32 => b31_0 F16 K a0 a1 (L31_0 F16 K a0 a1 n) ps8 ph32
noncomputable def t31 (F16 : (List (El T35)) → Option (Int)) (K : Nat) (a0 : List (El T35)) (a1 : Int) (l0 : Nat → Int → (List (El T35)) → Option ((List (El T35)) × Bool)) : Option ((List (El T35)) × Bool) := 
 (Option.bind (F16 a0) fun x0 => (if (x0 != (0 : Int)) = true then some (([], false))
  else l0 K ((0 : Int)) ([])))
noncomputable def G31 (F16 : (List (El T35)) → Option (Int)) (K : Nat) (a0 : List (El T35)) (a1 : Int) : Option ((List (El T35)) × Bool) := t31 F16 K a0 a1 (L31_0 F16 K a0 a1)
theorem lp31_0 (F16 : (List (El T35)) → Option (Int)) (K : Nat) (a0 : List (El T35)) (a1 : Int) : ∀ (n : Nat) (ps8 : Int) (ph32 : List (El T35)), loopN Try.prog (tab31 F16) 0 K Try.f31 la31 dq31.k 0 [] n (hd31_0 a0 a1 ps8 ph32) = L31_0 F16 K a0 a1 n ps8 ph32
  | 0, _, _ => by kernel_rfl
  | n + 1, ps8, ph32 => by
    have h : loopN Try.prog (tab31 F16) 0 K Try.f31 la31 dq31.k 0 [] (n + 1) (hd31_0 a0 a1 ps8 ph32) = b31_0 F16 K a0 a1 (fun q0 q1 => loopN Try.prog (tab31 F16) 0 K Try.f31 la31 dq31.k 0 [] n (hd31_0 a0 a1 q0 q1)) ps8 ph32 := by kernel_rfl
    rw [h]
    simp only [lp31_0 F16 K a0 a1 n]
    rfl
theorem ev31 (F16 : (List (El T35)) → Option (Int)) (K : Nat) (a0 : List (El T35)) (a1 : Int) : evFun Try.prog (tab31 F16) 0 K Try.f31 la31 [.row T35 a0, I .u32 a1] [] dq31.k = G31 F16 K a0 a1 := by
  have h : evFun Try.prog (tab31 F16) 0 K Try.f31 la31 [.row T35 a0, I .u32 a1] [] dq31.k = t31 F16 K a0 a1 (fun k q0 q1 => loopN Try.prog (tab31 F16) 0 K Try.f31 la31 dq31.k 0 [] k (hd31_0 a0 a1 q0 q1)) := by kernel_rfl
  rw [h]
  simp only [lp31_0 F16 K a0 a1]
  rfl
noncomputable def F31 (K : Nat) (a0 : List (El T35)) (a1 : Int) : Option ((List (El T35)) × Bool) := G31 (F16 K) K a0 a1
theorem cok31 (K : Nat) : CallOK D Try.prog (tab31 (F16 K)) := (add_ok none_ok ent16 (ok16 K))
theorem ok31 (K : Nat) : RowOK D Try.prog 31 (row ad31 dq31 fun p => F31 K p.1 p.2) := row_ok fun x r h => has_of (cok31 K) Try.func31 ((ev31 (F16 K) K x.1 x.2).trans h)
/-! ganger/gangerlaw03.RankPuts -/
noncomputable def tab8 (F10 : (List (El T35)) → (List (El T35)) → Option (Bool)) (F11 : Option (Bool)) (F12 : (List (El T35)) → Option (List (El T35))) (F28 : (List (El T35)) → (El T35) → Option ((List (El T35)) × Int)) (F29 : (List (El T35)) → (El T35) → Option ((List (El T35)) × Int)) (F30 : (List (El T35)) → Int → Option ((List (El T35)) × Bool)) (F31 : (List (El T35)) → Int → Option ((List (El T35)) × Bool)) (F17 : (List (El T35)) → (List (El T35)) → Option (Bool)) : Tab := ((((((((Tab.none.add 10 (row ad10 dq10 fun p => F10 p.1 p.2)).add 11 (row ad11 dq11 fun p => F11)).add 12 (row ad12 dq12 fun p => F12 p)).add 28 (row ad28 dq28 fun p => F28 p.1 p.2)).add 29 (row ad29 dq29 fun p => F29 p.1 p.2)).add 30 (row ad30 dq30 fun p => F30 p.1 p.2)).add 31 (row ad31 dq31 fun p => F31 p.1 p.2)).add 17 (row ad17 dq17 fun p => F17 p.1 p.2))
noncomputable def la8 : List (List Tidy) := [[.only [0, 7, 8, 12, 16], .ids [4, 19, 20, 22, 26, 32, 38, 44, 49, 59, 79, 89, 91], .top [1000000]], [.only [0, 7, 12, 17], .ids [4, 19, 20, 22, 26, 32, 38, 44, 49, 59, 69, 89, 91], .top [1000001]]]
noncomputable def hd8_0 (a0 : List (El T35)) (a1 : El T35) (a2 : Int) (ps16 : Int) (ph22 : List (El T35)) (ph26 : List (El T35)) (ph32 : List (El T35)) (ph38 : List (El T35)) (ph44 : List (El T35)) : St := { tm := slots (nat_lit 93) [(nat_lit 0, AV.row T35 a0), (nat_lit 7, AV.own (nat_lit 22)), (nat_lit 8, AV.own (nat_lit 26)), (nat_lit 12, AV.own (nat_lit 38)), (nat_lit 16, AV.sc (Value.int IntKind.i64 ps16))], H := [(nat_lit 4, ABlk.box (nat_lit 35) (cellsOf T35 a1)), (nat_lit 22, ABlk.arr (nat_lit 35) T35 ph22), (nat_lit 26, ABlk.arr (nat_lit 35) T35 ph26), (nat_lit 32, ABlk.arr (nat_lit 35) T35 ph32), (nat_lit 38, ABlk.arr (nat_lit 35) T35 ph38), (nat_lit 44, ABlk.arr (nat_lit 35) T35 ph44)] }
noncomputable def hd8_1 (a0 : List (El T35)) (a1 : El T35) (a2 : Int) (ps17 : Int) (ph22 : List (El T35)) (ph26 : List (El T35)) (ph32 : List (El T35)) (ph38 : List (El T35)) (ph44 : List (El T35)) : St := { tm := slots (nat_lit 93) [(nat_lit 0, AV.row T35 a0), (nat_lit 7, AV.own (nat_lit 22)), (nat_lit 12, AV.own (nat_lit 38)), (nat_lit 17, AV.sc (Value.int IntKind.i64 ps17))], H := [(nat_lit 4, ABlk.box (nat_lit 35) (cellsOf T35 a1)), (nat_lit 22, ABlk.arr (nat_lit 35) T35 ph22), (nat_lit 26, ABlk.arr (nat_lit 35) T35 ph26), (nat_lit 32, ABlk.arr (nat_lit 35) T35 ph32), (nat_lit 38, ABlk.arr (nat_lit 35) T35 ph38), (nat_lit 44, ABlk.arr (nat_lit 35) T35 ph44)] }
noncomputable def b8_1 (F10 : (List (El T35)) → (List (El T35)) → Option (Bool)) (F11 : Option (Bool)) (F12 : (List (El T35)) → Option (List (El T35))) (F28 : (List (El T35)) → (El T35) → Option ((List (El T35)) × Int)) (F29 : (List (El T35)) → (El T35) → Option ((List (El T35)) × Int)) (F30 : (List (El T35)) → Int → Option ((List (El T35)) × Bool)) (F31 : (List (El T35)) → Int → Option ((List (El T35)) × Bool)) (F17 : (List (El T35)) → (List (El T35)) → Option (Bool)) (K : Nat) (a0 : List (El T35)) (a1 : El T35) (a2 : Int) (r1 : Int → (List (El T35)) → (List (El T35)) → (List (El T35)) → (List (El T35)) → (List (El T35)) → Option (Bool)) (ps17 : Int) (ph22 : List (El T35)) (ph26 : List (El T35)) (ph32 : List (El T35)) (ph38 : List (El T35)) (ph44 : List (El T35)) : Option (Bool) :=(if decide (ps17 < (↑ph38.length : Int)) = true then (if decide ((0 : Int) ≤ ps17 ∧ ps17 < (↑ph38.length : Int)) = true then r1 (IntKind.i64.wrap (ps17 + (1 : Int))) (ph22) (ph26) (ph32) (ph38.set ps17.toNat ((8 : Int), (ph38.getD ps17.toNat (zEl T35)).2)) (ph44)
   else none)
  else 
   (Option.bind (F17 ph22 a0) fun x9 => (if x9 = true then 
     (Option.bind (F11) fun x10 => some (x10))
    else some (false))))
noncomputable def L8_1 (F10 : (List (El T35)) → (List (El T35)) → Option (Bool)) (F11 : Option (Bool)) (F12 : (List (El T35)) → Option (List (El T35))) (F28 : (List (El T35)) → (El T35) → Option ((List (El T35)) × Int)) (F29 : (List (El T35)) → (El T35) → Option ((List (El T35)) × Int)) (F30 : (List (El T35)) → Int → Option ((List (El T35)) × Bool)) (F31 : (List (El T35)) → Int → Option ((List (El T35)) × Bool)) (F17 : (List (El T35)) → (List (El T35)) → Option (Bool)) (K : Nat) (a0 : List (El T35)) (a1 : El T35) (a2 : Int) : Nat → Int → (List (El T35)) → (List (El T35)) → (List (El T35)) → (List (El T35)) → (List (El T35)) → Option (Bool)
  | 0, _, _, _, _, _, _ => none
  | n + 1, ps17, ph22, ph26, ph32, ph38, ph44 => b8_1 F10 F11 F12 F28 F29 F30 F31 F17 K a0 a1 a2 (L8_1 F10 F11 F12 F28 F29 F30 F31 F17 K a0 a1 a2 n) ps17 ph22 ph26 ph32 ph38 ph44
noncomputable def b8_0 (F10 : (List (El T35)) → (List (El T35)) → Option (Bool)) (F11 : Option (Bool)) (F12 : (List (El T35)) → Option (List (El T35))) (F28 : (List (El T35)) → (El T35) → Option ((List (El T35)) × Int)) (F29 : (List (El T35)) → (El T35) → Option ((List (El T35)) × Int)) (F30 : (List (El T35)) → Int → Option ((List (El T35)) × Bool)) (F31 : (List (El T35)) → Int → Option ((List (El T35)) × Bool)) (F17 : (List (El T35)) → (List (El T35)) → Option (Bool)) (K : Nat) (a0 : List (El T35)) (a1 : El T35) (a2 : Int) (r0 : Int → (List (El T35)) → (List (El T35)) → (List (El T35)) → (List (El T35)) → (List (El T35)) → Option (Bool)) (l1 : Nat → Int → (List (El T35)) → (List (El T35)) → (List (El T35)) → (List (El T35)) → (List (El T35)) → Option (Bool)) (ps16 : Int) (ph22 : List (El T35)) (ph26 : List (El T35)) (ph32 : List (El T35)) (ph38 : List (El T35)) (ph44 : List (El T35)) : Option (Bool) :=(if decide (ps16 < (↑ph26.length : Int)) = true then (if decide ((0 : Int) ≤ ps16 ∧ ps16 < (↑ph26.length : Int)) = true then r0 (IntKind.i64.wrap (ps16 + (1 : Int))) (ph22) (ph26.set ps16.toNat ((7 : Int), (ph26.getD ps16.toNat (zEl T35)).2)) (ph32) (ph38) (ph44)
   else none)
  else l1 K ((0 : Int)) (ph22) (ph26) (ph32) (ph38) (ph44))
noncomputable def L8_0 (F10 : (List (El T35)) → (List (El T35)) → Option (Bool)) (F11 : Option (Bool)) (F12 : (List (El T35)) → Option (List (El T35))) (F28 : (List (El T35)) → (El T35) → Option ((List (El T35)) × Int)) (F29 : (List (El T35)) → (El T35) → Option ((List (El T35)) × Int)) (F30 : (List (El T35)) → Int → Option ((List (El T35)) × Bool)) (F31 : (List (El T35)) → Int → Option ((List (El T35)) × Bool)) (F17 : (List (El T35)) → (List (El T35)) → Option (Bool)) (K : Nat) (a0 : List (El T35)) (a1 : El T35) (a2 : Int) : Nat → Int → (List (El T35)) → (List (El T35)) → (List (El T35)) → (List (El T35)) → (List (El T35)) → Option (Bool)
  | 0, _, _, _, _, _, _ => none
  | n + 1, ps16, ph22, ph26, ph32, ph38, ph44 => b8_0 F10 F11 F12 F28 F29 F30 F31 F17 K a0 a1 a2 (L8_0 F10 F11 F12 F28 F29 F30 F31 F17 K a0 a1 a2 n) (L8_1 F10 F11 F12 F28 F29 F30 F31 F17 K a0 a1 a2) ps16 ph22 ph26 ph32 ph38 ph44
noncomputable def t8 (F10 : (List (El T35)) → (List (El T35)) → Option (Bool)) (F11 : Option (Bool)) (F12 : (List (El T35)) → Option (List (El T35))) (F28 : (List (El T35)) → (El T35) → Option ((List (El T35)) × Int)) (F29 : (List (El T35)) → (El T35) → Option ((List (El T35)) × Int)) (F30 : (List (El T35)) → Int → Option ((List (El T35)) × Bool)) (F31 : (List (El T35)) → Int → Option ((List (El T35)) × Bool)) (F17 : (List (El T35)) → (List (El T35)) → Option (Bool)) (K : Nat) (a0 : List (El T35)) (a1 : El T35) (a2 : Int) (l0 : Nat → Int → (List (El T35)) → (List (El T35)) → (List (El T35)) → (List (El T35)) → (List (El T35)) → Option (Bool)) : Option (Bool) := 
 (Option.bind (F10 a0 []) fun x0 => (if x0 = true then 
   (Option.bind (F11) fun x1 => some (x1))
  else 
   (Option.bind (F12 a0) fun x2 => 
    (Option.bind (F28 x2 a1) fun x3 => 
     (Option.bind (F29 a0 a1) fun x4 => 
      (Option.bind (F30 x2 a2) fun x5 => 
       (Option.bind (F31 a0 a2) fun x6 => 
        (Option.bind (F17 x3.1 x4.1) fun x7 => (if (!x7) = true then some (false)
         else (if (x3.2 != x4.2) = true then some (false)
          else 
           (Option.bind (F17 x5.1 x6.1) fun x8 => (if (!x8) = true then some (false)
            else (if (!x5.2 == x6.2) = true then some (false)
             else l0 K ((0 : Int)) (x2) (x3.1) (x4.1) (x5.1) (x6.1))))))))))))))
noncomputable def G8 (F10 : (List (El T35)) → (List (El T35)) → Option (Bool)) (F11 : Option (Bool)) (F12 : (List (El T35)) → Option (List (El T35))) (F28 : (List (El T35)) → (El T35) → Option ((List (El T35)) × Int)) (F29 : (List (El T35)) → (El T35) → Option ((List (El T35)) × Int)) (F30 : (List (El T35)) → Int → Option ((List (El T35)) × Bool)) (F31 : (List (El T35)) → Int → Option ((List (El T35)) × Bool)) (F17 : (List (El T35)) → (List (El T35)) → Option (Bool)) (K : Nat) (a0 : List (El T35)) (a1 : El T35) (a2 : Int) : Option (Bool) := t8 F10 F11 F12 F28 F29 F30 F31 F17 K a0 a1 a2 (L8_0 F10 F11 F12 F28 F29 F30 F31 F17 K a0 a1 a2)
theorem lp8_1 (F10 : (List (El T35)) → (List (El T35)) → Option (Bool)) (F11 : Option (Bool)) (F12 : (List (El T35)) → Option (List (El T35))) (F28 : (List (El T35)) → (El T35) → Option ((List (El T35)) × Int)) (F29 : (List (El T35)) → (El T35) → Option ((List (El T35)) × Int)) (F30 : (List (El T35)) → Int → Option ((List (El T35)) × Bool)) (F31 : (List (El T35)) → Int → Option ((List (El T35)) × Bool)) (F17 : (List (El T35)) → (List (El T35)) → Option (Bool)) (K : Nat) (a0 : List (El T35)) (a1 : El T35) (a2 : Int) : ∀ (n : Nat) (ps17 : Int) (ph22 : List (El T35)) (ph26 : List (El T35)) (ph32 : List (El T35)) (ph38 : List (El T35)) (ph44 : List (El T35)), loopN Try.prog (tab8 F10 F11 F12 F28 F29 F30 F31 F17) 0 K Try.f8 la8 dq8.k 1 [] n (hd8_1 a0 a1 a2 ps17 ph22 ph26 ph32 ph38 ph44) = L8_1 F10 F11 F12 F28 F29 F30 F31 F17 K a0 a1 a2 n ps17 ph22 ph26 ph32 ph38 ph44
  | 0, _, _, _, _, _, _ => by kernel_rfl
  | n + 1, ps17, ph22, ph26, ph32, ph38, ph44 => by
    have h : loopN Try.prog (tab8 F10 F11 F12 F28 F29 F30 F31 F17) 0 K Try.f8 la8 dq8.k 1 [] (n + 1) (hd8_1 a0 a1 a2 ps17 ph22 ph26 ph32 ph38 ph44) = b8_1 F10 F11 F12 F28 F29 F30 F31 F17 K a0 a1 a2 (fun q0 q1 q2 q3 q4 q5 => loopN Try.prog (tab8 F10 F11 F12 F28 F29 F30 F31 F17) 0 K Try.f8 la8 dq8.k 1 [] n (hd8_1 a0 a1 a2 q0 q1 q2 q3 q4 q5)) ps17 ph22 ph26 ph32 ph38 ph44 := by kernel_rfl
    rw [h]
    simp only [lp8_1 F10 F11 F12 F28 F29 F30 F31 F17 K a0 a1 a2 n]
    rfl
theorem lp8_0 (F10 : (List (El T35)) → (List (El T35)) → Option (Bool)) (F11 : Option (Bool)) (F12 : (List (El T35)) → Option (List (El T35))) (F28 : (List (El T35)) → (El T35) → Option ((List (El T35)) × Int)) (F29 : (List (El T35)) → (El T35) → Option ((List (El T35)) × Int)) (F30 : (List (El T35)) → Int → Option ((List (El T35)) × Bool)) (F31 : (List (El T35)) → Int → Option ((List (El T35)) × Bool)) (F17 : (List (El T35)) → (List (El T35)) → Option (Bool)) (K : Nat) (a0 : List (El T35)) (a1 : El T35) (a2 : Int) : ∀ (n : Nat) (ps16 : Int) (ph22 : List (El T35)) (ph26 : List (El T35)) (ph32 : List (El T35)) (ph38 : List (El T35)) (ph44 : List (El T35)), loopN Try.prog (tab8 F10 F11 F12 F28 F29 F30 F31 F17) 0 K Try.f8 la8 dq8.k 0 [] n (hd8_0 a0 a1 a2 ps16 ph22 ph26 ph32 ph38 ph44) = L8_0 F10 F11 F12 F28 F29 F30 F31 F17 K a0 a1 a2 n ps16 ph22 ph26 ph32 ph38 ph44
  | 0, _, _, _, _, _, _ => by kernel_rfl
  | n + 1, ps16, ph22, ph26, ph32, ph38, ph44 => by
    have h : loopN Try.prog (tab8 F10 F11 F12 F28 F29 F30 F31 F17) 0 K Try.f8 la8 dq8.k 0 [] (n + 1) (hd8_0 a0 a1 a2 ps16 ph22 ph26 ph32 ph38 ph44) = b8_0 F10 F11 F12 F28 F29 F30 F31 F17 K a0 a1 a2 (fun q0 q1 q2 q3 q4 q5 => loopN Try.prog (tab8 F10 F11 F12 F28 F29 F30 F31 F17) 0 K Try.f8 la8 dq8.k 0 [] n (hd8_0 a0 a1 a2 q0 q1 q2 q3 q4 q5)) (fun k q0 q1 q2 q3 q4 q5 => loopN Try.prog (tab8 F10 F11 F12 F28 F29 F30 F31 F17) 0 K Try.f8 la8 dq8.k 1 [] k (hd8_1 a0 a1 a2 q0 q1 q2 q3 q4 q5)) ps16 ph22 ph26 ph32 ph38 ph44 := by kernel_rfl
    rw [h]
    simp only [lp8_0 F10 F11 F12 F28 F29 F30 F31 F17 K a0 a1 a2 n, lp8_1 F10 F11 F12 F28 F29 F30 F31 F17 K a0 a1 a2]
    rfl
theorem ev8 (F10 : (List (El T35)) → (List (El T35)) → Option (Bool)) (F11 : Option (Bool)) (F12 : (List (El T35)) → Option (List (El T35))) (F28 : (List (El T35)) → (El T35) → Option ((List (El T35)) × Int)) (F29 : (List (El T35)) → (El T35) → Option ((List (El T35)) × Int)) (F30 : (List (El T35)) → Int → Option ((List (El T35)) × Bool)) (F31 : (List (El T35)) → Int → Option ((List (El T35)) × Bool)) (F17 : (List (El T35)) → (List (El T35)) → Option (Bool)) (K : Nat) (a0 : List (El T35)) (a1 : El T35) (a2 : Int) : evFun Try.prog (tab8 F10 F11 F12 F28 F29 F30 F31 F17) 0 K Try.f8 la8 [.row T35 a0, .agg (cellsOf T35 a1), I .u32 a2] [] dq8.k = G8 F10 F11 F12 F28 F29 F30 F31 F17 K a0 a1 a2 := by
  have h : evFun Try.prog (tab8 F10 F11 F12 F28 F29 F30 F31 F17) 0 K Try.f8 la8 [.row T35 a0, .agg (cellsOf T35 a1), I .u32 a2] [] dq8.k = t8 F10 F11 F12 F28 F29 F30 F31 F17 K a0 a1 a2 (fun k q0 q1 q2 q3 q4 q5 => loopN Try.prog (tab8 F10 F11 F12 F28 F29 F30 F31 F17) 0 K Try.f8 la8 dq8.k 0 [] k (hd8_0 a0 a1 a2 q0 q1 q2 q3 q4 q5)) := by kernel_rfl
  rw [h]
  simp only [lp8_0 F10 F11 F12 F28 F29 F30 F31 F17 K a0 a1 a2]
  rfl
noncomputable def F8 (K : Nat) (a0 : List (El T35)) (a1 : El T35) (a2 : Int) : Option (Bool) := G8 (F10 K) (F11 K) (F12 K) (F28 K) (F29 K) (F30 K) (F31 K) (F17 K) K a0 a1 a2
theorem cok8 (K : Nat) : CallOK D Try.prog (tab8 (F10 K) (F11 K) (F12 K) (F28 K) (F29 K) (F30 K) (F31 K) (F17 K)) := (add_ok (add_ok (add_ok (add_ok (add_ok (add_ok (add_ok (add_ok none_ok ent10 (ok10 K)) ent11 (ok11 K)) ent12 (ok12 K)) ent28 (ok28 K)) ent29 (ok29 K)) ent30 (ok30 K)) ent31 (ok31 K)) ent17 (ok17 K))
theorem ok8 (K : Nat) : RowOK D Try.prog 8 (row ad8 dq8 fun p => F8 K p.1 p.2.1 p.2.2) := row_ok fun x r h => has_of (cok8 K) Try.func8 ((ev8 (F10 K) (F11 K) (F12 K) (F28 K) (F29 K) (F30 K) (F31 K) (F17 K) K x.1 x.2.1 x.2.2).trans h)
/-! ganger/gangerlaw03.RankBack -/
noncomputable def tab9 (F11 : Option (Bool)) (F14 : (List (El T35)) → Option ((List (El T35)) × Int)) (F28 : (List (El T35)) → (El T35) → Option ((List (El T35)) × Int)) (F17 : (List (El T35)) → (List (El T35)) → Option (Bool)) (F13 : (List (El T35)) → Option (Int)) (F30 : (List (El T35)) → Int → Option ((List (El T35)) × Bool)) : Tab := ((((((Tab.none.add 11 (row ad11 dq11 fun p => F11)).add 14 (row ad14 dq14 fun p => F14 p)).add 28 (row ad28 dq28 fun p => F28 p.1 p.2)).add 17 (row ad17 dq17 fun p => F17 p.1 p.2)).add 13 (row ad13 dq13 fun p => F13 p)).add 30 (row ad30 dq30 fun p => F30 p.1 p.2))
noncomputable def la9 : List (List Tidy) := [[.only [0, 1, 5, 7, 9, 10], .pro 9 59 35 (T35), .ids [5, 21, 23, 26, 34, 59, 67, 73, 91, 93, 98, 103, 109, 117, 123, 130, 133], .top [1000000]], [.only [0, 5, 7, 9, 13], .ids [5, 21, 23, 26, 34, 38, 49, 55, 59, 91, 93, 98, 103, 109, 117, 123, 130, 133], .top [1000001]], [.only [0, 5, 7, 9, 13, 14, 15], .ids [5, 21, 23, 26, 34, 38, 49, 55, 59, 67, 91, 93, 98, 103, 109, 117, 123, 130, 133], .top [1000002]]]
noncomputable def hd9_0 (a0 : List (El T35)) (a1 : Int) (a2 : El T35) (ps10 : Int) (ph26 : List (El T35)) (ph59 : List (El T35)) : St := { tm := slots (nat_lit 135) [(nat_lit 0, AV.row T35 a0), (nat_lit 1, AV.sc (Value.int IntKind.i64 a1)), (nat_lit 5, AV.ptr (nat_lit 5) (nat_lit 0)), (nat_lit 7, AV.own (nat_lit 26)), (nat_lit 9, AV.own (nat_lit 59)), (nat_lit 10, AV.sc (Value.int IntKind.i64 ps10))], H := [(nat_lit 5, ABlk.box (nat_lit 35) (cellsOf T35 a2)), (nat_lit 26, ABlk.arr (nat_lit 35) T35 ph26), (nat_lit 59, ABlk.arr (nat_lit 35) T35 ph59)] }
noncomputable def hd9_1 (a0 : List (El T35)) (a1 : Int) (a2 : El T35) (ps13 : Int) (ph26 : List (El T35)) (ph59 : List (El T35)) : St := { tm := slots (nat_lit 135) [(nat_lit 0, AV.row T35 a0), (nat_lit 5, AV.ptr (nat_lit 5) (nat_lit 0)), (nat_lit 7, AV.own (nat_lit 26)), (nat_lit 9, AV.own (nat_lit 59)), (nat_lit 13, AV.sc (Value.int IntKind.i64 ps13))], H := [(nat_lit 5, ABlk.box (nat_lit 35) (cellsOf T35 a2)), (nat_lit 26, ABlk.arr (nat_lit 35) T35 ph26), (nat_lit 59, ABlk.arr (nat_lit 35) T35 ph59)] }
noncomputable def hd9_2 (a0 : List (El T35)) (a1 : Int) (a2 : El T35) (ps13 : Int) (ps14 : Int) (ps15 : Int) (ph26 : List (El T35)) (ph59 : List (El T35)) : St := { tm := slots (nat_lit 135) [(nat_lit 0, AV.row T35 a0), (nat_lit 5, AV.ptr (nat_lit 5) (nat_lit 0)), (nat_lit 7, AV.own (nat_lit 26)), (nat_lit 9, AV.own (nat_lit 59)), (nat_lit 13, AV.sc (Value.int IntKind.i64 ps13)), (nat_lit 14, AV.sc (Value.int IntKind.i64 ps14)), (nat_lit 15, AV.sc (Value.int IntKind.i64 ps15))], H := [(nat_lit 5, ABlk.box (nat_lit 35) (cellsOf T35 a2)), (nat_lit 26, ABlk.arr (nat_lit 35) T35 ph26), (nat_lit 59, ABlk.arr (nat_lit 35) T35 ph59)] }
noncomputable def b9_2 (F11 : Option (Bool)) (F14 : (List (El T35)) → Option ((List (El T35)) × Int)) (F28 : (List (El T35)) → (El T35) → Option ((List (El T35)) × Int)) (F17 : (List (El T35)) → (List (El T35)) → Option (Bool)) (F13 : (List (El T35)) → Option (Int)) (F30 : (List (El T35)) → Int → Option ((List (El T35)) × Bool)) (K : Nat) (a0 : List (El T35)) (a1 : Int) (a2 : El T35) (r1 : Int → (List (El T35)) → (List (El T35)) → Option (Bool)) (r2 : Int → Int → Int → (List (El T35)) → (List (El T35)) → Option (Bool)) (ps13 : Int) (ps14 : Int) (ps15 : Int) (ph26 : List (El T35)) (ph59 : List (El T35)) : Option (Bool) :=(if decide (ps15 < (↑ph26.length : Int)) = true then (if decide ((0 : Int) ≤ ps15 ∧ ps15 < (↑ph26.length : Int)) = true then (if decide ((0 : Int) ≤ ps13 ∧ ps13 < (↑a0.length : Int)) = true then (if ((ph26.getD ps15.toNat (zEl T35)).1 == (a0.getD ps13.toNat (zEl T35)).1 && ((ph26.getD ps15.toNat (zEl T35)).2.1 == (a0.getD ps13.toNat (zEl T35)).2.1 && (ph26.getD ps15.toNat (zEl T35)).2.2 == (a0.getD ps13.toNat (zEl T35)).2.2)) = true then r2 (ps13) (IntKind.i64.wrap (ps14 + (1 : Int))) (IntKind.i64.wrap (ps15 + (1 : Int))) (ph26) (ph59)
     else r2 (ps13) (ps14) (IntKind.i64.wrap (ps15 + (1 : Int))) (ph26) (ph59))
    else none)
   else none)
  else (if (ps14 != (1 : Int)) = true then some (false)
   else r1 (IntKind.i64.wrap (ps13 + (1 : Int))) (ph26) (ph59)))
noncomputable def L9_2 (F11 : Option (Bool)) (F14 : (List (El T35)) → Option ((List (El T35)) × Int)) (F28 : (List (El T35)) → (El T35) → Option ((List (El T35)) × Int)) (F17 : (List (El T35)) → (List (El T35)) → Option (Bool)) (F13 : (List (El T35)) → Option (Int)) (F30 : (List (El T35)) → Int → Option ((List (El T35)) × Bool)) (K : Nat) (a0 : List (El T35)) (a1 : Int) (a2 : El T35) (r1 : Int → (List (El T35)) → (List (El T35)) → Option (Bool)) : Nat → Int → Int → Int → (List (El T35)) → (List (El T35)) → Option (Bool)
  | 0, _, _, _, _, _ => none
  | n + 1, ps13, ps14, ps15, ph26, ph59 => b9_2 F11 F14 F28 F17 F13 F30 K a0 a1 a2 r1 (L9_2 F11 F14 F28 F17 F13 F30 K a0 a1 a2 r1 n) ps13 ps14 ps15 ph26 ph59
noncomputable def b9_1 (F11 : Option (Bool)) (F14 : (List (El T35)) → Option ((List (El T35)) × Int)) (F28 : (List (El T35)) → (El T35) → Option ((List (El T35)) × Int)) (F17 : (List (El T35)) → (List (El T35)) → Option (Bool)) (F13 : (List (El T35)) → Option (Int)) (F30 : (List (El T35)) → Int → Option ((List (El T35)) × Bool)) (K : Nat) (a0 : List (El T35)) (a1 : Int) (a2 : El T35) (r1 : Int → (List (El T35)) → (List (El T35)) → Option (Bool)) (l2 : Nat → Int → Int → Int → (List (El T35)) → (List (El T35)) → Option (Bool)) (ps13 : Int) (ph26 : List (El T35)) (ph59 : List (El T35)) : Option (Bool) :=(if decide (ps13 < (↑a0.length : Int)) = true then l2 K (ps13) ((0 : Int)) ((0 : Int)) (ph26) (ph59)
  else (if ((↑ph26.length : Int) != (↑a0.length : Int)) = true then some (false)
   else 
    (Option.bind (F17 ph26 ph59) fun x4 => (if (!x4) = true then some (false)
     else 
      (Option.bind (F13 ph26) fun x5 => (if (x5 != (0 : Int)) = true then some (false)
       else 
        (Option.bind (F28 ph26 a2) fun x6 => (if (x6.2 != (0 : Int)) = true then (if (x6.2 == (30 : Int)) = true then 
           (Option.bind (F11) fun x7 => some (x7))
          else some (false))
         else 
          (Option.bind (F30 x6.1 a2.2.2) fun x8 => (if x8.2 = true then 
            (Option.bind (F17 x8.1 ph26) fun x9 => (if x9 = true then 
              (Option.bind (F11) fun x10 => some (x10))
             else some (false)))
           else some (false)))))))))))
noncomputable def L9_1 (F11 : Option (Bool)) (F14 : (List (El T35)) → Option ((List (El T35)) × Int)) (F28 : (List (El T35)) → (El T35) → Option ((List (El T35)) × Int)) (F17 : (List (El T35)) → (List (El T35)) → Option (Bool)) (F13 : (List (El T35)) → Option (Int)) (F30 : (List (El T35)) → Int → Option ((List (El T35)) × Bool)) (K : Nat) (a0 : List (El T35)) (a1 : Int) (a2 : El T35) : Nat → Int → (List (El T35)) → (List (El T35)) → Option (Bool)
  | 0, _, _, _ => none
  | n + 1, ps13, ph26, ph59 => b9_1 F11 F14 F28 F17 F13 F30 K a0 a1 a2 (L9_1 F11 F14 F28 F17 F13 F30 K a0 a1 a2 n) (L9_2 F11 F14 F28 F17 F13 F30 K a0 a1 a2 (L9_1 F11 F14 F28 F17 F13 F30 K a0 a1 a2 n)) ps13 ph26 ph59
noncomputable def b9_0 (F11 : Option (Bool)) (F14 : (List (El T35)) → Option ((List (El T35)) × Int)) (F28 : (List (El T35)) → (El T35) → Option ((List (El T35)) × Int)) (F17 : (List (El T35)) → (List (El T35)) → Option (Bool)) (F13 : (List (El T35)) → Option (Int)) (F30 : (List (El T35)) → Int → Option ((List (El T35)) × Bool)) (K : Nat) (a0 : List (El T35)) (a1 : Int) (a2 : El T35) (r0 : Int → (List (El T35)) → (List (El T35)) → Option (Bool)) (l1 : Nat → Int → (List (El T35)) → (List (El T35)) → Option (Bool)) (ps10 : Int) (ph26 : List (El T35)) (ph59 : List (El T35)) : Option (Bool) :=(if decide (ps10 < (↑a0.length : Int)) = true then (if (!IntKind.u64.wrap (↑a0.length : Int) == (0 : Int)) = true then (if (!(↑a0.length : Int) == (0 : Int)) = true then (if decide ((0 : Int) ≤ (IntKind.i64.wrap (ps10 + IntKind.i64.wrap ((IntKind.u64.wrap a1).tmod (IntKind.u64.wrap (↑a0.length : Int))))).tmod (↑a0.length : Int) ∧ (IntKind.i64.wrap (ps10 + IntKind.i64.wrap ((IntKind.u64.wrap a1).tmod (IntKind.u64.wrap (↑a0.length : Int))))).tmod (↑a0.length : Int) < (↑a0.length : Int)) = true then 
      (Option.bind (F28 ph59 (a0.getD ((IntKind.i64.wrap (ps10 + IntKind.i64.wrap ((IntKind.u64.wrap a1).tmod (IntKind.u64.wrap (↑a0.length : Int))))).tmod (↑a0.length : Int)).toNat (zEl T35))) fun x3 => (if (x3.2 != (0 : Int)) = true then some (false)
       else r0 (IntKind.i64.wrap (ps10 + (1 : Int))) (ph26) (x3.1)))
     else none)
    else none)
   else none)
  else l1 K ((0 : Int)) (ph26) (ph59))
noncomputable def L9_0 (F11 : Option (Bool)) (F14 : (List (El T35)) → Option ((List (El T35)) × Int)) (F28 : (List (El T35)) → (El T35) → Option ((List (El T35)) × Int)) (F17 : (List (El T35)) → (List (El T35)) → Option (Bool)) (F13 : (List (El T35)) → Option (Int)) (F30 : (List (El T35)) → Int → Option ((List (El T35)) × Bool)) (K : Nat) (a0 : List (El T35)) (a1 : Int) (a2 : El T35) : Nat → Int → (List (El T35)) → (List (El T35)) → Option (Bool)
  | 0, _, _, _ => none
  | n + 1, ps10, ph26, ph59 => b9_0 F11 F14 F28 F17 F13 F30 K a0 a1 a2 (L9_0 F11 F14 F28 F17 F13 F30 K a0 a1 a2 n) (L9_1 F11 F14 F28 F17 F13 F30 K a0 a1 a2) ps10 ph26 ph59
noncomputable def t9 (F11 : Option (Bool)) (F14 : (List (El T35)) → Option ((List (El T35)) × Int)) (F28 : (List (El T35)) → (El T35) → Option ((List (El T35)) × Int)) (F17 : (List (El T35)) → (List (El T35)) → Option (Bool)) (F13 : (List (El T35)) → Option (Int)) (F30 : (List (El T35)) → Int → Option ((List (El T35)) × Bool)) (K : Nat) (a0 : List (El T35)) (a1 : Int) (a2 : El T35) (l0 : Nat → Int → (List (El T35)) → (List (El T35)) → Option (Bool)) : Option (Bool) := (if decide ((↑a0.length : Int) > (60 : Int)) = true then 
  (Option.bind (F11) fun x0 => some (x0))
 else 
  (Option.bind (F14 a0) fun x1 => (if (x1.2 != (0 : Int)) = true then (if (x1.2 == (30 : Int)) = true then 
     (Option.bind (F11) fun x2 => some (x2))
    else some (false))
   else l0 K ((0 : Int)) (x1.1) ([]))))
noncomputable def G9 (F11 : Option (Bool)) (F14 : (List (El T35)) → Option ((List (El T35)) × Int)) (F28 : (List (El T35)) → (El T35) → Option ((List (El T35)) × Int)) (F17 : (List (El T35)) → (List (El T35)) → Option (Bool)) (F13 : (List (El T35)) → Option (Int)) (F30 : (List (El T35)) → Int → Option ((List (El T35)) × Bool)) (K : Nat) (a0 : List (El T35)) (a1 : Int) (a2 : El T35) : Option (Bool) := t9 F11 F14 F28 F17 F13 F30 K a0 a1 a2 (L9_0 F11 F14 F28 F17 F13 F30 K a0 a1 a2)
theorem lp9_2 (F11 : Option (Bool)) (F14 : (List (El T35)) → Option ((List (El T35)) × Int)) (F28 : (List (El T35)) → (El T35) → Option ((List (El T35)) × Int)) (F17 : (List (El T35)) → (List (El T35)) → Option (Bool)) (F13 : (List (El T35)) → Option (Int)) (F30 : (List (El T35)) → Int → Option ((List (El T35)) × Bool)) (K : Nat) (a0 : List (El T35)) (a1 : Int) (a2 : El T35) : ∀ (m1 : Nat) (n : Nat) (ps13 : Int) (ps14 : Int) (ps15 : Int) (ph26 : List (El T35)) (ph59 : List (El T35)), loopN Try.prog (tab9 F11 F14 F28 F17 F13 F30) 0 K Try.f9 la9 dq9.k 2 [m1] n (hd9_2 a0 a1 a2 ps13 ps14 ps15 ph26 ph59) = L9_2 F11 F14 F28 F17 F13 F30 K a0 a1 a2 (fun q0 q1 q2 => loopN Try.prog (tab9 F11 F14 F28 F17 F13 F30) 0 K Try.f9 la9 dq9.k 1 [] m1 (hd9_1 a0 a1 a2 q0 q1 q2)) n ps13 ps14 ps15 ph26 ph59
  | m1, 0, _, _, _, _, _ => by kernel_rfl
  | m1, n + 1, ps13, ps14, ps15, ph26, ph59 => by
    have h : loopN Try.prog (tab9 F11 F14 F28 F17 F13 F30) 0 K Try.f9 la9 dq9.k 2 [m1] (n + 1) (hd9_2 a0 a1 a2 ps13 ps14 ps15 ph26 ph59) = b9_2 F11 F14 F28 F17 F13 F30 K a0 a1 a2 (fun q0 q1 q2 => loopN Try.prog (tab9 F11 F14 F28 F17 F13 F30) 0 K Try.f9 la9 dq9.k 1 [] m1 (hd9_1 a0 a1 a2 q0 q1 q2)) (fun q0 q1 q2 q3 q4 => loopN Try.prog (tab9 F11 F14 F28 F17 F13 F30) 0 K Try.f9 la9 dq9.k 2 [m1] n (hd9_2 a0 a1 a2 q0 q1 q2 q3 q4)) ps13 ps14 ps15 ph26 ph59 := by kernel_rfl
    rw [h]
    simp only [lp9_2 F11 F14 F28 F17 F13 F30 K a0 a1 a2 m1 n]
    rfl
theorem lp9_1 (F11 : Option (Bool)) (F14 : (List (El T35)) → Option ((List (El T35)) × Int)) (F28 : (List (El T35)) → (El T35) → Option ((List (El T35)) × Int)) (F17 : (List (El T35)) → (List (El T35)) → Option (Bool)) (F13 : (List (El T35)) → Option (Int)) (F30 : (List (El T35)) → Int → Option ((List (El T35)) × Bool)) (K : Nat) (a0 : List (El T35)) (a1 : Int) (a2 : El T35) : ∀ (n : Nat) (ps13 : Int) (ph26 : List (El T35)) (ph59 : List (El T35)), loopN Try.prog (tab9 F11 F14 F28 F17 F13 F30) 0 K Try.f9 la9 dq9.k 1 [] n (hd9_1 a0 a1 a2 ps13 ph26 ph59) = L9_1 F11 F14 F28 F17 F13 F30 K a0 a1 a2 n ps13 ph26 ph59
  | 0, _, _, _ => by kernel_rfl
  | n + 1, ps13, ph26, ph59 => by
    have h : loopN Try.prog (tab9 F11 F14 F28 F17 F13 F30) 0 K Try.f9 la9 dq9.k 1 [] (n + 1) (hd9_1 a0 a1 a2 ps13 ph26 ph59) = b9_1 F11 F14 F28 F17 F13 F30 K a0 a1 a2 (fun q0 q1 q2 => loopN Try.prog (tab9 F11 F14 F28 F17 F13 F30) 0 K Try.f9 la9 dq9.k 1 [] n (hd9_1 a0 a1 a2 q0 q1 q2)) (fun k q0 q1 q2 q3 q4 => loopN Try.prog (tab9 F11 F14 F28 F17 F13 F30) 0 K Try.f9 la9 dq9.k 2 [n] k (hd9_2 a0 a1 a2 q0 q1 q2 q3 q4)) ps13 ph26 ph59 := by kernel_rfl
    rw [h]
    simp only [lp9_1 F11 F14 F28 F17 F13 F30 K a0 a1 a2 n, lp9_2 F11 F14 F28 F17 F13 F30 K a0 a1 a2 n]
    rfl
theorem lp9_0 (F11 : Option (Bool)) (F14 : (List (El T35)) → Option ((List (El T35)) × Int)) (F28 : (List (El T35)) → (El T35) → Option ((List (El T35)) × Int)) (F17 : (List (El T35)) → (List (El T35)) → Option (Bool)) (F13 : (List (El T35)) → Option (Int)) (F30 : (List (El T35)) → Int → Option ((List (El T35)) × Bool)) (K : Nat) (a0 : List (El T35)) (a1 : Int) (a2 : El T35) : ∀ (n : Nat) (ps10 : Int) (ph26 : List (El T35)) (ph59 : List (El T35)), loopN Try.prog (tab9 F11 F14 F28 F17 F13 F30) 0 K Try.f9 la9 dq9.k 0 [] n (hd9_0 a0 a1 a2 ps10 ph26 ph59) = L9_0 F11 F14 F28 F17 F13 F30 K a0 a1 a2 n ps10 ph26 ph59
  | 0, _, _, _ => by kernel_rfl
  | n + 1, ps10, ph26, ph59 => by
    have h : loopN Try.prog (tab9 F11 F14 F28 F17 F13 F30) 0 K Try.f9 la9 dq9.k 0 [] (n + 1) (hd9_0 a0 a1 a2 ps10 ph26 ph59) = b9_0 F11 F14 F28 F17 F13 F30 K a0 a1 a2 (fun q0 q1 q2 => loopN Try.prog (tab9 F11 F14 F28 F17 F13 F30) 0 K Try.f9 la9 dq9.k 0 [] n (hd9_0 a0 a1 a2 q0 q1 q2)) (fun k q0 q1 q2 => loopN Try.prog (tab9 F11 F14 F28 F17 F13 F30) 0 K Try.f9 la9 dq9.k 1 [] k (hd9_1 a0 a1 a2 q0 q1 q2)) ps10 ph26 ph59 := by kernel_rfl
    rw [h]
    simp only [lp9_0 F11 F14 F28 F17 F13 F30 K a0 a1 a2 n, lp9_1 F11 F14 F28 F17 F13 F30 K a0 a1 a2]
    rfl
theorem ev9 (F11 : Option (Bool)) (F14 : (List (El T35)) → Option ((List (El T35)) × Int)) (F28 : (List (El T35)) → (El T35) → Option ((List (El T35)) × Int)) (F17 : (List (El T35)) → (List (El T35)) → Option (Bool)) (F13 : (List (El T35)) → Option (Int)) (F30 : (List (El T35)) → Int → Option ((List (El T35)) × Bool)) (K : Nat) (a0 : List (El T35)) (a1 : Int) (a2 : El T35) : evFun Try.prog (tab9 F11 F14 F28 F17 F13 F30) 0 K Try.f9 la9 [.row T35 a0, I .i64 a1, .agg (cellsOf T35 a2)] [] dq9.k = G9 F11 F14 F28 F17 F13 F30 K a0 a1 a2 := by
  have h : evFun Try.prog (tab9 F11 F14 F28 F17 F13 F30) 0 K Try.f9 la9 [.row T35 a0, I .i64 a1, .agg (cellsOf T35 a2)] [] dq9.k = t9 F11 F14 F28 F17 F13 F30 K a0 a1 a2 (fun k q0 q1 q2 => loopN Try.prog (tab9 F11 F14 F28 F17 F13 F30) 0 K Try.f9 la9 dq9.k 0 [] k (hd9_0 a0 a1 a2 q0 q1 q2)) := by kernel_rfl
  rw [h]
  simp only [lp9_0 F11 F14 F28 F17 F13 F30 K a0 a1 a2]
  rfl
noncomputable def F9 (K : Nat) (a0 : List (El T35)) (a1 : Int) (a2 : El T35) : Option (Bool) := G9 (F11 K) (F14 K) (F28 K) (F17 K) (F13 K) (F30 K) K a0 a1 a2
theorem cok9 (K : Nat) : CallOK D Try.prog (tab9 (F11 K) (F14 K) (F28 K) (F17 K) (F13 K) (F30 K)) := (add_ok (add_ok (add_ok (add_ok (add_ok (add_ok none_ok ent11 (ok11 K)) ent14 (ok14 K)) ent28 (ok28 K)) ent17 (ok17 K)) ent13 (ok13 K)) ent30 (ok30 K))
theorem ok9 (K : Nat) : RowOK D Try.prog 9 (row ad9 dq9 fun p => F9 K p.1 p.2.1 p.2.2) := row_ok fun x r h => has_of (cok9 K) Try.func9 ((ev9 (F11 K) (F14 K) (F28 K) (F17 K) (F13 K) (F30 K) K x.1 x.2.1 x.2.2).trans h)
end Go.Proofs.YtcnfilanbmkpaaaE
