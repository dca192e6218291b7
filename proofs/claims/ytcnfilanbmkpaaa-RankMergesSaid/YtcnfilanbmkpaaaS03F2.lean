import Derived.Test.YtcnfilanbmkpaaaS03F1
set_option linter.all false
namespace Go.Proofs.YtcnfilanbmkpaaaE
open Go Go.Proofs
set_option maxRecDepth 100000
set_option linter.unusedVariables false
variable {D : Prop}
/-! ganger/rank.compare -/
noncomputable def tab34 (F49 : Int → Int → Option (Int)) (F50 : Int → Int → Option (Int)) (F48 : (List (El (.int .i64))) → Option (Int)) : Tab := (((Tab.none.add 49 (row ad49 dq49 fun p => F49 p.1 p.2)).add 50 (row ad50 dq50 fun p => F50 p.1 p.2)).add 48 (row ad48 dq48 fun p => F48 p))
noncomputable def t34 (F49 : Int → Int → Option (Int)) (F50 : Int → Int → Option (Int)) (F48 : (List (El (.int .i64))) → Option (Int)) (K : Nat) (a0 : El T35) (a1 : El T35) : Option (Int) := 
 (Option.bind (F49 a1.1 a0.1) fun x0 => 
  (Option.bind (F49 a0.2.1 a1.2.1) fun x1 => 
   (Option.bind (F50 a0.2.2 a1.2.2) fun x2 => 
    (Option.bind (F48 [x0, x1, x2]) fun x3 => some (x3)))))
noncomputable def G34 (F49 : Int → Int → Option (Int)) (F50 : Int → Int → Option (Int)) (F48 : (List (El (.int .i64))) → Option (Int)) (K : Nat) (a0 : El T35) (a1 : El T35) : Option (Int) := t34 F49 F50 F48 K a0 a1
theorem ev34 (F49 : Int → Int → Option (Int)) (F50 : Int → Int → Option (Int)) (F48 : (List (El (.int .i64))) → Option (Int)) (K : Nat) (a0 : El T35) (a1 : El T35) : evFun Try.prog (tab34 F49 F50 F48) 0 K Try.f34 [] [.agg (cellsOf T35 a0), .agg (cellsOf T35 a1)] [] dq34.k = G34 F49 F50 F48 K a0 a1 := by
  kernel_rfl
noncomputable def F34 (K : Nat) (a0 : El T35) (a1 : El T35) : Option (Int) := G34 (F49 K) (F50 K) (F48 K) K a0 a1
theorem cok34 (K : Nat) : CallOK D Try.prog (tab34 (F49 K) (F50 K) (F48 K)) := (add_ok (add_ok (add_ok none_ok ent49 (ok49 K)) ent50 (ok50 K)) ent48 (ok48 K))
theorem ok34 (K : Nat) : RowOK D Try.prog 34 (row ad34 dq34 fun p => F34 K p.1 p.2) := row_ok fun x r h => has_of (cok34 K) Try.func34 ((ev34 (F49 K) (F50 K) (F48 K) K x.1 x.2).trans h)
/-! ganger/rank.Less -/
noncomputable def tab18 (F34 : (El T35) → (El T35) → Option (Int)) : Tab := (Tab.none.add 34 (row ad34 dq34 fun p => F34 p.1 p.2))
noncomputable def t18 (F34 : (El T35) → (El T35) → Option (Int)) (K : Nat) (a0 : El T35) (a1 : El T35) : Option (Bool) := 
 (Option.bind (F34 a0 a1) fun x0 => some (decide (x0 < (0 : Int))))
noncomputable def G18 (F34 : (El T35) → (El T35) → Option (Int)) (K : Nat) (a0 : El T35) (a1 : El T35) : Option (Bool) := t18 F34 K a0 a1
theorem ev18 (F34 : (El T35) → (El T35) → Option (Int)) (K : Nat) (a0 : El T35) (a1 : El T35) : evFun Try.prog (tab18 F34) 0 K Try.f18 [] [.agg (cellsOf T35 a0), .agg (cellsOf T35 a1)] [] dq18.k = G18 F34 K a0 a1 := by
  kernel_rfl
noncomputable def F18 (K : Nat) (a0 : El T35) (a1 : El T35) : Option (Bool) := G18 (F34 K) K a0 a1
theorem cok18 (K : Nat) : CallOK D Try.prog (tab18 (F34 K)) := (add_ok none_ok ent34 (ok34 K))
theorem ok18 (K : Nat) : RowOK D Try.prog 18 (row ad18 dq18 fun p => F18 K p.1 p.2) := row_ok fun x r h => has_of (cok18 K) Try.func18 ((ev18 (F34 K) K x.1 x.2).trans h)
/-! slices.IsSortedFunc[[]ganger/api.Key,ganger/api.Key] -/
noncomputable def tab33 (F34 : (El T35) → (El T35) → Option (Int)) : Tab := (Tab.none.add 34 (row ad34 dq34 fun p => F34 p.1 p.2))
noncomputable def la33 : List (List Tidy) := [[.only [0, 1, 5], .ids [7], .top [1000000]]]
noncomputable def hd33_0 (a0 : List (El T35)) (a1 : Unit) (ps5 : Int) : St := { tm := slots (nat_lit 25) [(nat_lit 0, AV.row T35 a0), (nat_lit 1, AV.fn (nat_lit 34) []), (nat_lit 5, AV.sc (Value.int IntKind.i64 ps5))], H := [] }
noncomputable def b33_0 (F34 : (El T35) → (El T35) → Option (Int)) (K : Nat) (a0 : List (El T35)) (a1 : Unit) (r0 : Int → Option (Bool)) (ps5 : Int) : Option (Bool) :=(if decide (ps5 > (0 : Int)) = true then (if decide ((0 : Int) ≤ ps5 ∧ ps5 < (↑a0.length : Int)) = true then (if decide ((0 : Int) ≤ IntKind.i64.wrap (ps5 - (1 : Int)) ∧ IntKind.i64.wrap (ps5 - (1 : Int)) < (↑a0.length : Int)) = true then 
     (Option.bind (F34 (a0.getD ps5.toNat (zEl T35)) (a0.getD (IntKind.i64.wrap (ps5 - (1 : Int))).toNat (zEl T35))) fun x0 => (if decide (x0 < (0 : Int)) = true then some (false)
      else r0 (IntKind.i64.wrap (ps5 - (1 : Int)))))
    else none)
   else none)
  else some (true))
noncomputable def L33_0 (F34 : (El T35) → (El T35) → Option (Int)) (K : Nat) (a0 : List (El T35)) (a1 : Unit) : Nat → Int → Option (Bool)
  | 0, _ => none
  | n + 1, ps5 => b33_0 F34 K a0 a1 (L33_0 F34 K a0 a1 n) ps5
noncomputable def t33 (F34 : (El T35) → (El T35) → Option (Int)) (K : Nat) (a0 : List (El T35)) (a1 : Unit) (l0 : Nat → Int → Option (Bool)) : Option (Bool) := l0 K (IntKind.i64.wrap ((↑a0.length : Int) - (1 : Int)))
noncomputable def G33 (F34 : (El T35) → (El T35) → Option (Int)) (K : Nat) (a0 : List (El T35)) (a1 : Unit) : Option (Bool) := t33 F34 K a0 a1 (L33_0 F34 K a0 a1)
theorem lp33_0 (F34 : (El T35) → (El T35) → Option (Int)) (K : Nat) (a0 : List (El T35)) (a1 : Unit) : ∀ (n : Nat) (ps5 : Int), loopN Try.prog (tab33 F34) 0 K Try.f33 la33 dq33.k 0 [] n (hd33_0 a0 a1 ps5) = L33_0 F34 K a0 a1 n ps5
  | 0, _ => by kernel_rfl
  | n + 1, ps5 => by
    have h : loopN Try.prog (tab33 F34) 0 K Try.f33 la33 dq33.k 0 [] (n + 1) (hd33_0 a0 a1 ps5) = b33_0 F34 K a0 a1 (fun q0 => loopN Try.prog (tab33 F34) 0 K Try.f33 la33 dq33.k 0 [] n (hd33_0 a0 a1 q0)) ps5 := by kernel_rfl
    rw [h]
    simp only [lp33_0 F34 K a0 a1 n]
    rfl
theorem ev33 (F34 : (El T35) → (El T35) → Option (Int)) (K : Nat) (a0 : List (El T35)) (a1 : Unit) : evFun Try.prog (tab33 F34) 0 K Try.f33 la33 [.row T35 a0, .fn 34 []] [] dq33.k = G33 F34 K a0 a1 := by
  have h : evFun Try.prog (tab33 F34) 0 K Try.f33 la33 [.row T35 a0, .fn 34 []] [] dq33.k = t33 F34 K a0 a1 (fun k q0 => loopN Try.prog (tab33 F34) 0 K Try.f33 la33 dq33.k 0 [] k (hd33_0 a0 a1 q0)) := by kernel_rfl
  rw [h]
  simp only [lp33_0 F34 K a0 a1]
  rfl
noncomputable def F33 (K : Nat) (a0 : List (El T35)) (a1 : Unit) : Option (Bool) := G33 (F34 K) K a0 a1
theorem cok33 (K : Nat) : CallOK D Try.prog (tab33 (F34 K)) := (add_ok none_ok ent34 (ok34 K))
theorem ok33 (K : Nat) : RowOK D Try.prog 33 (row ad33 dq33 fun p => F33 K p.1 p.2) := row_ok fun x r h => has_of (cok33 K) Try.func33 ((ev33 (F34 K) K x.1 x.2).trans h)
/-! ganger/gangerlaw03.copied -/
noncomputable def tab12 : Tab := Tab.none
noncomputable def t12 (K : Nat) (a0 : List (El T35)) : Option (List (El T35)) := (if decide (a0.length * Try.prog.types[(35 : Nat)].bytes ≤ (140737488355328 : Nat)) = true then some (a0)
 else none)
noncomputable def G12 (K : Nat) (a0 : List (El T35)) : Option (List (El T35)) := t12 K a0
theorem ev12 (K : Nat) (a0 : List (El T35)) : evFun Try.prog (tab12) 0 K Try.f12 [] [.row T35 a0] [] dq12.k = G12 K a0 := by
  kernel_rfl
noncomputable def F12 (K : Nat) (a0 : List (El T35)) : Option (List (El T35)) := G12 K a0
theorem cok12 (K : Nat) : CallOK D Try.prog (tab12) := none_ok
theorem ok12 (K : Nat) : RowOK D Try.prog 12 (row ad12 dq12 fun p => F12 K p) := row_ok fun x r h => has_of (cok12 K) Try.func12 ((ev12 K x).trans h)
/-! ganger/gangerref03.Twice -/
noncomputable def tab37 : Tab := Tab.none
noncomputable def la37 : List (List Tidy) := [[.only [0, 3], .ids [], .top [1000000]], [.only [0, 3, 4], .ids [7], .top [1000001]]]
noncomputable def hd37_0 (a0 : List (El T35)) (ps3 : Int) : St := { tm := slots (nat_lit 27) [(nat_lit 0, AV.row T35 a0), (nat_lit 3, AV.sc (Value.int IntKind.i64 ps3))], H := [] }
noncomputable def hd37_1 (a0 : List (El T35)) (ps3 : Int) (ps4 : Int) : St := { tm := slots (nat_lit 27) [(nat_lit 0, AV.row T35 a0), (nat_lit 3, AV.sc (Value.int IntKind.i64 ps3)), (nat_lit 4, AV.sc (Value.int IntKind.i64 ps4))], H := [] }
noncomputable def b37_1 (K : Nat) (a0 : List (El T35)) (r0 : Int → Option (Bool)) (r1 : Int → Int → Option (Bool)) (ps3 : Int) (ps4 : Int) : Option (Bool) :=(if decide (ps4 < ps3) = true then (if decide ((0 : Int) ≤ ps4 ∧ ps4 < (↑a0.length : Int)) = true then (if decide ((0 : Int) ≤ ps3 ∧ ps3 < (↑a0.length : Int)) = true then (if ((a0.getD ps4.toNat (zEl T35)).2.2 == (a0.getD ps3.toNat (zEl T35)).2.2) = true then some (true)
     else r1 (ps3) (IntKind.i64.wrap (ps4 + (1 : Int))))
    else none)
   else none)
  else r0 (IntKind.i64.wrap (ps3 + (1 : Int))))
noncomputable def L37_1 (K : Nat) (a0 : List (El T35)) (r0 : Int → Option (Bool)) : Nat → Int → Int → Option (Bool)
  | 0, _, _ => none
  | n + 1, ps3, ps4 => b37_1 K a0 r0 (L37_1 K a0 r0 n) ps3 ps4
noncomputable def b37_0 (K : Nat) (a0 : List (El T35)) (r0 : Int → Option (Bool)) (l1 : Nat → Int → Int → Option (Bool)) (ps3 : Int) : Option (Bool) :=(if decide (ps3 < (↑a0.length : Int)) = true then l1 K (ps3) ((0 : Int))
  else some (false))
noncomputable def L37_0 (K : Nat) (a0 : List (El T35)) : Nat → Int → Option (Bool)
  | 0, _ => none
  | n + 1, ps3 => b37_0 K a0 (L37_0 K a0 n) (L37_1 K a0 (L37_0 K a0 n)) ps3
noncomputable def t37 (K : Nat) (a0 : List (El T35)) (l0 : Nat → Int → Option (Bool)) : Option (Bool) := l0 K ((0 : Int))
noncomputable def G37 (K : Nat) (a0 : List (El T35)) : Option (Bool) := t37 K a0 (L37_0 K a0)
theorem lp37_1 (K : Nat) (a0 : List (El T35)) : ∀ (m0 : Nat) (n : Nat) (ps3 : Int) (ps4 : Int), loopN Try.prog (tab37) 0 K Try.f37 la37 dq37.k 1 [m0] n (hd37_1 a0 ps3 ps4) = L37_1 K a0 (fun q0 => loopN Try.prog (tab37) 0 K Try.f37 la37 dq37.k 0 [] m0 (hd37_0 a0 q0)) n ps3 ps4
  | m0, 0, _, _ => by kernel_rfl
  | m0, n + 1, ps3, ps4 => by
    have h : loopN Try.prog (tab37) 0 K Try.f37 la37 dq37.k 1 [m0] (n + 1) (hd37_1 a0 ps3 ps4) = b37_1 K a0 (fun q0 => loopN Try.prog (tab37) 0 K Try.f37 la37 dq37.k 0 [] m0 (hd37_0 a0 q0)) (fun q0 q1 => loopN Try.prog (tab37) 0 K Try.f37 la37 dq37.k 1 [m0] n (hd37_1 a0 q0 q1)) ps3 ps4 := by kernel_rfl
    rw [h]
    simp only [lp37_1 K a0 m0 n]
    rfl
theorem lp37_0 (K : Nat) (a0 : List (El T35)) : ∀ (n : Nat) (ps3 : Int), loopN Try.prog (tab37) 0 K Try.f37 la37 dq37.k 0 [] n (hd37_0 a0 ps3) = L37_0 K a0 n ps3
  | 0, _ => by kernel_rfl
  | n + 1, ps3 => by
    have h : loopN Try.prog (tab37) 0 K Try.f37 la37 dq37.k 0 [] (n + 1) (hd37_0 a0 ps3) = b37_0 K a0 (fun q0 => loopN Try.prog (tab37) 0 K Try.f37 la37 dq37.k 0 [] n (hd37_0 a0 q0)) (fun k q0 q1 => loopN Try.prog (tab37) 0 K Try.f37 la37 dq37.k 1 [n] k (hd37_1 a0 q0 q1)) ps3 := by kernel_rfl
    rw [h]
    simp only [lp37_0 K a0 n, lp37_1 K a0 n]
    rfl
theorem ev37 (K : Nat) (a0 : List (El T35)) : evFun Try.prog (tab37) 0 K Try.f37 la37 [.row T35 a0] [] dq37.k = G37 K a0 := by
  have h : evFun Try.prog (tab37) 0 K Try.f37 la37 [.row T35 a0] [] dq37.k = t37 K a0 (fun k q0 => loopN Try.prog (tab37) 0 K Try.f37 la37 dq37.k 0 [] k (hd37_0 a0 q0)) := by kernel_rfl
  rw [h]
  simp only [lp37_0 K a0]
  rfl
noncomputable def F37 (K : Nat) (a0 : List (El T35)) : Option (Bool) := G37 K a0
theorem cok37 (K : Nat) : CallOK D Try.prog (tab37) := none_ok
theorem ok37 (K : Nat) : RowOK D Try.prog 37 (row ad37 dq37 fun p => F37 K p) := row_ok fun x r h => has_of (cok37 K) Try.func37 ((ev37 K x).trans h)
/-! ganger/gangerref03.Less -/
noncomputable def tab19 : Tab := Tab.none
noncomputable def t19 (K : Nat) (a0 : El T35) (a1 : El T35) : Option (Bool) := (if (a0.1 != a1.1) = true then some (decide (a0.1 > a1.1))
 else (if (a0.2.1 != a1.2.1) = true then some (decide (a0.2.1 < a1.2.1))
  else some (decide (a0.2.2 < a1.2.2))))
noncomputable def G19 (K : Nat) (a0 : El T35) (a1 : El T35) : Option (Bool) := t19 K a0 a1
theorem ev19 (K : Nat) (a0 : El T35) (a1 : El T35) : evFun Try.prog (tab19) 0 K Try.f19 [] [.agg (cellsOf T35 a0), .agg (cellsOf T35 a1)] [] dq19.k = G19 K a0 a1 := by
  kernel_rfl
noncomputable def F19 (K : Nat) (a0 : El T35) (a1 : El T35) : Option (Bool) := G19 K a0 a1
theorem cok19 (K : Nat) : CallOK D Try.prog (tab19) := none_ok
theorem ok19 (K : Nat) : RowOK D Try.prog 19 (row ad19 dq19 fun p => F19 K p.1 p.2) := row_ok fun x r h => has_of (cok19 K) Try.func19 ((ev19 K x.1 x.2).trans h)
/-! ganger/gangerref03.lay -/
noncomputable def tab38 (F19 : (El T35) → (El T35) → Option (Bool)) : Tab := (Tab.none.add 19 (row ad19 dq19 fun p => F19 p.1 p.2))
noncomputable def la38 : List (List Tidy) := [[.only [0, 3, 5, 6], .pro 5 25 35 (T35), .ids [3, 25, 30, 31, 35, 36], .top [1000000]]]
noncomputable def hd38_0 (a0 : List (El T35)) (a1 : El T35) (ps6 : Int) (ph25 : List (El T35)) : St := { tm := slots (nat_lit 37) [(nat_lit 0, AV.row T35 a0), (nat_lit 3, AV.ptr (nat_lit 3) (nat_lit 0)), (nat_lit 5, AV.own (nat_lit 25)), (nat_lit 6, AV.sc (Value.int IntKind.i64 ps6))], H := [(nat_lit 3, ABlk.box (nat_lit 35) (cellsOf T35 a1)), (nat_lit 25, ABlk.arr (nat_lit 35) T35 ph25)] }
noncomputable def b38_0 (F19 : (El T35) → (El T35) → Option (Bool)) (K : Nat) (a0 : List (El T35)) (a1 : El T35) (r0 : Int → (List (El T35)) → Option (List (El T35))) (ps6 : Int) (ph25 : List (El T35)) : Option (List (El T35)) :=(if decide (ps6 < (↑a0.length : Int)) = true then (if decide ((0 : Int) ≤ ps6 ∧ ps6 < (↑a0.length : Int)) = true then 
    (Option.bind (F19 (a0.getD ps6.toNat (zEl T35)) a1) fun x0 => (if x0 = true then (if decide ((0 : Int) ≤ ps6 ∧ ps6 < (↑a0.length : Int)) = true then (if decide ((ph25.length + [a0.getD ps6.toNat (zEl T35)].length) * Try.prog.types[(35 : Nat)].bytes ≤ (140737488355328 : Nat)) = true then r0 (IntKind.i64.wrap (ps6 + (1 : Int))) (ph25 ++ [a0.getD ps6.toNat (zEl T35)])
       else none)
      else none)
     else (if decide ((ph25.length + [a1].length) * Try.prog.types[(35 : Nat)].bytes ≤ (140737488355328 : Nat)) = true then (if decide ((0 : Int) ≤ ps6 ∧ ps6 ≤ (↑a0.length : Int) ∧ (↑a0.length : Int) ≤ (↑a0.length : Int)) = true then (if decide (((ph25 ++ [a1]).length + (List.drop ps6.toNat (List.take (↑a0.length : Int).toNat a0)).length) * Try.prog.types[(35 : Nat)].bytes ≤ (140737488355328 : Nat)) = true then some (ph25 ++ [a1] ++ List.drop ps6.toNat (List.take (↑a0.length : Int).toNat a0))
        else none)
       else none)
      else none)))
   else none)
  else (if decide ((ph25.length + [a1].length) * Try.prog.types[(35 : Nat)].bytes ≤ (140737488355328 : Nat)) = true then (if decide ((0 : Int) ≤ ps6 ∧ ps6 ≤ (↑a0.length : Int) ∧ (↑a0.length : Int) ≤ (↑a0.length : Int)) = true then (if decide (((ph25 ++ [a1]).length + (List.drop ps6.toNat (List.take (↑a0.length : Int).toNat a0)).length) * Try.prog.types[(35 : Nat)].bytes ≤ (140737488355328 : Nat)) = true then some (ph25 ++ [a1] ++ List.drop ps6.toNat (List.take (↑a0.length : Int).toNat a0))
     else none)
    else none)
   else none))
noncomputable def L38_0 (F19 : (El T35) → (El T35) → Option (Bool)) (K : Nat) (a0 : List (El T35)) (a1 : El T35) : Nat → Int → (List (El T35)) → Option (List (El T35))
  | 0, _, _ => none
  | n + 1, ps6, ph25 => b38_0 F19 K a0 a1 (L38_0 F19 K a0 a1 n) ps6 ph25
noncomputable def t38 (F19 : (El T35) → (El T35) → Option (Bool)) (K : Nat) (a0 : List (El T35)) (a1 : El T35) (l0 : Nat → Int → (List (El T35)) → Option (List (El T35))) : Option (List (El T35)) := l0 K ((0 : Int)) ([])
noncomputable def G38 (F19 : (El T35) → (El T35) → Option (Bool)) (K : Nat) (a0 : List (El T35)) (a1 : El T35) : Option (List (El T35)) := t38 F19 K a0 a1 (L38_0 F19 K a0 a1)
theorem lp38_0 (F19 : (El T35) → (El T35) → Option (Bool)) (K : Nat) (a0 : List (El T35)) (a1 : El T35) : ∀ (n : Nat) (ps6 : Int) (ph25 : List (El T35)), loopN Try.prog (tab38 F19) 0 K Try.f38 la38 dq38.k 0 [] n (hd38_0 a0 a1 ps6 ph25) = L38_0 F19 K a0 a1 n ps6 ph25
  | 0, _, _ => by kernel_rfl
  | n + 1, ps6, ph25 => by
    have h : loopN Try.prog (tab38 F19) 0 K Try.f38 la38 dq38.k 0 [] (n + 1) (hd38_0 a0 a1 ps6 ph25) = b38_0 F19 K a0 a1 (fun q0 q1 => loopN Try.prog (tab38 F19) 0 K Try.f38 la38 dq38.k 0 [] n (hd38_0 a0 a1 q0 q1)) ps6 ph25 := by kernel_rfl
    rw [h]
    simp only [lp38_0 F19 K a0 a1 n]
    rfl
theorem ev38 (F19 : (El T35) → (El T35) → Option (Bool)) (K : Nat) (a0 : List (El T35)) (a1 : El T35) : evFun Try.prog (tab38 F19) 0 K Try.f38 la38 [.row T35 a0, .agg (cellsOf T35 a1)] [] dq38.k = G38 F19 K a0 a1 := by
  have h : evFun Try.prog (tab38 F19) 0 K Try.f38 la38 [.row T35 a0, .agg (cellsOf T35 a1)] [] dq38.k = t38 F19 K a0 a1 (fun k q0 q1 => loopN Try.prog (tab38 F19) 0 K Try.f38 la38 dq38.k 0 [] k (hd38_0 a0 a1 q0 q1)) := by kernel_rfl
  rw [h]
  simp only [lp38_0 F19 K a0 a1]
  rfl
noncomputable def F38 (K : Nat) (a0 : List (El T35)) (a1 : El T35) : Option (List (El T35)) := G38 (F19 K) K a0 a1
theorem cok38 (K : Nat) : CallOK D Try.prog (tab38 (F19 K)) := (add_ok none_ok ent19 (ok19 K))
theorem ok38 (K : Nat) : RowOK D Try.prog 38 (row ad38 dq38 fun p => F38 K p.1 p.2) := row_ok fun x r h => has_of (cok38 K) Try.func38 ((ev38 (F19 K) K x.1 x.2).trans h)
/-! ganger/gangerref03.Sort -/
noncomputable def tab15 (F37 : (List (El T35)) → Option (Bool)) (F38 : (List (El T35)) → (El T35) → Option (List (El T35))) : Tab := ((Tab.none.add 37 (row ad37 dq37 fun p => F37 p)).add 38 (row ad38 dq38 fun p => F38 p.1 p.2))
noncomputable def la15 : List (List Tidy) := [[.only [0, 4, 5], .pro 4 19 35 (T35), .ids [7, 19], .top [1000000]]]
noncomputable def hd15_0 (a0 : List (El T35)) (ps5 : Int) (ph19 : List (El T35)) : St := { tm := slots (nat_lit 21) [(nat_lit 0, AV.row T35 a0), (nat_lit 4, AV.own (nat_lit 19)), (nat_lit 5, AV.sc (Value.int IntKind.i64 ps5))], H := [(nat_lit 19, ABlk.arr (nat_lit 35) T35 ph19)] }
noncomputable def b15_0 (F37 : (List (El T35)) → Option (Bool)) (F38 : (List (El T35)) → (El T35) → Option (List (El T35))) (K : Nat) (a0 : List (El T35)) (r0 : Int → (List (El T35)) → Option ((List (El T35)) × Int)) (ps5 : Int) (ph19 : List (El T35)) : Option ((List (El T35)) × Int) :=(if decide (ps5 < (↑a0.length : Int)) = true then (if decide ((0 : Int) ≤ ps5 ∧ ps5 < (↑a0.length : Int)) = true then 
    (Option.bind (F38 ph19 (a0.getD ps5.toNat (zEl T35))) fun x1 => r0 (IntKind.i64.wrap (ps5 + (1 : Int))) (x1))
   else none)
  else some ((ph19, (0 : Int))))
noncomputable def L15_0 (F37 : (List (El T35)) → Option (Bool)) (F38 : (List (El T35)) → (El T35) → Option (List (El T35))) (K : Nat) (a0 : List (El T35)) : Nat → Int → (List (El T35)) → Option ((List (El T35)) × Int)
  | 0, _, _ => none
  | n + 1, ps5, ph19 => b15_0 F37 F38 K a0 (L15_0 F37 F38 K a0 n) ps5 ph19
noncomputable def t15 (F37 : (List (El T35)) → Option (Bool)) (F38 : (List (El T35)) → (El T35) → Option (List (El T35))) (K : Nat) (a0 : List (El T35)) (l0 : Nat → Int → (List (El T35)) → Option ((List (El T35)) × Int)) : Option ((List (El T35)) × Int) := 
 (Option.bind (F37 a0) fun x0 => (if x0 = true then some (([], (30 : Int)))
  else l0 K ((0 : Int)) ([])))
noncomputable def G15 (F37 : (List (El T35)) → Option (Bool)) (F38 : (List (El T35)) → (El T35) → Option (List (El T35))) (K : Nat) (a0 : List (El T35)) : Option ((List (El T35)) × Int) := t15 F37 F38 K a0 (L15_0 F37 F38 K a0)
theorem lp15_0 (F37 : (List (El T35)) → Option (Bool)) (F38 : (List (El T35)) → (El T35) → Option (List (El T35))) (K : Nat) (a0 : List (El T35)) : ∀ (n : Nat) (ps5 : Int) (ph19 : List (El T35)), loopN Try.prog (tab15 F37 F38) 0 K Try.f15 la15 dq15.k 0 [] n (hd15_0 a0 ps5 ph19) = L15_0 F37 F38 K a0 n ps5 ph19
  | 0, _, _ => by kernel_rfl
  | n + 1, ps5, ph19 => by
    have h : loopN Try.prog (tab15 F37 F38) 0 K Try.f15 la15 dq15.k 0 [] (n + 1) (hd15_0 a0 ps5 ph19) = b15_0 F37 F38 K a0 (fun q0 q1 => loopN Try.prog (tab15 F37 F38) 0 K Try.f15 la15 dq15.k 0 [] n (hd15_0 a0 q0 q1)) ps5 ph19 := by kernel_rfl
    rw [h]
    simp only [lp15_0 F37 F38 K a0 n]
    rfl
theorem ev15 (F37 : (List (El T35)) → Option (Bool)) (F38 : (List (El T35)) → (El T35) → Option (List (El T35))) (K : Nat) (a0 : List (El T35)) : evFun Try.prog (tab15 F37 F38) 0 K Try.f15 la15 [.row T35 a0] [] dq15.k = G15 F37 F38 K a0 := by
  have h : evFun Try.prog (tab15 F37 F38) 0 K Try.f15 la15 [.row T35 a0] [] dq15.k = t15 F37 F38 K a0 (fun k q0 q1 => loopN Try.prog (tab15 F37 F38) 0 K Try.f15 la15 dq15.k 0 [] k (hd15_0 a0 q0 q1)) := by kernel_rfl
  rw [h]
  simp only [lp15_0 F37 F38 K a0]
  rfl
noncomputable def F15 (K : Nat) (a0 : List (El T35)) : Option ((List (El T35)) × Int) := G15 (F37 K) (F38 K) K a0
theorem cok15 (K : Nat) : CallOK D Try.prog (tab15 (F37 K) (F38 K)) := (add_ok (add_ok none_ok ent37 (ok37 K)) ent38 (ok38 K))
theorem ok15 (K : Nat) : RowOK D Try.prog 15 (row ad15 dq15 fun p => F15 K p) := row_ok fun x r h => has_of (cok15 K) Try.func15 ((ev15 (F37 K) (F38 K) K x).trans h)
end Go.Proofs.YtcnfilanbmkpaaaE
