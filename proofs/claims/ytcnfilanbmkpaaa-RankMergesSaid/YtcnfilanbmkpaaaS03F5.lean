import Derived.Test.YtcnfilanbmkpaaaS03F4
set_option linter.all false
namespace Go.Proofs.YtcnfilanbmkpaaaE
open Go Go.Proofs
set_option maxRecDepth 100000
set_option linter.unusedVariables false
variable {D : Prop}
/-! ganger/rank.Put$1 -/
noncomputable def tab43 : Tab := Tab.none
noncomputable def t43 (K : Nat) (a0 : El T35) (a1 : El T35) : Option (Bool) := some (a0.2.2 == a1.2.2)
noncomputable def G43 (K : Nat) (a0 : El T35) (a1 : El T35) : Option (Bool) := t43 K a0 a1
theorem ev43 (K : Nat) (a0 : El T35) (a1 : El T35) : evFun Try.prog (tab43) 0 K Try.f43 [] [.agg (cellsOf T35 a0), .eptr T35 a1 0] [] dq43.k = G43 K a0 a1 := by
  kernel_rfl
noncomputable def F43 (K : Nat) (a0 : El T35) (a1 : El T35) : Option (Bool) := G43 K a0 a1
theorem cok43 (K : Nat) : CallOK D Try.prog (tab43) := none_ok
theorem ok43 (K : Nat) : RowOK D Try.prog 43 (row ad43 dq43 fun p => F43 K p.1 p.2) := row_ok fun x r h => has_of (cok43 K) Try.func43 ((ev43 K x.1 x.2).trans h)
/-! ganger/rank.Drop$1 -/
noncomputable def tab47 : Tab := Tab.none
noncomputable def t47 (K : Nat) (a0 : El T35) (a1 : Int) : Option (Bool) := some (a0.2.2 == a1)
noncomputable def G47 (K : Nat) (a0 : El T35) (a1 : Int) : Option (Bool) := t47 K a0 a1
theorem ev47 (K : Nat) (a0 : El T35) (a1 : Int) : evFun Try.prog (tab47) 0 K Try.f47 [] [.agg (cellsOf T35 a0), .eptr (.int .u32) a1 0] [] dq47.k = G47 K a0 a1 := by
  kernel_rfl
noncomputable def F47 (K : Nat) (a0 : El T35) (a1 : Int) : Option (Bool) := G47 K a0 a1
theorem cok47 (K : Nat) : CallOK D Try.prog (tab47) := none_ok
theorem ok47 (K : Nat) : RowOK D Try.prog 47 (row ad47 dq47 fun p => F47 K p.1 p.2) := row_ok fun x r h => has_of (cok47 K) Try.func47 ((ev47 K x.1 x.2).trans h)
/-! slices.IndexFunc[[]ganger/api.Key,ganger/api.Key] -/
noncomputable def tab54 (F47 : (El T35) → Int → Option (Bool)) : Tab := (Tab.none.add 47 (row ad47 dq47 fun p => F47 p.1 p.2))
noncomputable def la54 : List (List Tidy) := [[.only [0, 1, 7, 8], .ids [7], .top [1000000]]]
noncomputable def hd54_0 (a0 : List (El T35)) (a1 : Int) (ps8 : Int) : St := { tm := slots (nat_lit 19) [(nat_lit 0, AV.row T35 a0), (nat_lit 1, AV.fn (nat_lit 47) [AV.eptr (Ty.int IntKind.u32) a1 (nat_lit 0)]), (nat_lit 7, AV.sc (Value.int IntKind.i64 (↑a0.length : Int))), (nat_lit 8, AV.sc (Value.int IntKind.i64 ps8))], H := [] }
noncomputable def b54_0 (F47 : (El T35) → Int → Option (Bool)) (K : Nat) (a0 : List (El T35)) (a1 : Int) (r0 : Int → Option (Int)) (ps8 : Int) : Option (Int) :=(if decide (ps8 < (↑a0.length : Int)) = true then (if decide ((0 : Int) ≤ ps8 ∧ ps8 < (↑a0.length : Int)) = true then 
    (Option.bind (F47 (a0.getD ps8.toNat (zEl T35)) a1) fun x0 => (if x0 = true then some (ps8)
     else r0 (IntKind.i64.wrap (ps8 + (1 : Int)))))
   else none)
  else some ((-1 : Int)))
noncomputable def L54_0 (F47 : (El T35) → Int → Option (Bool)) (K : Nat) (a0 : List (El T35)) (a1 : Int) : Nat → Int → Option (Int)
  | 0, _ => none
  | n + 1, ps8 => b54_0 F47 K a0 a1 (L54_0 F47 K a0 a1 n) ps8
noncomputable def t54 (F47 : (El T35) → Int → Option (Bool)) (K : Nat) (a0 : List (El T35)) (a1 : Int) (l0 : Nat → Int → Option (Int)) : Option (Int) := l0 K ((0 : Int))
noncomputable def G54 (F47 : (El T35) → Int → Option (Bool)) (K : Nat) (a0 : List (El T35)) (a1 : Int) : Option (Int) := t54 F47 K a0 a1 (L54_0 F47 K a0 a1)
theorem lp54_0 (F47 : (El T35) → Int → Option (Bool)) (K : Nat) (a0 : List (El T35)) (a1 : Int) : ∀ (n : Nat) (ps8 : Int), loopN Try.prog (tab54 F47) 0 K Try.f54 la54 dq54.k 0 [] n (hd54_0 a0 a1 ps8) = L54_0 F47 K a0 a1 n ps8
  | 0, _ => by kernel_rfl
  | n + 1, ps8 => by
    have h : loopN Try.prog (tab54 F47) 0 K Try.f54 la54 dq54.k 0 [] (n + 1) (hd54_0 a0 a1 ps8) = b54_0 F47 K a0 a1 (fun q0 => loopN Try.prog (tab54 F47) 0 K Try.f54 la54 dq54.k 0 [] n (hd54_0 a0 a1 q0)) ps8 := by kernel_rfl
    rw [h]
    simp only [lp54_0 F47 K a0 a1 n]
    rfl
theorem ev54 (F47 : (El T35) → Int → Option (Bool)) (K : Nat) (a0 : List (El T35)) (a1 : Int) : evFun Try.prog (tab54 F47) 0 K Try.f54 la54 [.row T35 a0, .fn 47 [.eptr (.int .u32) a1 0]] [] dq54.k = G54 F47 K a0 a1 := by
  have h : evFun Try.prog (tab54 F47) 0 K Try.f54 la54 [.row T35 a0, .fn 47 [.eptr (.int .u32) a1 0]] [] dq54.k = t54 F47 K a0 a1 (fun k q0 => loopN Try.prog (tab54 F47) 0 K Try.f54 la54 dq54.k 0 [] k (hd54_0 a0 a1 q0)) := by kernel_rfl
  rw [h]
  simp only [lp54_0 F47 K a0 a1]
  rfl
noncomputable def F54 (K : Nat) (a0 : List (El T35)) (a1 : Int) : Option (Int) := G54 (F47 K) K a0 a1
theorem cok54 (K : Nat) : CallOK D Try.prog (tab54 (F47 K)) := (add_ok none_ok ent47 (ok47 K))
theorem ok54 (K : Nat) : RowOK D Try.prog 54 (row ad54 dq54 fun p => F54 K p.1 p.2) := row_ok fun x r h => has_of (cok54 K) Try.func54 ((ev54 (F47 K) K x.1 x.2).trans h)
/-! slices.IndexFunc[[]ganger/api.Key,ganger/api.Key] -/
noncomputable def tab1054 (F43 : (El T35) → (El T35) → Option (Bool)) : Tab := (Tab.none.add 43 (row ad43 dq43 fun p => F43 p.1 p.2))
noncomputable def la1054 : List (List Tidy) := [[.only [0, 1, 7, 8], .ids [7], .top [1000000]]]
noncomputable def hd1054_0 (a0 : List (El T35)) (a1 : El T35) (ps8 : Int) : St := { tm := slots (nat_lit 19) [(nat_lit 0, AV.row T35 a0), (nat_lit 1, AV.fn (nat_lit 43) [AV.eptr T35 a1 (nat_lit 0)]), (nat_lit 7, AV.sc (Value.int IntKind.i64 (↑a0.length : Int))), (nat_lit 8, AV.sc (Value.int IntKind.i64 ps8))], H := [] }
noncomputable def b1054_0 (F43 : (El T35) → (El T35) → Option (Bool)) (K : Nat) (a0 : List (El T35)) (a1 : El T35) (r0 : Int → Option (Int)) (ps8 : Int) : Option (Int) :=(if decide (ps8 < (↑a0.length : Int)) = true then (if decide ((0 : Int) ≤ ps8 ∧ ps8 < (↑a0.length : Int)) = true then 
    (Option.bind (F43 (a0.getD ps8.toNat (zEl T35)) a1) fun x0 => (if x0 = true then some (ps8)
     else r0 (IntKind.i64.wrap (ps8 + (1 : Int)))))
   else none)
  else some ((-1 : Int)))
noncomputable def L1054_0 (F43 : (El T35) → (El T35) → Option (Bool)) (K : Nat) (a0 : List (El T35)) (a1 : El T35) : Nat → Int → Option (Int)
  | 0, _ => none
  | n + 1, ps8 => b1054_0 F43 K a0 a1 (L1054_0 F43 K a0 a1 n) ps8
noncomputable def t1054 (F43 : (El T35) → (El T35) → Option (Bool)) (K : Nat) (a0 : List (El T35)) (a1 : El T35) (l0 : Nat → Int → Option (Int)) : Option (Int) := l0 K ((0 : Int))
noncomputable def G1054 (F43 : (El T35) → (El T35) → Option (Bool)) (K : Nat) (a0 : List (El T35)) (a1 : El T35) : Option (Int) := t1054 F43 K a0 a1 (L1054_0 F43 K a0 a1)
theorem lp1054_0 (F43 : (El T35) → (El T35) → Option (Bool)) (K : Nat) (a0 : List (El T35)) (a1 : El T35) : ∀ (n : Nat) (ps8 : Int), loopN Try.prog (tab1054 F43) 0 K Try.f54 la1054 dq1054.k 0 [] n (hd1054_0 a0 a1 ps8) = L1054_0 F43 K a0 a1 n ps8
  | 0, _ => by kernel_rfl
  | n + 1, ps8 => by
    have h : loopN Try.prog (tab1054 F43) 0 K Try.f54 la1054 dq1054.k 0 [] (n + 1) (hd1054_0 a0 a1 ps8) = b1054_0 F43 K a0 a1 (fun q0 => loopN Try.prog (tab1054 F43) 0 K Try.f54 la1054 dq1054.k 0 [] n (hd1054_0 a0 a1 q0)) ps8 := by kernel_rfl
    rw [h]
    simp only [lp1054_0 F43 K a0 a1 n]
    rfl
theorem ev1054 (F43 : (El T35) → (El T35) → Option (Bool)) (K : Nat) (a0 : List (El T35)) (a1 : El T35) : evFun Try.prog (tab1054 F43) 0 K Try.f54 la1054 [.row T35 a0, .fn 43 [.eptr T35 a1 0]] [] dq1054.k = G1054 F43 K a0 a1 := by
  have h : evFun Try.prog (tab1054 F43) 0 K Try.f54 la1054 [.row T35 a0, .fn 43 [.eptr T35 a1 0]] [] dq1054.k = t1054 F43 K a0 a1 (fun k q0 => loopN Try.prog (tab1054 F43) 0 K Try.f54 la1054 dq1054.k 0 [] k (hd1054_0 a0 a1 q0)) := by kernel_rfl
  rw [h]
  simp only [lp1054_0 F43 K a0 a1]
  rfl
noncomputable def F1054 (K : Nat) (a0 : List (El T35)) (a1 : El T35) : Option (Int) := G1054 (F43 K) K a0 a1
theorem cok1054 (K : Nat) : CallOK D Try.prog (tab1054 (F43 K)) := (add_ok none_ok ent43 (ok43 K))
theorem ok1054 (K : Nat) : RowOK D Try.prog 54 (row ad1054 dq1054 fun p => F1054 K p.1 p.2) := row_ok fun x r h => has_of (cok1054 K) Try.func54 ((ev1054 (F43 K) K x.1 x.2).trans h)
/-! slices.ContainsFunc[[]ganger/api.Key,ganger/api.Key] -/
noncomputable def tab42 (F1054 : (List (El T35)) → (El T35) → Option (Int)) : Tab := (Tab.none.add 54 (row ad1054 dq1054 fun p => F1054 p.1 p.2))
noncomputable def t42 (F1054 : (List (El T35)) → (El T35) → Option (Int)) (K : Nat) (a0 : List (El T35)) (a1 : El T35) : Option (Bool) := 
 (Option.bind (F1054 a0 a1) fun x0 => some (decide (x0 ≥ (0 : Int))))
noncomputable def G42 (F1054 : (List (El T35)) → (El T35) → Option (Int)) (K : Nat) (a0 : List (El T35)) (a1 : El T35) : Option (Bool) := t42 F1054 K a0 a1
theorem ev42 (F1054 : (List (El T35)) → (El T35) → Option (Int)) (K : Nat) (a0 : List (El T35)) (a1 : El T35) : evFun Try.prog (tab42 F1054) 0 K Try.f42 [] [.row T35 a0, .fn 43 [.eptr T35 a1 0]] [] dq42.k = G42 F1054 K a0 a1 := by
  kernel_rfl
noncomputable def F42 (K : Nat) (a0 : List (El T35)) (a1 : El T35) : Option (Bool) := G42 (F1054 K) K a0 a1
theorem cok42 (K : Nat) : CallOK D Try.prog (tab42 (F1054 K)) := (add_ok none_ok ent1054 (ok1054 K))
theorem ok42 (K : Nat) : RowOK D Try.prog 42 (row ad42 dq42 fun p => F42 K p.1 p.2) := row_ok fun x r h => has_of (cok42 K) Try.func42 ((ev42 (F1054 K) K x.1 x.2).trans h)
/-! slices.BinarySearchFunc[[]ganger/api.Key,ganger/api.Key,ganger/api.Key] -/
noncomputable def tab44 (F34 : (El T35) → (El T35) → Option (Int)) : Tab := (Tab.none.add 34 (row ad34 dq34 fun p => F34 p.1 p.2))
noncomputable def la44 : List (List Tidy) := [[.only [0, 2, 4, 8, 9, 10], .ids [4, 13, 46], .top [1000000]]]
noncomputable def hd44_0 (a0 : List (El T35)) (a1 : El T35) (a2 : Unit) (ps9 : Int) (ps10 : Int) : St := { tm := slots (nat_lit 49) [(nat_lit 0, AV.row T35 a0), (nat_lit 2, AV.fn (nat_lit 34) []), (nat_lit 4, AV.ptr (nat_lit 4) (nat_lit 0)), (nat_lit 8, AV.sc (Value.int IntKind.i64 (↑a0.length : Int))), (nat_lit 9, AV.sc (Value.int IntKind.i64 ps9)), (nat_lit 10, AV.sc (Value.int IntKind.i64 ps10))], H := [(nat_lit 4, ABlk.box (nat_lit 35) (cellsOf T35 a1))] }
noncomputable def b44_0 (F34 : (El T35) → (El T35) → Option (Int)) (K : Nat) (a0 : List (El T35)) (a1 : El T35) (a2 : Unit) (r0 : Int → Int → Option (Int × Bool)) (ps9 : Int) (ps10 : Int) : Option (Int × Bool) :=(if decide (ps9 < ps10) = true then (if decide ((0 : Int) ≤ IntKind.i64.wrap ((IntKind.u64.wrap (IntKind.i64.wrap (ps9 + ps10))).fdiv ((2 : Int) ^ min (Int.toNat (1 : Int)) IntKind.u64.bits)) ∧ IntKind.i64.wrap ((IntKind.u64.wrap (IntKind.i64.wrap (ps9 + ps10))).fdiv ((2 : Int) ^ min (Int.toNat (1 : Int)) IntKind.u64.bits)) < (↑a0.length : Int)) = true then 
    (Option.bind (F34 (a0.getD (IntKind.i64.wrap ((IntKind.u64.wrap (IntKind.i64.wrap (ps9 + ps10))).fdiv ((2 : Int) ^ min (Int.toNat (1 : Int)) IntKind.u64.bits))).toNat (zEl T35)) a1) fun x0 => (if decide (x0 < (0 : Int)) = true then r0 (IntKind.i64.wrap (IntKind.i64.wrap ((IntKind.u64.wrap (IntKind.i64.wrap (ps9 + ps10))).fdiv ((2 : Int) ^ min (Int.toNat (1 : Int)) IntKind.u64.bits)) + (1 : Int))) (ps10)
     else r0 (ps9) (IntKind.i64.wrap ((IntKind.u64.wrap (IntKind.i64.wrap (ps9 + ps10))).fdiv ((2 : Int) ^ min (Int.toNat (1 : Int)) IntKind.u64.bits)))))
   else none)
  else (if decide (ps9 < (↑a0.length : Int)) = true then (if decide ((0 : Int) ≤ ps9 ∧ ps9 < (↑a0.length : Int)) = true then 
     (Option.bind (F34 (a0.getD ps9.toNat (zEl T35)) a1) fun x1 => some ((ps9, x1 == (0 : Int))))
    else none)
   else some ((ps9, false))))
noncomputable def L44_0 (F34 : (El T35) → (El T35) → Option (Int)) (K : Nat) (a0 : List (El T35)) (a1 : El T35) (a2 : Unit) : Nat → Int → Int → Option (Int × Bool)
  | 0, _, _ => none
  | n + 1, ps9, ps10 => b44_0 F34 K a0 a1 a2 (L44_0 F34 K a0 a1 a2 n) ps9 ps10
noncomputable def t44 (F34 : (El T35) → (El T35) → Option (Int)) (K : Nat) (a0 : List (El T35)) (a1 : El T35) (a2 : Unit) (l0 : Nat → Int → Int → Option (Int × Bool)) : Option (Int × Bool) := l0 K ((0 : Int)) ((↑a0.length : Int))
noncomputable def G44 (F34 : (El T35) → (El T35) → Option (Int)) (K : Nat) (a0 : List (El T35)) (a1 : El T35) (a2 : Unit) : Option (Int × Bool) := t44 F34 K a0 a1 a2 (L44_0 F34 K a0 a1 a2)
theorem lp44_0 (F34 : (El T35) → (El T35) → Option (Int)) (K : Nat) (a0 : List (El T35)) (a1 : El T35) (a2 : Unit) : ∀ (n : Nat) (ps9 : Int) (ps10 : Int), loopN Try.prog (tab44 F34) 0 K Try.f44 la44 dq44.k 0 [] n (hd44_0 a0 a1 a2 ps9 ps10) = L44_0 F34 K a0 a1 a2 n ps9 ps10
  | 0, _, _ => by kernel_rfl
  | n + 1, ps9, ps10 => by
    have h : loopN Try.prog (tab44 F34) 0 K Try.f44 la44 dq44.k 0 [] (n + 1) (hd44_0 a0 a1 a2 ps9 ps10) = b44_0 F34 K a0 a1 a2 (fun q0 q1 => loopN Try.prog (tab44 F34) 0 K Try.f44 la44 dq44.k 0 [] n (hd44_0 a0 a1 a2 q0 q1)) ps9 ps10 := by kernel_rfl
    rw [h]
    simp only [lp44_0 F34 K a0 a1 a2 n]
    rfl
theorem ev44 (F34 : (El T35) → (El T35) → Option (Int)) (K : Nat) (a0 : List (El T35)) (a1 : El T35) (a2 : Unit) : evFun Try.prog (tab44 F34) 0 K Try.f44 la44 [.row T35 a0, .agg (cellsOf T35 a1), .fn 34 []] [] dq44.k = G44 F34 K a0 a1 a2 := by
  have h : evFun Try.prog (tab44 F34) 0 K Try.f44 la44 [.row T35 a0, .agg (cellsOf T35 a1), .fn 34 []] [] dq44.k = t44 F34 K a0 a1 a2 (fun k q0 q1 => loopN Try.prog (tab44 F34) 0 K Try.f44 la44 dq44.k 0 [] k (hd44_0 a0 a1 a2 q0 q1)) := by kernel_rfl
  rw [h]
  simp only [lp44_0 F34 K a0 a1 a2]
  rfl
noncomputable def F44 (K : Nat) (a0 : List (El T35)) (a1 : El T35) (a2 : Unit) : Option (Int × Bool) := G44 (F34 K) K a0 a1 a2
theorem cok44 (K : Nat) : CallOK D Try.prog (tab44 (F34 K)) := (add_ok none_ok ent34 (ok34 K))
theorem ok44 (K : Nat) : RowOK D Try.prog 44 (row ad44 dq44 fun p => F44 K p.1 p.2.1 p.2.2) := row_ok fun x r h => has_of (cok44 K) Try.func44 ((ev44 (F34 K) K x.1 x.2.1 x.2.2).trans h)
end Go.Proofs.YtcnfilanbmkpaaaE
