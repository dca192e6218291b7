import Derived.Test.YthebmlpohkfhbaaS14T
set_option linter.all false
namespace Go.Proofs.YthebmlpohkfhbaaE
open Go Go.Proofs
set_option maxRecDepth 100000
set_option linter.unusedVariables false
/-! ganger/gangerlaw14.many -/
noncomputable def tab10 : Tab := Tab.none
noncomputable def la10 : List (List Tidy) := [[.only [0, 3], .ids [7], .top [1000000]], [.only [0, 3, 4, 5], .ids [4, 7, 11, 22, 27, 34], .top [1000001]]]
noncomputable def hd10_0 (a0 : List (El T45)) (ps3 : Int) : St := { tm := slots (nat_lit 54) [(nat_lit 0, AV.row T45 a0), (nat_lit 3, AV.sc (Value.int IntKind.i64 ps3))], H := [] }
noncomputable def hd10_1 (a0 : List (El T45)) (ps3 : Int) (ps5 : Int) (ph4 : El T41) : St := { tm := slots (nat_lit 54) [(nat_lit 0, AV.row T45 a0), (nat_lit 3, AV.sc (Value.int IntKind.i64 ps3)), (nat_lit 4, AV.ptr (nat_lit 4) (nat_lit 0)), (nat_lit 5, AV.sc (Value.int IntKind.i64 ps5))], H := [(nat_lit 4, ABlk.box (nat_lit 41) (cellsOf T41 ph4))] }
noncomputable def b10_1 (K : Nat) (a0 : List (El T45)) (r0 : Int → Option (Bool)) (r1 : Int → Int → (El T41) → Option (Bool)) (ps3 : Int) (ps5 : Int) (ph4 : El T41) : Option (Bool) :=(if decide (ps5 < (↑(List.length ph4.2.2.2.2.2.2.2.1.2) : Int)) = true then (if decide ((0 : Int) ≤ ps5 ∧ ps5 < (↑(List.length ph4.2.2.2.2.2.2.2.1.2) : Int)) = true then (if decide ((↑(List.length (List.getD ph4.2.2.2.2.2.2.2.1.2 ps5.toNat (zEl T54)).2) : Int) > (30 : Int)) = true then some (true)
    else r1 (ps3) (IntKind.i64.wrap (ps5 + (1 : Int))) (ph4))
   else none)
  else r0 (IntKind.i64.wrap (ps3 + (1 : Int))))
noncomputable def L10_1 (K : Nat) (a0 : List (El T45)) (r0 : Int → Option (Bool)) : Nat → Int → Int → (El T41) → Option (Bool)
  | 0, _, _, _ => none
  | n + 1, ps3, ps5, ph4 => b10_1 K a0 r0 (L10_1 K a0 r0 n) ps3 ps5 ph4
noncomputable def b10_0 (K : Nat) (a0 : List (El T45)) (r0 : Int → Option (Bool)) (l1 : Nat → Int → Int → (El T41) → Option (Bool)) (ps3 : Int) : Option (Bool) :=(if decide (ps3 < (↑a0.length : Int)) = true then (if decide ((0 : Int) ≤ ps3 ∧ ps3 < (↑a0.length : Int)) = true then (if decide ((↑(ByteArray.size (a0.getD ps3.toNat (zEl T45)).2.2.2.1.1) : Int) > (300 : Int)) = true then some (true)
    else (if decide ((↑(ByteArray.size (a0.getD ps3.toNat (zEl T45)).2.2.2.1.2.1) : Int) > (300 : Int)) = true then some (true)
     else (if decide ((↑(List.length (a0.getD ps3.toNat (zEl T45)).2.2.2.1.2.2.2.2.2.2.2.1.2) : Int) > (30 : Int)) = true then some (true)
      else l1 K (ps3) ((0 : Int)) ((a0.getD ps3.toNat (zEl T45)).2.2.2.1))))
   else none)
  else some (false))
noncomputable def L10_0 (K : Nat) (a0 : List (El T45)) : Nat → Int → Option (Bool)
  | 0, _ => none
  | n + 1, ps3 => b10_0 K a0 (L10_0 K a0 n) (L10_1 K a0 (L10_0 K a0 n)) ps3
noncomputable def t10 (K : Nat) (a0 : List (El T45)) (l0 : Nat → Int → Option (Bool)) : Option (Bool) := (if decide ((↑a0.length : Int) > (60 : Int)) = true then some (true)
 else l0 K ((0 : Int)))
noncomputable def G10 (K : Nat) (a0 : List (El T45)) : Option (Bool) := t10 K a0 (L10_0 K a0)
theorem lp10_1 (K : Nat) (a0 : List (El T45)) : ∀ (m0 : Nat) (n : Nat) (ps3 : Int) (ps5 : Int) (ph4 : El T41), loopN Try.prog (tab10) 0 K Try.f10 la10 dq10.k 1 [m0] n (hd10_1 a0 ps3 ps5 ph4) = L10_1 K a0 (fun q0 => loopN Try.prog (tab10) 0 K Try.f10 la10 dq10.k 0 [] m0 (hd10_0 a0 q0)) n ps3 ps5 ph4
  | m0, 0, _, _, _ => by kernel_rfl
  | m0, n + 1, ps3, ps5, ph4 => by
    have h : loopN Try.prog (tab10) 0 K Try.f10 la10 dq10.k 1 [m0] (n + 1) (hd10_1 a0 ps3 ps5 ph4) = b10_1 K a0 (fun q0 => loopN Try.prog (tab10) 0 K Try.f10 la10 dq10.k 0 [] m0 (hd10_0 a0 q0)) (fun q0 q1 q2 => loopN Try.prog (tab10) 0 K Try.f10 la10 dq10.k 1 [m0] n (hd10_1 a0 q0 q1 q2)) ps3 ps5 ph4 := by kernel_rfl
    rw [h]
    simp only [lp10_1 K a0 m0 n]
    rfl
theorem lp10_0 (K : Nat) (a0 : List (El T45)) : ∀ (n : Nat) (ps3 : Int), loopN Try.prog (tab10) 0 K Try.f10 la10 dq10.k 0 [] n (hd10_0 a0 ps3) = L10_0 K a0 n ps3
  | 0, _ => by kernel_rfl
  | n + 1, ps3 => by
    have h : loopN Try.prog (tab10) 0 K Try.f10 la10 dq10.k 0 [] (n + 1) (hd10_0 a0 ps3) = b10_0 K a0 (fun q0 => loopN Try.prog (tab10) 0 K Try.f10 la10 dq10.k 0 [] n (hd10_0 a0 q0)) (fun k q0 q1 q2 => loopN Try.prog (tab10) 0 K Try.f10 la10 dq10.k 1 [n] k (hd10_1 a0 q0 q1 q2)) ps3 := by kernel_rfl
    rw [h]
    simp only [lp10_0 K a0 n, lp10_1 K a0 n]
    rfl
theorem ev10 (K : Nat) (a0 : List (El T45)) : evFun Try.prog (tab10) 0 K Try.f10 la10 [.row T45 a0] [] dq10.k = G10 K a0 := by
  have h : evFun Try.prog (tab10) 0 K Try.f10 la10 [.row T45 a0] [] dq10.k = t10 K a0 (fun k q0 => loopN Try.prog (tab10) 0 K Try.f10 la10 dq10.k 0 [] k (hd10_0 a0 q0)) := by kernel_rfl
  rw [h]
  simp only [lp10_0 K a0]
  rfl
noncomputable def F10 (K : Nat) (a0 : List (El T45)) : Option (Bool) := G10 K a0
theorem cok10 (K : Nat) : CallOK Try.prog (tab10) := none_ok
theorem ok10 (K : Nat) : RowOK Try.prog 10 (row ad10 dq10 fun p => F10 K p) := row_ok fun x r h => has_of (cok10 K) Try.func10 ((ev10 K x).trans h)
/-! ganger/waits.How -/
noncomputable def tab22 : Tab := Tab.none
noncomputable def t22 (K : Nat) (a0 : El T45) : Option (Int) := (if (a0.2.2.2.2.2.1 == (1 : Int)) = true then some ((1 : Int))
 else (if (a0.2.2.2.2.2.1 == (2 : Int)) = true then some ((1 : Int))
  else (if (a0.2.2.2.2.2.1 == (3 : Int)) = true then some ((2 : Int))
   else (if (a0.2.2.2.2.2.1 == (4 : Int)) = true then some ((2 : Int))
    else (if (a0.2.2.2.2.2.1 == (5 : Int)) = true then some ((3 : Int))
     else (if decide (a0.2.2.2.2.2.1 > (5 : Int)) = true then (if decide (a0.2.2.2.2.2.1 ≤ (9 : Int)) = true then some ((4 : Int))
       else some ((0 : Int)))
      else some ((0 : Int))))))))
noncomputable def G22 (K : Nat) (a0 : El T45) : Option (Int) := t22 K a0
theorem ev22 (K : Nat) (a0 : El T45) : evFun Try.prog (tab22) 0 K Try.f22 [] [.agg (cellsOf T45 a0)] [] dq22.k = G22 K a0 := by
  kernel_rfl
noncomputable def F22 (K : Nat) (a0 : El T45) : Option (Int) := G22 K a0
theorem cok22 (K : Nat) : CallOK Try.prog (tab22) := none_ok
theorem ok22 (K : Nat) : RowOK Try.prog 22 (row ad22 dq22 fun p => F22 K p) := row_ok fun x r h => has_of (cok22 K) Try.func22 ((ev22 K x).trans h)
/-! ganger/gangerref14.How -/
noncomputable def tab23 : Tab := Tab.none
noncomputable def t23 (K : Nat) (a0 : El T45) : Option (Int) := (if decide (a0.2.2.2.2.2.1 < (0 : Int)) = true then some ((0 : Int))
 else (if decide (a0.2.2.2.2.2.1 > (9 : Int)) = true then some ((0 : Int))
  else (if decide ((0 : Int) ≤ a0.2.2.2.2.2.1 ∧ a0.2.2.2.2.2.1 < (↑[(0 : Int), (1 : Int), (1 : Int), (2 : Int), (2 : Int), (3 : Int), (4 : Int), (4 : Int), (4 : Int), (4 : Int)].length : Int)) = true then some ([(0 : Int), (1 : Int), (1 : Int), (2 : Int), (2 : Int), (3 : Int), (4 : Int), (4 : Int), (4 : Int), (4 : Int)].getD (Int.toNat a0.2.2.2.2.2.1) (zEl (Ty.int IntKind.i64)))
   else none)))
noncomputable def G23 (K : Nat) (a0 : El T45) : Option (Int) := t23 K a0
theorem ev23 (K : Nat) (a0 : El T45) : evFun Try.prog (tab23) 0 K Try.f23 [] [.agg (cellsOf T45 a0)] [] dq23.k = G23 K a0 := by
  kernel_rfl
noncomputable def F23 (K : Nat) (a0 : El T45) : Option (Int) := G23 K a0
theorem cok23 (K : Nat) : CallOK Try.prog (tab23) := none_ok
theorem ok23 (K : Nat) : RowOK Try.prog 23 (row ad23 dq23 fun p => F23 K p) := row_ok fun x r h => has_of (cok23 K) Try.func23 ((ev23 K x).trans h)
/-! ganger/waits.Check -/
noncomputable def tab16 (F22 : (El T45) → Option (Int)) : Tab := (Tab.none.add 22 (row ad22 dq22 fun p => F22 p))
noncomputable def la16 : List (List Tidy) := [[.only [5, 6, 7], .ids [6], .top [1000000]]]
noncomputable def hd16_0 (a0 : List (El T45)) (ps7 : Int) : St := { tm := slots (nat_lit 24) [(nat_lit 5, AV.row T45 a0), (nat_lit 6, AV.sc (Value.int IntKind.i64 (↑a0.length : Int))), (nat_lit 7, AV.sc (Value.int IntKind.i64 ps7))], H := [] }
noncomputable def b16_0 (F22 : (El T45) → Option (Int)) (K : Nat) (a0 : List (El T45)) (r0 : Int → Option (Int)) (ps7 : Int) : Option (Int) :=(if decide (ps7 < (↑a0.length : Int)) = true then (if decide ((0 : Int) ≤ ps7 ∧ ps7 < (↑a0.length : Int)) = true then (if (IntKind.i64.wrap (a0.getD ps7.toNat (zEl T45)).1 != IntKind.i64.wrap (ps7 + (1 : Int))) = true then some ((2 : Int))
    else 
     (Option.bind (F22 (a0.getD ps7.toNat (zEl T45))) fun x0 => (if (x0 == (0 : Int)) = true then some ((2 : Int))
      else r0 (IntKind.i64.wrap (ps7 + (1 : Int))))))
   else none)
  else some ((0 : Int)))
noncomputable def L16_0 (F22 : (El T45) → Option (Int)) (K : Nat) (a0 : List (El T45)) : Nat → Int → Option (Int)
  | 0, _ => none
  | n + 1, ps7 => b16_0 F22 K a0 (L16_0 F22 K a0 n) ps7
noncomputable def t16 (F22 : (El T45) → Option (Int)) (K : Nat) (a0 : List (El T45)) (l0 : Nat → Int → Option (Int)) : Option (Int) := l0 K ((0 : Int))
noncomputable def G16 (F22 : (El T45) → Option (Int)) (K : Nat) (a0 : List (El T45)) : Option (Int) := t16 F22 K a0 (L16_0 F22 K a0)
theorem lp16_0 (F22 : (El T45) → Option (Int)) (K : Nat) (a0 : List (El T45)) : ∀ (n : Nat) (ps7 : Int), loopN Try.prog (tab16 F22) 0 K Try.f16 la16 dq16.k 0 [] n (hd16_0 a0 ps7) = L16_0 F22 K a0 n ps7
  | 0, _ => by kernel_rfl
  | n + 1, ps7 => by
    have h : loopN Try.prog (tab16 F22) 0 K Try.f16 la16 dq16.k 0 [] (n + 1) (hd16_0 a0 ps7) = b16_0 F22 K a0 (fun q0 => loopN Try.prog (tab16 F22) 0 K Try.f16 la16 dq16.k 0 [] n (hd16_0 a0 q0)) ps7 := by kernel_rfl
    rw [h]
    simp only [lp16_0 F22 K a0 n]
    rfl
theorem ev16 (F22 : (El T45) → Option (Int)) (K : Nat) (a0 : List (El T45)) : evFun Try.prog (tab16 F22) 0 K Try.f16 la16 [.row T45 a0] [] dq16.k = G16 F22 K a0 := by
  have h : evFun Try.prog (tab16 F22) 0 K Try.f16 la16 [.row T45 a0] [] dq16.k = t16 F22 K a0 (fun k q0 => loopN Try.prog (tab16 F22) 0 K Try.f16 la16 dq16.k 0 [] k (hd16_0 a0 q0)) := by kernel_rfl
  rw [h]
  simp only [lp16_0 F22 K a0]
  rfl
noncomputable def F16 (K : Nat) (a0 : List (El T45)) : Option (Int) := G16 (F22 K) K a0
theorem cok16 (K : Nat) : CallOK Try.prog (tab16 (F22 K)) := (add_ok none_ok ent22 (ok22 K))
theorem ok16 (K : Nat) : RowOK Try.prog 16 (row ad16 dq16 fun p => F16 K p) := row_ok fun x r h => has_of (cok16 K) Try.func16 ((ev16 (F22 K) K x).trans h)
/-! ganger/gangerref14.Check -/
noncomputable def tab21 : Tab := Tab.none
noncomputable def la21 : List (List Tidy) := [[.only [0, 3], .ids [], .top [1000000]]]
noncomputable def hd21_0 (a0 : List (El T45)) (ps3 : Int) : St := { tm := slots (nat_lit 35) [(nat_lit 0, AV.row T45 a0), (nat_lit 3, AV.sc (Value.int IntKind.i64 ps3))], H := [] }
noncomputable def b21_0 (K : Nat) (a0 : List (El T45)) (r0 : Int → Option (Int)) (ps3 : Int) : Option (Int) :=(if decide (ps3 < (↑a0.length : Int)) = true then (if decide ((0 : Int) ≤ ps3 ∧ ps3 < (↑a0.length : Int)) = true then (if ((a0.getD ps3.toNat (zEl T45)).1 != IntKind.u32.wrap (IntKind.i64.wrap (ps3 + (1 : Int)))) = true then some ((2 : Int))
    else (if decide ((0 : Int) ≤ ps3 ∧ ps3 < (↑a0.length : Int)) = true then (if decide ((a0.getD ps3.toNat (zEl T45)).2.2.2.2.2.1 < (1 : Int)) = true then some ((2 : Int))
      else (if decide ((0 : Int) ≤ ps3 ∧ ps3 < (↑a0.length : Int)) = true then (if decide ((a0.getD ps3.toNat (zEl T45)).2.2.2.2.2.1 > (9 : Int)) = true then some ((2 : Int))
        else r0 (IntKind.i64.wrap (ps3 + (1 : Int))))
       else none))
     else none))
   else none)
  else some ((0 : Int)))
noncomputable def L21_0 (K : Nat) (a0 : List (El T45)) : Nat → Int → Option (Int)
  | 0, _ => none
  | n + 1, ps3 => b21_0 K a0 (L21_0 K a0 n) ps3
noncomputable def t21 (K : Nat) (a0 : List (El T45)) (l0 : Nat → Int → Option (Int)) : Option (Int) := l0 K ((0 : Int))
noncomputable def G21 (K : Nat) (a0 : List (El T45)) : Option (Int) := t21 K a0 (L21_0 K a0)
theorem lp21_0 (K : Nat) (a0 : List (El T45)) : ∀ (n : Nat) (ps3 : Int), loopN Try.prog (tab21) 0 K Try.f21 la21 dq21.k 0 [] n (hd21_0 a0 ps3) = L21_0 K a0 n ps3
  | 0, _ => by kernel_rfl
  | n + 1, ps3 => by
    have h : loopN Try.prog (tab21) 0 K Try.f21 la21 dq21.k 0 [] (n + 1) (hd21_0 a0 ps3) = b21_0 K a0 (fun q0 => loopN Try.prog (tab21) 0 K Try.f21 la21 dq21.k 0 [] n (hd21_0 a0 q0)) ps3 := by kernel_rfl
    rw [h]
    simp only [lp21_0 K a0 n]
    rfl
theorem ev21 (K : Nat) (a0 : List (El T45)) : evFun Try.prog (tab21) 0 K Try.f21 la21 [.row T45 a0] [] dq21.k = G21 K a0 := by
  have h : evFun Try.prog (tab21) 0 K Try.f21 la21 [.row T45 a0] [] dq21.k = t21 K a0 (fun k q0 => loopN Try.prog (tab21) 0 K Try.f21 la21 dq21.k 0 [] k (hd21_0 a0 q0)) := by kernel_rfl
  rw [h]
  simp only [lp21_0 K a0]
  rfl
noncomputable def F21 (K : Nat) (a0 : List (El T45)) : Option (Int) := G21 K a0
theorem cok21 (K : Nat) : CallOK Try.prog (tab21) := none_ok
theorem ok21 (K : Nat) : RowOK Try.prog 21 (row ad21 dq21 fun p => F21 K p) := row_ok fun x r h => has_of (cok21 K) Try.func21 ((ev21 K x).trans h)
/-! ganger/gangerref08.SameJobs -/
noncomputable def tab14 : Tab := Tab.none
noncomputable def la14 : List (List Tidy) := [[.only [0, 1, 5], .ids [7, 9], .top [1000000]]]
noncomputable def hd14_0 (a0 : List (El (.int .u32))) (a1 : List (El (.int .u32))) (ps5 : Int) : St := { tm := slots (nat_lit 26) [(nat_lit 0, AV.row (Ty.int IntKind.u32) a0), (nat_lit 1, AV.row (Ty.int IntKind.u32) a1), (nat_lit 5, AV.sc (Value.int IntKind.i64 ps5))], H := [] }
noncomputable def b14_0 (K : Nat) (a0 : List (El (.int .u32))) (a1 : List (El (.int .u32))) (r0 : Int → Option (Bool)) (ps5 : Int) : Option (Bool) :=(if decide (ps5 < (↑a0.length : Int)) = true then (if decide ((0 : Int) ≤ ps5 ∧ ps5 < (↑a0.length : Int)) = true then (if decide ((0 : Int) ≤ ps5 ∧ ps5 < (↑a1.length : Int)) = true then (if (a0.getD ps5.toNat (zEl (Ty.int IntKind.u32)) != a1.getD ps5.toNat (zEl (Ty.int IntKind.u32))) = true then some (false)
     else r0 (IntKind.i64.wrap (ps5 + (1 : Int))))
    else none)
   else none)
  else some (true))
noncomputable def L14_0 (K : Nat) (a0 : List (El (.int .u32))) (a1 : List (El (.int .u32))) : Nat → Int → Option (Bool)
  | 0, _ => none
  | n + 1, ps5 => b14_0 K a0 a1 (L14_0 K a0 a1 n) ps5
noncomputable def t14 (K : Nat) (a0 : List (El (.int .u32))) (a1 : List (El (.int .u32))) (l0 : Nat → Int → Option (Bool)) : Option (Bool) := (if ((↑a0.length : Int) != (↑a1.length : Int)) = true then some (false)
 else l0 K ((0 : Int)))
noncomputable def G14 (K : Nat) (a0 : List (El (.int .u32))) (a1 : List (El (.int .u32))) : Option (Bool) := t14 K a0 a1 (L14_0 K a0 a1)
theorem lp14_0 (K : Nat) (a0 : List (El (.int .u32))) (a1 : List (El (.int .u32))) : ∀ (n : Nat) (ps5 : Int), loopN Try.prog (tab14) 0 K Try.f14 la14 dq14.k 0 [] n (hd14_0 a0 a1 ps5) = L14_0 K a0 a1 n ps5
  | 0, _ => by kernel_rfl
  | n + 1, ps5 => by
    have h : loopN Try.prog (tab14) 0 K Try.f14 la14 dq14.k 0 [] (n + 1) (hd14_0 a0 a1 ps5) = b14_0 K a0 a1 (fun q0 => loopN Try.prog (tab14) 0 K Try.f14 la14 dq14.k 0 [] n (hd14_0 a0 a1 q0)) ps5 := by kernel_rfl
    rw [h]
    simp only [lp14_0 K a0 a1 n]
    rfl
theorem ev14 (K : Nat) (a0 : List (El (.int .u32))) (a1 : List (El (.int .u32))) : evFun Try.prog (tab14) 0 K Try.f14 la14 [.row (.int .u32) a0, .row (.int .u32) a1] [] dq14.k = G14 K a0 a1 := by
  have h : evFun Try.prog (tab14) 0 K Try.f14 la14 [.row (.int .u32) a0, .row (.int .u32) a1] [] dq14.k = t14 K a0 a1 (fun k q0 => loopN Try.prog (tab14) 0 K Try.f14 la14 dq14.k 0 [] k (hd14_0 a0 a1 q0)) := by kernel_rfl
  rw [h]
  simp only [lp14_0 K a0 a1]
  rfl
noncomputable def F14 (K : Nat) (a0 : List (El (.int .u32))) (a1 : List (El (.int .u32))) : Option (Bool) := G14 K a0 a1
theorem cok14 (K : Nat) : CallOK Try.prog (tab14) := none_ok
theorem ok14 (K : Nat) : RowOK Try.prog 14 (row ad14 dq14 fun p => F14 K p.1 p.2) := row_ok fun x r h => has_of (cok14 K) Try.func14 ((ev14 K x.1 x.2).trans h)
/-! ganger/gangerref08.Same -/
noncomputable def tab30 (F14 : (List (El (.int .u32))) → (List (El (.int .u32))) → Option (Bool)) : Tab := (Tab.none.add 14 (row ad14 dq14 fun p => F14 p.1 p.2))
noncomputable def la30 : List (List Tidy) := [[.only [2, 3, 5], .ids [2, 3, 14, 17], .top [1000000]]]
noncomputable def hd30_0 (a0 : El T39) (a1 : El T39) (ps5 : Int) : St := { tm := slots (nat_lit 56) [(nat_lit 2, AV.ptr (nat_lit 2) (nat_lit 0)), (nat_lit 3, AV.ptr (nat_lit 3) (nat_lit 0)), (nat_lit 5, AV.sc (Value.int IntKind.i64 ps5))], H := [(nat_lit 2, ABlk.box (nat_lit 39) (cellsOf T39 a0)), (nat_lit 3, ABlk.box (nat_lit 39) (cellsOf T39 a1))] }
noncomputable def b30_0 (F14 : (List (El (.int .u32))) → (List (El (.int .u32))) → Option (Bool)) (K : Nat) (a0 : El T39) (a1 : El T39) (r0 : Int → Option (Bool)) (ps5 : Int) : Option (Bool) :=(if decide (ps5 < (↑(List.length a0.2) : Int)) = true then (if decide ((0 : Int) ≤ ps5 ∧ ps5 < (↑(List.length a0.2) : Int)) = true then (if decide ((0 : Int) ≤ ps5 ∧ ps5 < (↑(List.length a1.2) : Int)) = true then (if ((List.getD a0.2 ps5.toNat (zEl T54)).1 != (List.getD a1.2 ps5.toNat (zEl T54)).1) = true then some (false)
     else (if decide ((0 : Int) ≤ ps5 ∧ ps5 < (↑(List.length a0.2) : Int)) = true then (if decide ((0 : Int) ≤ ps5 ∧ ps5 < (↑(List.length a1.2) : Int)) = true then 
        (Option.bind (F14 (List.getD a0.2 ps5.toNat (zEl T54)).2 (List.getD a1.2 ps5.toNat (zEl T54)).2) fun x0 => (if (!x0) = true then some (false)
         else r0 (IntKind.i64.wrap (ps5 + (1 : Int)))))
       else none)
      else none))
    else none)
   else none)
  else some (true))
noncomputable def L30_0 (F14 : (List (El (.int .u32))) → (List (El (.int .u32))) → Option (Bool)) (K : Nat) (a0 : El T39) (a1 : El T39) : Nat → Int → Option (Bool)
  | 0, _ => none
  | n + 1, ps5 => b30_0 F14 K a0 a1 (L30_0 F14 K a0 a1 n) ps5
noncomputable def t30 (F14 : (List (El (.int .u32))) → (List (El (.int .u32))) → Option (Bool)) (K : Nat) (a0 : El T39) (a1 : El T39) (l0 : Nat → Int → Option (Bool)) : Option (Bool) := (if (!a0.1 == a1.1) = true then some (false)
 else (if ((↑(List.length a0.2) : Int) != (↑(List.length a1.2) : Int)) = true then some (false)
  else l0 K ((0 : Int))))
noncomputable def G30 (F14 : (List (El (.int .u32))) → (List (El (.int .u32))) → Option (Bool)) (K : Nat) (a0 : El T39) (a1 : El T39) : Option (Bool) := t30 F14 K a0 a1 (L30_0 F14 K a0 a1)
theorem lp30_0 (F14 : (List (El (.int .u32))) → (List (El (.int .u32))) → Option (Bool)) (K : Nat) (a0 : El T39) (a1 : El T39) : ∀ (n : Nat) (ps5 : Int), loopN Try.prog (tab30 F14) 0 K Try.f30 la30 dq30.k 0 [] n (hd30_0 a0 a1 ps5) = L30_0 F14 K a0 a1 n ps5
  | 0, _ => by kernel_rfl
  | n + 1, ps5 => by
    have h : loopN Try.prog (tab30 F14) 0 K Try.f30 la30 dq30.k 0 [] (n + 1) (hd30_0 a0 a1 ps5) = b30_0 F14 K a0 a1 (fun q0 => loopN Try.prog (tab30 F14) 0 K Try.f30 la30 dq30.k 0 [] n (hd30_0 a0 a1 q0)) ps5 := by kernel_rfl
    rw [h]
    simp only [lp30_0 F14 K a0 a1 n]
    rfl
theorem ev30 (F14 : (List (El (.int .u32))) → (List (El (.int .u32))) → Option (Bool)) (K : Nat) (a0 : El T39) (a1 : El T39) : evFun Try.prog (tab30 F14) 0 K Try.f30 la30 [.agg (cellsOf T39 a0), .agg (cellsOf T39 a1)] [] dq30.k = G30 F14 K a0 a1 := by
  have h : evFun Try.prog (tab30 F14) 0 K Try.f30 la30 [.agg (cellsOf T39 a0), .agg (cellsOf T39 a1)] [] dq30.k = t30 F14 K a0 a1 (fun k q0 => loopN Try.prog (tab30 F14) 0 K Try.f30 la30 dq30.k 0 [] k (hd30_0 a0 a1 q0)) := by kernel_rfl
  rw [h]
  simp only [lp30_0 F14 K a0 a1]
  rfl
noncomputable def F30 (K : Nat) (a0 : El T39) (a1 : El T39) : Option (Bool) := G30 (F14 K) K a0 a1
theorem cok30 (K : Nat) : CallOK Try.prog (tab30 (F14 K)) := (add_ok none_ok ent14 (ok14 K))
theorem ok30 (K : Nat) : RowOK Try.prog 30 (row ad30 dq30 fun p => F30 K p.1 p.2) := row_ok fun x r h => has_of (cok30 K) Try.func30 ((ev30 (F14 K) K x.1 x.2).trans h)
/-! ganger/gangerref08.Check -/
noncomputable def tab19 : Tab := Tab.none
noncomputable def la19 : List (List Tidy) := [[.only [1, 3], .ids [1, 8, 16], .top [1000000]], [.only [1, 3, 4, 5], .ids [1, 4, 8, 16, 23, 41, 46, 53], .top [1000001]]]
noncomputable def hd19_0 (a0 : El T39) (ps3 : Int) : St := { tm := slots (nat_lit 68) [(nat_lit 1, AV.ptr (nat_lit 1) (nat_lit 0)), (nat_lit 3, AV.sc (Value.int IntKind.i64 ps3))], H := [(nat_lit 1, ABlk.box (nat_lit 39) (cellsOf T39 a0))] }
noncomputable def hd19_1 (a0 : El T39) (ps3 : Int) (ps5 : Int) (ph4 : El T54) : St := { tm := slots (nat_lit 68) [(nat_lit 1, AV.ptr (nat_lit 1) (nat_lit 0)), (nat_lit 3, AV.sc (Value.int IntKind.i64 ps3)), (nat_lit 4, AV.ptr (nat_lit 4) (nat_lit 0)), (nat_lit 5, AV.sc (Value.int IntKind.i64 ps5))], H := [(nat_lit 1, ABlk.box (nat_lit 39) (cellsOf T39 a0)), (nat_lit 4, ABlk.box (nat_lit 54) (cellsOf T54 ph4))] }
noncomputable def b19_1 (K : Nat) (a0 : El T39) (r0 : Int → Option (Int)) (r1 : Int → Int → (El T54) → Option (Int)) (ps3 : Int) (ps5 : Int) (ph4 : El T54) : Option (Int) :=(if decide (ps5 < (↑(List.length ph4.2) : Int)) = true then (if decide ((0 : Int) ≤ ps5 ∧ ps5 < (↑(List.length ph4.2) : Int)) = true then (if (List.getD ph4.2 ps5.toNat (zEl (Ty.int IntKind.u32)) == (0 : Int)) = true then some ((2 : Int))
    else r1 (ps3) (IntKind.i64.wrap (ps5 + (1 : Int))) (ph4))
   else none)
  else r0 (IntKind.i64.wrap (ps3 + (1 : Int))))
noncomputable def L19_1 (K : Nat) (a0 : El T39) (r0 : Int → Option (Int)) : Nat → Int → Int → (El T54) → Option (Int)
  | 0, _, _, _ => none
  | n + 1, ps3, ps5, ph4 => b19_1 K a0 r0 (L19_1 K a0 r0 n) ps3 ps5 ph4
noncomputable def b19_0 (K : Nat) (a0 : El T39) (r0 : Int → Option (Int)) (l1 : Nat → Int → Int → (El T54) → Option (Int)) (ps3 : Int) : Option (Int) :=(if decide (ps3 < (↑(List.length a0.2) : Int)) = true then (if decide ((0 : Int) ≤ ps3 ∧ ps3 < (↑(List.length a0.2) : Int)) = true then (if ((List.getD a0.2 ps3.toNat (zEl T54)).1 == (1 : Int)) = true then (if ((↑(List.length (List.getD a0.2 ps3.toNat (zEl T54)).2) : Int) == (0 : Int)) = true then some ((2 : Int))
     else (if decide ((↑(List.length (List.getD a0.2 ps3.toNat (zEl T54)).2) : Int) > (20 : Int)) = true then some ((2 : Int))
      else l1 K (ps3) ((0 : Int)) (List.getD a0.2 ps3.toNat (zEl T54))))
    else (if ((List.getD a0.2 ps3.toNat (zEl T54)).1 == (2 : Int)) = true then (if ((↑(List.length (List.getD a0.2 ps3.toNat (zEl T54)).2) : Int) == (0 : Int)) = true then some ((2 : Int))
      else (if decide ((↑(List.length (List.getD a0.2 ps3.toNat (zEl T54)).2) : Int) > (20 : Int)) = true then some ((2 : Int))
       else l1 K (ps3) ((0 : Int)) (List.getD a0.2 ps3.toNat (zEl T54))))
     else (if ((List.getD a0.2 ps3.toNat (zEl T54)).1 == (3 : Int)) = true then (if ((↑(List.length (List.getD a0.2 ps3.toNat (zEl T54)).2) : Int) == (0 : Int)) = true then some ((2 : Int))
       else (if decide ((↑(List.length (List.getD a0.2 ps3.toNat (zEl T54)).2) : Int) > (20 : Int)) = true then some ((2 : Int))
        else l1 K (ps3) ((0 : Int)) (List.getD a0.2 ps3.toNat (zEl T54))))
      else (if ((List.getD a0.2 ps3.toNat (zEl T54)).1 == (4 : Int)) = true then (if ((↑(List.length (List.getD a0.2 ps3.toNat (zEl T54)).2) : Int) == (0 : Int)) = true then some ((2 : Int))
        else (if decide ((↑(List.length (List.getD a0.2 ps3.toNat (zEl T54)).2) : Int) > (20 : Int)) = true then some ((2 : Int))
         else l1 K (ps3) ((0 : Int)) (List.getD a0.2 ps3.toNat (zEl T54))))
       else (if ((List.getD a0.2 ps3.toNat (zEl T54)).1 == (5 : Int)) = true then (if ((↑(List.length (List.getD a0.2 ps3.toNat (zEl T54)).2) : Int) != (0 : Int)) = true then some ((2 : Int))
         else l1 K (ps3) ((0 : Int)) (List.getD a0.2 ps3.toNat (zEl T54)))
        else some ((2 : Int)))))))
   else none)
  else some ((0 : Int)))
noncomputable def L19_0 (K : Nat) (a0 : El T39) : Nat → Int → Option (Int)
  | 0, _ => none
  | n + 1, ps3 => b19_0 K a0 (L19_0 K a0 n) (L19_1 K a0 (L19_0 K a0 n)) ps3
noncomputable def t19 (K : Nat) (a0 : El T39) (l0 : Nat → Int → Option (Int)) : Option (Int) := (if decide ((↑(List.length a0.2) : Int) > (20 : Int)) = true then some ((2 : Int))
 else (if a0.1 = true then (if decide ((↑(List.length a0.2) : Int) ≤ (1 : Int)) = true then some ((2 : Int))
   else l0 K ((0 : Int)))
  else l0 K ((0 : Int))))
noncomputable def G19 (K : Nat) (a0 : El T39) : Option (Int) := t19 K a0 (L19_0 K a0)
theorem lp19_1 (K : Nat) (a0 : El T39) : ∀ (m0 : Nat) (n : Nat) (ps3 : Int) (ps5 : Int) (ph4 : El T54), loopN Try.prog (tab19) 0 K Try.f19 la19 dq19.k 1 [m0] n (hd19_1 a0 ps3 ps5 ph4) = L19_1 K a0 (fun q0 => loopN Try.prog (tab19) 0 K Try.f19 la19 dq19.k 0 [] m0 (hd19_0 a0 q0)) n ps3 ps5 ph4
  | m0, 0, _, _, _ => by kernel_rfl
  | m0, n + 1, ps3, ps5, ph4 => by
    have h : loopN Try.prog (tab19) 0 K Try.f19 la19 dq19.k 1 [m0] (n + 1) (hd19_1 a0 ps3 ps5 ph4) = b19_1 K a0 (fun q0 => loopN Try.prog (tab19) 0 K Try.f19 la19 dq19.k 0 [] m0 (hd19_0 a0 q0)) (fun q0 q1 q2 => loopN Try.prog (tab19) 0 K Try.f19 la19 dq19.k 1 [m0] n (hd19_1 a0 q0 q1 q2)) ps3 ps5 ph4 := by kernel_rfl
    rw [h]
    simp only [lp19_1 K a0 m0 n]
    rfl
theorem lp19_0 (K : Nat) (a0 : El T39) : ∀ (n : Nat) (ps3 : Int), loopN Try.prog (tab19) 0 K Try.f19 la19 dq19.k 0 [] n (hd19_0 a0 ps3) = L19_0 K a0 n ps3
  | 0, _ => by kernel_rfl
  | n + 1, ps3 => by
    have h : loopN Try.prog (tab19) 0 K Try.f19 la19 dq19.k 0 [] (n + 1) (hd19_0 a0 ps3) = b19_0 K a0 (fun q0 => loopN Try.prog (tab19) 0 K Try.f19 la19 dq19.k 0 [] n (hd19_0 a0 q0)) (fun k q0 q1 q2 => loopN Try.prog (tab19) 0 K Try.f19 la19 dq19.k 1 [n] k (hd19_1 a0 q0 q1 q2)) ps3 := by kernel_rfl
    rw [h]
    simp only [lp19_0 K a0 n, lp19_1 K a0 n]
    rfl
theorem ev19 (K : Nat) (a0 : El T39) : evFun Try.prog (tab19) 0 K Try.f19 la19 [.agg (cellsOf T39 a0)] [] dq19.k = G19 K a0 := by
  have h : evFun Try.prog (tab19) 0 K Try.f19 la19 [.agg (cellsOf T39 a0)] [] dq19.k = t19 K a0 (fun k q0 => loopN Try.prog (tab19) 0 K Try.f19 la19 dq19.k 0 [] k (hd19_0 a0 q0)) := by kernel_rfl
  rw [h]
  simp only [lp19_0 K a0]
  rfl
noncomputable def F19 (K : Nat) (a0 : El T39) : Option (Int) := G19 K a0
theorem cok19 (K : Nat) : CallOK Try.prog (tab19) := none_ok
theorem ok19 (K : Nat) : RowOK Try.prog 19 (row ad19 dq19 fun p => F19 K p) := row_ok fun x r h => has_of (cok19 K) Try.func19 ((ev19 K x).trans h)
end Go.Proofs.YthebmlpohkfhbaaE
