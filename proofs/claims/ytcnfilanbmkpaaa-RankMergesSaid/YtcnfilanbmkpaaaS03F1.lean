import Derived.Test.YtcnfilanbmkpaaaS03T
set_option linter.all false
namespace Go.Proofs.YtcnfilanbmkpaaaE
open Go Go.Proofs
set_option maxRecDepth 100000
set_option linter.unusedVariables false
variable {D : Prop}
/-! ganger/gangerlaw03.many -/
noncomputable def tab10 : Tab := Tab.none
noncomputable def t10 (K : Nat) (a0 : List (El T35)) (a1 : List (El T35)) : Option (Bool) := (if decide ((↑a0.length : Int) > (300 : Int)) = true then some (true)
 else some (decide ((↑a1.length : Int) > (300 : Int))))
noncomputable def G10 (K : Nat) (a0 : List (El T35)) (a1 : List (El T35)) : Option (Bool) := t10 K a0 a1
theorem ev10 (K : Nat) (a0 : List (El T35)) (a1 : List (El T35)) : evFun Try.prog (tab10) 0 K Try.f10 [] [.row T35 a0, .row T35 a1] [] dq10.k = G10 K a0 a1 := by
  kernel_rfl
noncomputable def F10 (K : Nat) (a0 : List (El T35)) (a1 : List (El T35)) : Option (Bool) := G10 K a0 a1
theorem cok10 (K : Nat) : CallOK D Try.prog (tab10) := none_ok
theorem ok10 (K : Nat) : RowOK D Try.prog 10 (row ad10 dq10 fun p => F10 K p.1 p.2) := row_ok fun x r h => has_of (cok10 K) Try.func10 ((ev10 K x.1 x.2).trans h)
/-! ganger/rank.twice -/
noncomputable def tab32 : Tab := Tab.none
noncomputable def la32 : List (List Tidy) := [[.only [3, 7, 8, 9], .ids [6, 8], .top [1000000]]]
noncomputable def hd32_0 (a0 : List (El T35)) (ps9 : Int) (ph6 : List ((Int) × (Bool))) : St := { tm := slots (nat_lit 21) [(nat_lit 3, AV.mp (nat_lit 6)), (nat_lit 7, AV.row T35 a0), (nat_lit 8, AV.sc (Value.int IntKind.i64 (↑a0.length : Int))), (nat_lit 9, AV.sc (Value.int IntKind.i64 ps9))], H := [(nat_lit 6, ABlk.mp (Ty.int IntKind.u32) Ty.bool ph6)] }
noncomputable def b32_0 (K : Nat) (a0 : List (El T35)) (r0 : Int → (List ((Int) × (Bool))) → Option (Bool)) (ps9 : Int) (ph6 : List ((Int) × (Bool))) : Option (Bool) :=(if decide (ps9 < (↑a0.length : Int)) = true then (if decide ((0 : Int) ≤ ps9 ∧ ps9 < (↑a0.length : Int)) = true then (if mget (Ty.int IntKind.u32) Ty.bool (a0.getD ps9.toNat (zEl T35)).2.2 ph6 false = true then some (true)
    else r0 (IntKind.i64.wrap (ps9 + (1 : Int))) (mput (Ty.int IntKind.u32) Ty.bool (a0.getD ps9.toNat (zEl T35)).2.2 true ph6))
   else none)
  else some (false))
noncomputable def L32_0 (K : Nat) (a0 : List (El T35)) : Nat → Int → (List ((Int) × (Bool))) → Option (Bool)
  | 0, _, _ => none
  | n + 1, ps9, ph6 => b32_0 K a0 (L32_0 K a0 n) ps9 ph6
noncomputable def t32 (K : Nat) (a0 : List (El T35)) (l0 : Nat → Int → (List ((Int) × (Bool))) → Option (Bool)) : Option (Bool) := l0 K ((0 : Int)) ([])
noncomputable def G32 (K : Nat) (a0 : List (El T35)) : Option (Bool) := t32 K a0 (L32_0 K a0)
theorem lp32_0 (K : Nat) (a0 : List (El T35)) : ∀ (n : Nat) (ps9 : Int) (ph6 : List ((Int) × (Bool))), loopN Try.prog (tab32) 0 K Try.f32 la32 dq32.k 0 [] n (hd32_0 a0 ps9 ph6) = L32_0 K a0 n ps9 ph6
  | 0, _, _ => by kernel_rfl
  | n + 1, ps9, ph6 => by
    have h : loopN Try.prog (tab32) 0 K Try.f32 la32 dq32.k 0 [] (n + 1) (hd32_0 a0 ps9 ph6) = b32_0 K a0 (fun q0 q1 => loopN Try.prog (tab32) 0 K Try.f32 la32 dq32.k 0 [] n (hd32_0 a0 q0 q1)) ps9 ph6 := by kernel_rfl
    rw [h]
    simp only [lp32_0 K a0 n]
    rfl
theorem ev32 (K : Nat) (a0 : List (El T35)) : evFun Try.prog (tab32) 0 K Try.f32 la32 [.row T35 a0] [] dq32.k = G32 K a0 := by
  have h : evFun Try.prog (tab32) 0 K Try.f32 la32 [.row T35 a0] [] dq32.k = t32 K a0 (fun k q0 q1 => loopN Try.prog (tab32) 0 K Try.f32 la32 dq32.k 0 [] k (hd32_0 a0 q0 q1)) := by kernel_rfl
  rw [h]
  simp only [lp32_0 K a0]
  rfl
noncomputable def F32 (K : Nat) (a0 : List (El T35)) : Option (Bool) := G32 K a0
theorem cok32 (K : Nat) : CallOK D Try.prog (tab32) := none_ok
theorem ok32 (K : Nat) : RowOK D Try.prog 32 (row ad32 dq32 fun p => F32 K p) := row_ok fun x r h => has_of (cok32 K) Try.func32 ((ev32 K x).trans h)
/-! slices.Clone[[]ganger/api.Key,ganger/api.Key] -/
noncomputable def tab35 : Tab := Tab.none
noncomputable def t35 (K : Nat) (a0 : List (El T35)) : Option (List (El T35)) := (if a0.length = (0 : Nat) then 
  (both (some ([]))
  ((if decide (((0 : Nat) + a0.length) * Try.prog.types[(35 : Nat)].bytes ≤ (140737488355328 : Nat)) = true then some (a0)
   else none)))
 else (if decide (((0 : Nat) + a0.length) * Try.prog.types[(35 : Nat)].bytes ≤ (140737488355328 : Nat)) = true then some (a0)
  else none))
noncomputable def G35 (K : Nat) (a0 : List (El T35)) : Option (List (El T35)) := t35 K a0
theorem ev35 (K : Nat) (a0 : List (El T35)) : evFun Try.prog (tab35) 0 K Try.f35 [] [.row T35 a0] [] dq35.k = G35 K a0 := by
  kernel_rfl
noncomputable def F35 (K : Nat) (a0 : List (El T35)) : Option (List (El T35)) := G35 K a0
theorem cok35 (K : Nat) : CallOK D Try.prog (tab35) := none_ok
theorem ok35 (K : Nat) : RowOK D Try.prog 35 (row ad35 dq35 fun p => F35 K p) := row_ok fun x r h => has_of (cok35 K) Try.func35 ((ev35 K x).trans h)
/-! cmp.isNaN[int] -/
noncomputable def tab57 : Tab := Tab.none
noncomputable def t57 (K : Nat) (a0 : Int) : Option (Bool) := some (a0 != a0)
noncomputable def G57 (K : Nat) (a0 : Int) : Option (Bool) := t57 K a0
theorem ev57 (K : Nat) (a0 : Int) : evFun Try.prog (tab57) 0 K Try.f57 [] [I .i64 a0] [] dq57.k = G57 K a0 := by
  kernel_rfl
noncomputable def F57 (K : Nat) (a0 : Int) : Option (Bool) := G57 K a0
theorem cok57 (K : Nat) : CallOK D Try.prog (tab57) := none_ok
theorem ok57 (K : Nat) : RowOK D Try.prog 57 (row ad57 dq57 fun p => F57 K p) := row_ok fun x r h => has_of (cok57 K) Try.func57 ((ev57 K x).trans h)
/-! cmp.Compare[int] -/
noncomputable def tab49 (F57 : Int → Option (Bool)) : Tab := (Tab.none.add 57 (row ad57 dq57 fun p => F57 p))
noncomputable def t49 (F57 : Int → Option (Bool)) (K : Nat) (a0 : Int) (a1 : Int) : Option (Int) := 
 (Option.bind (F57 a0) fun x0 => 
  (Option.bind (F57 a1) fun x1 => (if x0 = true then (if x1 = true then some ((0 : Int))
    else some ((-1 : Int)))
   else (if x1 = true then some ((1 : Int))
    else (if decide (a0 < a1) = true then some ((-1 : Int))
     else (if decide (a0 > a1) = true then some ((1 : Int))
      else some ((0 : Int))))))))
noncomputable def G49 (F57 : Int → Option (Bool)) (K : Nat) (a0 : Int) (a1 : Int) : Option (Int) := t49 F57 K a0 a1
theorem ev49 (F57 : Int → Option (Bool)) (K : Nat) (a0 : Int) (a1 : Int) : evFun Try.prog (tab49 F57) 0 K Try.f49 [] [I .i64 a0, I .i64 a1] [] dq49.k = G49 F57 K a0 a1 := by
  kernel_rfl
noncomputable def F49 (K : Nat) (a0 : Int) (a1 : Int) : Option (Int) := G49 (F57 K) K a0 a1
theorem cok49 (K : Nat) : CallOK D Try.prog (tab49 (F57 K)) := (add_ok none_ok ent57 (ok57 K))
theorem ok49 (K : Nat) : RowOK D Try.prog 49 (row ad49 dq49 fun p => F49 K p.1 p.2) := row_ok fun x r h => has_of (cok49 K) Try.func49 ((ev49 (F57 K) K x.1 x.2).trans h)
/-! cmp.isNaN[uint32] -/
noncomputable def tab58 : Tab := Tab.none
noncomputable def t58 (K : Nat) (a0 : Int) : Option (Bool) := some (a0 != a0)
noncomputable def G58 (K : Nat) (a0 : Int) : Option (Bool) := t58 K a0
theorem ev58 (K : Nat) (a0 : Int) : evFun Try.prog (tab58) 0 K Try.f58 [] [I .u32 a0] [] dq58.k = G58 K a0 := by
  kernel_rfl
noncomputable def F58 (K : Nat) (a0 : Int) : Option (Bool) := G58 K a0
theorem cok58 (K : Nat) : CallOK D Try.prog (tab58) := none_ok
theorem ok58 (K : Nat) : RowOK D Try.prog 58 (row ad58 dq58 fun p => F58 K p) := row_ok fun x r h => has_of (cok58 K) Try.func58 ((ev58 K x).trans h)
/-! cmp.Compare[uint32] -/
noncomputable def tab50 (F58 : Int → Option (Bool)) : Tab := (Tab.none.add 58 (row ad58 dq58 fun p => F58 p))
noncomputable def t50 (F58 : Int → Option (Bool)) (K : Nat) (a0 : Int) (a1 : Int) : Option (Int) := 
 (Option.bind (F58 a0) fun x0 => 
  (Option.bind (F58 a1) fun x1 => (if x0 = true then (if x1 = true then some ((0 : Int))
    else some ((-1 : Int)))
   else (if x1 = true then some ((1 : Int))
    else (if decide (a0 < a1) = true then some ((-1 : Int))
     else (if decide (a0 > a1) = true then some ((1 : Int))
      else some ((0 : Int))))))))
noncomputable def G50 (F58 : Int → Option (Bool)) (K : Nat) (a0 : Int) (a1 : Int) : Option (Int) := t50 F58 K a0 a1
theorem ev50 (F58 : Int → Option (Bool)) (K : Nat) (a0 : Int) (a1 : Int) : evFun Try.prog (tab50 F58) 0 K Try.f50 [] [I .u32 a0, I .u32 a1] [] dq50.k = G50 F58 K a0 a1 := by
  kernel_rfl
noncomputable def F50 (K : Nat) (a0 : Int) (a1 : Int) : Option (Int) := G50 (F58 K) K a0 a1
theorem cok50 (K : Nat) : CallOK D Try.prog (tab50 (F58 K)) := (add_ok none_ok ent58 (ok58 K))
theorem ok50 (K : Nat) : RowOK D Try.prog 50 (row ad50 dq50 fun p => F50 K p.1 p.2) := row_ok fun x r h => has_of (cok50 K) Try.func50 ((ev50 (F58 K) K x.1 x.2).trans h)
/-! cmp.Or[int] -/
noncomputable def tab48 : Tab := Tab.none
noncomputable def la48 : List (List Tidy) := [[.only [3, 6, 7, 8], .ids [7], .top [1000000]]]
noncomputable def hd48_0 (a0 : List (El (.int .i64))) (ps8 : Int) : St := { tm := slots (nat_lit 18) [(nat_lit 3, AV.sc (Value.int IntKind.i64 (0 : Int))), (nat_lit 6, AV.row (Ty.int IntKind.i64) a0), (nat_lit 7, AV.sc (Value.int IntKind.i64 (↑a0.length : Int))), (nat_lit 8, AV.sc (Value.int IntKind.i64 ps8))], H := [] }
noncomputable def b48_0 (K : Nat) (a0 : List (El (.int .i64))) (r0 : Int → Option (Int)) (ps8 : Int) : Option (Int) :=(if decide (ps8 < (↑a0.length : Int)) = true then (if decide ((0 : Int) ≤ ps8 ∧ ps8 < (↑a0.length : Int)) = true then (if (a0.getD ps8.toNat (zEl (Ty.int IntKind.i64)) != (0 : Int)) = true then some (a0.getD ps8.toNat (zEl (Ty.int IntKind.i64)))
    else r0 (IntKind.i64.wrap (ps8 + (1 : Int))))
   else none)
  else some ((0 : Int)))
noncomputable def L48_0 (K : Nat) (a0 : List (El (.int .i64))) : Nat → Int → Option (Int)
  | 0, _ => none
  | n + 1, ps8 => b48_0 K a0 (L48_0 K a0 n) ps8
noncomputable def t48 (K : Nat) (a0 : List (El (.int .i64))) (l0 : Nat → Int → Option (Int)) : Option (Int) := l0 K ((0 : Int))
noncomputable def G48 (K : Nat) (a0 : List (El (.int .i64))) : Option (Int) := t48 K a0 (L48_0 K a0)
theorem lp48_0 (K : Nat) (a0 : List (El (.int .i64))) : ∀ (n : Nat) (ps8 : Int), loopN Try.prog (tab48) 0 K Try.f48 la48 dq48.k 0 [] n (hd48_0 a0 ps8) = L48_0 K a0 n ps8
  | 0, _ => by kernel_rfl
  | n + 1, ps8 => by
    have h : loopN Try.prog (tab48) 0 K Try.f48 la48 dq48.k 0 [] (n + 1) (hd48_0 a0 ps8) = b48_0 K a0 (fun q0 => loopN Try.prog (tab48) 0 K Try.f48 la48 dq48.k 0 [] n (hd48_0 a0 q0)) ps8 := by kernel_rfl
    rw [h]
    simp only [lp48_0 K a0 n]
    rfl
theorem ev48 (K : Nat) (a0 : List (El (.int .i64))) : evFun Try.prog (tab48) 0 K Try.f48 la48 [.row (.int .i64) a0] [] dq48.k = G48 K a0 := by
  have h : evFun Try.prog (tab48) 0 K Try.f48 la48 [.row (.int .i64) a0] [] dq48.k = t48 K a0 (fun k q0 => loopN Try.prog (tab48) 0 K Try.f48 la48 dq48.k 0 [] k (hd48_0 a0 q0)) := by kernel_rfl
  rw [h]
  simp only [lp48_0 K a0]
  rfl
noncomputable def F48 (K : Nat) (a0 : List (El (.int .i64))) : Option (Int) := G48 K a0
theorem cok48 (K : Nat) : CallOK D Try.prog (tab48) := none_ok
theorem ok48 (K : Nat) : RowOK D Try.prog 48 (row ad48 dq48 fun p => F48 K p) := row_ok fun x r h => has_of (cok48 K) Try.func48 ((ev48 K x).trans h)
end Go.Proofs.YtcnfilanbmkpaaaE
