import Derived.Test.YtcnfilanbmkpaaaS03W53
set_option linter.all false
namespace Go.Proofs.YtcnfilanbmkpaaaE
open Go Go.Proofs
set_option maxRecDepth 100000
set_option linter.unusedVariables false
variable {D : Prop}
/-! cmp.Or[ganger/api.Errno] -/
noncomputable def tab40 : Tab := Tab.none
noncomputable def la40 : List (List Tidy) := [[.only [3, 6, 7, 8], .ids [7], .top [1000000]]]
noncomputable def hd40_0 (a0 : List (El (.int .i64))) (ps8 : Int) : St := { tm := slots (nat_lit 18) [(nat_lit 3, AV.sc (Value.int IntKind.i64 (0 : Int))), (nat_lit 6, AV.row (Ty.int IntKind.i64) a0), (nat_lit 7, AV.sc (Value.int IntKind.i64 (↑a0.length : Int))), (nat_lit 8, AV.sc (Value.int IntKind.i64 ps8))], H := [] }
noncomputable def b40_0 (K : Nat) (a0 : List (El (.int .i64))) (r0 : Int → Option (Int)) (ps8 : Int) : Option (Int) :=(if decide (ps8 < (↑a0.length : Int)) = true then (if decide ((0 : Int) ≤ ps8 ∧ ps8 < (↑a0.length : Int)) = true then (if (a0.getD ps8.toNat (zEl (Ty.int IntKind.i64)) != (0 : Int)) = true then some (a0.getD ps8.toNat (zEl (Ty.int IntKind.i64)))
    else r0 (IntKind.i64.wrap (ps8 + (1 : Int))))
   else none)
  else some ((0 : Int)))
noncomputable def L40_0 (K : Nat) (a0 : List (El (.int .i64))) : Nat → Int → Option (Int)
  | 0, _ => none
  | n + 1, ps8 => b40_0 K a0 (L40_0 K a0 n) ps8
noncomputable def t40 (K : Nat) (a0 : List (El (.int .i64))) (l0 : Nat → Int → Option (Int)) : Option (Int) := l0 K ((0 : Int))
noncomputable def G40 (K : Nat) (a0 : List (El (.int .i64))) : Option (Int) := t40 K a0 (L40_0 K a0)
theorem lp40_0 (K : Nat) (a0 : List (El (.int .i64))) : ∀ (n : Nat) (ps8 : Int), loopN Try.prog (tab40) 0 K Try.f40 la40 dq40.k 0 [] n (hd40_0 a0 ps8) = L40_0 K a0 n ps8
  | 0, _ => by kernel_rfl
  | n + 1, ps8 => by
    have h : loopN Try.prog (tab40) 0 K Try.f40 la40 dq40.k 0 [] (n + 1) (hd40_0 a0 ps8) = b40_0 K a0 (fun q0 => loopN Try.prog (tab40) 0 K Try.f40 la40 dq40.k 0 [] n (hd40_0 a0 q0)) ps8 := by kernel_rfl
    rw [h]
    simp only [lp40_0 K a0 n]
    rfl
theorem ev40 (K : Nat) (a0 : List (El (.int .i64))) : evFun Try.prog (tab40) 0 K Try.f40 la40 [.row (.int .i64) a0] [] dq40.k = G40 K a0 := by
  have h : evFun Try.prog (tab40) 0 K Try.f40 la40 [.row (.int .i64) a0] [] dq40.k = t40 K a0 (fun k q0 => loopN Try.prog (tab40) 0 K Try.f40 la40 dq40.k 0 [] k (hd40_0 a0 q0)) := by kernel_rfl
  rw [h]
  simp only [lp40_0 K a0]
  rfl
noncomputable def F40 (K : Nat) (a0 : List (El (.int .i64))) : Option (Int) := G40 K a0
theorem cok40 (K : Nat) : CallOK D Try.prog (tab40) := none_ok
theorem ok40 (K : Nat) : RowOK D Try.prog 40 (row ad40 dq40 fun p => F40 K p) := row_ok fun x r h => has_of (cok40 K) Try.func40 ((ev40 K x).trans h)
/-! slices.Concat[[]ganger/api.Key,ganger/api.Key] -/
noncomputable def tab41 (F53 : Unit → Int → Option (List (El T35))) : Tab := (Tab.none.add 53 (row ad53 dq53 fun p => F53 p.1 p.2))
noncomputable def la41 : List (List Tidy) := [[.only [0, 3, 9, 10, 11], .ids [10, 24, 26, 33], .top [1000000]], [.only [6, 25, 26, 27], .ren 33 24, .ids [10, 17, 24, 26, 33], .top [1000001]]]
noncomputable def hd41_0 (a0 : List (El (.sl T35))) (ps3 : Int) (ps11 : Int) : St := { tm := slots (nat_lit 36) [(nat_lit 0, AV.row T35.sl a0), (nat_lit 3, AV.sc (Value.int IntKind.i64 ps3)), (nat_lit 9, AV.row T35.sl a0), (nat_lit 10, AV.sc (Value.int IntKind.i64 (↑a0.length : Int))), (nat_lit 11, AV.sc (Value.int IntKind.i64 ps11))], H := [] }
noncomputable def hd41_1 (a0 : List (El (.sl T35))) (ps27 : Int) (ph24 : List (El T35)) : St := { tm := slots (nat_lit 36) [(nat_lit 6, AV.own (nat_lit 24)), (nat_lit 25, AV.row T35.sl a0), (nat_lit 26, AV.sc (Value.int IntKind.i64 (↑a0.length : Int))), (nat_lit 27, AV.sc (Value.int IntKind.i64 ps27))], H := [(nat_lit 24, ABlk.arr (nat_lit 35) T35 ph24)] }
noncomputable def b41_1 (F53 : Unit → Int → Option (List (El T35))) (K : Nat) (a0 : List (El (.sl T35))) (r1 : Int → (List (El T35)) → Option (List (El T35))) (ps27 : Int) (ph24 : List (El T35)) : Option (List (El T35)) :=(if decide (ps27 < (↑a0.length : Int)) = true then (if decide ((0 : Int) ≤ ps27 ∧ ps27 < (↑a0.length : Int)) = true then (if decide ((ph24.length + List.length (a0.getD ps27.toNat (zEl T35.sl))) * Try.prog.types[(35 : Nat)].bytes ≤ (140737488355328 : Nat)) = true then r1 (IntKind.i64.wrap (ps27 + (1 : Int))) (ph24 ++ a0.getD ps27.toNat (zEl T35.sl))
    else none)
   else none)
  else some (ph24))
noncomputable def L41_1 (F53 : Unit → Int → Option (List (El T35))) (K : Nat) (a0 : List (El (.sl T35))) : Nat → Int → (List (El T35)) → Option (List (El T35))
  | 0, _, _ => none
  | n + 1, ps27, ph24 => b41_1 F53 K a0 (L41_1 F53 K a0 n) ps27 ph24
noncomputable def b41_0 (F53 : Unit → Int → Option (List (El T35))) (K : Nat) (a0 : List (El (.sl T35))) (r0 : Int → Int → Option (List (El T35))) (l1 : Nat → Int → (List (El T35)) → Option (List (El T35))) (ps3 : Int) (ps11 : Int) : Option (List (El T35)) :=(if decide (ps11 < (↑a0.length : Int)) = true then (if decide ((0 : Int) ≤ ps11 ∧ ps11 < (↑a0.length : Int)) = true then (if decide (IntKind.i64.wrap (ps3 + (↑(List.length (a0.getD ps11.toNat (zEl T35.sl))) : Int)) < (0 : Int)) = true then none
    else r0 (IntKind.i64.wrap (ps3 + (↑(List.length (a0.getD ps11.toNat (zEl T35.sl))) : Int))) (IntKind.i64.wrap (ps11 + (1 : Int))))
   else none)
  else 
   (Option.bind (F53 () ps3) fun x0 => l1 K ((0 : Int)) (x0)))
noncomputable def L41_0 (F53 : Unit → Int → Option (List (El T35))) (K : Nat) (a0 : List (El (.sl T35))) : Nat → Int → Int → Option (List (El T35))
  | 0, _, _ => none
  | n + 1, ps3, ps11 => b41_0 F53 K a0 (L41_0 F53 K a0 n) (L41_1 F53 K a0) ps3 ps11
noncomputable def t41 (F53 : Unit → Int → Option (List (El T35))) (K : Nat) (a0 : List (El (.sl T35))) (l0 : Nat → Int → Int → Option (List (El T35))) : Option (List (El T35)) := l0 K ((0 : Int)) ((0 : Int))
noncomputable def G41 (F53 : Unit → Int → Option (List (El T35))) (K : Nat) (a0 : List (El (.sl T35))) : Option (List (El T35)) := t41 F53 K a0 (L41_0 F53 K a0)
theorem lp41_1 (F53 : Unit → Int → Option (List (El T35))) (K : Nat) (a0 : List (El (.sl T35))) : ∀ (n : Nat) (ps27 : Int) (ph24 : List (El T35)), loopN Try.prog (tab41 F53) 0 K Try.f41 la41 dq41.k 1 [] n (hd41_1 a0 ps27 ph24) = L41_1 F53 K a0 n ps27 ph24
  | 0, _, _ => by kernel_rfl
  | n + 1, ps27, ph24 => by
    have h : loopN Try.prog (tab41 F53) 0 K Try.f41 la41 dq41.k 1 [] (n + 1) (hd41_1 a0 ps27 ph24) = b41_1 F53 K a0 (fun q0 q1 => loopN Try.prog (tab41 F53) 0 K Try.f41 la41 dq41.k 1 [] n (hd41_1 a0 q0 q1)) ps27 ph24 := by kernel_rfl
    rw [h]
    simp only [lp41_1 F53 K a0 n]
    rfl
theorem lp41_0 (F53 : Unit → Int → Option (List (El T35))) (K : Nat) (a0 : List (El (.sl T35))) : ∀ (n : Nat) (ps3 : Int) (ps11 : Int), loopN Try.prog (tab41 F53) 0 K Try.f41 la41 dq41.k 0 [] n (hd41_0 a0 ps3 ps11) = L41_0 F53 K a0 n ps3 ps11
  | 0, _, _ => by kernel_rfl
  | n + 1, ps3, ps11 => by
    have h : loopN Try.prog (tab41 F53) 0 K Try.f41 la41 dq41.k 0 [] (n + 1) (hd41_0 a0 ps3 ps11) = b41_0 F53 K a0 (fun q0 q1 => loopN Try.prog (tab41 F53) 0 K Try.f41 la41 dq41.k 0 [] n (hd41_0 a0 q0 q1)) (fun k q0 q1 => loopN Try.prog (tab41 F53) 0 K Try.f41 la41 dq41.k 1 [] k (hd41_1 a0 q0 q1)) ps3 ps11 := by kernel_rfl
    rw [h]
    simp only [lp41_0 F53 K a0 n, lp41_1 F53 K a0]
    rfl
theorem ev41 (F53 : Unit → Int → Option (List (El T35))) (K : Nat) (a0 : List (El (.sl T35))) : evFun Try.prog (tab41 F53) 0 K Try.f41 la41 [.row (.sl T35) a0] [] dq41.k = G41 F53 K a0 := by
  have h : evFun Try.prog (tab41 F53) 0 K Try.f41 la41 [.row (.sl T35) a0] [] dq41.k = t41 F53 K a0 (fun k q0 q1 => loopN Try.prog (tab41 F53) 0 K Try.f41 la41 dq41.k 0 [] k (hd41_0 a0 q0 q1)) := by kernel_rfl
  rw [h]
  simp only [lp41_0 F53 K a0]
  rfl
noncomputable def F41 (K : Nat) (a0 : List (El (.sl T35))) : Option (List (El T35)) := G41 (F53 K) K a0
theorem cok41 (K : Nat) : CallOK D Try.prog (tab41 (F53 K)) := (add_ok none_ok ent53 (ok53 K))
theorem ok41 (K : Nat) : RowOK D Try.prog 41 (row ad41 dq41 fun p => F41 K p) := row_ok fun x r h => has_of (cok41 K) Try.func41 ((ev41 (F53 K) K x).trans h)
/-! ganger/rank.Merge -/
noncomputable def tab26 (F13 : (List (El T35)) → Option (Int)) (F40 : (List (El (.int .i64))) → Option (Int)) (F41 : (List (El (.sl T35))) → Option (List (El T35))) (F32 : (List (El T35)) → Option (Bool)) (F18 : (El T35) → (El T35) → Option (Bool)) : Tab := (((((Tab.none.add 13 (row ad13 dq13 fun p => F13 p)).add 40 (row ad40 dq40 fun p => F40 p)).add 41 (row ad41 dq41 fun p => F41 p)).add 32 (row ad32 dq32 fun p => F32 p)).add 18 (row ad18 dq18 fun p => F18 p.1 p.2))
noncomputable def la26 : List (List Tidy) := [[.only [0, 1, 8], .pro 8 44 35 (T35), .ren 52 44, .ids [10, 12, 13, 14, 20, 21, 23, 44, 52, 57, 59], .top [1000000]]]
noncomputable def hd26_0 (a0 : List (El T35)) (a1 : List (El T35)) (ps0 : List (El T35)) (ps1 : List (El T35)) (ph13 : List (Int)) (ph21 : List (El T35)) (ph44 : List (El T35)) : St := { tm := slots (nat_lit 60) [(nat_lit 0, AV.row T35 ps0), (nat_lit 1, AV.row T35 ps1), (nat_lit 8, AV.own (nat_lit 44))], H := [(nat_lit 13, ABlk.arr (nat_lit 26) (Ty.int IntKind.i64) ph13), (nat_lit 20, ABlk.arr (nat_lit 22) T35.sl [a0, a1]), (nat_lit 21, ABlk.arr (nat_lit 35) T35 ph21), (nat_lit 44, ABlk.arr (nat_lit 35) T35 ph44)] }
noncomputable def b26_0 (F13 : (List (El T35)) → Option (Int)) (F40 : (List (El (.int .i64))) → Option (Int)) (F41 : (List (El (.sl T35))) → Option (List (El T35))) (F32 : (List (El T35)) → Option (Bool)) (F18 : (El T35) → (El T35) → Option (Bool)) (K : Nat) (a0 : List (El T35)) (a1 : List (El T35)) (r0 : (List (El T35)) → (List (El T35)) → (List (Int)) → (List (El T35)) → (List (El T35)) → Option ((List (El T35)) × Int)) (ps0 : List (El T35)) (ps1 : List (El T35)) (ph13 : List (Int)) (ph21 : List (El T35)) (ph44 : List (El T35)) : Option ((List (El T35)) × Int) :=(if decide ((↑ps0.length : Int) > (0 : Int)) = true then (if decide ((↑ps1.length : Int) > (0 : Int)) = true then (if decide ((0 : Int) ≤ (0 : Int) ∧ (0 : Int) < (↑ps0.length : Int)) = true then (if decide ((0 : Int) ≤ (0 : Int) ∧ (0 : Int) < (↑ps1.length : Int)) = true then 
      (Option.bind (F18 (ps0.getD (Int.toNat (0 : Int)) (zEl T35)) (ps1.getD (Int.toNat (0 : Int)) (zEl T35))) fun x5 => (if x5 = true then (if decide ((0 : Int) ≤ (0 : Int) ∧ (0 : Int) < (↑ps0.length : Int)) = true then (if decide ((0 : Int) ≤ (1 : Int) ∧ (1 : Int) ≤ (↑ps0.length : Int) ∧ (↑ps0.length : Int) ≤ (↑ps0.length : Int)) = true then (if decide ((0 : Int) ≤ (1 : Int) ∧ (1 : Int) ≤ (↑ps0.length : Int) ∧ (↑ps0.length : Int) ≤ (↑ps0.length : Int)) = true then (if decide ((ph44.length + [ps0.getD (Int.toNat (0 : Int)) (zEl T35)].length) * Try.prog.types[(35 : Nat)].bytes ≤ (140737488355328 : Nat)) = true then r0 (List.drop (Int.toNat (1 : Int)) (List.take (↑ps0.length : Int).toNat ps0)) (ps1) (ph13) (ph21) (ph44 ++ [ps0.getD (Int.toNat (0 : Int)) (zEl T35)])
           else none)
          else none)
         else none)
        else none)
       else (if decide ((0 : Int) ≤ (0 : Int) ∧ (0 : Int) < (↑ps1.length : Int)) = true then (if decide ((0 : Int) ≤ (1 : Int) ∧ (1 : Int) ≤ (↑ps1.length : Int) ∧ (↑ps1.length : Int) ≤ (↑ps1.length : Int)) = true then (if decide ((0 : Int) ≤ (1 : Int) ∧ (1 : Int) ≤ (↑ps1.length : Int) ∧ (↑ps1.length : Int) ≤ (↑ps1.length : Int)) = true then (if decide ((ph44.length + [ps1.getD (Int.toNat (0 : Int)) (zEl T35)].length) * Try.prog.types[(35 : Nat)].bytes ≤ (140737488355328 : Nat)) = true then r0 (ps0) (List.drop (Int.toNat (1 : Int)) (List.take (↑ps1.length : Int).toNat ps1)) (ph13) (ph21) (ph44 ++ [ps1.getD (Int.toNat (0 : Int)) (zEl T35)])
           else none)
          else none)
         else none)
        else none)))
     else none)
    else none)
   else (if decide ((ph44.length + ps0.length) * Try.prog.types[(35 : Nat)].bytes ≤ (140737488355328 : Nat)) = true then (if decide (((ph44 ++ ps0).length + ps1.length) * Try.prog.types[(35 : Nat)].bytes ≤ (140737488355328 : Nat)) = true then some ((ph44 ++ ps0 ++ ps1, (0 : Int)))
     else none)
    else none))
  else (if decide ((ph44.length + ps0.length) * Try.prog.types[(35 : Nat)].bytes ≤ (140737488355328 : Nat)) = true then (if decide (((ph44 ++ ps0).length + ps1.length) * Try.prog.types[(35 : Nat)].bytes ≤ (140737488355328 : Nat)) = true then some ((ph44 ++ ps0 ++ ps1, (0 : Int)))
    else none)
   else none))
noncomputable def L26_0 (F13 : (List (El T35)) → Option (Int)) (F40 : (List (El (.int .i64))) → Option (Int)) (F41 : (List (El (.sl T35))) → Option (List (El T35))) (F32 : (List (El T35)) → Option (Bool)) (F18 : (El T35) → (El T35) → Option (Bool)) (K : Nat) (a0 : List (El T35)) (a1 : List (El T35)) : Nat → (List (El T35)) → (List (El T35)) → (List (Int)) → (List (El T35)) → (List (El T35)) → Option ((List (El T35)) × Int)
  | 0, _, _, _, _, _ => none
  | n + 1, ps0, ps1, ph13, ph21, ph44 => b26_0 F13 F40 F41 F32 F18 K a0 a1 (L26_0 F13 F40 F41 F32 F18 K a0 a1 n) ps0 ps1 ph13 ph21 ph44
noncomputable def t26 (F13 : (List (El T35)) → Option (Int)) (F40 : (List (El (.int .i64))) → Option (Int)) (F41 : (List (El (.sl T35))) → Option (List (El T35))) (F32 : (List (El T35)) → Option (Bool)) (F18 : (El T35) → (El T35) → Option (Bool)) (K : Nat) (a0 : List (El T35)) (a1 : List (El T35)) (l0 : Nat → (List (El T35)) → (List (El T35)) → (List (Int)) → (List (El T35)) → (List (El T35)) → Option ((List (El T35)) × Int)) : Option ((List (El T35)) × Int) := 
 (Option.bind (F13 a0) fun x0 => 
  (Option.bind (F13 a1) fun x1 => 
   (Option.bind (F40 [x0, x1]) fun x2 => (if (x2 != (0 : Int)) = true then some (([], x2))
    else 
     (Option.bind (F41 [a0, a1]) fun x3 => 
      (Option.bind (F32 x3) fun x4 => (if x4 = true then some (([], (30 : Int)))
       else l0 K (a0) (a1) ([x0, x1]) (x3) ([]))))))))
noncomputable def G26 (F13 : (List (El T35)) → Option (Int)) (F40 : (List (El (.int .i64))) → Option (Int)) (F41 : (List (El (.sl T35))) → Option (List (El T35))) (F32 : (List (El T35)) → Option (Bool)) (F18 : (El T35) → (El T35) → Option (Bool)) (K : Nat) (a0 : List (El T35)) (a1 : List (El T35)) : Option ((List (El T35)) × Int) := t26 F13 F40 F41 F32 F18 K a0 a1 (L26_0 F13 F40 F41 F32 F18 K a0 a1)
theorem lp26_0 (F13 : (List (El T35)) → Option (Int)) (F40 : (List (El (.int .i64))) → Option (Int)) (F41 : (List (El (.sl T35))) → Option (List (El T35))) (F32 : (List (El T35)) → Option (Bool)) (F18 : (El T35) → (El T35) → Option (Bool)) (K : Nat) (a0 : List (El T35)) (a1 : List (El T35)) : ∀ (n : Nat) (ps0 : List (El T35)) (ps1 : List (El T35)) (ph13 : List (Int)) (ph21 : List (El T35)) (ph44 : List (El T35)), loopN Try.prog (tab26 F13 F40 F41 F32 F18) 0 K Try.f26 la26 dq26.k 0 [] n (hd26_0 a0 a1 ps0 ps1 ph13 ph21 ph44) = L26_0 F13 F40 F41 F32 F18 K a0 a1 n ps0 ps1 ph13 ph21 ph44
  | 0, _, _, _, _, _ => by kernel_rfl
  | n + 1, ps0, ps1, ph13, ph21, ph44 => by
    have h : loopN Try.prog (tab26 F13 F40 F41 F32 F18) 0 K Try.f26 la26 dq26.k 0 [] (n + 1) (hd26_0 a0 a1 ps0 ps1 ph13 ph21 ph44) = b26_0 F13 F40 F41 F32 F18 K a0 a1 (fun q0 q1 q2 q3 q4 => loopN Try.prog (tab26 F13 F40 F41 F32 F18) 0 K Try.f26 la26 dq26.k 0 [] n (hd26_0 a0 a1 q0 q1 q2 q3 q4)) ps0 ps1 ph13 ph21 ph44 := by kernel_rfl
    rw [h]
    simp only [lp26_0 F13 F40 F41 F32 F18 K a0 a1 n]
    rfl
theorem ev26 (F13 : (List (El T35)) → Option (Int)) (F40 : (List (El (.int .i64))) → Option (Int)) (F41 : (List (El (.sl T35))) → Option (List (El T35))) (F32 : (List (El T35)) → Option (Bool)) (F18 : (El T35) → (El T35) → Option (Bool)) (K : Nat) (a0 : List (El T35)) (a1 : List (El T35)) : evFun Try.prog (tab26 F13 F40 F41 F32 F18) 0 K Try.f26 la26 [.row T35 a0, .row T35 a1] [] dq26.k = G26 F13 F40 F41 F32 F18 K a0 a1 := by
  have h : evFun Try.prog (tab26 F13 F40 F41 F32 F18) 0 K Try.f26 la26 [.row T35 a0, .row T35 a1] [] dq26.k = t26 F13 F40 F41 F32 F18 K a0 a1 (fun k q0 q1 q2 q3 q4 => loopN Try.prog (tab26 F13 F40 F41 F32 F18) 0 K Try.f26 la26 dq26.k 0 [] k (hd26_0 a0 a1 q0 q1 q2 q3 q4)) := by kernel_rfl
  rw [h]
  simp only [lp26_0 F13 F40 F41 F32 F18 K a0 a1]
  rfl
noncomputable def F26 (K : Nat) (a0 : List (El T35)) (a1 : List (El T35)) : Option ((List (El T35)) × Int) := G26 (F13 K) (F40 K) (F41 K) (F32 K) (F18 K) K a0 a1
theorem cok26 (K : Nat) : CallOK D Try.prog (tab26 (F13 K) (F40 K) (F41 K) (F32 K) (F18 K)) := (add_ok (add_ok (add_ok (add_ok (add_ok none_ok ent13 (ok13 K)) ent40 (ok40 K)) ent41 (ok41 K)) ent32 (ok32 K)) ent18 (ok18 K))
theorem ok26 (K : Nat) : RowOK D Try.prog 26 (row ad26 dq26 fun p => F26 K p.1 p.2) := row_ok fun x r h => has_of (cok26 K) Try.func26 ((ev26 (F13 K) (F40 K) (F41 K) (F32 K) (F18 K) K x.1 x.2).trans h)
/-! ganger/gangerref03.Merge -/
noncomputable def tab27 (F16 : (List (El T35)) → Option (Int)) (F15 : (List (El T35)) → Option ((List (El T35)) × Int)) : Tab := ((Tab.none.add 16 (row ad16 dq16 fun p => F16 p)).add 15 (row ad15 dq15 fun p => F15 p))
noncomputable def t27 (F16 : (List (El T35)) → Option (Int)) (F15 : (List (El T35)) → Option ((List (El T35)) × Int)) (K : Nat) (a0 : List (El T35)) (a1 : List (El T35)) : Option ((List (El T35)) × Int) := 
 (Option.bind (F16 a0) fun x0 => (if (x0 != (0 : Int)) = true then some (([], x0))
  else 
   (Option.bind (F16 a1) fun x1 => (if (x1 != (0 : Int)) = true then some (([], x1))
    else (if decide (a0.length * Try.prog.types[(35 : Nat)].bytes ≤ (140737488355328 : Nat)) = true then (if decide ((a0.length + a1.length) * Try.prog.types[(35 : Nat)].bytes ≤ (140737488355328 : Nat)) = true then 
       (Option.bind (F15 (a0 ++ a1)) fun x2 => some (x2))
      else none)
     else none)))))
noncomputable def G27 (F16 : (List (El T35)) → Option (Int)) (F15 : (List (El T35)) → Option ((List (El T35)) × Int)) (K : Nat) (a0 : List (El T35)) (a1 : List (El T35)) : Option ((List (El T35)) × Int) := t27 F16 F15 K a0 a1
theorem ev27 (F16 : (List (El T35)) → Option (Int)) (F15 : (List (El T35)) → Option ((List (El T35)) × Int)) (K : Nat) (a0 : List (El T35)) (a1 : List (El T35)) : evFun Try.prog (tab27 F16 F15) 0 K Try.f27 [] [.row T35 a0, .row T35 a1] [] dq27.k = G27 F16 F15 K a0 a1 := by
  kernel_rfl
noncomputable def F27 (K : Nat) (a0 : List (El T35)) (a1 : List (El T35)) : Option ((List (El T35)) × Int) := G27 (F16 K) (F15 K) K a0 a1
theorem cok27 (K : Nat) : CallOK D Try.prog (tab27 (F16 K) (F15 K)) := (add_ok (add_ok none_ok ent16 (ok16 K)) ent15 (ok15 K))
theorem ok27 (K : Nat) : RowOK D Try.prog 27 (row ad27 dq27 fun p => F27 K p.1 p.2) := row_ok fun x r h => has_of (cok27 K) Try.func27 ((ev27 (F16 K) (F15 K) K x.1 x.2).trans h)
/-! ganger/gangerlaw03.RankMerges -/
noncomputable def tab7 (F10 : (List (El T35)) → (List (El T35)) → Option (Bool)) (F11 : Option (Bool)) (F12 : (List (El T35)) → Option (List (El T35))) (F26 : (List (El T35)) → (List (El T35)) → Option ((List (El T35)) × Int)) (F27 : (List (El T35)) → (List (El T35)) → Option ((List (El T35)) × Int)) (F17 : (List (El T35)) → (List (El T35)) → Option (Bool)) : Tab := ((((((Tab.none.add 10 (row ad10 dq10 fun p => F10 p.1 p.2)).add 11 (row ad11 dq11 fun p => F11)).add 12 (row ad12 dq12 fun p => F12 p)).add 26 (row ad26 dq26 fun p => F26 p.1 p.2)).add 27 (row ad27 dq27 fun p => F27 p.1 p.2)).add 17 (row ad17 dq17 fun p => F17 p.1 p.2))
noncomputable def la7 : List (List Tidy) := [[.only [0, 1, 5, 6, 7, 11], .ids [14, 15, 17, 19, 23, 29, 34, 53, 57, 60], .top [1000000]]]
noncomputable def hd7_0 (a0 : List (El T35)) (a1 : List (El T35)) (ps11 : Int) (ph17 : List (El T35)) (ph19 : List (El T35)) (ph23 : List (El T35)) (ph29 : List (El T35)) : St := { tm := slots (nat_lit 62) [(nat_lit 0, AV.row T35 a0), (nat_lit 1, AV.row T35 a1), (nat_lit 5, AV.own (nat_lit 17)), (nat_lit 6, AV.own (nat_lit 19)), (nat_lit 7, AV.own (nat_lit 23)), (nat_lit 11, AV.sc (Value.int IntKind.i64 ps11))], H := [(nat_lit 17, ABlk.arr (nat_lit 35) T35 ph17), (nat_lit 19, ABlk.arr (nat_lit 35) T35 ph19), (nat_lit 23, ABlk.arr (nat_lit 35) T35 ph23), (nat_lit 29, ABlk.arr (nat_lit 35) T35 ph29)] }
noncomputable def b7_0 (F10 : (List (El T35)) → (List (El T35)) → Option (Bool)) (F11 : Option (Bool)) (F12 : (List (El T35)) → Option (List (El T35))) (F26 : (List (El T35)) → (List (El T35)) → Option ((List (El T35)) × Int)) (F27 : (List (El T35)) → (List (El T35)) → Option ((List (El T35)) × Int)) (F17 : (List (El T35)) → (List (El T35)) → Option (Bool)) (K : Nat) (a0 : List (El T35)) (a1 : List (El T35)) (r0 : Int → (List (El T35)) → (List (El T35)) → (List (El T35)) → (List (El T35)) → Option (Bool)) (ps11 : Int) (ph17 : List (El T35)) (ph19 : List (El T35)) (ph23 : List (El T35)) (ph29 : List (El T35)) : Option (Bool) :=(if decide (ps11 < (↑ph23.length : Int)) = true then (if decide ((0 : Int) ≤ ps11 ∧ ps11 < (↑ph23.length : Int)) = true then r0 (IntKind.i64.wrap (ps11 + (1 : Int))) (ph17) (ph19) (ph23.set ps11.toNat ((ph23.getD ps11.toNat (zEl T35)).1, (7 : Int), (ph23.getD ps11.toNat (zEl T35)).2.2)) (ph29)
   else none)
  else 
   (Option.bind (F17 ph17 a0) fun x7 => (if x7 = true then 
     (Option.bind (F17 ph19 a1) fun x8 => (if x8 = true then 
       (Option.bind (F11) fun x9 => some (x9))
      else some (false)))
    else some (false))))
noncomputable def L7_0 (F10 : (List (El T35)) → (List (El T35)) → Option (Bool)) (F11 : Option (Bool)) (F12 : (List (El T35)) → Option (List (El T35))) (F26 : (List (El T35)) → (List (El T35)) → Option ((List (El T35)) × Int)) (F27 : (List (El T35)) → (List (El T35)) → Option ((List (El T35)) × Int)) (F17 : (List (El T35)) → (List (El T35)) → Option (Bool)) (K : Nat) (a0 : List (El T35)) (a1 : List (El T35)) : Nat → Int → (List (El T35)) → (List (El T35)) → (List (El T35)) → (List (El T35)) → Option (Bool)
  | 0, _, _, _, _, _ => none
  | n + 1, ps11, ph17, ph19, ph23, ph29 => b7_0 F10 F11 F12 F26 F27 F17 K a0 a1 (L7_0 F10 F11 F12 F26 F27 F17 K a0 a1 n) ps11 ph17 ph19 ph23 ph29
noncomputable def t7 (F10 : (List (El T35)) → (List (El T35)) → Option (Bool)) (F11 : Option (Bool)) (F12 : (List (El T35)) → Option (List (El T35))) (F26 : (List (El T35)) → (List (El T35)) → Option ((List (El T35)) × Int)) (F27 : (List (El T35)) → (List (El T35)) → Option ((List (El T35)) × Int)) (F17 : (List (El T35)) → (List (El T35)) → Option (Bool)) (K : Nat) (a0 : List (El T35)) (a1 : List (El T35)) (l0 : Nat → Int → (List (El T35)) → (List (El T35)) → (List (El T35)) → (List (El T35)) → Option (Bool)) : Option (Bool) := 
 (Option.bind (F10 a0 a1) fun x0 => (if x0 = true then 
   (Option.bind (F11) fun x1 => some (x1))
  else 
   (Option.bind (F12 a0) fun x2 => 
    (Option.bind (F12 a1) fun x3 => 
     (Option.bind (F26 x2 x3) fun x4 => 
      (Option.bind (F27 a0 a1) fun x5 => 
       (Option.bind (F17 x4.1 x5.1) fun x6 => (if (!x6) = true then some (false)
        else (if (x4.2 != x5.2) = true then some (false)
         else l0 K ((0 : Int)) (x2) (x3) (x4.1) (x5.1))))))))))
noncomputable def G7 (F10 : (List (El T35)) → (List (El T35)) → Option (Bool)) (F11 : Option (Bool)) (F12 : (List (El T35)) → Option (List (El T35))) (F26 : (List (El T35)) → (List (El T35)) → Option ((List (El T35)) × Int)) (F27 : (List (El T35)) → (List (El T35)) → Option ((List (El T35)) × Int)) (F17 : (List (El T35)) → (List (El T35)) → Option (Bool)) (K : Nat) (a0 : List (El T35)) (a1 : List (El T35)) : Option (Bool) := t7 F10 F11 F12 F26 F27 F17 K a0 a1 (L7_0 F10 F11 F12 F26 F27 F17 K a0 a1)
theorem lp7_0 (F10 : (List (El T35)) → (List (El T35)) → Option (Bool)) (F11 : Option (Bool)) (F12 : (List (El T35)) → Option (List (El T35))) (F26 : (List (El T35)) → (List (El T35)) → Option ((List (El T35)) × Int)) (F27 : (List (El T35)) → (List (El T35)) → Option ((List (El T35)) × Int)) (F17 : (List (El T35)) → (List (El T35)) → Option (Bool)) (K : Nat) (a0 : List (El T35)) (a1 : List (El T35)) : ∀ (n : Nat) (ps11 : Int) (ph17 : List (El T35)) (ph19 : List (El T35)) (ph23 : List (El T35)) (ph29 : List (El T35)), loopN Try.prog (tab7 F10 F11 F12 F26 F27 F17) 0 K Try.f7 la7 dq7.k 0 [] n (hd7_0 a0 a1 ps11 ph17 ph19 ph23 ph29) = L7_0 F10 F11 F12 F26 F27 F17 K a0 a1 n ps11 ph17 ph19 ph23 ph29
  | 0, _, _, _, _, _ => by kernel_rfl
  | n + 1, ps11, ph17, ph19, ph23, ph29 => by
    have h : loopN Try.prog (tab7 F10 F11 F12 F26 F27 F17) 0 K Try.f7 la7 dq7.k 0 [] (n + 1) (hd7_0 a0 a1 ps11 ph17 ph19 ph23 ph29) = b7_0 F10 F11 F12 F26 F27 F17 K a0 a1 (fun q0 q1 q2 q3 q4 => loopN Try.prog (tab7 F10 F11 F12 F26 F27 F17) 0 K Try.f7 la7 dq7.k 0 [] n (hd7_0 a0 a1 q0 q1 q2 q3 q4)) ps11 ph17 ph19 ph23 ph29 := by kernel_rfl
    rw [h]
    simp only [lp7_0 F10 F11 F12 F26 F27 F17 K a0 a1 n]
    rfl
theorem ev7 (F10 : (List (El T35)) → (List (El T35)) → Option (Bool)) (F11 : Option (Bool)) (F12 : (List (El T35)) → Option (List (El T35))) (F26 : (List (El T35)) → (List (El T35)) → Option ((List (El T35)) × Int)) (F27 : (List (El T35)) → (List (El T35)) → Option ((List (El T35)) × Int)) (F17 : (List (El T35)) → (List (El T35)) → Option (Bool)) (K : Nat) (a0 : List (El T35)) (a1 : List (El T35)) : evFun Try.prog (tab7 F10 F11 F12 F26 F27 F17) 0 K Try.f7 la7 [.row T35 a0, .row T35 a1] [] dq7.k = G7 F10 F11 F12 F26 F27 F17 K a0 a1 := by
  have h : evFun Try.prog (tab7 F10 F11 F12 F26 F27 F17) 0 K Try.f7 la7 [.row T35 a0, .row T35 a1] [] dq7.k = t7 F10 F11 F12 F26 F27 F17 K a0 a1 (fun k q0 q1 q2 q3 q4 => loopN Try.prog (tab7 F10 F11 F12 F26 F27 F17) 0 K Try.f7 la7 dq7.k 0 [] k (hd7_0 a0 a1 q0 q1 q2 q3 q4)) := by kernel_rfl
  rw [h]
  simp only [lp7_0 F10 F11 F12 F26 F27 F17 K a0 a1]
  rfl
noncomputable def F7 (K : Nat) (a0 : List (El T35)) (a1 : List (El T35)) : Option (Bool) := G7 (F10 K) (F11 K) (F12 K) (F26 K) (F27 K) (F17 K) K a0 a1
theorem cok7 (K : Nat) : CallOK D Try.prog (tab7 (F10 K) (F11 K) (F12 K) (F26 K) (F27 K) (F17 K)) := (add_ok (add_ok (add_ok (add_ok (add_ok (add_ok none_ok ent10 (ok10 K)) ent11 (ok11 K)) ent12 (ok12 K)) ent26 (ok26 K)) ent27 (ok27 K)) ent17 (ok17 K))
theorem ok7 (K : Nat) : RowOK D Try.prog 7 (row ad7 dq7 fun p => F7 K p.1 p.2) := row_ok fun x r h => has_of (cok7 K) Try.func7 ((ev7 (F10 K) (F11 K) (F12 K) (F26 K) (F27 K) (F17 K) K x.1 x.2).trans h)
end Go.Proofs.YtcnfilanbmkpaaaE
