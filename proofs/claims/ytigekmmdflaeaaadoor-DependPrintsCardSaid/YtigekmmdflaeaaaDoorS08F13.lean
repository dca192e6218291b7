import Derived.Test.YtigekmmdflaeaaaDoorS08F12
set_option linter.all false
namespace Go.Proofs.YtigekmmdflaeaaaDoorE
open Go Go.Proofs
set_option maxRecDepth 100000
set_option linter.unusedVariables false
variable {D : Cx}
/-! ganger/gangerref08.Print -/
noncomputable def tab15 (F18 : (El T24) → Option (Int)) (F29 : Int → Option (ByteArray)) (F30 : Int → Option (ByteArray)) : Tab := (((Tab.none.add 18 (row ad18 dq18 fun p => F18 p)).add 29 (row ad29 dq29 fun p => F29 p)).add 30 (row ad30 dq30 fun p => F30 p))
noncomputable def la15 : List (List Tidy) := [[.only [1, 5, 6], .ids [1, 9], .top [1000000]], [.only [1, 5, 6, 7], .ids [1, 9, 16, 39], .top [1000001]]]
noncomputable def hd15_0 (a0 : El T24) (ps5 : ByteArray) (ps6 : Int) : St := { tm := slots (nat_lit 67) [(nat_lit 1, AV.ptr (nat_lit 1) (nat_lit 0)), (nat_lit 5, AV.sc (Value.string ps5)), (nat_lit 6, AV.sc (Value.int IntKind.i64 ps6))], H := [(nat_lit 1, ABlk.box (nat_lit 24) (cellsOf T24 a0))] }
noncomputable def hd15_1 (a0 : El T24) (ps5 : ByteArray) (ps6 : Int) (ps7 : Int) : St := { tm := slots (nat_lit 67) [(nat_lit 1, AV.ptr (nat_lit 1) (nat_lit 0)), (nat_lit 5, AV.sc (Value.string ps5)), (nat_lit 6, AV.sc (Value.int IntKind.i64 ps6)), (nat_lit 7, AV.sc (Value.int IntKind.i64 ps7))], H := [(nat_lit 1, ABlk.box (nat_lit 24) (cellsOf T24 a0))] }
noncomputable def b15_1 (F18 : (El T24) → Option (Int)) (F29 : Int → Option (ByteArray)) (F30 : Int → Option (ByteArray)) (K : Nat) (a0 : El T24) (r0 : ByteArray → Int → Option (ByteArray × Int)) (r1 : ByteArray → Int → Int → Option (ByteArray × Int)) (ps5 : ByteArray) (ps6 : Int) (ps7 : Int) : Option (ByteArray × Int) :=(if decide ((0 : Int) ≤ ps6 ∧ ps6 < (↑(List.length a0.2) : Int)) = true then (if decide (ps7 < (↑(List.length (List.getD a0.2 ps6.toNat (zEl T46)).2) : Int)) = true then (if decide (ps5.size + (ByteArray.mk (#[(58 : UInt8)])).size ≤ (9223372036854775807 : Nat)) = true then (if decide ((0 : Int) ≤ ps6 ∧ ps6 < (↑(List.length a0.2) : Int)) = true then (if decide ((0 : Int) ≤ ps7 ∧ ps7 < (↑(List.length (List.getD a0.2 ps6.toNat (zEl T46)).2) : Int)) = true then 
       (Option.bind (F30 (IntKind.i64.wrap (List.getD (List.getD a0.2 ps6.toNat (zEl T46)).2 ps7.toNat (zEl (Ty.int IntKind.u32))))) fun x6 => (if decide ((ps5 ++ (ByteArray.mk (#[(58 : UInt8)]))).size + ByteArray.size x6 ≤ (9223372036854775807 : Nat)) = true then r1 (ps5 ++ (ByteArray.mk (#[(58 : UInt8)])) ++ x6) (ps6) (IntKind.i64.wrap (ps7 + (1 : Int)))
        else none))
      else none)
     else none)
    else none)
   else r0 (ps5) (IntKind.i64.wrap (ps6 + (1 : Int))))
  else none)
noncomputable def L15_1 (F18 : (El T24) → Option (Int)) (F29 : Int → Option (ByteArray)) (F30 : Int → Option (ByteArray)) (K : Nat) (a0 : El T24) (r0 : ByteArray → Int → Option (ByteArray × Int)) : Nat → ByteArray → Int → Int → Option (ByteArray × Int)
  | 0, _, _, _ => none
  | n + 1, ps5, ps6, ps7 => b15_1 F18 F29 F30 K a0 r0 (L15_1 F18 F29 F30 K a0 r0 n) ps5 ps6 ps7
noncomputable def b15_0 (F18 : (El T24) → Option (Int)) (F29 : Int → Option (ByteArray)) (F30 : Int → Option (ByteArray)) (K : Nat) (a0 : El T24) (r0 : ByteArray → Int → Option (ByteArray × Int)) (l1 : Nat → ByteArray → Int → Int → Option (ByteArray × Int)) (ps5 : ByteArray) (ps6 : Int) : Option (ByteArray × Int) :=(if decide (ps6 < (↑(List.length a0.2) : Int)) = true then (if decide (ps6 > (0 : Int)) = true then (if a0.1 = true then (if decide (ps5.size + (ByteArray.mk (#[(63 : UInt8)])).size ≤ (9223372036854775807 : Nat)) = true then (if decide ((0 : Int) ≤ ps6 ∧ ps6 < (↑(List.length a0.2) : Int)) = true then 
       (Option.bind (F29 (List.getD a0.2 ps6.toNat (zEl T46)).1) fun x1 => (if decide ((ps5 ++ (ByteArray.mk (#[(63 : UInt8)]))).size + ByteArray.size x1 ≤ (9223372036854775807 : Nat)) = true then l1 K (ps5 ++ (ByteArray.mk (#[(63 : UInt8)])) ++ x1) (ps6) ((0 : Int))
        else none))
      else none)
     else none)
    else (if decide (ps6 > (0 : Int)) = true then (if decide (ps5.size + (ByteArray.mk (#[(44 : UInt8)])).size ≤ (9223372036854775807 : Nat)) = true then (if decide ((0 : Int) ≤ ps6 ∧ ps6 < (↑(List.length a0.2) : Int)) = true then 
        (Option.bind (F29 (List.getD a0.2 ps6.toNat (zEl T46)).1) fun x2 => (if decide ((ps5 ++ (ByteArray.mk (#[(44 : UInt8)]))).size + ByteArray.size x2 ≤ (9223372036854775807 : Nat)) = true then l1 K (ps5 ++ (ByteArray.mk (#[(44 : UInt8)])) ++ x2) (ps6) ((0 : Int))
         else none))
       else none)
      else none)
     else (if decide ((0 : Int) ≤ ps6 ∧ ps6 < (↑(List.length a0.2) : Int)) = true then 
       (Option.bind (F29 (List.getD a0.2 ps6.toNat (zEl T46)).1) fun x3 => (if decide (ps5.size + ByteArray.size x3 ≤ (9223372036854775807 : Nat)) = true then l1 K (ps5 ++ x3) (ps6) ((0 : Int))
        else none))
      else none)))
   else (if decide (ps6 > (0 : Int)) = true then (if decide (ps5.size + (ByteArray.mk (#[(44 : UInt8)])).size ≤ (9223372036854775807 : Nat)) = true then (if decide ((0 : Int) ≤ ps6 ∧ ps6 < (↑(List.length a0.2) : Int)) = true then 
       (Option.bind (F29 (List.getD a0.2 ps6.toNat (zEl T46)).1) fun x4 => (if decide ((ps5 ++ (ByteArray.mk (#[(44 : UInt8)]))).size + ByteArray.size x4 ≤ (9223372036854775807 : Nat)) = true then l1 K (ps5 ++ (ByteArray.mk (#[(44 : UInt8)])) ++ x4) (ps6) ((0 : Int))
        else none))
      else none)
     else none)
    else (if decide ((0 : Int) ≤ ps6 ∧ ps6 < (↑(List.length a0.2) : Int)) = true then 
      (Option.bind (F29 (List.getD a0.2 ps6.toNat (zEl T46)).1) fun x5 => (if decide (ps5.size + ByteArray.size x5 ≤ (9223372036854775807 : Nat)) = true then l1 K (ps5 ++ x5) (ps6) ((0 : Int))
       else none))
     else none)))
  else some ((ps5, (0 : Int))))
noncomputable def L15_0 (F18 : (El T24) → Option (Int)) (F29 : Int → Option (ByteArray)) (F30 : Int → Option (ByteArray)) (K : Nat) (a0 : El T24) : Nat → ByteArray → Int → Option (ByteArray × Int)
  | 0, _, _ => none
  | n + 1, ps5, ps6 => b15_0 F18 F29 F30 K a0 (L15_0 F18 F29 F30 K a0 n) (L15_1 F18 F29 F30 K a0 (L15_0 F18 F29 F30 K a0 n)) ps5 ps6
noncomputable def t15 (F18 : (El T24) → Option (Int)) (F29 : Int → Option (ByteArray)) (F30 : Int → Option (ByteArray)) (K : Nat) (a0 : El T24) (l0 : Nat → ByteArray → Int → Option (ByteArray × Int)) : Option (ByteArray × Int) := 
 (Option.bind (F18 a0) fun x0 => (if (x0 != (0 : Int)) = true then some (((ByteArray.mk (#[])), x0))
  else l0 K ((ByteArray.mk (#[]))) ((0 : Int))))
noncomputable def G15 (F18 : (El T24) → Option (Int)) (F29 : Int → Option (ByteArray)) (F30 : Int → Option (ByteArray)) (K : Nat) (a0 : El T24) : Option (ByteArray × Int) := t15 F18 F29 F30 K a0 (L15_0 F18 F29 F30 K a0)
theorem lp15_1 (F18 : (El T24) → Option (Int)) (F29 : Int → Option (ByteArray)) (F30 : Int → Option (ByteArray)) (K : Nat) (a0 : El T24) : ∀ (m0 : Nat) (n : Nat) (ps5 : ByteArray) (ps6 : Int) (ps7 : Int), loopN Tryd.prog (tab15 F18 F29 F30) 0 K Tryd.f15 la15 dq15.k 1 [m0] n (hd15_1 a0 ps5 ps6 ps7) = L15_1 F18 F29 F30 K a0 (fun q0 q1 => loopN Tryd.prog (tab15 F18 F29 F30) 0 K Tryd.f15 la15 dq15.k 0 [] m0 (hd15_0 a0 q0 q1)) n ps5 ps6 ps7
  | m0, 0, _, _, _ => by kernel_rfl
  | m0, n + 1, ps5, ps6, ps7 => by
    have h : loopN Tryd.prog (tab15 F18 F29 F30) 0 K Tryd.f15 la15 dq15.k 1 [m0] (n + 1) (hd15_1 a0 ps5 ps6 ps7) = b15_1 F18 F29 F30 K a0 (fun q0 q1 => loopN Tryd.prog (tab15 F18 F29 F30) 0 K Tryd.f15 la15 dq15.k 0 [] m0 (hd15_0 a0 q0 q1)) (fun q0 q1 q2 => loopN Tryd.prog (tab15 F18 F29 F30) 0 K Tryd.f15 la15 dq15.k 1 [m0] n (hd15_1 a0 q0 q1 q2)) ps5 ps6 ps7 := by kernel_rfl
    rw [h]
    simp only [lp15_1 F18 F29 F30 K a0 m0 n]
    rfl
theorem lp15_0 (F18 : (El T24) → Option (Int)) (F29 : Int → Option (ByteArray)) (F30 : Int → Option (ByteArray)) (K : Nat) (a0 : El T24) : ∀ (n : Nat) (ps5 : ByteArray) (ps6 : Int), loopN Tryd.prog (tab15 F18 F29 F30) 0 K Tryd.f15 la15 dq15.k 0 [] n (hd15_0 a0 ps5 ps6) = L15_0 F18 F29 F30 K a0 n ps5 ps6
  | 0, _, _ => by kernel_rfl
  | n + 1, ps5, ps6 => by
    have h : loopN Tryd.prog (tab15 F18 F29 F30) 0 K Tryd.f15 la15 dq15.k 0 [] (n + 1) (hd15_0 a0 ps5 ps6) = b15_0 F18 F29 F30 K a0 (fun q0 q1 => loopN Tryd.prog (tab15 F18 F29 F30) 0 K Tryd.f15 la15 dq15.k 0 [] n (hd15_0 a0 q0 q1)) (fun k q0 q1 q2 => loopN Tryd.prog (tab15 F18 F29 F30) 0 K Tryd.f15 la15 dq15.k 1 [n] k (hd15_1 a0 q0 q1 q2)) ps5 ps6 := by kernel_rfl
    rw [h]
    simp only [lp15_0 F18 F29 F30 K a0 n, lp15_1 F18 F29 F30 K a0 n]
    rfl
theorem ev15 (F18 : (El T24) → Option (Int)) (F29 : Int → Option (ByteArray)) (F30 : Int → Option (ByteArray)) (K : Nat) (a0 : El T24) : evFun Tryd.prog (tab15 F18 F29 F30) 0 K Tryd.f15 la15 [.agg (cellsOf T24 a0)] [] dq15.k = G15 F18 F29 F30 K a0 := by
  have h : evFun Tryd.prog (tab15 F18 F29 F30) 0 K Tryd.f15 la15 [.agg (cellsOf T24 a0)] [] dq15.k = t15 F18 F29 F30 K a0 (fun k q0 q1 => loopN Tryd.prog (tab15 F18 F29 F30) 0 K Tryd.f15 la15 dq15.k 0 [] k (hd15_0 a0 q0 q1)) := by kernel_rfl
  rw [h]
  simp only [lp15_0 F18 F29 F30 K a0]
  rfl
noncomputable def F15 (K : Nat) (a0 : El T24) : Option (ByteArray × Int) := G15 (F18 K) (F29 K) (F30 K) K a0
theorem cok15 (K : Nat) : CallOK D Tryd.prog (tab15 (F18 K) (F29 K) (F30 K)) := (add_ok (add_ok (add_ok none_ok ent18 (ok18 K)) ent29 (ok29 K)) ent30 (ok30 K))
theorem ok15 (K : Nat) : RowOK D Tryd.prog 15 (row ad15 dq15 fun p => F15 K p) := row_ok fun x r h => has_of (cok15 K) Tryd.func15 ((ev15 (F18 K) (F29 K) (F30 K) K x).trans h)
/-! ganger/gangerref08.Jobs -/
noncomputable def tab17 (F18 : (El T24) → Option (Int)) : Tab := (Tab.none.add 18 (row ad18 dq18 fun p => F18 p))
noncomputable def la17 : List (List Tidy) := [[.only [1, 3, 4, 5], .dr 500, .ren 86 500, .pro 3 500 38 (Ty.int IntKind.u32), .ids [1, 11, 86, 500], .top [1000000]], [.only [1, 3, 4, 5, 6], .dr 500, .ren 86 500, .pro 3 500 38 (Ty.int IntKind.u32), .ids [1, 11, 15, 86, 500], .top [1000001]], [.only [1, 3, 4, 5, 6, 7, 8, 9], .pro 8 61 38 (Ty.int IntKind.u32), .ids [1, 11, 15, 30, 61, 66, 80, 81, 85, 86, 500], .top [1000002]]]
noncomputable def hd17_0 (a0 : El T24) (ps4 : Int) (ps5 : Int) (ph500 : List (Int)) : St := { tm := slots (nat_lit 89) [(nat_lit 1, AV.ptr (nat_lit 1) (nat_lit 0)), (nat_lit 3, AV.own (nat_lit 500)), (nat_lit 4, AV.sc (Value.int IntKind.i64 ps4)), (nat_lit 5, AV.sc (Value.int IntKind.i64 ps5))], H := [(nat_lit 1, ABlk.box (nat_lit 24) (cellsOf T24 a0)), (nat_lit 500, ABlk.arr (nat_lit 38) (Ty.int IntKind.u32) ph500)] }
noncomputable def hd17_1 (a0 : El T24) (ps4 : Int) (ps5 : Int) (ps6 : Int) (ph500 : List (Int)) : St := { tm := slots (nat_lit 89) [(nat_lit 1, AV.ptr (nat_lit 1) (nat_lit 0)), (nat_lit 3, AV.own (nat_lit 500)), (nat_lit 4, AV.sc (Value.int IntKind.i64 ps4)), (nat_lit 5, AV.sc (Value.int IntKind.i64 ps5)), (nat_lit 6, AV.sc (Value.int IntKind.i64 ps6))], H := [(nat_lit 1, ABlk.box (nat_lit 24) (cellsOf T24 a0)), (nat_lit 500, ABlk.arr (nat_lit 38) (Ty.int IntKind.u32) ph500)] }
noncomputable def hd17_2 (a0 : El T24) (ps4 : Int) (ps5 : Int) (ps6 : Int) (ps7 : Int) (ps9 : Int) (ph61 : List (Int)) (ph500 : List (Int)) : St := { tm := slots (nat_lit 89) [(nat_lit 1, AV.ptr (nat_lit 1) (nat_lit 0)), (nat_lit 3, AV.own (nat_lit 500)), (nat_lit 4, AV.sc (Value.int IntKind.i64 ps4)), (nat_lit 5, AV.sc (Value.int IntKind.i64 ps5)), (nat_lit 6, AV.sc (Value.int IntKind.i64 ps6)), (nat_lit 7, AV.sc (Value.int IntKind.u32 ps7)), (nat_lit 8, AV.own (nat_lit 61)), (nat_lit 9, AV.sc (Value.int IntKind.i64 ps9))], H := [(nat_lit 1, ABlk.box (nat_lit 24) (cellsOf T24 a0)), (nat_lit 61, ABlk.arr (nat_lit 38) (Ty.int IntKind.u32) ph61), (nat_lit 500, ABlk.arr (nat_lit 38) (Ty.int IntKind.u32) ph500)] }
noncomputable def b17_2 (F18 : (El T24) → Option (Int)) (K : Nat) (a0 : El T24) (r0 : Int → Int → (List (Int)) → Option (List (El (.int .u32)))) (r1 : Int → Int → Int → (List (Int)) → Option (List (El (.int .u32)))) (r2 : Int → Int → Int → Int → Int → (List (Int)) → (List (Int)) → Option (List (El (.int .u32)))) (ps4 : Int) (ps5 : Int) (ps6 : Int) (ps7 : Int) (ps9 : Int) (ph61 : List (Int)) (ph500 : List (Int)) : Option (List (El (.int .u32))) :=(if decide (ps9 < (↑ph500.length : Int)) = true then (if decide ((0 : Int) ≤ ps9 ∧ ps9 < (↑ph500.length : Int)) = true then (if decide (ph500.getD ps9.toNat (zEl (Ty.int IntKind.u32)) < ps7) = true then (if decide ((0 : Int) ≤ ps9 ∧ ps9 < (↑ph500.length : Int)) = true then (if decide ((ph61.length + [ph500.getD ps9.toNat (zEl (Ty.int IntKind.u32))].length) * Tryd.prog.types[(38 : Nat)].bytes ≤ (140737488355328 : Nat)) = true then r2 (ps4) (ps5) (ps6) (ps7) (IntKind.i64.wrap (ps9 + (1 : Int))) (ph61 ++ [ph500.getD ps9.toNat (zEl (Ty.int IntKind.u32))]) (ph500)
      else none)
     else none)
    else (if decide (ps9 < (↑ph500.length : Int)) = true then (if decide ((0 : Int) ≤ ps9 ∧ ps9 < (↑ph500.length : Int)) = true then (if (ph500.getD ps9.toNat (zEl (Ty.int IntKind.u32)) == ps7) = true then (if decide ((ph61.length + [ps7].length) * Tryd.prog.types[(38 : Nat)].bytes ≤ (140737488355328 : Nat)) = true then (if decide ((0 : Int) ≤ IntKind.i64.wrap (ps9 + (1 : Int)) ∧ IntKind.i64.wrap (ps9 + (1 : Int)) ≤ (↑ph500.length : Int) ∧ (↑ph500.length : Int) ≤ (↑ph500.length : Int)) = true then (if decide (((ph61 ++ [ps7]).length + (List.drop (IntKind.i64.wrap (ps9 + (1 : Int))).toNat (List.take (↑ph500.length : Int).toNat ph500)).length) * Tryd.prog.types[(38 : Nat)].bytes ≤ (140737488355328 : Nat)) = true then r1 (ps4) (ps5) (IntKind.i64.wrap (ps6 + (1 : Int))) (ph61 ++ [ps7] ++ List.drop (IntKind.i64.wrap (ps9 + (1 : Int))).toNat (List.take (↑ph500.length : Int).toNat ph500))
          else none)
         else none)
        else none)
       else (if decide ((ph61.length + [ps7].length) * Tryd.prog.types[(38 : Nat)].bytes ≤ (140737488355328 : Nat)) = true then (if decide ((0 : Int) ≤ ps9 ∧ ps9 ≤ (↑ph500.length : Int) ∧ (↑ph500.length : Int) ≤ (↑ph500.length : Int)) = true then (if decide (((ph61 ++ [ps7]).length + (List.drop ps9.toNat (List.take (↑ph500.length : Int).toNat ph500)).length) * Tryd.prog.types[(38 : Nat)].bytes ≤ (140737488355328 : Nat)) = true then r1 (ps4) (ps5) (IntKind.i64.wrap (ps6 + (1 : Int))) (ph61 ++ [ps7] ++ List.drop ps9.toNat (List.take (↑ph500.length : Int).toNat ph500))
          else none)
         else none)
        else none))
      else none)
     else (if decide ((ph61.length + [ps7].length) * Tryd.prog.types[(38 : Nat)].bytes ≤ (140737488355328 : Nat)) = true then (if decide ((0 : Int) ≤ ps9 ∧ ps9 ≤ (↑ph500.length : Int) ∧ (↑ph500.length : Int) ≤ (↑ph500.length : Int)) = true then (if decide (((ph61 ++ [ps7]).length + (List.drop ps9.toNat (List.take (↑ph500.length : Int).toNat ph500)).length) * Tryd.prog.types[(38 : Nat)].bytes ≤ (140737488355328 : Nat)) = true then r1 (ps4) (ps5) (IntKind.i64.wrap (ps6 + (1 : Int))) (ph61 ++ [ps7] ++ List.drop ps9.toNat (List.take (↑ph500.length : Int).toNat ph500))
        else none)
       else none)
      else none)))
   else none)
  else (if decide (ps9 < (↑ph500.length : Int)) = true then (if decide ((0 : Int) ≤ ps9 ∧ ps9 < (↑ph500.length : Int)) = true then (if (ph500.getD ps9.toNat (zEl (Ty.int IntKind.u32)) == ps7) = true then (if decide ((ph61.length + [ps7].length) * Tryd.prog.types[(38 : Nat)].bytes ≤ (140737488355328 : Nat)) = true then (if decide ((0 : Int) ≤ IntKind.i64.wrap (ps9 + (1 : Int)) ∧ IntKind.i64.wrap (ps9 + (1 : Int)) ≤ (↑ph500.length : Int) ∧ (↑ph500.length : Int) ≤ (↑ph500.length : Int)) = true then (if decide (((ph61 ++ [ps7]).length + (List.drop (IntKind.i64.wrap (ps9 + (1 : Int))).toNat (List.take (↑ph500.length : Int).toNat ph500)).length) * Tryd.prog.types[(38 : Nat)].bytes ≤ (140737488355328 : Nat)) = true then r1 (ps4) (ps5) (IntKind.i64.wrap (ps6 + (1 : Int))) (ph61 ++ [ps7] ++ List.drop (IntKind.i64.wrap (ps9 + (1 : Int))).toNat (List.take (↑ph500.length : Int).toNat ph500))
        else none)
       else none)
      else none)
     else (if decide ((ph61.length + [ps7].length) * Tryd.prog.types[(38 : Nat)].bytes ≤ (140737488355328 : Nat)) = true then (if decide ((0 : Int) ≤ ps9 ∧ ps9 ≤ (↑ph500.length : Int) ∧ (↑ph500.length : Int) ≤ (↑ph500.length : Int)) = true then (if decide (((ph61 ++ [ps7]).length + (List.drop ps9.toNat (List.take (↑ph500.length : Int).toNat ph500)).length) * Tryd.prog.types[(38 : Nat)].bytes ≤ (140737488355328 : Nat)) = true then r1 (ps4) (ps5) (IntKind.i64.wrap (ps6 + (1 : Int))) (ph61 ++ [ps7] ++ List.drop ps9.toNat (List.take (↑ph500.length : Int).toNat ph500))
        else none)
       else none)
      else none))
    else none)
   else (if decide ((ph61.length + [ps7].length) * Tryd.prog.types[(38 : Nat)].bytes ≤ (140737488355328 : Nat)) = true then (if decide ((0 : Int) ≤ ps9 ∧ ps9 ≤ (↑ph500.length : Int) ∧ (↑ph500.length : Int) ≤ (↑ph500.length : Int)) = true then (if decide (((ph61 ++ [ps7]).length + (List.drop ps9.toNat (List.take (↑ph500.length : Int).toNat ph500)).length) * Tryd.prog.types[(38 : Nat)].bytes ≤ (140737488355328 : Nat)) = true then r1 (ps4) (ps5) (IntKind.i64.wrap (ps6 + (1 : Int))) (ph61 ++ [ps7] ++ List.drop ps9.toNat (List.take (↑ph500.length : Int).toNat ph500))
      else none)
     else none)
    else none)))
noncomputable def L17_2 (F18 : (El T24) → Option (Int)) (K : Nat) (a0 : El T24) (r0 : Int → Int → (List (Int)) → Option (List (El (.int .u32)))) (r1 : Int → Int → Int → (List (Int)) → Option (List (El (.int .u32)))) : Nat → Int → Int → Int → Int → Int → (List (Int)) → (List (Int)) → Option (List (El (.int .u32)))
  | 0, _, _, _, _, _, _, _ => none
  | n + 1, ps4, ps5, ps6, ps7, ps9, ph61, ph500 => b17_2 F18 K a0 r0 r1 (L17_2 F18 K a0 r0 r1 n) ps4 ps5 ps6 ps7 ps9 ph61 ph500
noncomputable def b17_1 (F18 : (El T24) → Option (Int)) (K : Nat) (a0 : El T24) (r0 : Int → Int → (List (Int)) → Option (List (El (.int .u32)))) (r1 : Int → Int → Int → (List (Int)) → Option (List (El (.int .u32)))) (l2 : Nat → Int → Int → Int → Int → Int → (List (Int)) → (List (Int)) → Option (List (El (.int .u32)))) (ps4 : Int) (ps5 : Int) (ps6 : Int) (ph500 : List (Int)) : Option (List (El (.int .u32))) :=(if decide ((0 : Int) ≤ ps5 ∧ ps5 < (↑(List.length a0.2) : Int)) = true then (if decide (ps6 < (↑(List.length (List.getD a0.2 ps5.toNat (zEl T46)).2) : Int)) = true then (if decide ((0 : Int) ≤ ps5 ∧ ps5 < (↑(List.length a0.2) : Int)) = true then (if decide ((0 : Int) ≤ ps6 ∧ ps6 < (↑(List.length (List.getD a0.2 ps5.toNat (zEl T46)).2) : Int)) = true then l2 K (ps4) (ps5) (ps6) (List.getD (List.getD a0.2 ps5.toNat (zEl T46)).2 ps6.toNat (zEl (Ty.int IntKind.u32))) ((0 : Int)) ([]) (ph500)
     else none)
    else none)
   else r0 (ps4) (IntKind.i64.wrap (ps5 + (1 : Int))) (ph500))
  else none)
noncomputable def L17_1 (F18 : (El T24) → Option (Int)) (K : Nat) (a0 : El T24) (r0 : Int → Int → (List (Int)) → Option (List (El (.int .u32)))) : Nat → Int → Int → Int → (List (Int)) → Option (List (El (.int .u32)))
  | 0, _, _, _, _ => none
  | n + 1, ps4, ps5, ps6, ph500 => b17_1 F18 K a0 r0 (L17_1 F18 K a0 r0 n) (L17_2 F18 K a0 r0 (L17_1 F18 K a0 r0 n)) ps4 ps5 ps6 ph500
noncomputable def b17_0 (F18 : (El T24) → Option (Int)) (K : Nat) (a0 : El T24) (r0 : Int → Int → (List (Int)) → Option (List (El (.int .u32)))) (l1 : Nat → Int → Int → Int → (List (Int)) → Option (List (El (.int .u32)))) (ps4 : Int) (ps5 : Int) (ph500 : List (Int)) : Option (List (El (.int .u32))) :=(if decide (ps5 < (↑(List.length a0.2) : Int)) = true then (if (ps4 == (0 : Int)) = true then l1 K (ps4) (ps5) ((0 : Int)) (ph500)
   else some (ph500))
  else some (ph500))
noncomputable def L17_0 (F18 : (El T24) → Option (Int)) (K : Nat) (a0 : El T24) : Nat → Int → Int → (List (Int)) → Option (List (El (.int .u32)))
  | 0, _, _, _ => none
  | n + 1, ps4, ps5, ph500 => b17_0 F18 K a0 (L17_0 F18 K a0 n) (L17_1 F18 K a0 (L17_0 F18 K a0 n)) ps4 ps5 ph500
noncomputable def t17 (F18 : (El T24) → Option (Int)) (K : Nat) (a0 : El T24) (l0 : Nat → Int → Int → (List (Int)) → Option (List (El (.int .u32)))) : Option (List (El (.int .u32))) := 
 (Option.bind (F18 a0) fun x0 => l0 K (x0) ((0 : Int)) ([]))
noncomputable def G17 (F18 : (El T24) → Option (Int)) (K : Nat) (a0 : El T24) : Option (List (El (.int .u32))) := t17 F18 K a0 (L17_0 F18 K a0)
theorem lp17_2 (F18 : (El T24) → Option (Int)) (K : Nat) (a0 : El T24) : ∀ (m0 m1 : Nat) (n : Nat) (ps4 : Int) (ps5 : Int) (ps6 : Int) (ps7 : Int) (ps9 : Int) (ph61 : List (Int)) (ph500 : List (Int)), loopN Tryd.prog (tab17 F18) 0 K Tryd.f17 la17 dq17.k 2 [m0, m1] n (hd17_2 a0 ps4 ps5 ps6 ps7 ps9 ph61 ph500) = L17_2 F18 K a0 (fun q0 q1 q2 => loopN Tryd.prog (tab17 F18) 0 K Tryd.f17 la17 dq17.k 0 [] m0 (hd17_0 a0 q0 q1 q2)) (fun q0 q1 q2 q3 => loopN Tryd.prog (tab17 F18) 0 K Tryd.f17 la17 dq17.k 1 [m0] m1 (hd17_1 a0 q0 q1 q2 q3)) n ps4 ps5 ps6 ps7 ps9 ph61 ph500
  | m0, m1, 0, _, _, _, _, _, _, _ => by kernel_rfl
  | m0, m1, n + 1, ps4, ps5, ps6, ps7, ps9, ph61, ph500 => by
    have h : loopN Tryd.prog (tab17 F18) 0 K Tryd.f17 la17 dq17.k 2 [m0, m1] (n + 1) (hd17_2 a0 ps4 ps5 ps6 ps7 ps9 ph61 ph500) = b17_2 F18 K a0 (fun q0 q1 q2 => loopN Tryd.prog (tab17 F18) 0 K Tryd.f17 la17 dq17.k 0 [] m0 (hd17_0 a0 q0 q1 q2)) (fun q0 q1 q2 q3 => loopN Tryd.prog (tab17 F18) 0 K Tryd.f17 la17 dq17.k 1 [m0] m1 (hd17_1 a0 q0 q1 q2 q3)) (fun q0 q1 q2 q3 q4 q5 q6 => loopN Tryd.prog (tab17 F18) 0 K Tryd.f17 la17 dq17.k 2 [m0, m1] n (hd17_2 a0 q0 q1 q2 q3 q4 q5 q6)) ps4 ps5 ps6 ps7 ps9 ph61 ph500 := by kernel_rfl
    rw [h]
    simp only [lp17_2 F18 K a0 m0 m1 n]
    rfl
theorem lp17_1 (F18 : (El T24) → Option (Int)) (K : Nat) (a0 : El T24) : ∀ (m0 : Nat) (n : Nat) (ps4 : Int) (ps5 : Int) (ps6 : Int) (ph500 : List (Int)), loopN Tryd.prog (tab17 F18) 0 K Tryd.f17 la17 dq17.k 1 [m0] n (hd17_1 a0 ps4 ps5 ps6 ph500) = L17_1 F18 K a0 (fun q0 q1 q2 => loopN Tryd.prog (tab17 F18) 0 K Tryd.f17 la17 dq17.k 0 [] m0 (hd17_0 a0 q0 q1 q2)) n ps4 ps5 ps6 ph500
  | m0, 0, _, _, _, _ => by kernel_rfl
  | m0, n + 1, ps4, ps5, ps6, ph500 => by
    have h : loopN Tryd.prog (tab17 F18) 0 K Tryd.f17 la17 dq17.k 1 [m0] (n + 1) (hd17_1 a0 ps4 ps5 ps6 ph500) = b17_1 F18 K a0 (fun q0 q1 q2 => loopN Tryd.prog (tab17 F18) 0 K Tryd.f17 la17 dq17.k 0 [] m0 (hd17_0 a0 q0 q1 q2)) (fun q0 q1 q2 q3 => loopN Tryd.prog (tab17 F18) 0 K Tryd.f17 la17 dq17.k 1 [m0] n (hd17_1 a0 q0 q1 q2 q3)) (fun k q0 q1 q2 q3 q4 q5 q6 => loopN Tryd.prog (tab17 F18) 0 K Tryd.f17 la17 dq17.k 2 [m0, n] k (hd17_2 a0 q0 q1 q2 q3 q4 q5 q6)) ps4 ps5 ps6 ph500 := by kernel_rfl
    rw [h]
    simp only [lp17_1 F18 K a0 m0 n, lp17_2 F18 K a0 m0 n]
    rfl
theorem lp17_0 (F18 : (El T24) → Option (Int)) (K : Nat) (a0 : El T24) : ∀ (n : Nat) (ps4 : Int) (ps5 : Int) (ph500 : List (Int)), loopN Tryd.prog (tab17 F18) 0 K Tryd.f17 la17 dq17.k 0 [] n (hd17_0 a0 ps4 ps5 ph500) = L17_0 F18 K a0 n ps4 ps5 ph500
  | 0, _, _, _ => by kernel_rfl
  | n + 1, ps4, ps5, ph500 => by
    have h : loopN Tryd.prog (tab17 F18) 0 K Tryd.f17 la17 dq17.k 0 [] (n + 1) (hd17_0 a0 ps4 ps5 ph500) = b17_0 F18 K a0 (fun q0 q1 q2 => loopN Tryd.prog (tab17 F18) 0 K Tryd.f17 la17 dq17.k 0 [] n (hd17_0 a0 q0 q1 q2)) (fun k q0 q1 q2 q3 => loopN Tryd.prog (tab17 F18) 0 K Tryd.f17 la17 dq17.k 1 [n] k (hd17_1 a0 q0 q1 q2 q3)) ps4 ps5 ph500 := by kernel_rfl
    rw [h]
    simp only [lp17_0 F18 K a0 n, lp17_1 F18 K a0 n]
    rfl
theorem ev17 (F18 : (El T24) → Option (Int)) (K : Nat) (a0 : El T24) : evFun Tryd.prog (tab17 F18) 0 K Tryd.f17 la17 [.agg (cellsOf T24 a0)] [] dq17.k = G17 F18 K a0 := by
  have h : evFun Tryd.prog (tab17 F18) 0 K Tryd.f17 la17 [.agg (cellsOf T24 a0)] [] dq17.k = t17 F18 K a0 (fun k q0 q1 q2 => loopN Tryd.prog (tab17 F18) 0 K Tryd.f17 la17 dq17.k 0 [] k (hd17_0 a0 q0 q1 q2)) := by kernel_rfl
  rw [h]
  simp only [lp17_0 F18 K a0]
  rfl
noncomputable def F17 (K : Nat) (a0 : El T24) : Option (List (El (.int .u32))) := G17 (F18 K) K a0
theorem cok17 (K : Nat) : CallOK D Tryd.prog (tab17 (F18 K)) := (add_ok none_ok ent18 (ok18 K))
theorem ok17 (K : Nat) : RowOK D Tryd.prog 17 (row ad17 dq17 fun p => F17 K p) := row_ok fun x r h => has_of (cok17 K) Tryd.func17 ((ev17 (F18 K) K x).trans h)
/-! ganger/gangerlaw08.DependPrints -/
noncomputable def tab3 (F10 : (El T24) → (List (El T54)) → Option (Bool)) (F11 : Option (Bool)) (F12 : (El T24) → Option (El T24)) (F13 : (El T24) → Option (Int)) (F14 : (El T24) → Option (ByteArray × Int)) (F15 : (El T24) → Option (ByteArray × Int)) (F16 : (El T24) → Option (List (El (.int .u32)))) (F17 : (El T24) → Option (List (El (.int .u32)))) (F18 : (El T24) → Option (Int)) (F19 : (List (El (.int .u32))) → (List (El (.int .u32))) → Option (Bool)) (F20 : (El T24) → (El T24) → Option (Bool)) : Tab := (((((((((((Tab.none.add 10 (row ad10 dq10 fun p => F10 p.1 p.2)).add 11 (row ad11 dq11 fun p => F11)).add 12 (row ad12 dq12 fun p => F12 p)).add 13 (row ad13 dq13 fun p => F13 p)).add 14 (row ad14 dq14 fun p => F14 p)).add 15 (row ad15 dq15 fun p => F15 p)).add 16 (row ad16 dq16 fun p => F16 p)).add 17 (row ad17 dq17 fun p => F17 p)).add 18 (row ad18 dq18 fun p => F18 p)).add 19 (row ad19 dq19 fun p => F19 p.1 p.2)).add 20 (row ad20 dq20 fun p => F20 p.1 p.2))
noncomputable def la3 : List (List Tidy) := [[.only [1, 3, 9, 11], .ids [1, 3, 13, 14, 16, 18, 21, 26, 30, 32, 35, 50, 64, 66], .top [1000000]]]
noncomputable def hd3_0 (a0 : El T24) (ps11 : Int) (ph3 : El T24) (ph30 : List (Int)) (ph32 : List (Int)) : St := { tm := slots (nat_lit 68) [(nat_lit 1, AV.ptr (nat_lit 1) (nat_lit 0)), (nat_lit 3, AV.ptr (nat_lit 3) (nat_lit 0)), (nat_lit 9, AV.own (nat_lit 30)), (nat_lit 11, AV.sc (Value.int IntKind.i64 ps11))], H := [(nat_lit 1, ABlk.box (nat_lit 24) (cellsOf T24 a0)), (nat_lit 3, ABlk.box (nat_lit 24) (cellsOf T24 ph3)), (nat_lit 30, ABlk.arr (nat_lit 38) (Ty.int IntKind.u32) ph30), (nat_lit 32, ABlk.arr (nat_lit 38) (Ty.int IntKind.u32) ph32)] }
noncomputable def b3_0 (F10 : (El T24) → (List (El T54)) → Option (Bool)) (F11 : Option (Bool)) (F12 : (El T24) → Option (El T24)) (F13 : (El T24) → Option (Int)) (F14 : (El T24) → Option (ByteArray × Int)) (F15 : (El T24) → Option (ByteArray × Int)) (F16 : (El T24) → Option (List (El (.int .u32)))) (F17 : (El T24) → Option (List (El (.int .u32)))) (F18 : (El T24) → Option (Int)) (F19 : (List (El (.int .u32))) → (List (El (.int .u32))) → Option (Bool)) (F20 : (El T24) → (El T24) → Option (Bool)) (K : Nat) (a0 : El T24) (r0 : Int → (El T24) → (List (Int)) → (List (Int)) → Option (Bool)) (ps11 : Int) (ph3 : El T24) (ph30 : List (Int)) (ph32 : List (Int)) : Option (Bool) :=(if decide (ps11 < (↑ph30.length : Int)) = true then (if decide ((0 : Int) ≤ ps11 ∧ ps11 < (↑ph30.length : Int)) = true then r0 (IntKind.i64.wrap (ps11 + (1 : Int))) (ph3) (ph30.set ps11.toNat (0 : Int)) (ph32)
   else none)
  else 
   (Option.bind (F20 ph3 a0) fun x10 => (if x10 = true then 
     (Option.bind (F11) fun x11 => some (x11))
    else some (false))))
noncomputable def L3_0 (F10 : (El T24) → (List (El T54)) → Option (Bool)) (F11 : Option (Bool)) (F12 : (El T24) → Option (El T24)) (F13 : (El T24) → Option (Int)) (F14 : (El T24) → Option (ByteArray × Int)) (F15 : (El T24) → Option (ByteArray × Int)) (F16 : (El T24) → Option (List (El (.int .u32)))) (F17 : (El T24) → Option (List (El (.int .u32)))) (F18 : (El T24) → Option (Int)) (F19 : (List (El (.int .u32))) → (List (El (.int .u32))) → Option (Bool)) (F20 : (El T24) → (El T24) → Option (Bool)) (K : Nat) (a0 : El T24) : Nat → Int → (El T24) → (List (Int)) → (List (Int)) → Option (Bool)
  | 0, _, _, _, _ => none
  | n + 1, ps11, ph3, ph30, ph32 => b3_0 F10 F11 F12 F13 F14 F15 F16 F17 F18 F19 F20 K a0 (L3_0 F10 F11 F12 F13 F14 F15 F16 F17 F18 F19 F20 K a0 n) ps11 ph3 ph30 ph32
noncomputable def t3 (F10 : (El T24) → (List (El T54)) → Option (Bool)) (F11 : Option (Bool)) (F12 : (El T24) → Option (El T24)) (F13 : (El T24) → Option (Int)) (F14 : (El T24) → Option (ByteArray × Int)) (F15 : (El T24) → Option (ByteArray × Int)) (F16 : (El T24) → Option (List (El (.int .u32)))) (F17 : (El T24) → Option (List (El (.int .u32)))) (F18 : (El T24) → Option (Int)) (F19 : (List (El (.int .u32))) → (List (El (.int .u32))) → Option (Bool)) (F20 : (El T24) → (El T24) → Option (Bool)) (K : Nat) (a0 : El T24) (l0 : Nat → Int → (El T24) → (List (Int)) → (List (Int)) → Option (Bool)) : Option (Bool) := 
 (Option.bind (F10 a0 []) fun x0 => (if x0 = true then 
   (Option.bind (F11) fun x1 => some (x1))
  else 
   (Option.bind (F12 a0) fun x2 => 
    (Option.bind (F13 x2) fun x3 => 
     (Option.bind (F14 x2) fun x4 => 
      (Option.bind (F15 a0) fun x5 => 
       (Option.bind (F16 x2) fun x6 => 
        (Option.bind (F17 a0) fun x7 => 
         (Option.bind (F18 a0) fun x8 => (if (x3 != x8) = true then some (false)
          else (if (!x4.1.toList == x5.1.toList) = true then some (false)
           else (if (x4.2 != x5.2) = true then some (false)
            else 
             (Option.bind (F19 x6 x7) fun x9 => (if (!x9) = true then some (false)
              else l0 K ((0 : Int)) (x2) (x6) (x7)))))))))))))))
noncomputable def G3 (F10 : (El T24) → (List (El T54)) → Option (Bool)) (F11 : Option (Bool)) (F12 : (El T24) → Option (El T24)) (F13 : (El T24) → Option (Int)) (F14 : (El T24) → Option (ByteArray × Int)) (F15 : (El T24) → Option (ByteArray × Int)) (F16 : (El T24) → Option (List (El (.int .u32)))) (F17 : (El T24) → Option (List (El (.int .u32)))) (F18 : (El T24) → Option (Int)) (F19 : (List (El (.int .u32))) → (List (El (.int .u32))) → Option (Bool)) (F20 : (El T24) → (El T24) → Option (Bool)) (K : Nat) (a0 : El T24) : Option (Bool) := t3 F10 F11 F12 F13 F14 F15 F16 F17 F18 F19 F20 K a0 (L3_0 F10 F11 F12 F13 F14 F15 F16 F17 F18 F19 F20 K a0)
theorem lp3_0 (F10 : (El T24) → (List (El T54)) → Option (Bool)) (F11 : Option (Bool)) (F12 : (El T24) → Option (El T24)) (F13 : (El T24) → Option (Int)) (F14 : (El T24) → Option (ByteArray × Int)) (F15 : (El T24) → Option (ByteArray × Int)) (F16 : (El T24) → Option (List (El (.int .u32)))) (F17 : (El T24) → Option (List (El (.int .u32)))) (F18 : (El T24) → Option (Int)) (F19 : (List (El (.int .u32))) → (List (El (.int .u32))) → Option (Bool)) (F20 : (El T24) → (El T24) → Option (Bool)) (K : Nat) (a0 : El T24) : ∀ (n : Nat) (ps11 : Int) (ph3 : El T24) (ph30 : List (Int)) (ph32 : List (Int)), loopN Tryd.prog (tab3 F10 F11 F12 F13 F14 F15 F16 F17 F18 F19 F20) 0 K Tryd.f3 la3 dq3.k 0 [] n (hd3_0 a0 ps11 ph3 ph30 ph32) = L3_0 F10 F11 F12 F13 F14 F15 F16 F17 F18 F19 F20 K a0 n ps11 ph3 ph30 ph32
  | 0, _, _, _, _ => by kernel_rfl
  | n + 1, ps11, ph3, ph30, ph32 => by
    have h : loopN Tryd.prog (tab3 F10 F11 F12 F13 F14 F15 F16 F17 F18 F19 F20) 0 K Tryd.f3 la3 dq3.k 0 [] (n + 1) (hd3_0 a0 ps11 ph3 ph30 ph32) = b3_0 F10 F11 F12 F13 F14 F15 F16 F17 F18 F19 F20 K a0 (fun q0 q1 q2 q3 => loopN Tryd.prog (tab3 F10 F11 F12 F13 F14 F15 F16 F17 F18 F19 F20) 0 K Tryd.f3 la3 dq3.k 0 [] n (hd3_0 a0 q0 q1 q2 q3)) ps11 ph3 ph30 ph32 := by kernel_rfl
    rw [h]
    simp only [lp3_0 F10 F11 F12 F13 F14 F15 F16 F17 F18 F19 F20 K a0 n]
    rfl
theorem ev3 (F10 : (El T24) → (List (El T54)) → Option (Bool)) (F11 : Option (Bool)) (F12 : (El T24) → Option (El T24)) (F13 : (El T24) → Option (Int)) (F14 : (El T24) → Option (ByteArray × Int)) (F15 : (El T24) → Option (ByteArray × Int)) (F16 : (El T24) → Option (List (El (.int .u32)))) (F17 : (El T24) → Option (List (El (.int .u32)))) (F18 : (El T24) → Option (Int)) (F19 : (List (El (.int .u32))) → (List (El (.int .u32))) → Option (Bool)) (F20 : (El T24) → (El T24) → Option (Bool)) (K : Nat) (a0 : El T24) : evFun Tryd.prog (tab3 F10 F11 F12 F13 F14 F15 F16 F17 F18 F19 F20) 0 K Tryd.f3 la3 [.agg (cellsOf T24 a0)] [] dq3.k = G3 F10 F11 F12 F13 F14 F15 F16 F17 F18 F19 F20 K a0 := by
  have h : evFun Tryd.prog (tab3 F10 F11 F12 F13 F14 F15 F16 F17 F18 F19 F20) 0 K Tryd.f3 la3 [.agg (cellsOf T24 a0)] [] dq3.k = t3 F10 F11 F12 F13 F14 F15 F16 F17 F18 F19 F20 K a0 (fun k q0 q1 q2 q3 => loopN Tryd.prog (tab3 F10 F11 F12 F13 F14 F15 F16 F17 F18 F19 F20) 0 K Tryd.f3 la3 dq3.k 0 [] k (hd3_0 a0 q0 q1 q2 q3)) := by kernel_rfl
  rw [h]
  simp only [lp3_0 F10 F11 F12 F13 F14 F15 F16 F17 F18 F19 F20 K a0]
  rfl
noncomputable def F3 (K : Nat) (a0 : El T24) : Option (Bool) := G3 (F10 K) (F11 K) (F12 K) (F13 K) (F14 K) (F15 K) (F16 K) (F17 K) (F18 K) (F19 K) (F20 K) K a0
theorem cok3 (K : Nat) : CallOK cxT Tryd.prog (tab3 (F10 K) (F11 K) (F12 K) (F13 K) (F14 K) (F15 K) (F16 K) (F17 K) (F18 K) (F19 K) (F20 K)) := (add_ok (add_ok (add_ok (add_ok (add_ok (add_ok (add_ok (add_ok (add_ok (add_ok (add_ok none_ok ent10 (ok10 K)) ent11 (ok11 K)) ent12 (ok12 K)) ent13 (ok13 K)) ent14 (ok14 K)) ent15 (ok15 K)) ent16 (ok16 K)) ent17 (ok17 K)) ent18 (ok18 K)) ent19 (ok19 K)) ent20 (ok20 K))
theorem ok3 (K : Nat) : RowOK cxT Tryd.prog 3 (row ad3 dq3 fun p => F3 K p) := row_ok fun x r h => has_of (cok3 K) Tryd.func3 ((ev3 (F10 K) (F11 K) (F12 K) (F13 K) (F14 K) (F15 K) (F16 K) (F17 K) (F18 K) (F19 K) (F20 K) K x).trans h)
end Go.Proofs.YtigekmmdflaeaaaDoorE
