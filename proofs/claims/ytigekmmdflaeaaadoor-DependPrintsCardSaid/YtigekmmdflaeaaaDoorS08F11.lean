import Derived.Test.YtigekmmdflaeaaaDoorS08W32
set_option linter.all false
namespace Go.Proofs.YtigekmmdflaeaaaDoorE
open Go Go.Proofs
set_option maxRecDepth 100000
set_option linter.unusedVariables false
variable {D : Cx}
/-! ganger/depend.Jobs -/
noncomputable def tab16 (F13 : (El T24) → Option (Int)) (F31 : (List Int) → Option (Unit × List Int)) (F32 : Unit → List (El (.int .u32)) → Option (List (El (.int .u32)))) : Tab := (((Tab.none.add 13 (row ad13 dq13 fun p => F13 p)).addG 31 (rowG (gad ag31 ob31) gq31 fun p => F31 p.2)).addW 32 (rowW (.int .u32) ad32 F32 true))
noncomputable def la16 : List (List Tidy) := [[.only [3, 10, 11, 12], .pro 3 19 38 (Ty.int IntKind.u32), .ids [1, 7, 11, 19, 22, 24], .top [1000000]]]
noncomputable def hd16_0 (a0 : El T24) (ps12 : Int) (ph19 : List (Int)) : St := { tm := slots (nat_lit 25) [(nat_lit 3, AV.own (nat_lit 19)), (nat_lit 10, AV.row T46 a0.2), (nat_lit 11, AV.sc (Value.int IntKind.i64 (↑(List.length a0.2) : Int))), (nat_lit 12, AV.sc (Value.int IntKind.i64 ps12))], H := [(nat_lit 1, ABlk.box (nat_lit 24) (cellsOf T24 a0)), (nat_lit 19, ABlk.arr (nat_lit 38) (Ty.int IntKind.u32) ph19)] }
noncomputable def b16_0 (F13 : (El T24) → Option (Int)) (F31 : (List Int) → Option (Unit × List Int)) (F32 : Unit → List (El (.int .u32)) → Option (List (El (.int .u32)))) (K : Nat) (a0 : El T24) (r0 : Int → (List (Int)) → Option (List (El (.int .u32)))) (ps12 : Int) (ph19 : List (Int)) : Option (List (El (.int .u32))) :=(if decide (ps12 < (↑(List.length a0.2) : Int)) = true then (if decide ((0 : Int) ≤ ps12 ∧ ps12 < (↑(List.length a0.2) : Int)) = true then (if decide ((ph19.length + List.length (List.getD a0.2 ps12.toNat (zEl T46)).2) * Tryd.prog.types[(38 : Nat)].bytes ≤ (140737488355328 : Nat)) = true then r0 (IntKind.i64.wrap (ps12 + (1 : Int))) (ph19 ++ (List.getD a0.2 ps12.toNat (zEl T46)).2)
    else none)
   else none)
  else 
   (Option.bind (F31 ph19) fun x1 => 
    (Option.bind (F32 () x1.2) fun x2 => some (x2))))
noncomputable def L16_0 (F13 : (El T24) → Option (Int)) (F31 : (List Int) → Option (Unit × List Int)) (F32 : Unit → List (El (.int .u32)) → Option (List (El (.int .u32)))) (K : Nat) (a0 : El T24) : Nat → Int → (List (Int)) → Option (List (El (.int .u32)))
  | 0, _, _ => none
  | n + 1, ps12, ph19 => b16_0 F13 F31 F32 K a0 (L16_0 F13 F31 F32 K a0 n) ps12 ph19
noncomputable def t16 (F13 : (El T24) → Option (Int)) (F31 : (List Int) → Option (Unit × List Int)) (F32 : Unit → List (El (.int .u32)) → Option (List (El (.int .u32)))) (K : Nat) (a0 : El T24) (l0 : Nat → Int → (List (Int)) → Option (List (El (.int .u32)))) : Option (List (El (.int .u32))) := 
 (Option.bind (F13 a0) fun x0 => (if (x0 != (0 : Int)) = true then some ([])
  else l0 K ((0 : Int)) ([])))
noncomputable def G16 (F13 : (El T24) → Option (Int)) (F31 : (List Int) → Option (Unit × List Int)) (F32 : Unit → List (El (.int .u32)) → Option (List (El (.int .u32)))) (K : Nat) (a0 : El T24) : Option (List (El (.int .u32))) := t16 F13 F31 F32 K a0 (L16_0 F13 F31 F32 K a0)
theorem lp16_0 (F13 : (El T24) → Option (Int)) (F31 : (List Int) → Option (Unit × List Int)) (F32 : Unit → List (El (.int .u32)) → Option (List (El (.int .u32)))) (K : Nat) (a0 : El T24) : ∀ (n : Nat) (ps12 : Int) (ph19 : List (Int)), loopN Tryd.prog (tab16 F13 F31 F32) 0 K Tryd.f16 la16 dq16.k 0 [] n (hd16_0 a0 ps12 ph19) = L16_0 F13 F31 F32 K a0 n ps12 ph19
  | 0, _, _ => by kernel_rfl
  | n + 1, ps12, ph19 => by
    have h : loopN Tryd.prog (tab16 F13 F31 F32) 0 K Tryd.f16 la16 dq16.k 0 [] (n + 1) (hd16_0 a0 ps12 ph19) = b16_0 F13 F31 F32 K a0 (fun q0 q1 => loopN Tryd.prog (tab16 F13 F31 F32) 0 K Tryd.f16 la16 dq16.k 0 [] n (hd16_0 a0 q0 q1)) ps12 ph19 := by kernel_rfl
    rw [h]
    simp only [lp16_0 F13 F31 F32 K a0 n]
    rfl
theorem ev16 (F13 : (El T24) → Option (Int)) (F31 : (List Int) → Option (Unit × List Int)) (F32 : Unit → List (El (.int .u32)) → Option (List (El (.int .u32)))) (K : Nat) (a0 : El T24) : evFun Tryd.prog (tab16 F13 F31 F32) 0 K Tryd.f16 la16 [.agg (cellsOf T24 a0)] [] dq16.k = G16 F13 F31 F32 K a0 := by
  have h : evFun Tryd.prog (tab16 F13 F31 F32) 0 K Tryd.f16 la16 [.agg (cellsOf T24 a0)] [] dq16.k = t16 F13 F31 F32 K a0 (fun k q0 q1 => loopN Tryd.prog (tab16 F13 F31 F32) 0 K Tryd.f16 la16 dq16.k 0 [] k (hd16_0 a0 q0 q1)) := by kernel_rfl
  rw [h]
  simp only [lp16_0 F13 F31 F32 K a0]
  rfl
noncomputable def F16 (K : Nat) (a0 : El T24) : Option (List (El (.int .u32))) := G16 (F13 K) (F31 K) (F32 K) K a0
theorem cok16 (K : Nat) : CallOK D Tryd.prog (tab16 (F13 K) (F31 K) (F32 K)) := (addW_ok (addG_ok (add_ok none_ok ent13 (ok13 K)) ent31 (ok31 K)) ent32 (ok32 K))
theorem ok16 (K : Nat) : RowOK D Tryd.prog 16 (row ad16 dq16 fun p => F16 K p) := row_ok fun x r h => has_of (cok16 K) Tryd.func16 ((ev16 (F13 K) (F31 K) (F32 K) K x).trans h)
/-! ganger/gangerlaw08.known -/
noncomputable def tab11 (F21 : ByteArray → Option ((El T24) × Int)) (F23 : (El T24) → (List (El T54)) → Bool → Option (Int)) (F14 : (El T24) → Option (ByteArray × Int)) (F16 : (El T24) → Option (List (El (.int .u32)))) : Tab := ((((Tab.none.add 21 (row ad21 dq21 fun p => F21 p)).add 23 (row ad23 dq23 fun p => F23 p.1 p.2.1 p.2.2)).add 14 (row ad14 dq14 fun p => F14 p)).add 16 (row ad16 dq16 fun p => F16 p))
noncomputable def t11 (F21 : ByteArray → Option ((El T24) × Int)) (F23 : (El T24) → (List (El T54)) → Bool → Option (Int)) (F14 : (El T24) → Option (ByteArray × Int)) (F16 : (El T24) → Option (List (El (.int .u32)))) (K : Nat) : Option (Bool) := 
 (Option.bind (F21 (ByteArray.mk (#[(97 : UInt8), (102 : UInt8), (116 : UInt8), (101 : UInt8), (114 : UInt8), (111 : UInt8), (107 : UInt8), (58 : UInt8), (49 : UInt8), (50 : UInt8), (58 : UInt8), (49 : UInt8), (51 : UInt8), (44 : UInt8), (115 : UInt8), (105 : UInt8), (110 : UInt8), (103 : UInt8), (108 : UInt8), (101 : UInt8), (116 : UInt8), (111 : UInt8), (110 : UInt8)]))) fun x0 => 
  (Option.bind (F23 x0.1 [((12 : Int), (3 : Int)), ((13 : Int), (2 : Int))] true) fun x1 => 
   (Option.bind (F23 x0.1 [((12 : Int), (3 : Int)), ((13 : Int), (4 : Int))] true) fun x2 => 
    (Option.bind (F21 (ByteArray.mk (#[(97 : UInt8), (102 : UInt8), (116 : UInt8), (101 : UInt8), (114 : UInt8), (58 : UInt8), (49 : UInt8), (63 : UInt8), (97 : UInt8), (102 : UInt8), (116 : UInt8), (101 : UInt8), (114 : UInt8), (111 : UInt8), (107 : UInt8), (58 : UInt8), (50 : UInt8)]))) fun x3 => 
     (Option.bind (F23 x3.1 [((1 : Int), (2 : Int))] false) fun x4 => 
      (Option.bind (F14 x0.1) fun x5 => 
       (Option.bind (F21 (ByteArray.mk (#[(97 : UInt8), (102 : UInt8), (116 : UInt8), (101 : UInt8), (114 : UInt8), (111 : UInt8), (107 : UInt8)]))) fun x6 => (if (x0.2 == (0 : Int)) = true then (if ((↑(List.length x0.1.2) : Int) == (2 : Int)) = true then (if (x1 == (1 : Int)) = true then (if (x2 == (3 : Int)) = true then (if (x3.2 == (0 : Int)) = true then (if x3.1.1 = true then (if (x4 == (2 : Int)) = true then (if (x5.1.toList == (ByteArray.mk (#[(97 : UInt8), (102 : UInt8), (116 : UInt8), (101 : UInt8), (114 : UInt8), (111 : UInt8), (107 : UInt8), (58 : UInt8), (49 : UInt8), (50 : UInt8), (58 : UInt8), (49 : UInt8), (51 : UInt8), (44 : UInt8), (115 : UInt8), (105 : UInt8), (110 : UInt8), (103 : UInt8), (108 : UInt8), (101 : UInt8), (116 : UInt8), (111 : UInt8), (110 : UInt8)])).toList) = true then (if (x5.2 == (0 : Int)) = true then (if (x6.2 == (60 : Int)) = true then 
                  (Option.bind (F16 x0.1) fun x7 => some ((↑(List.length x7) : Int) == (2 : Int)))
                 else some (false))
                else some (false))
               else some (false))
              else some (false))
             else some (false))
            else some (false))
           else some (false))
          else some (false))
         else some (false))
        else some (false)))))))))
noncomputable def G11 (F21 : ByteArray → Option ((El T24) × Int)) (F23 : (El T24) → (List (El T54)) → Bool → Option (Int)) (F14 : (El T24) → Option (ByteArray × Int)) (F16 : (El T24) → Option (List (El (.int .u32)))) (K : Nat) : Option (Bool) := t11 F21 F23 F14 F16 K
theorem ev11 (F21 : ByteArray → Option ((El T24) × Int)) (F23 : (El T24) → (List (El T54)) → Bool → Option (Int)) (F14 : (El T24) → Option (ByteArray × Int)) (F16 : (El T24) → Option (List (El (.int .u32)))) (K : Nat) : evFun Tryd.prog (tab11 F21 F23 F14 F16) 0 K Tryd.f11 [] [] [] dq11.k = G11 F21 F23 F14 F16 K := by
  kernel_rfl
noncomputable def F11 (K : Nat) : Option (Bool) := G11 (F21 K) (F23 K) (F14 K) (F16 K) K
theorem cok11 (K : Nat) : CallOK cxT Tryd.prog (tab11 (F21 K) (F23 K) (F14 K) (F16 K)) := (add_ok (add_ok (add_ok (add_ok none_ok ent21 (ok21 K)) ent23 (ok23 K)) ent14 (ok14 K)) ent16 (ok16 K))
theorem ok11 (K : Nat) : RowOK cxT Tryd.prog 11 (row ad11 dq11 fun p => F11 K) := row_ok fun x r h => has_of (cok11 K) Tryd.func11 ((ev11 (F21 K) (F23 K) (F14 K) (F16 K) K).trans h)
/-! ganger/gangerlaw08.DependJoins -/
noncomputable def tab8 (F10 : (El T24) → (List (El T54)) → Option (Bool)) (F11 : Option (Bool)) (F13 : (El T24) → Option (Int)) (F23 : (El T24) → (List (El T54)) → Bool → Option (Int)) : Tab := ((((Tab.none.add 10 (row ad10 dq10 fun p => F10 p.1 p.2)).add 11 (row ad11 dq11 fun p => F11)).add 13 (row ad13 dq13 fun p => F13 p)).add 23 (row ad23 dq23 fun p => F23 p.1 p.2.1 p.2.2))
noncomputable def t8 (F10 : (El T24) → (List (El T54)) → Option (Bool)) (F11 : Option (Bool)) (F13 : (El T24) → Option (Int)) (F23 : (El T24) → (List (El T54)) → Bool → Option (Int)) (K : Nat) (a0 : El T24) (a1 : El T24) (a2 : List (El T54)) (a3 : Bool) : Option (Bool) := 
 (Option.bind (F10 a0 a2) fun x0 => (if x0 = true then 
   (Option.bind (F11) fun x1 => some (x1))
  else 
   (Option.bind (F10 a1 []) fun x2 => (if x2 = true then 
     (Option.bind (F11) fun x3 => some (x3))
    else 
     (Option.bind (F13 (false, a0.2)) fun x4 => (if (x4 != (0 : Int)) = true then 
       (Option.bind (F11) fun x5 => some (x5))
      else 
       (Option.bind (F13 (false, a1.2)) fun x6 => (if (x6 != (0 : Int)) = true then 
         (Option.bind (F11) fun x7 => some (x7))
        else (if decide (IntKind.i64.wrap ((↑(List.length a0.2) : Int) + (↑(List.length a1.2) : Int)) > (20 : Int)) = true then 
          (Option.bind (F11) fun x8 => some (x8))
         else (if ((↑(List.length a0.2) : Int) != (1 : Int)) = true then 
           (Option.bind (F11) fun x9 => some (x9))
          else (if ((↑(List.length a1.2) : Int) != (1 : Int)) = true then 
            (Option.bind (F11) fun x10 => some (x10))
           else (if decide (List.length a0.2 * Tryd.prog.types[(46 : Nat)].bytes ≤ (140737488355328 : Nat)) = true then (if decide ((List.length a0.2 + List.length a1.2) * Tryd.prog.types[(46 : Nat)].bytes ≤ (140737488355328 : Nat)) = true then 
              (Option.bind (F23 (false, a0.2) a2 a3) fun x11 => 
               (Option.bind (F23 (false, a1.2) a2 a3) fun x12 => 
                (Option.bind (F23 (false, a0.2 ++ a1.2) a2 a3) fun x13 => 
                 (Option.bind (F23 (true, a0.2 ++ a1.2) a2 a3) fun x14 => (if (x11 == (3 : Int)) = true then (if (x11 == (2 : Int)) = true then (if (x13 == (3 : Int)) = true then (if (x14 == (2 : Int)) = true then 
                      (Option.bind (F11) fun x15 => some (x15))
                     else some (false))
                    else some (false))
                   else (if (x12 == (2 : Int)) = true then (if (x13 == (3 : Int)) = true then (if (x14 == (2 : Int)) = true then 
                       (Option.bind (F11) fun x16 => some (x16))
                      else some (false))
                     else some (false))
                    else (if (x11 == (1 : Int)) = true then (if (x13 == (3 : Int)) = true then (if (x14 == (1 : Int)) = true then 
                        (Option.bind (F11) fun x17 => some (x17))
                       else some (false))
                      else some (false))
                     else (if (x12 == (1 : Int)) = true then (if (x13 == (3 : Int)) = true then (if (x14 == (1 : Int)) = true then 
                         (Option.bind (F11) fun x18 => some (x18))
                        else some (false))
                       else some (false))
                      else (if (x13 == (3 : Int)) = true then (if (x14 == (3 : Int)) = true then 
                         (Option.bind (F11) fun x19 => some (x19))
                        else some (false))
                       else some (false))))))
                  else (if (x12 == (3 : Int)) = true then (if (x11 == (2 : Int)) = true then (if (x13 == (3 : Int)) = true then (if (x14 == (2 : Int)) = true then 
                       (Option.bind (F11) fun x20 => some (x20))
                      else some (false))
                     else some (false))
                    else (if (x12 == (2 : Int)) = true then (if (x13 == (3 : Int)) = true then (if (x14 == (2 : Int)) = true then 
                        (Option.bind (F11) fun x21 => some (x21))
                       else some (false))
                      else some (false))
                     else (if (x11 == (1 : Int)) = true then (if (x13 == (3 : Int)) = true then (if (x14 == (1 : Int)) = true then 
                         (Option.bind (F11) fun x22 => some (x22))
                        else some (false))
                       else some (false))
                      else (if (x12 == (1 : Int)) = true then (if (x13 == (3 : Int)) = true then (if (x14 == (1 : Int)) = true then 
                          (Option.bind (F11) fun x23 => some (x23))
                         else some (false))
                        else some (false))
                       else (if (x13 == (3 : Int)) = true then (if (x14 == (3 : Int)) = true then 
                          (Option.bind (F11) fun x24 => some (x24))
                         else some (false))
                        else some (false))))))
                   else (if (x11 == (1 : Int)) = true then (if (x11 == (2 : Int)) = true then (if (x13 == (1 : Int)) = true then (if (x14 == (2 : Int)) = true then 
                        (Option.bind (F11) fun x25 => some (x25))
                       else some (false))
                      else some (false))
                     else (if (x12 == (2 : Int)) = true then (if (x13 == (1 : Int)) = true then (if (x14 == (2 : Int)) = true then 
                         (Option.bind (F11) fun x26 => some (x26))
                        else some (false))
                       else some (false))
                      else (if (x11 == (1 : Int)) = true then (if (x13 == (1 : Int)) = true then (if (x14 == (1 : Int)) = true then 
                          (Option.bind (F11) fun x27 => some (x27))
                         else some (false))
                        else some (false))
                       else (if (x12 == (1 : Int)) = true then (if (x13 == (1 : Int)) = true then (if (x14 == (1 : Int)) = true then 
                           (Option.bind (F11) fun x28 => some (x28))
                          else some (false))
                         else some (false))
                        else (if (x13 == (1 : Int)) = true then (if (x14 == (3 : Int)) = true then 
                           (Option.bind (F11) fun x29 => some (x29))
                          else some (false))
                         else some (false))))))
                    else (if (x12 == (1 : Int)) = true then (if (x11 == (2 : Int)) = true then (if (x13 == (1 : Int)) = true then (if (x14 == (2 : Int)) = true then 
                         (Option.bind (F11) fun x30 => some (x30))
                        else some (false))
                       else some (false))
                      else (if (x12 == (2 : Int)) = true then (if (x13 == (1 : Int)) = true then (if (x14 == (2 : Int)) = true then 
                          (Option.bind (F11) fun x31 => some (x31))
                         else some (false))
                        else some (false))
                       else (if (x11 == (1 : Int)) = true then (if (x13 == (1 : Int)) = true then (if (x14 == (1 : Int)) = true then 
                           (Option.bind (F11) fun x32 => some (x32))
                          else some (false))
                         else some (false))
                        else (if (x12 == (1 : Int)) = true then (if (x13 == (1 : Int)) = true then (if (x14 == (1 : Int)) = true then 
                            (Option.bind (F11) fun x33 => some (x33))
                           else some (false))
                          else some (false))
                         else (if (x13 == (1 : Int)) = true then (if (x14 == (3 : Int)) = true then 
                            (Option.bind (F11) fun x34 => some (x34))
                           else some (false))
                          else some (false))))))
                     else (if (x11 == (2 : Int)) = true then (if (x13 == (2 : Int)) = true then (if (x14 == (2 : Int)) = true then 
                         (Option.bind (F11) fun x35 => some (x35))
                        else some (false))
                       else some (false))
                      else (if (x12 == (2 : Int)) = true then (if (x13 == (2 : Int)) = true then (if (x14 == (2 : Int)) = true then 
                          (Option.bind (F11) fun x36 => some (x36))
                         else some (false))
                        else some (false))
                       else (if (x11 == (1 : Int)) = true then (if (x13 == (2 : Int)) = true then (if (x14 == (1 : Int)) = true then 
                           (Option.bind (F11) fun x37 => some (x37))
                          else some (false))
                         else some (false))
                        else (if (x12 == (1 : Int)) = true then (if (x13 == (2 : Int)) = true then (if (x14 == (1 : Int)) = true then 
                            (Option.bind (F11) fun x38 => some (x38))
                           else some (false))
                          else some (false))
                         else (if (x13 == (2 : Int)) = true then (if (x14 == (3 : Int)) = true then 
                            (Option.bind (F11) fun x39 => some (x39))
                           else some (false))
                          else some (false))))))))))))))
             else none)
            else none))))))))))))
noncomputable def G8 (F10 : (El T24) → (List (El T54)) → Option (Bool)) (F11 : Option (Bool)) (F13 : (El T24) → Option (Int)) (F23 : (El T24) → (List (El T54)) → Bool → Option (Int)) (K : Nat) (a0 : El T24) (a1 : El T24) (a2 : List (El T54)) (a3 : Bool) : Option (Bool) := t8 F10 F11 F13 F23 K a0 a1 a2 a3
theorem ev8 (F10 : (El T24) → (List (El T54)) → Option (Bool)) (F11 : Option (Bool)) (F13 : (El T24) → Option (Int)) (F23 : (El T24) → (List (El T54)) → Bool → Option (Int)) (K : Nat) (a0 : El T24) (a1 : El T24) (a2 : List (El T54)) (a3 : Bool) : evFun Tryd.prog (tab8 F10 F11 F13 F23) 0 K Tryd.f8 [] [.agg (cellsOf T24 a0), .agg (cellsOf T24 a1), .row T54 a2, B a3] [] dq8.k = G8 F10 F11 F13 F23 K a0 a1 a2 a3 := by
  kernel_rfl
noncomputable def F8 (K : Nat) (a0 : El T24) (a1 : El T24) (a2 : List (El T54)) (a3 : Bool) : Option (Bool) := G8 (F10 K) (F11 K) (F13 K) (F23 K) K a0 a1 a2 a3
theorem cok8 (K : Nat) : CallOK cxT Tryd.prog (tab8 (F10 K) (F11 K) (F13 K) (F23 K)) := (add_ok (add_ok (add_ok (add_ok none_ok ent10 (ok10 K)) ent11 (ok11 K)) ent13 (ok13 K)) ent23 (ok23 K))
theorem ok8 (K : Nat) : RowOK cxT Tryd.prog 8 (row ad8 dq8 fun p => F8 K p.1 p.2.1 p.2.2.1 p.2.2.2) := row_ok fun x r h => has_of (cok8 K) Tryd.func8 ((ev8 (F10 K) (F11 K) (F13 K) (F23 K) K x.1 x.2.1 x.2.2.1 x.2.2.2).trans h)
/-! ganger/gangerref08.Check -/
noncomputable def tab18 : Tab := Tab.none
noncomputable def la18 : List (List Tidy) := [[.only [1, 3], .ids [1, 8, 16], .top [1000000]], [.only [1, 3, 4, 5], .ids [1, 4, 8, 16, 23, 41, 46, 53], .top [1000001]]]
noncomputable def hd18_0 (a0 : El T24) (ps3 : Int) : St := { tm := slots (nat_lit 68) [(nat_lit 1, AV.ptr (nat_lit 1) (nat_lit 0)), (nat_lit 3, AV.sc (Value.int IntKind.i64 ps3))], H := [(nat_lit 1, ABlk.box (nat_lit 24) (cellsOf T24 a0))] }
noncomputable def hd18_1 (a0 : El T24) (ps3 : Int) (ps5 : Int) (ph4 : El T46) : St := { tm := slots (nat_lit 68) [(nat_lit 1, AV.ptr (nat_lit 1) (nat_lit 0)), (nat_lit 3, AV.sc (Value.int IntKind.i64 ps3)), (nat_lit 4, AV.ptr (nat_lit 4) (nat_lit 0)), (nat_lit 5, AV.sc (Value.int IntKind.i64 ps5))], H := [(nat_lit 1, ABlk.box (nat_lit 24) (cellsOf T24 a0)), (nat_lit 4, ABlk.box (nat_lit 46) (cellsOf T46 ph4))] }
noncomputable def b18_1 (K : Nat) (a0 : El T24) (r0 : Int → Option (Int)) (r1 : Int → Int → (El T46) → Option (Int)) (ps3 : Int) (ps5 : Int) (ph4 : El T46) : Option (Int) :=(if decide (ps5 < (↑(List.length ph4.2) : Int)) = true then (if decide ((0 : Int) ≤ ps5 ∧ ps5 < (↑(List.length ph4.2) : Int)) = true then (if (List.getD ph4.2 ps5.toNat (zEl (Ty.int IntKind.u32)) == (0 : Int)) = true then some ((2 : Int))
    else r1 (ps3) (IntKind.i64.wrap (ps5 + (1 : Int))) (ph4))
   else none)
  else r0 (IntKind.i64.wrap (ps3 + (1 : Int))))
noncomputable def L18_1 (K : Nat) (a0 : El T24) (r0 : Int → Option (Int)) : Nat → Int → Int → (El T46) → Option (Int)
  | 0, _, _, _ => none
  | n + 1, ps3, ps5, ph4 => b18_1 K a0 r0 (L18_1 K a0 r0 n) ps3 ps5 ph4
noncomputable def b18_0 (K : Nat) (a0 : El T24) (r0 : Int → Option (Int)) (l1 : Nat → Int → Int → (El T46) → Option (Int)) (ps3 : Int) : Option (Int) :=(if decide (ps3 < (↑(List.length a0.2) : Int)) = true then (if decide ((0 : Int) ≤ ps3 ∧ ps3 < (↑(List.length a0.2) : Int)) = true then (if ((List.getD a0.2 ps3.toNat (zEl T46)).1 == (1 : Int)) = true then (if ((↑(List.length (List.getD a0.2 ps3.toNat (zEl T46)).2) : Int) == (0 : Int)) = true then some ((2 : Int))
     else (if decide ((↑(List.length (List.getD a0.2 ps3.toNat (zEl T46)).2) : Int) > (20 : Int)) = true then some ((2 : Int))
      else l1 K (ps3) ((0 : Int)) (List.getD a0.2 ps3.toNat (zEl T46))))
    else (if ((List.getD a0.2 ps3.toNat (zEl T46)).1 == (2 : Int)) = true then (if ((↑(List.length (List.getD a0.2 ps3.toNat (zEl T46)).2) : Int) == (0 : Int)) = true then some ((2 : Int))
      else (if decide ((↑(List.length (List.getD a0.2 ps3.toNat (zEl T46)).2) : Int) > (20 : Int)) = true then some ((2 : Int))
       else l1 K (ps3) ((0 : Int)) (List.getD a0.2 ps3.toNat (zEl T46))))
     else (if ((List.getD a0.2 ps3.toNat (zEl T46)).1 == (3 : Int)) = true then (if ((↑(List.length (List.getD a0.2 ps3.toNat (zEl T46)).2) : Int) == (0 : Int)) = true then some ((2 : Int))
       else (if decide ((↑(List.length (List.getD a0.2 ps3.toNat (zEl T46)).2) : Int) > (20 : Int)) = true then some ((2 : Int))
        else l1 K (ps3) ((0 : Int)) (List.getD a0.2 ps3.toNat (zEl T46))))
      else (if ((List.getD a0.2 ps3.toNat (zEl T46)).1 == (4 : Int)) = true then (if ((↑(List.length (List.getD a0.2 ps3.toNat (zEl T46)).2) : Int) == (0 : Int)) = true then some ((2 : Int))
        else (if decide ((↑(List.length (List.getD a0.2 ps3.toNat (zEl T46)).2) : Int) > (20 : Int)) = true then some ((2 : Int))
         else l1 K (ps3) ((0 : Int)) (List.getD a0.2 ps3.toNat (zEl T46))))
       else (if ((List.getD a0.2 ps3.toNat (zEl T46)).1 == (5 : Int)) = true then (if ((↑(List.length (List.getD a0.2 ps3.toNat (zEl T46)).2) : Int) != (0 : Int)) = true then some ((2 : Int))
         else l1 K (ps3) ((0 : Int)) (List.getD a0.2 ps3.toNat (zEl T46)))
        else some ((2 : Int)))))))
   else none)
  else some ((0 : Int)))
noncomputable def L18_0 (K : Nat) (a0 : El T24) : Nat → Int → Option (Int)
  | 0, _ => none
  | n + 1, ps3 => b18_0 K a0 (L18_0 K a0 n) (L18_1 K a0 (L18_0 K a0 n)) ps3
noncomputable def t18 (K : Nat) (a0 : El T24) (l0 : Nat → Int → Option (Int)) : Option (Int) := (if decide ((↑(List.length a0.2) : Int) > (20 : Int)) = true then some ((2 : Int))
 else (if a0.1 = true then (if decide ((↑(List.length a0.2) : Int) ≤ (1 : Int)) = true then some ((2 : Int))
   else l0 K ((0 : Int)))
  else l0 K ((0 : Int))))
noncomputable def G18 (K : Nat) (a0 : El T24) : Option (Int) := t18 K a0 (L18_0 K a0)
theorem lp18_1 (K : Nat) (a0 : El T24) : ∀ (m0 : Nat) (n : Nat) (ps3 : Int) (ps5 : Int) (ph4 : El T46), loopN Tryd.prog (tab18) 0 K Tryd.f18 la18 dq18.k 1 [m0] n (hd18_1 a0 ps3 ps5 ph4) = L18_1 K a0 (fun q0 => loopN Tryd.prog (tab18) 0 K Tryd.f18 la18 dq18.k 0 [] m0 (hd18_0 a0 q0)) n ps3 ps5 ph4
  | m0, 0, _, _, _ => by kernel_rfl
  | m0, n + 1, ps3, ps5, ph4 => by
    have h : loopN Tryd.prog (tab18) 0 K Tryd.f18 la18 dq18.k 1 [m0] (n + 1) (hd18_1 a0 ps3 ps5 ph4) = b18_1 K a0 (fun q0 => loopN Tryd.prog (tab18) 0 K Tryd.f18 la18 dq18.k 0 [] m0 (hd18_0 a0 q0)) (fun q0 q1 q2 => loopN Tryd.prog (tab18) 0 K Tryd.f18 la18 dq18.k 1 [m0] n (hd18_1 a0 q0 q1 q2)) ps3 ps5 ph4 := by kernel_rfl
    rw [h]
    simp only [lp18_1 K a0 m0 n]
    rfl
theorem lp18_0 (K : Nat) (a0 : El T24) : ∀ (n : Nat) (ps3 : Int), loopN Tryd.prog (tab18) 0 K Tryd.f18 la18 dq18.k 0 [] n (hd18_0 a0 ps3) = L18_0 K a0 n ps3
  | 0, _ => by kernel_rfl
  | n + 1, ps3 => by
    have h : loopN Tryd.prog (tab18) 0 K Tryd.f18 la18 dq18.k 0 [] (n + 1) (hd18_0 a0 ps3) = b18_0 K a0 (fun q0 => loopN Tryd.prog (tab18) 0 K Tryd.f18 la18 dq18.k 0 [] n (hd18_0 a0 q0)) (fun k q0 q1 q2 => loopN Tryd.prog (tab18) 0 K Tryd.f18 la18 dq18.k 1 [n] k (hd18_1 a0 q0 q1 q2)) ps3 := by kernel_rfl
    rw [h]
    simp only [lp18_0 K a0 n, lp18_1 K a0 n]
    rfl
theorem ev18 (K : Nat) (a0 : El T24) : evFun Tryd.prog (tab18) 0 K Tryd.f18 la18 [.agg (cellsOf T24 a0)] [] dq18.k = G18 K a0 := by
  have h : evFun Tryd.prog (tab18) 0 K Tryd.f18 la18 [.agg (cellsOf T24 a0)] [] dq18.k = t18 K a0 (fun k q0 => loopN Tryd.prog (tab18) 0 K Tryd.f18 la18 dq18.k 0 [] k (hd18_0 a0 q0)) := by kernel_rfl
  rw [h]
  simp only [lp18_0 K a0]
  rfl
noncomputable def F18 (K : Nat) (a0 : El T24) : Option (Int) := G18 K a0
theorem cok18 (K : Nat) : CallOK D Tryd.prog (tab18) := none_ok
theorem ok18 (K : Nat) : RowOK D Tryd.prog 18 (row ad18 dq18 fun p => F18 K p) := row_ok fun x r h => has_of (cok18 K) Tryd.func18 ((ev18 K x).trans h)
/-! ganger/gangerref08.How -/
noncomputable def tab43 : Tab := Tab.none
noncomputable def la43 : List (List Tidy) := [[.only [0, 1, 5], .ids [], .top [1000000]]]
noncomputable def hd43_0 (a0 : List (El T54)) (a1 : Int) (ps5 : Int) : St := { tm := slots (nat_lit 38) [(nat_lit 0, AV.row T54 a0), (nat_lit 1, AV.sc (Value.int IntKind.u32 a1)), (nat_lit 5, AV.sc (Value.int IntKind.i64 ps5))], H := [] }
noncomputable def b43_0 (K : Nat) (a0 : List (El T54)) (a1 : Int) (r0 : Int → Option (Int)) (ps5 : Int) : Option (Int) :=(if decide (ps5 < (↑a0.length : Int)) = true then (if decide ((0 : Int) ≤ ps5 ∧ ps5 < (↑a0.length : Int)) = true then (if ((a0.getD ps5.toNat (zEl T54)).1 == a1) = true then (if decide ((0 : Int) ≤ ps5 ∧ ps5 < (↑a0.length : Int)) = true then (if decide ((a0.getD ps5.toNat (zEl T54)).2 ≥ (1 : Int)) = true then (if decide ((0 : Int) ≤ ps5 ∧ ps5 < (↑a0.length : Int)) = true then (if decide ((a0.getD ps5.toNat (zEl T54)).2 ≤ (4 : Int)) = true then (if decide ((0 : Int) ≤ ps5 ∧ ps5 < (↑a0.length : Int)) = true then some ((a0.getD ps5.toNat (zEl T54)).2)
         else none)
        else some ((0 : Int)))
       else none)
      else some ((0 : Int)))
     else none)
    else r0 (IntKind.i64.wrap (ps5 + (1 : Int))))
   else none)
  else some ((0 : Int)))
noncomputable def L43_0 (K : Nat) (a0 : List (El T54)) (a1 : Int) : Nat → Int → Option (Int)
  | 0, _ => none
  | n + 1, ps5 => b43_0 K a0 a1 (L43_0 K a0 a1 n) ps5
noncomputable def t43 (K : Nat) (a0 : List (El T54)) (a1 : Int) (l0 : Nat → Int → Option (Int)) : Option (Int) := l0 K ((0 : Int))
noncomputable def G43 (K : Nat) (a0 : List (El T54)) (a1 : Int) : Option (Int) := t43 K a0 a1 (L43_0 K a0 a1)
theorem lp43_0 (K : Nat) (a0 : List (El T54)) (a1 : Int) : ∀ (n : Nat) (ps5 : Int), loopN Tryd.prog (tab43) 0 K Tryd.f43 la43 dq43.k 0 [] n (hd43_0 a0 a1 ps5) = L43_0 K a0 a1 n ps5
  | 0, _ => by kernel_rfl
  | n + 1, ps5 => by
    have h : loopN Tryd.prog (tab43) 0 K Tryd.f43 la43 dq43.k 0 [] (n + 1) (hd43_0 a0 a1 ps5) = b43_0 K a0 a1 (fun q0 => loopN Tryd.prog (tab43) 0 K Tryd.f43 la43 dq43.k 0 [] n (hd43_0 a0 a1 q0)) ps5 := by kernel_rfl
    rw [h]
    simp only [lp43_0 K a0 a1 n]
    rfl
theorem ev43 (K : Nat) (a0 : List (El T54)) (a1 : Int) : evFun Tryd.prog (tab43) 0 K Tryd.f43 la43 [.row T54 a0, I .u32 a1] [] dq43.k = G43 K a0 a1 := by
  have h : evFun Tryd.prog (tab43) 0 K Tryd.f43 la43 [.row T54 a0, I .u32 a1] [] dq43.k = t43 K a0 a1 (fun k q0 => loopN Tryd.prog (tab43) 0 K Tryd.f43 la43 dq43.k 0 [] k (hd43_0 a0 a1 q0)) := by kernel_rfl
  rw [h]
  simp only [lp43_0 K a0 a1]
  rfl
noncomputable def F43 (K : Nat) (a0 : List (El T54)) (a1 : Int) : Option (Int) := G43 K a0 a1
theorem cok43 (K : Nat) : CallOK D Tryd.prog (tab43) := none_ok
theorem ok43 (K : Nat) : RowOK D Tryd.prog 43 (row ad43 dq43 fun p => F43 K p.1 p.2) := row_ok fun x r h => has_of (cok43 K) Tryd.func43 ((ev43 K x.1 x.2).trans h)
/-! ganger/gangerref08.of -/
noncomputable def tab42 : Tab := Tab.none
noncomputable def t42 (K : Nat) (a0 : Int) (a1 : Int) : Option (Int) := (if a1 = (↑(0 : Nat) : Int) then (if a0 = (↑(0 : Nat) : Int) then some ((0 : Int))
  else (if a0 = (↑((0 : Nat) + (1 : Nat)) : Int) then some ((3 : Int))
   else (if a0 = (↑((0 : Nat) + (1 : Nat) + (1 : Nat)) : Int) then some ((3 : Int))
    else (if a0 = (↑((0 : Nat) + (1 : Nat) + (1 : Nat) + (1 : Nat)) : Int) then some ((3 : Int))
     else (if a0 = (↑((0 : Nat) + (1 : Nat) + (1 : Nat) + (1 : Nat) + (1 : Nat)) : Int) then some ((3 : Int))
      else none)))))
 else (if a1 = (↑((0 : Nat) + (1 : Nat)) : Int) then (if a0 = (↑(0 : Nat) : Int) then some ((0 : Int))
   else (if a0 = (↑((0 : Nat) + (1 : Nat)) : Int) then some ((1 : Int))
    else (if a0 = (↑((0 : Nat) + (1 : Nat) + (1 : Nat)) : Int) then some ((1 : Int))
     else (if a0 = (↑((0 : Nat) + (1 : Nat) + (1 : Nat) + (1 : Nat)) : Int) then some ((1 : Int))
      else (if a0 = (↑((0 : Nat) + (1 : Nat) + (1 : Nat) + (1 : Nat) + (1 : Nat)) : Int) then some ((1 : Int))
       else none)))))
  else (if a1 = (↑((0 : Nat) + (1 : Nat) + (1 : Nat)) : Int) then (if a0 = (↑(0 : Nat) : Int) then some ((0 : Int))
    else (if a0 = (↑((0 : Nat) + (1 : Nat)) : Int) then some ((2 : Int))
     else (if a0 = (↑((0 : Nat) + (1 : Nat) + (1 : Nat)) : Int) then some ((1 : Int))
      else (if a0 = (↑((0 : Nat) + (1 : Nat) + (1 : Nat) + (1 : Nat)) : Int) then some ((1 : Int))
       else (if a0 = (↑((0 : Nat) + (1 : Nat) + (1 : Nat) + (1 : Nat) + (1 : Nat)) : Int) then some ((1 : Int))
        else none)))))
   else (if a1 = (↑((0 : Nat) + (1 : Nat) + (1 : Nat) + (1 : Nat)) : Int) then (if a0 = (↑(0 : Nat) : Int) then some ((0 : Int))
     else (if a0 = (↑((0 : Nat) + (1 : Nat)) : Int) then some ((2 : Int))
      else (if a0 = (↑((0 : Nat) + (1 : Nat) + (1 : Nat)) : Int) then some ((2 : Int))
       else (if a0 = (↑((0 : Nat) + (1 : Nat) + (1 : Nat) + (1 : Nat)) : Int) then some ((3 : Int))
        else (if a0 = (↑((0 : Nat) + (1 : Nat) + (1 : Nat) + (1 : Nat) + (1 : Nat)) : Int) then some ((2 : Int))
         else none)))))
    else (if a1 = (↑((0 : Nat) + (1 : Nat) + (1 : Nat) + (1 : Nat) + (1 : Nat)) : Int) then (if a0 = (↑(0 : Nat) : Int) then some ((0 : Int))
      else (if a0 = (↑((0 : Nat) + (1 : Nat)) : Int) then some ((2 : Int))
       else (if a0 = (↑((0 : Nat) + (1 : Nat) + (1 : Nat)) : Int) then some ((3 : Int))
        else (if a0 = (↑((0 : Nat) + (1 : Nat) + (1 : Nat) + (1 : Nat)) : Int) then some ((2 : Int))
         else (if a0 = (↑((0 : Nat) + (1 : Nat) + (1 : Nat) + (1 : Nat) + (1 : Nat)) : Int) then some ((2 : Int))
          else none)))))
     else none)))))
noncomputable def G42 (K : Nat) (a0 : Int) (a1 : Int) : Option (Int) := t42 K a0 a1
theorem ev42 (K : Nat) (a0 : Int) (a1 : Int) : evFun Tryd.prog (tab42) 0 K Tryd.f42 [] [I .i64 a0, I .i64 a1] [] dq42.k = G42 K a0 a1 := by
  kernel_rfl
noncomputable def F42 (K : Nat) (a0 : Int) (a1 : Int) : Option (Int) := G42 K a0 a1
theorem cok42 (K : Nat) : CallOK D Tryd.prog (tab42) := none_ok
theorem ok42 (K : Nat) : RowOK D Tryd.prog 42 (row ad42 dq42 fun p => F42 K p.1 p.2) := row_ok fun x r h => has_of (cok42 K) Tryd.func42 ((ev42 K x.1 x.2).trans h)
/-! ganger/gangerref08.Say -/
noncomputable def tab24 (F18 : (El T24) → Option (Int)) (F43 : (List (El T54)) → Int → Option (Int)) (F42 : Int → Int → Option (Int)) : Tab := (((Tab.none.add 18 (row ad18 dq18 fun p => F18 p)).add 43 (row ad43 dq43 fun p => F43 p.1 p.2)).add 42 (row ad42 dq42 fun p => F42 p.1 p.2))
noncomputable def la24 : List (List Tidy) := [[.only [1, 2, 3, 8, 9, 10, 11], .ids [3, 17], .top [1000000]], [.only [1, 2, 3, 8, 9, 10, 11, 12, 13, 14], .ids [3, 12, 17, 23], .top [1000001]]]
noncomputable def hd24_0 (a0 : El T24) (a1 : List (El T54)) (a2 : Bool) (ps8 : Int) (ps9 : Int) (ps10 : Int) (ps11 : Int) : St := { tm := slots (nat_lit 112) [(nat_lit 1, AV.row T54 a1), (nat_lit 2, AV.sc (Value.bool a2)), (nat_lit 3, AV.ptr (nat_lit 3) (nat_lit 0)), (nat_lit 8, AV.sc (Value.int IntKind.i64 ps8)), (nat_lit 9, AV.sc (Value.int IntKind.i64 ps9)), (nat_lit 10, AV.sc (Value.int IntKind.i64 ps10)), (nat_lit 11, AV.sc (Value.int IntKind.i64 ps11))], H := [(nat_lit 3, ABlk.box (nat_lit 24) (cellsOf T24 a0))] }
noncomputable def hd24_1 (a0 : El T24) (a1 : List (El T54)) (a2 : Bool) (ps8 : Int) (ps9 : Int) (ps10 : Int) (ps11 : Int) (ps13 : Int) (ps14 : Int) (ph12 : El T46) : St := { tm := slots (nat_lit 112) [(nat_lit 1, AV.row T54 a1), (nat_lit 2, AV.sc (Value.bool a2)), (nat_lit 3, AV.ptr (nat_lit 3) (nat_lit 0)), (nat_lit 8, AV.sc (Value.int IntKind.i64 ps8)), (nat_lit 9, AV.sc (Value.int IntKind.i64 ps9)), (nat_lit 10, AV.sc (Value.int IntKind.i64 ps10)), (nat_lit 11, AV.sc (Value.int IntKind.i64 ps11)), (nat_lit 12, AV.ptr (nat_lit 12) (nat_lit 0)), (nat_lit 13, AV.sc (Value.int IntKind.i64 ps13)), (nat_lit 14, AV.sc (Value.int IntKind.i64 ps14))], H := [(nat_lit 3, ABlk.box (nat_lit 24) (cellsOf T24 a0)), (nat_lit 12, ABlk.box (nat_lit 46) (cellsOf T46 ph12))] }
noncomputable def b24_1 (F18 : (El T24) → Option (Int)) (F43 : (List (El T54)) → Int → Option (Int)) (F42 : Int → Int → Option (Int)) (K : Nat) (a0 : El T24) (a1 : List (El T54)) (a2 : Bool) (r0 : Int → Int → Int → Int → Option (Int)) (r1 : Int → Int → Int → Int → Int → Int → (El T46) → Option (Int)) (ps8 : Int) (ps9 : Int) (ps10 : Int) (ps11 : Int) (ps13 : Int) (ps14 : Int) (ph12 : El T46) : Option (Int) :=(if decide (ps14 < (↑(List.length ph12.2) : Int)) = true then (if decide ((0 : Int) ≤ ps14 ∧ ps14 < (↑(List.length ph12.2) : Int)) = true then 
    (Option.bind (F43 a1 (List.getD ph12.2 ps14.toNat (zEl (Ty.int IntKind.u32)))) fun x1 => 
     (Option.bind (F42 ph12.1 x1) fun x2 => (if (x2 == (3 : Int)) = true then r1 (ps8) (ps9) (ps10) (ps11) (x2) (IntKind.i64.wrap (ps14 + (1 : Int))) (ph12)
      else (if (x2 == (1 : Int)) = true then (if (ps13 != (3 : Int)) = true then r1 (ps8) (ps9) (ps10) (ps11) (x2) (IntKind.i64.wrap (ps14 + (1 : Int))) (ph12)
        else r1 (ps8) (ps9) (ps10) (ps11) (ps13) (IntKind.i64.wrap (ps14 + (1 : Int))) (ph12))
       else r1 (ps8) (ps9) (ps10) (ps11) (ps13) (IntKind.i64.wrap (ps14 + (1 : Int))) (ph12)))))
   else none)
  else (if (ps13 == (1 : Int)) = true then r0 (ps8) (IntKind.i64.wrap (ps9 + (1 : Int))) (ps10) (IntKind.i64.wrap (ps11 + (1 : Int)))
   else (if (ps13 == (2 : Int)) = true then r0 (ps8) (ps9) (IntKind.i64.wrap (ps10 + (1 : Int))) (IntKind.i64.wrap (ps11 + (1 : Int)))
    else r0 (IntKind.i64.wrap (ps8 + (1 : Int))) (ps9) (ps10) (IntKind.i64.wrap (ps11 + (1 : Int))))))
noncomputable def L24_1 (F18 : (El T24) → Option (Int)) (F43 : (List (El T54)) → Int → Option (Int)) (F42 : Int → Int → Option (Int)) (K : Nat) (a0 : El T24) (a1 : List (El T54)) (a2 : Bool) (r0 : Int → Int → Int → Int → Option (Int)) : Nat → Int → Int → Int → Int → Int → Int → (El T46) → Option (Int)
  | 0, _, _, _, _, _, _, _ => none
  | n + 1, ps8, ps9, ps10, ps11, ps13, ps14, ph12 => b24_1 F18 F43 F42 K a0 a1 a2 r0 (L24_1 F18 F43 F42 K a0 a1 a2 r0 n) ps8 ps9 ps10 ps11 ps13 ps14 ph12
noncomputable def b24_0 (F18 : (El T24) → Option (Int)) (F43 : (List (El T54)) → Int → Option (Int)) (F42 : Int → Int → Option (Int)) (K : Nat) (a0 : El T24) (a1 : List (El T54)) (a2 : Bool) (r0 : Int → Int → Int → Int → Option (Int)) (l1 : Nat → Int → Int → Int → Int → Int → Int → (El T46) → Option (Int)) (ps8 : Int) (ps9 : Int) (ps10 : Int) (ps11 : Int) : Option (Int) :=(if decide (ps11 < (↑(List.length a0.2) : Int)) = true then (if decide ((0 : Int) ≤ ps11 ∧ ps11 < (↑(List.length a0.2) : Int)) = true then (if ((List.getD a0.2 ps11.toNat (zEl T46)).1 == (5 : Int)) = true then (if (!a2) = true then l1 K (ps8) (ps9) (ps10) (ps11) ((1 : Int)) ((0 : Int)) (List.getD a0.2 ps11.toNat (zEl T46))
     else l1 K (ps8) (ps9) (ps10) (ps11) ((2 : Int)) ((0 : Int)) (List.getD a0.2 ps11.toNat (zEl T46)))
    else l1 K (ps8) (ps9) (ps10) (ps11) ((2 : Int)) ((0 : Int)) (List.getD a0.2 ps11.toNat (zEl T46)))
   else none)
  else (if a0.1 = true then (if decide (ps10 > (0 : Int)) = true then some ((2 : Int))
    else (if (!a0.1) = true then (if (ps8 == (0 : Int)) = true then (if (ps9 == (0 : Int)) = true then some ((2 : Int))
       else (if a0.1 = true then (if decide (ps9 > (0 : Int)) = true then some ((1 : Int))
         else (if (!a0.1) = true then (if (ps8 == (0 : Int)) = true then some ((1 : Int))
           else some ((3 : Int)))
          else some ((3 : Int))))
        else (if (!a0.1) = true then (if (ps8 == (0 : Int)) = true then some ((1 : Int))
          else some ((3 : Int)))
         else some ((3 : Int)))))
      else (if a0.1 = true then (if decide (ps9 > (0 : Int)) = true then some ((1 : Int))
        else (if (!a0.1) = true then (if (ps8 == (0 : Int)) = true then some ((1 : Int))
          else some ((3 : Int)))
         else some ((3 : Int))))
       else (if (!a0.1) = true then (if (ps8 == (0 : Int)) = true then some ((1 : Int))
         else some ((3 : Int)))
        else some ((3 : Int)))))
     else (if a0.1 = true then (if decide (ps9 > (0 : Int)) = true then some ((1 : Int))
       else (if (!a0.1) = true then (if (ps8 == (0 : Int)) = true then some ((1 : Int))
         else some ((3 : Int)))
        else some ((3 : Int))))
      else (if (!a0.1) = true then (if (ps8 == (0 : Int)) = true then some ((1 : Int))
        else some ((3 : Int)))
       else some ((3 : Int))))))
   else (if (!a0.1) = true then (if (ps8 == (0 : Int)) = true then (if (ps9 == (0 : Int)) = true then some ((2 : Int))
      else (if a0.1 = true then (if decide (ps9 > (0 : Int)) = true then some ((1 : Int))
        else (if (!a0.1) = true then (if (ps8 == (0 : Int)) = true then some ((1 : Int))
          else some ((3 : Int)))
         else some ((3 : Int))))
       else (if (!a0.1) = true then (if (ps8 == (0 : Int)) = true then some ((1 : Int))
         else some ((3 : Int)))
        else some ((3 : Int)))))
     else (if a0.1 = true then (if decide (ps9 > (0 : Int)) = true then some ((1 : Int))
       else (if (!a0.1) = true then (if (ps8 == (0 : Int)) = true then some ((1 : Int))
         else some ((3 : Int)))
        else some ((3 : Int))))
      else (if (!a0.1) = true then (if (ps8 == (0 : Int)) = true then some ((1 : Int))
        else some ((3 : Int)))
       else some ((3 : Int)))))
    else (if a0.1 = true then (if decide (ps9 > (0 : Int)) = true then some ((1 : Int))
      else (if (!a0.1) = true then (if (ps8 == (0 : Int)) = true then some ((1 : Int))
        else some ((3 : Int)))
       else some ((3 : Int))))
     else (if (!a0.1) = true then (if (ps8 == (0 : Int)) = true then some ((1 : Int))
       else some ((3 : Int)))
      else some ((3 : Int)))))))
noncomputable def L24_0 (F18 : (El T24) → Option (Int)) (F43 : (List (El T54)) → Int → Option (Int)) (F42 : Int → Int → Option (Int)) (K : Nat) (a0 : El T24) (a1 : List (El T54)) (a2 : Bool) : Nat → Int → Int → Int → Int → Option (Int)
  | 0, _, _, _, _ => none
  | n + 1, ps8, ps9, ps10, ps11 => b24_0 F18 F43 F42 K a0 a1 a2 (L24_0 F18 F43 F42 K a0 a1 a2 n) (L24_1 F18 F43 F42 K a0 a1 a2 (L24_0 F18 F43 F42 K a0 a1 a2 n)) ps8 ps9 ps10 ps11
noncomputable def t24 (F18 : (El T24) → Option (Int)) (F43 : (List (El T54)) → Int → Option (Int)) (F42 : Int → Int → Option (Int)) (K : Nat) (a0 : El T24) (a1 : List (El T54)) (a2 : Bool) (l0 : Nat → Int → Int → Int → Int → Option (Int)) : Option (Int) := 
 (Option.bind (F18 a0) fun x0 => (if (x0 != (0 : Int)) = true then some ((0 : Int))
  else l0 K ((0 : Int)) ((0 : Int)) ((0 : Int)) ((0 : Int))))
noncomputable def G24 (F18 : (El T24) → Option (Int)) (F43 : (List (El T54)) → Int → Option (Int)) (F42 : Int → Int → Option (Int)) (K : Nat) (a0 : El T24) (a1 : List (El T54)) (a2 : Bool) : Option (Int) := t24 F18 F43 F42 K a0 a1 a2 (L24_0 F18 F43 F42 K a0 a1 a2)
theorem lp24_1 (F18 : (El T24) → Option (Int)) (F43 : (List (El T54)) → Int → Option (Int)) (F42 : Int → Int → Option (Int)) (K : Nat) (a0 : El T24) (a1 : List (El T54)) (a2 : Bool) : ∀ (m0 : Nat) (n : Nat) (ps8 : Int) (ps9 : Int) (ps10 : Int) (ps11 : Int) (ps13 : Int) (ps14 : Int) (ph12 : El T46), loopN Tryd.prog (tab24 F18 F43 F42) 0 K Tryd.f24 la24 dq24.k 1 [m0] n (hd24_1 a0 a1 a2 ps8 ps9 ps10 ps11 ps13 ps14 ph12) = L24_1 F18 F43 F42 K a0 a1 a2 (fun q0 q1 q2 q3 => loopN Tryd.prog (tab24 F18 F43 F42) 0 K Tryd.f24 la24 dq24.k 0 [] m0 (hd24_0 a0 a1 a2 q0 q1 q2 q3)) n ps8 ps9 ps10 ps11 ps13 ps14 ph12
  | m0, 0, _, _, _, _, _, _, _ => by kernel_rfl
  | m0, n + 1, ps8, ps9, ps10, ps11, ps13, ps14, ph12 => by
    have h : loopN Tryd.prog (tab24 F18 F43 F42) 0 K Tryd.f24 la24 dq24.k 1 [m0] (n + 1) (hd24_1 a0 a1 a2 ps8 ps9 ps10 ps11 ps13 ps14 ph12) = b24_1 F18 F43 F42 K a0 a1 a2 (fun q0 q1 q2 q3 => loopN Tryd.prog (tab24 F18 F43 F42) 0 K Tryd.f24 la24 dq24.k 0 [] m0 (hd24_0 a0 a1 a2 q0 q1 q2 q3)) (fun q0 q1 q2 q3 q4 q5 q6 => loopN Tryd.prog (tab24 F18 F43 F42) 0 K Tryd.f24 la24 dq24.k 1 [m0] n (hd24_1 a0 a1 a2 q0 q1 q2 q3 q4 q5 q6)) ps8 ps9 ps10 ps11 ps13 ps14 ph12 := by kernel_rfl
    rw [h]
    simp only [lp24_1 F18 F43 F42 K a0 a1 a2 m0 n]
    rfl
theorem lp24_0 (F18 : (El T24) → Option (Int)) (F43 : (List (El T54)) → Int → Option (Int)) (F42 : Int → Int → Option (Int)) (K : Nat) (a0 : El T24) (a1 : List (El T54)) (a2 : Bool) : ∀ (n : Nat) (ps8 : Int) (ps9 : Int) (ps10 : Int) (ps11 : Int), loopN Tryd.prog (tab24 F18 F43 F42) 0 K Tryd.f24 la24 dq24.k 0 [] n (hd24_0 a0 a1 a2 ps8 ps9 ps10 ps11) = L24_0 F18 F43 F42 K a0 a1 a2 n ps8 ps9 ps10 ps11
  | 0, _, _, _, _ => by kernel_rfl
  | n + 1, ps8, ps9, ps10, ps11 => by
    have h : loopN Tryd.prog (tab24 F18 F43 F42) 0 K Tryd.f24 la24 dq24.k 0 [] (n + 1) (hd24_0 a0 a1 a2 ps8 ps9 ps10 ps11) = b24_0 F18 F43 F42 K a0 a1 a2 (fun q0 q1 q2 q3 => loopN Tryd.prog (tab24 F18 F43 F42) 0 K Tryd.f24 la24 dq24.k 0 [] n (hd24_0 a0 a1 a2 q0 q1 q2 q3)) (fun k q0 q1 q2 q3 q4 q5 q6 => loopN Tryd.prog (tab24 F18 F43 F42) 0 K Tryd.f24 la24 dq24.k 1 [n] k (hd24_1 a0 a1 a2 q0 q1 q2 q3 q4 q5 q6)) ps8 ps9 ps10 ps11 := by kernel_rfl
    rw [h]
    simp only [lp24_0 F18 F43 F42 K a0 a1 a2 n, lp24_1 F18 F43 F42 K a0 a1 a2 n]
    rfl
theorem ev24 (F18 : (El T24) → Option (Int)) (F43 : (List (El T54)) → Int → Option (Int)) (F42 : Int → Int → Option (Int)) (K : Nat) (a0 : El T24) (a1 : List (El T54)) (a2 : Bool) : evFun Tryd.prog (tab24 F18 F43 F42) 0 K Tryd.f24 la24 [.agg (cellsOf T24 a0), .row T54 a1, B a2] [] dq24.k = G24 F18 F43 F42 K a0 a1 a2 := by
  have h : evFun Tryd.prog (tab24 F18 F43 F42) 0 K Tryd.f24 la24 [.agg (cellsOf T24 a0), .row T54 a1, B a2] [] dq24.k = t24 F18 F43 F42 K a0 a1 a2 (fun k q0 q1 q2 q3 => loopN Tryd.prog (tab24 F18 F43 F42) 0 K Tryd.f24 la24 dq24.k 0 [] k (hd24_0 a0 a1 a2 q0 q1 q2 q3)) := by kernel_rfl
  rw [h]
  simp only [lp24_0 F18 F43 F42 K a0 a1 a2]
  rfl
noncomputable def F24 (K : Nat) (a0 : El T24) (a1 : List (El T54)) (a2 : Bool) : Option (Int) := G24 (F18 K) (F43 K) (F42 K) K a0 a1 a2
theorem cok24 (K : Nat) : CallOK D Tryd.prog (tab24 (F18 K) (F43 K) (F42 K)) := (add_ok (add_ok (add_ok none_ok ent18 (ok18 K)) ent43 (ok43 K)) ent42 (ok42 K))
theorem ok24 (K : Nat) : RowOK D Tryd.prog 24 (row ad24 dq24 fun p => F24 K p.1 p.2.1 p.2.2) := row_ok fun x r h => has_of (cok24 K) Tryd.func24 ((ev24 (F18 K) (F43 K) (F42 K) K x.1 x.2.1 x.2.2).trans h)
/-! ganger/gangerlaw08.DependSays -/
noncomputable def tab5 (F10 : (El T24) → (List (El T54)) → Option (Bool)) (F11 : Option (Bool)) (F23 : (El T24) → (List (El T54)) → Bool → Option (Int)) (F24 : (El T24) → (List (El T54)) → Bool → Option (Int)) : Tab := ((((Tab.none.add 10 (row ad10 dq10 fun p => F10 p.1 p.2)).add 11 (row ad11 dq11 fun p => F11)).add 23 (row ad23 dq23 fun p => F23 p.1 p.2.1 p.2.2)).add 24 (row ad24 dq24 fun p => F24 p.1 p.2.1 p.2.2))
noncomputable def t5 (F10 : (El T24) → (List (El T54)) → Option (Bool)) (F11 : Option (Bool)) (F23 : (El T24) → (List (El T54)) → Bool → Option (Int)) (F24 : (El T24) → (List (El T54)) → Bool → Option (Int)) (K : Nat) (a0 : El T24) (a1 : List (El T54)) (a2 : Bool) : Option (Bool) := 
 (Option.bind (F10 a0 a1) fun x0 => (if x0 = true then 
   (Option.bind (F11) fun x1 => some (x1))
  else 
   (Option.bind (F23 a0 a1 a2) fun x2 => 
    (Option.bind (F24 a0 a1 a2) fun x3 => (if (x2 == x3) = true then 
      (Option.bind (F11) fun x4 => some (x4))
     else some (false))))))
noncomputable def G5 (F10 : (El T24) → (List (El T54)) → Option (Bool)) (F11 : Option (Bool)) (F23 : (El T24) → (List (El T54)) → Bool → Option (Int)) (F24 : (El T24) → (List (El T54)) → Bool → Option (Int)) (K : Nat) (a0 : El T24) (a1 : List (El T54)) (a2 : Bool) : Option (Bool) := t5 F10 F11 F23 F24 K a0 a1 a2
theorem ev5 (F10 : (El T24) → (List (El T54)) → Option (Bool)) (F11 : Option (Bool)) (F23 : (El T24) → (List (El T54)) → Bool → Option (Int)) (F24 : (El T24) → (List (El T54)) → Bool → Option (Int)) (K : Nat) (a0 : El T24) (a1 : List (El T54)) (a2 : Bool) : evFun Tryd.prog (tab5 F10 F11 F23 F24) 0 K Tryd.f5 [] [.agg (cellsOf T24 a0), .row T54 a1, B a2] [] dq5.k = G5 F10 F11 F23 F24 K a0 a1 a2 := by
  kernel_rfl
noncomputable def F5 (K : Nat) (a0 : El T24) (a1 : List (El T54)) (a2 : Bool) : Option (Bool) := G5 (F10 K) (F11 K) (F23 K) (F24 K) K a0 a1 a2
theorem cok5 (K : Nat) : CallOK cxT Tryd.prog (tab5 (F10 K) (F11 K) (F23 K) (F24 K)) := (add_ok (add_ok (add_ok (add_ok none_ok ent10 (ok10 K)) ent11 (ok11 K)) ent23 (ok23 K)) ent24 (ok24 K))
theorem ok5 (K : Nat) : RowOK cxT Tryd.prog 5 (row ad5 dq5 fun p => F5 K p.1 p.2.1 p.2.2) := row_ok fun x r h => has_of (cok5 K) Tryd.func5 ((ev5 (F10 K) (F11 K) (F23 K) (F24 K) K x.1 x.2.1 x.2.2).trans h)
end Go.Proofs.YtigekmmdflaeaaaDoorE
