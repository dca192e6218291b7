import Derived.Test.YtlpalhgiiodjoaaS16W45
set_option linter.all false
namespace Go.Proofs.YtlpalhgiiodjoaaE
open Go Go.Proofs
set_option maxRecDepth 100000
set_option linter.unusedVariables false
variable {D : Prop}
/-! (*ganger/gang.Matrix).Idle -/
noncomputable def tab27 (F37 : (El T62) → Int → Option (El T65)) (F45 : Int → Option (Int)) : Tab := ((Tab.none.add 37 (row ad37 dq37 fun p => F37 p.1 p.2)).add 45 (row ad45 dq45 fun p => F45 p))
noncomputable def t27 (F37 : (El T62) → Int → Option (El T65)) (F45 : Int → Option (Int)) (K : Nat) (a0 : El T62) (a1 : Int) : Option (Int) := (if decide (a1 < (0 : Int)) = true then some ((0 : Int))
 else (if decide ((0 : Int) ≤ a0.1) = true then 
   (Option.bind (F37 a0 a1) fun x0 => 
    (Option.bind (F45 x0.1) fun x1 => 
     (Option.bind (F45 x0.2.1) fun x2 => 
      (Option.bind (F45 x0.2.2.1) fun x3 => 
       (Option.bind (F45 x0.2.2.2.1) fun x4 => 
        (Option.bind (F45 x0.2.2.2.2.1) fun x5 => 
         (Option.bind (F45 x0.2.2.2.2.2.1) fun x6 => 
          (Option.bind (F45 x0.2.2.2.2.2.2.1) fun x7 => 
           (Option.bind (F45 x0.2.2.2.2.2.2.2.1) fun x8 => 
            (Option.bind (F45 x0.2.2.2.2.2.2.2.2.1) fun x9 => 
             (Option.bind (F45 x0.2.2.2.2.2.2.2.2.2.1) fun x10 => 
              (Option.bind (F45 x0.2.2.2.2.2.2.2.2.2.2.1) fun x11 => 
               (Option.bind (F45 x0.2.2.2.2.2.2.2.2.2.2.2.1) fun x12 => 
                (Option.bind (F45 x0.2.2.2.2.2.2.2.2.2.2.2.2.1) fun x13 => 
                 (Option.bind (F45 x0.2.2.2.2.2.2.2.2.2.2.2.2.2.1) fun x14 => 
                  (Option.bind (F45 x0.2.2.2.2.2.2.2.2.2.2.2.2.2.2.1) fun x15 => 
                   (Option.bind (F45 x0.2.2.2.2.2.2.2.2.2.2.2.2.2.2.2) fun x16 => some (IntKind.i64.wrap (IntKind.i64.wrap (IntKind.i64.wrap (IntKind.i64.wrap (IntKind.i64.wrap (IntKind.i64.wrap (IntKind.i64.wrap (IntKind.i64.wrap (IntKind.i64.wrap (IntKind.i64.wrap (IntKind.i64.wrap (IntKind.i64.wrap (IntKind.i64.wrap (IntKind.i64.wrap (IntKind.i64.wrap (IntKind.i64.wrap (IntKind.i64.wrap ((1 : Int) * (2 : Int) ^ min (Int.toNat a0.1) IntKind.i64.bits) - x1) - x2) - x3) - x4) - x5) - x6) - x7) - x8) - x9) - x10) - x11) - x12) - x13) - x14) - x15) - x16)))))))))))))))))))
  else none))
noncomputable def G27 (F37 : (El T62) → Int → Option (El T65)) (F45 : Int → Option (Int)) (K : Nat) (a0 : El T62) (a1 : Int) : Option (Int) := t27 F37 F45 K a0 a1
theorem ev27 (F37 : (El T62) → Int → Option (El T65)) (F45 : Int → Option (Int)) (K : Nat) (a0 : El T62) (a1 : Int) : evFun Try.prog (tab27 F37 F45) 0 (K + 20) Try.f27 ([[.only [5, 21, 22], .ids [21], .top [1000000]]] : List (List Tidy)) [.eptr T62 a0 0, I .i64 a1] [] dq27.k = G27 F37 F45 K a0 a1 := by
  kernel_rfl
noncomputable def F27 (K : Nat) (a0 : El T62) (a1 : Int) : Option (Int) := G27 (F37 K) (F45 K) K a0 a1
theorem cok27 (K : Nat) : CallOK D Try.prog (tab27 (F37 K) (F45 K)) := (add_ok (add_ok none_ok ent37 (ok37 K)) ent45 (ok45 K))
theorem ok27 (K : Nat) : RowOK D Try.prog 27 (row ad27 dq27 fun p => F27 K p.1 p.2) := row_ok fun x r h => has_of (cok27 K) Try.func27 ((ev27 (F37 K) (F45 K) K x.1 x.2).trans h)
/-! ganger/gangerlaw16.GangRows -/
noncomputable def tab8 (F10 : (List (El T53)) → Option ((Int × (List (El T34) × Int)) × Unit)) (F11 : (El T62) → Option (List (El T34))) (F17 : (El T62) → Option (Int)) (F15 : (El T32) → (El T32) → Option (Bool)) (F27 : (El T62) → Int → Option (Int)) (F14 : (El T62) → Option (Int)) (F16 : Option (Bool)) : Tab := (((((((Tab.none.addG 10 (rowG (gad ag10 ob10) gq10 fun p => F10 p.1.1)).add 11 (row ad11 dq11 fun p => F11 p)).add 17 (row ad17 dq17 fun p => F17 p)).add 15 (row ad15 dq15 fun p => F15 p.1 p.2)).add 27 (row ad27 dq27 fun p => F27 p.1 p.2)).add 14 (row ad14 dq14 fun p => F14 p)).add 16 (row ad16 dq16 fun p => F16))
noncomputable def la8 : List (List Tidy) := [[.only [3, 4, 5], .ids [12, 16, 150, 156, 179, 187, 191, 196, 198, 202, 207], .top [1000000]], [.only [3, 4, 5, 7], .ids [12, 16, 19, 29, 30, 54, 150, 156, 179, 187, 191, 196, 198, 202, 207], .top [1000001]], [.only [3, 4, 8], .ids [12, 16, 19, 29, 30, 54, 145, 187, 191, 196, 198, 202, 207], .top [1000002]], [.only [3, 4, 8, 9, 10], .ids [12, 16, 19, 29, 30, 54, 145, 150, 179, 187, 191, 196, 198, 202, 207], .top [1000003]]]
noncomputable def hd8_0 (a0 : List (El T53)) (ps5 : Int) (ph12_0 : Int) (ph12_2 : Int) (ph16 : List (El T34)) (ph501200 : List (El T34)) : St := { tm := slots (nat_lit 209) [(nat_lit 3, AV.ptr (nat_lit 12) (nat_lit 0)), (nat_lit 4, AV.own (nat_lit 16)), (nat_lit 5, AV.sc (Value.int IntKind.i64 ps5))], H := [(nat_lit 12, ABlk.box (nat_lit 62) [AV.sc (Value.int IntKind.i64 ph12_0), AV.own (nat_lit 501200), AV.sc (Value.int IntKind.i64 ph12_2)]), (nat_lit 16, ABlk.arr (nat_lit 34) T34 ph16), (nat_lit 501200, ABlk.arr (nat_lit 34) T34 ph501200)] }
noncomputable def hd8_1 (a0 : List (El T53)) (ps5 : Int) (ps7 : Int) (ph12_0 : Int) (ph12_2 : Int) (ph16 : List (El T34)) (ph501200 : List (El T34)) : St := { tm := slots (nat_lit 209) [(nat_lit 3, AV.ptr (nat_lit 12) (nat_lit 0)), (nat_lit 4, AV.own (nat_lit 16)), (nat_lit 5, AV.sc (Value.int IntKind.i64 ps5)), (nat_lit 7, AV.sc (Value.int IntKind.i64 ps7))], H := [(nat_lit 12, ABlk.box (nat_lit 62) [AV.sc (Value.int IntKind.i64 ph12_0), AV.own (nat_lit 501200), AV.sc (Value.int IntKind.i64 ph12_2)]), (nat_lit 16, ABlk.arr (nat_lit 34) T34 ph16), (nat_lit 501200, ABlk.arr (nat_lit 34) T34 ph501200)] }
noncomputable def hd8_2 (a0 : List (El T53)) (ps8 : Int) (ph12_0 : Int) (ph12_2 : Int) (ph16 : List (El T34)) (ph501200 : List (El T34)) : St := { tm := slots (nat_lit 209) [(nat_lit 3, AV.ptr (nat_lit 12) (nat_lit 0)), (nat_lit 4, AV.own (nat_lit 16)), (nat_lit 8, AV.sc (Value.int IntKind.i64 ps8))], H := [(nat_lit 12, ABlk.box (nat_lit 62) [AV.sc (Value.int IntKind.i64 ph12_0), AV.own (nat_lit 501200), AV.sc (Value.int IntKind.i64 ph12_2)]), (nat_lit 16, ABlk.arr (nat_lit 34) T34 ph16), (nat_lit 501200, ABlk.arr (nat_lit 34) T34 ph501200)] }
noncomputable def hd8_3 (a0 : List (El T53)) (ps8 : Int) (ps9 : Int) (ps10 : Int) (ph12_0 : Int) (ph12_2 : Int) (ph16 : List (El T34)) (ph501200 : List (El T34)) : St := { tm := slots (nat_lit 209) [(nat_lit 3, AV.ptr (nat_lit 12) (nat_lit 0)), (nat_lit 4, AV.own (nat_lit 16)), (nat_lit 8, AV.sc (Value.int IntKind.i64 ps8)), (nat_lit 9, AV.sc (Value.int IntKind.i64 ps9)), (nat_lit 10, AV.sc (Value.int IntKind.i64 ps10))], H := [(nat_lit 12, ABlk.box (nat_lit 62) [AV.sc (Value.int IntKind.i64 ph12_0), AV.own (nat_lit 501200), AV.sc (Value.int IntKind.i64 ph12_2)]), (nat_lit 16, ABlk.arr (nat_lit 34) T34 ph16), (nat_lit 501200, ABlk.arr (nat_lit 34) T34 ph501200)] }
noncomputable def b8_3 (F10 : (List (El T53)) → Option ((Int × (List (El T34) × Int)) × Unit)) (F11 : (El T62) → Option (List (El T34))) (F17 : (El T62) → Option (Int)) (F15 : (El T32) → (El T32) → Option (Bool)) (F27 : (El T62) → Int → Option (Int)) (F14 : (El T62) → Option (Int)) (F16 : Option (Bool)) (K : Nat) (a0 : List (El T53)) (r2 : Int → Int → Int → (List (El T34)) → (List (El T34)) → Option (Bool)) (r3 : Int → Int → Int → Int → Int → (List (El T34)) → (List (El T34)) → Option (Bool)) (ps8 : Int) (ps9 : Int) (ps10 : Int) (ph12_0 : Int) (ph12_2 : Int) (ph16 : List (El T34)) (ph501200 : List (El T34)) : Option (Bool) :=(if decide (ps10 < (↑ph16.length : Int)) = true then (if decide ((0 : Int) ≤ ps10 ∧ ps10 < (↑ph16.length : Int)) = true then (if ((ph16.getD ps10.toNat (zEl T34)).2.1 == ps8) = true then (if decide ((0 : Int) ≤ ps10 ∧ ps10 < (↑ph16.length : Int)) = true then (if decide ((0 : Int) ≤ IntKind.u64.wrap (ph16.getD ps10.toNat (zEl T34)).2.2.2) = true then r3 (ps8) (IntKind.i64.wrap (ps9 - IntKind.i64.wrap ((1 : Int) * (2 : Int) ^ min (IntKind.u64.wrap (ph16.getD ps10.toNat (zEl T34)).2.2.2).toNat IntKind.i64.bits))) (IntKind.i64.wrap (ps10 + (1 : Int))) (ph12_0) (ph12_2) (ph16) (ph501200)
      else none)
     else none)
    else r3 (ps8) (ps9) (IntKind.i64.wrap (ps10 + (1 : Int))) (ph12_0) (ph12_2) (ph16) (ph501200))
   else none)
  else 
   (Option.bind (F27 (ph12_0, ph501200, ph12_2) ps8) fun x12 => (if (x12 != ps9) = true then some (false)
    else (if decide (ps9 < (0 : Int)) = true then some (false)
     else r2 (IntKind.i64.wrap (ps8 + (1 : Int))) (ph12_0) (ph12_2) (ph16) (ph501200)))))
noncomputable def L8_3 (F10 : (List (El T53)) → Option ((Int × (List (El T34) × Int)) × Unit)) (F11 : (El T62) → Option (List (El T34))) (F17 : (El T62) → Option (Int)) (F15 : (El T32) → (El T32) → Option (Bool)) (F27 : (El T62) → Int → Option (Int)) (F14 : (El T62) → Option (Int)) (F16 : Option (Bool)) (K : Nat) (a0 : List (El T53)) (r2 : Int → Int → Int → (List (El T34)) → (List (El T34)) → Option (Bool)) : Nat → Int → Int → Int → Int → Int → (List (El T34)) → (List (El T34)) → Option (Bool)
  | 0, _, _, _, _, _, _, _ => none
  | n + 1, ps8, ps9, ps10, ph12_0, ph12_2, ph16, ph501200 => b8_3 F10 F11 F17 F15 F27 F14 F16 K a0 r2 (L8_3 F10 F11 F17 F15 F27 F14 F16 K a0 r2 n) ps8 ps9 ps10 ph12_0 ph12_2 ph16 ph501200
noncomputable def b8_2 (F10 : (List (El T53)) → Option ((Int × (List (El T34) × Int)) × Unit)) (F11 : (El T62) → Option (List (El T34))) (F17 : (El T62) → Option (Int)) (F15 : (El T32) → (El T32) → Option (Bool)) (F27 : (El T62) → Int → Option (Int)) (F14 : (El T62) → Option (Int)) (F16 : Option (Bool)) (K : Nat) (a0 : List (El T53)) (r2 : Int → Int → Int → (List (El T34)) → (List (El T34)) → Option (Bool)) (l3 : Nat → Int → Int → Int → Int → Int → (List (El T34)) → (List (El T34)) → Option (Bool)) (ps8 : Int) (ph12_0 : Int) (ph12_2 : Int) (ph16 : List (El T34)) (ph501200 : List (El T34)) : Option (Bool) :=
  (Option.bind (F17 (ph12_0, ph501200, ph12_2)) fun x4 => (if decide (ps8 < x4) = true then l3 K (ps8) ((16 : Int)) ((0 : Int)) (ph12_0) (ph12_2) (ph16) (ph501200)
   else 
    (Option.bind (F17 (ph12_0, ph501200, ph12_2)) fun x5 => (if decide (x5 ≤ (16 : Int)) = true then 
      (Option.bind (F14 (ph12_0, ph501200, ph12_2)) fun x6 => (if decide (x6 ≥ (0 : Int)) = true then 
        (Option.bind (F14 (ph12_0, ph501200, ph12_2)) fun x7 => 
         (Option.bind (F17 (ph12_0, ph501200, ph12_2)) fun x8 => (if decide (x7 < x8) = true then 
           (Option.bind (F16) fun x9 => some (x9))
          else 
           (Option.bind (F14 (ph12_0, ph501200, ph12_2)) fun x10 => (if (x10 == (0 : Int)) = true then 
             (Option.bind (F16) fun x11 => some (x11))
            else some (false))))))
       else some (false)))
     else some (false)))))
noncomputable def L8_2 (F10 : (List (El T53)) → Option ((Int × (List (El T34) × Int)) × Unit)) (F11 : (El T62) → Option (List (El T34))) (F17 : (El T62) → Option (Int)) (F15 : (El T32) → (El T32) → Option (Bool)) (F27 : (El T62) → Int → Option (Int)) (F14 : (El T62) → Option (Int)) (F16 : Option (Bool)) (K : Nat) (a0 : List (El T53)) : Nat → Int → Int → Int → (List (El T34)) → (List (El T34)) → Option (Bool)
  | 0, _, _, _, _, _ => none
  | n + 1, ps8, ph12_0, ph12_2, ph16, ph501200 => b8_2 F10 F11 F17 F15 F27 F14 F16 K a0 (L8_2 F10 F11 F17 F15 F27 F14 F16 K a0 n) (L8_3 F10 F11 F17 F15 F27 F14 F16 K a0 (L8_2 F10 F11 F17 F15 F27 F14 F16 K a0 n)) ps8 ph12_0 ph12_2 ph16 ph501200
noncomputable def b8_1 (F10 : (List (El T53)) → Option ((Int × (List (El T34) × Int)) × Unit)) (F11 : (El T62) → Option (List (El T34))) (F17 : (El T62) → Option (Int)) (F15 : (El T32) → (El T32) → Option (Bool)) (F27 : (El T62) → Int → Option (Int)) (F14 : (El T62) → Option (Int)) (F16 : Option (Bool)) (K : Nat) (a0 : List (El T53)) (r0 : Int → Int → Int → (List (El T34)) → (List (El T34)) → Option (Bool)) (r1 : Int → Int → Int → Int → (List (El T34)) → (List (El T34)) → Option (Bool)) (ps5 : Int) (ps7 : Int) (ph12_0 : Int) (ph12_2 : Int) (ph16 : List (El T34)) (ph501200 : List (El T34)) : Option (Bool) :=(if decide (ps7 < ps5) = true then (if decide ((0 : Int) ≤ ps7 ∧ ps7 < (↑ph16.length : Int)) = true then (if decide ((0 : Int) ≤ ps5 ∧ ps5 < (↑ph16.length : Int)) = true then (if ((ph16.getD ps7.toNat (zEl T34)).1 == (ph16.getD ps5.toNat (zEl T34)).1) = true then some (false)
     else (if decide ((0 : Int) ≤ ps7 ∧ ps7 < (↑ph16.length : Int)) = true then (if decide ((0 : Int) ≤ ps5 ∧ ps5 < (↑ph16.length : Int)) = true then (if ((ph16.getD ps7.toNat (zEl T34)).2.1 == (ph16.getD ps5.toNat (zEl T34)).2.1) = true then (if decide ((0 : Int) ≤ ps7 ∧ ps7 < (↑ph16.length : Int)) = true then (if decide ((0 : Int) ≤ ps5 ∧ ps5 < (↑ph16.length : Int)) = true then 
           (Option.bind (F15 (ph16.getD ps7.toNat (zEl T34)).2.2 (ph16.getD ps5.toNat (zEl T34)).2.2) fun x3 => (if x3 = true then some (false)
            else r1 (ps5) (IntKind.i64.wrap (ps7 + (1 : Int))) (ph12_0) (ph12_2) (ph16) (ph501200)))
          else none)
         else none)
        else r1 (ps5) (IntKind.i64.wrap (ps7 + (1 : Int))) (ph12_0) (ph12_2) (ph16) (ph501200))
       else none)
      else none))
    else none)
   else none)
  else r0 (IntKind.i64.wrap (ps5 + (1 : Int))) (ph12_0) (ph12_2) (ph16) (ph501200))
noncomputable def L8_1 (F10 : (List (El T53)) → Option ((Int × (List (El T34) × Int)) × Unit)) (F11 : (El T62) → Option (List (El T34))) (F17 : (El T62) → Option (Int)) (F15 : (El T32) → (El T32) → Option (Bool)) (F27 : (El T62) → Int → Option (Int)) (F14 : (El T62) → Option (Int)) (F16 : Option (Bool)) (K : Nat) (a0 : List (El T53)) (r0 : Int → Int → Int → (List (El T34)) → (List (El T34)) → Option (Bool)) : Nat → Int → Int → Int → Int → (List (El T34)) → (List (El T34)) → Option (Bool)
  | 0, _, _, _, _, _, _ => none
  | n + 1, ps5, ps7, ph12_0, ph12_2, ph16, ph501200 => b8_1 F10 F11 F17 F15 F27 F14 F16 K a0 r0 (L8_1 F10 F11 F17 F15 F27 F14 F16 K a0 r0 n) ps5 ps7 ph12_0 ph12_2 ph16 ph501200
noncomputable def b8_0 (F10 : (List (El T53)) → Option ((Int × (List (El T34) × Int)) × Unit)) (F11 : (El T62) → Option (List (El T34))) (F17 : (El T62) → Option (Int)) (F15 : (El T32) → (El T32) → Option (Bool)) (F27 : (El T62) → Int → Option (Int)) (F14 : (El T62) → Option (Int)) (F16 : Option (Bool)) (K : Nat) (a0 : List (El T53)) (r0 : Int → Int → Int → (List (El T34)) → (List (El T34)) → Option (Bool)) (l1 : Nat → Int → Int → Int → Int → (List (El T34)) → (List (El T34)) → Option (Bool)) (l2 : Nat → Int → Int → Int → (List (El T34)) → (List (El T34)) → Option (Bool)) (ps5 : Int) (ph12_0 : Int) (ph12_2 : Int) (ph16 : List (El T34)) (ph501200 : List (El T34)) : Option (Bool) :=(if decide (ps5 < (↑ph16.length : Int)) = true then (if decide ((0 : Int) ≤ ps5 ∧ ps5 < (↑ph16.length : Int)) = true then (if decide ((0 : Int) ≤ IntKind.u64.wrap (if (0 : Int) > if (20 : Int) < (ph16.getD ps5.toNat (zEl T34)).2.2.2 then (20 : Int) else (ph16.getD ps5.toNat (zEl T34)).2.2.2 then (0 : Int) else if (20 : Int) < (ph16.getD ps5.toNat (zEl T34)).2.2.2 then (20 : Int) else (ph16.getD ps5.toNat (zEl T34)).2.2.2)) = true then (if decide ((0 : Int) ≤ ps5 ∧ ps5 < (↑ph16.length : Int)) = true then (if ((ph16.getD ps5.toNat (zEl T34)).1 == (0 : Int)) = true then some (false)
      else (if decide ((0 : Int) ≤ ps5 ∧ ps5 < (↑ph16.length : Int)) = true then (if decide ((ph16.getD ps5.toNat (zEl T34)).2.1 < (0 : Int)) = true then some (false)
        else (if decide ((0 : Int) ≤ ps5 ∧ ps5 < (↑ph16.length : Int)) = true then 
          (Option.bind (F17 (ph12_0, ph501200, ph12_2)) fun x2 => (if decide ((ph16.getD ps5.toNat (zEl T34)).2.1 ≥ x2) = true then some (false)
           else (if decide ((0 : Int) ≤ ps5 ∧ ps5 < (↑ph16.length : Int)) = true then (if decide ((ph16.getD ps5.toNat (zEl T34)).2.2.2 < (0 : Int)) = true then some (false)
             else (if decide ((0 : Int) ≤ ps5 ∧ ps5 < (↑ph16.length : Int)) = true then (if decide ((ph16.getD ps5.toNat (zEl T34)).2.2.2 > (4 : Int)) = true then some (false)
               else (if decide ((0 : Int) ≤ ps5 ∧ ps5 < (↑ph16.length : Int)) = true then (if decide ((ph16.getD ps5.toNat (zEl T34)).2.2.1 < (0 : Int)) = true then some (false)
                 else (if decide ((0 : Int) ≤ ps5 ∧ ps5 < (↑ph16.length : Int)) = true then (if decide (IntKind.i64.wrap ((ph16.getD ps5.toNat (zEl T34)).2.2.1 + IntKind.i64.wrap ((1 : Int) * (2 : Int) ^ min (IntKind.u64.wrap (if (0 : Int) > if (20 : Int) < (ph16.getD ps5.toNat (zEl T34)).2.2.2 then (20 : Int) else (ph16.getD ps5.toNat (zEl T34)).2.2.2 then (0 : Int) else if (20 : Int) < (ph16.getD ps5.toNat (zEl T34)).2.2.2 then (20 : Int) else (ph16.getD ps5.toNat (zEl T34)).2.2.2)).toNat IntKind.i64.bits)) > (16 : Int)) = true then some (false)
                   else (if decide ((0 : Int) ≤ ps5 ∧ ps5 < (↑ph16.length : Int)) = true then (if (!IntKind.i64.wrap ((1 : Int) * (2 : Int) ^ min (IntKind.u64.wrap (if (0 : Int) > if (20 : Int) < (ph16.getD ps5.toNat (zEl T34)).2.2.2 then (20 : Int) else (ph16.getD ps5.toNat (zEl T34)).2.2.2 then (0 : Int) else if (20 : Int) < (ph16.getD ps5.toNat (zEl T34)).2.2.2 then (20 : Int) else (ph16.getD ps5.toNat (zEl T34)).2.2.2)).toNat IntKind.i64.bits) == (0 : Int)) = true then (if (Int.tmod (ph16.getD ps5.toNat (zEl T34)).2.2.1 (IntKind.i64.wrap ((1 : Int) * (2 : Int) ^ min (IntKind.u64.wrap (if (0 : Int) > if (20 : Int) < (ph16.getD ps5.toNat (zEl T34)).2.2.2 then (20 : Int) else (ph16.getD ps5.toNat (zEl T34)).2.2.2 then (0 : Int) else if (20 : Int) < (ph16.getD ps5.toNat (zEl T34)).2.2.2 then (20 : Int) else (ph16.getD ps5.toNat (zEl T34)).2.2.2)).toNat IntKind.i64.bits)) != (0 : Int)) = true then some (false)
                      else l1 K (ps5) ((0 : Int)) (ph12_0) (ph12_2) (ph16) (ph501200))
                     else none)
                    else none))
                  else none))
                else none))
              else none))
            else none)))
         else none))
       else none))
     else none)
    else none)
   else none)
  else l2 K ((0 : Int)) (ph12_0) (ph12_2) (ph16) (ph501200))
noncomputable def L8_0 (F10 : (List (El T53)) → Option ((Int × (List (El T34) × Int)) × Unit)) (F11 : (El T62) → Option (List (El T34))) (F17 : (El T62) → Option (Int)) (F15 : (El T32) → (El T32) → Option (Bool)) (F27 : (El T62) → Int → Option (Int)) (F14 : (El T62) → Option (Int)) (F16 : Option (Bool)) (K : Nat) (a0 : List (El T53)) : Nat → Int → Int → Int → (List (El T34)) → (List (El T34)) → Option (Bool)
  | 0, _, _, _, _, _ => none
  | n + 1, ps5, ph12_0, ph12_2, ph16, ph501200 => b8_0 F10 F11 F17 F15 F27 F14 F16 K a0 (L8_0 F10 F11 F17 F15 F27 F14 F16 K a0 n) (L8_1 F10 F11 F17 F15 F27 F14 F16 K a0 (L8_0 F10 F11 F17 F15 F27 F14 F16 K a0 n)) (L8_2 F10 F11 F17 F15 F27 F14 F16 K a0) ps5 ph12_0 ph12_2 ph16 ph501200
noncomputable def t8 (F10 : (List (El T53)) → Option ((Int × (List (El T34) × Int)) × Unit)) (F11 : (El T62) → Option (List (El T34))) (F17 : (El T62) → Option (Int)) (F15 : (El T32) → (El T32) → Option (Bool)) (F27 : (El T62) → Int → Option (Int)) (F14 : (El T62) → Option (Int)) (F16 : Option (Bool)) (K : Nat) (a0 : List (El T53)) (l0 : Nat → Int → Int → Int → (List (El T34)) → (List (El T34)) → Option (Bool)) : Option (Bool) := 
 (Option.bind (F10 a0) fun x0 => 
  (Option.bind (F11 x0.1) fun x1 => l0 K ((0 : Int)) (x0.1.1) (x0.1.2.2) (x1) (x0.1.2.1)))
noncomputable def G8 (F10 : (List (El T53)) → Option ((Int × (List (El T34) × Int)) × Unit)) (F11 : (El T62) → Option (List (El T34))) (F17 : (El T62) → Option (Int)) (F15 : (El T32) → (El T32) → Option (Bool)) (F27 : (El T62) → Int → Option (Int)) (F14 : (El T62) → Option (Int)) (F16 : Option (Bool)) (K : Nat) (a0 : List (El T53)) : Option (Bool) := t8 F10 F11 F17 F15 F27 F14 F16 K a0 (L8_0 F10 F11 F17 F15 F27 F14 F16 K a0)
theorem lp8_3 (F10 : (List (El T53)) → Option ((Int × (List (El T34) × Int)) × Unit)) (F11 : (El T62) → Option (List (El T34))) (F17 : (El T62) → Option (Int)) (F15 : (El T32) → (El T32) → Option (Bool)) (F27 : (El T62) → Int → Option (Int)) (F14 : (El T62) → Option (Int)) (F16 : Option (Bool)) (K : Nat) (a0 : List (El T53)) : ∀ (m2 : Nat) (n : Nat) (ps8 : Int) (ps9 : Int) (ps10 : Int) (ph12_0 : Int) (ph12_2 : Int) (ph16 : List (El T34)) (ph501200 : List (El T34)), loopN Try.prog (tab8 F10 F11 F17 F15 F27 F14 F16) 0 K Try.f8 la8 dq8.k 3 [m2] n (hd8_3 a0 ps8 ps9 ps10 ph12_0 ph12_2 ph16 ph501200) = L8_3 F10 F11 F17 F15 F27 F14 F16 K a0 (fun q0 q1 q2 q3 q4 => loopN Try.prog (tab8 F10 F11 F17 F15 F27 F14 F16) 0 K Try.f8 la8 dq8.k 2 [] m2 (hd8_2 a0 q0 q1 q2 q3 q4)) n ps8 ps9 ps10 ph12_0 ph12_2 ph16 ph501200
  | m2, 0, _, _, _, _, _, _, _ => by kernel_rfl
  | m2, n + 1, ps8, ps9, ps10, ph12_0, ph12_2, ph16, ph501200 => by
    have h : loopN Try.prog (tab8 F10 F11 F17 F15 F27 F14 F16) 0 K Try.f8 la8 dq8.k 3 [m2] (n + 1) (hd8_3 a0 ps8 ps9 ps10 ph12_0 ph12_2 ph16 ph501200) = b8_3 F10 F11 F17 F15 F27 F14 F16 K a0 (fun q0 q1 q2 q3 q4 => loopN Try.prog (tab8 F10 F11 F17 F15 F27 F14 F16) 0 K Try.f8 la8 dq8.k 2 [] m2 (hd8_2 a0 q0 q1 q2 q3 q4)) (fun q0 q1 q2 q3 q4 q5 q6 => loopN Try.prog (tab8 F10 F11 F17 F15 F27 F14 F16) 0 K Try.f8 la8 dq8.k 3 [m2] n (hd8_3 a0 q0 q1 q2 q3 q4 q5 q6)) ps8 ps9 ps10 ph12_0 ph12_2 ph16 ph501200 := by kernel_rfl
    rw [h]
    simp only [lp8_3 F10 F11 F17 F15 F27 F14 F16 K a0 m2 n]
    rfl
theorem lp8_2 (F10 : (List (El T53)) → Option ((Int × (List (El T34) × Int)) × Unit)) (F11 : (El T62) → Option (List (El T34))) (F17 : (El T62) → Option (Int)) (F15 : (El T32) → (El T32) → Option (Bool)) (F27 : (El T62) → Int → Option (Int)) (F14 : (El T62) → Option (Int)) (F16 : Option (Bool)) (K : Nat) (a0 : List (El T53)) : ∀ (n : Nat) (ps8 : Int) (ph12_0 : Int) (ph12_2 : Int) (ph16 : List (El T34)) (ph501200 : List (El T34)), loopN Try.prog (tab8 F10 F11 F17 F15 F27 F14 F16) 0 K Try.f8 la8 dq8.k 2 [] n (hd8_2 a0 ps8 ph12_0 ph12_2 ph16 ph501200) = L8_2 F10 F11 F17 F15 F27 F14 F16 K a0 n ps8 ph12_0 ph12_2 ph16 ph501200
  | 0, _, _, _, _, _ => by kernel_rfl
  | n + 1, ps8, ph12_0, ph12_2, ph16, ph501200 => by
    have h : loopN Try.prog (tab8 F10 F11 F17 F15 F27 F14 F16) 0 K Try.f8 la8 dq8.k 2 [] (n + 1) (hd8_2 a0 ps8 ph12_0 ph12_2 ph16 ph501200) = b8_2 F10 F11 F17 F15 F27 F14 F16 K a0 (fun q0 q1 q2 q3 q4 => loopN Try.prog (tab8 F10 F11 F17 F15 F27 F14 F16) 0 K Try.f8 la8 dq8.k 2 [] n (hd8_2 a0 q0 q1 q2 q3 q4)) (fun k q0 q1 q2 q3 q4 q5 q6 => loopN Try.prog (tab8 F10 F11 F17 F15 F27 F14 F16) 0 K Try.f8 la8 dq8.k 3 [n] k (hd8_3 a0 q0 q1 q2 q3 q4 q5 q6)) ps8 ph12_0 ph12_2 ph16 ph501200 := by kernel_rfl
    rw [h]
    simp only [lp8_2 F10 F11 F17 F15 F27 F14 F16 K a0 n, lp8_3 F10 F11 F17 F15 F27 F14 F16 K a0 n]
    rfl
theorem lp8_1 (F10 : (List (El T53)) → Option ((Int × (List (El T34) × Int)) × Unit)) (F11 : (El T62) → Option (List (El T34))) (F17 : (El T62) → Option (Int)) (F15 : (El T32) → (El T32) → Option (Bool)) (F27 : (El T62) → Int → Option (Int)) (F14 : (El T62) → Option (Int)) (F16 : Option (Bool)) (K : Nat) (a0 : List (El T53)) : ∀ (m0 : Nat) (n : Nat) (ps5 : Int) (ps7 : Int) (ph12_0 : Int) (ph12_2 : Int) (ph16 : List (El T34)) (ph501200 : List (El T34)), loopN Try.prog (tab8 F10 F11 F17 F15 F27 F14 F16) 0 K Try.f8 la8 dq8.k 1 [m0] n (hd8_1 a0 ps5 ps7 ph12_0 ph12_2 ph16 ph501200) = L8_1 F10 F11 F17 F15 F27 F14 F16 K a0 (fun q0 q1 q2 q3 q4 => loopN Try.prog (tab8 F10 F11 F17 F15 F27 F14 F16) 0 K Try.f8 la8 dq8.k 0 [] m0 (hd8_0 a0 q0 q1 q2 q3 q4)) n ps5 ps7 ph12_0 ph12_2 ph16 ph501200
  | m0, 0, _, _, _, _, _, _ => by kernel_rfl
  | m0, n + 1, ps5, ps7, ph12_0, ph12_2, ph16, ph501200 => by
    have h : loopN Try.prog (tab8 F10 F11 F17 F15 F27 F14 F16) 0 K Try.f8 la8 dq8.k 1 [m0] (n + 1) (hd8_1 a0 ps5 ps7 ph12_0 ph12_2 ph16 ph501200) = b8_1 F10 F11 F17 F15 F27 F14 F16 K a0 (fun q0 q1 q2 q3 q4 => loopN Try.prog (tab8 F10 F11 F17 F15 F27 F14 F16) 0 K Try.f8 la8 dq8.k 0 [] m0 (hd8_0 a0 q0 q1 q2 q3 q4)) (fun q0 q1 q2 q3 q4 q5 => loopN Try.prog (tab8 F10 F11 F17 F15 F27 F14 F16) 0 K Try.f8 la8 dq8.k 1 [m0] n (hd8_1 a0 q0 q1 q2 q3 q4 q5)) ps5 ps7 ph12_0 ph12_2 ph16 ph501200 := by kernel_rfl
    rw [h]
    simp only [lp8_1 F10 F11 F17 F15 F27 F14 F16 K a0 m0 n]
    rfl
theorem lp8_0 (F10 : (List (El T53)) → Option ((Int × (List (El T34) × Int)) × Unit)) (F11 : (El T62) → Option (List (El T34))) (F17 : (El T62) → Option (Int)) (F15 : (El T32) → (El T32) → Option (Bool)) (F27 : (El T62) → Int → Option (Int)) (F14 : (El T62) → Option (Int)) (F16 : Option (Bool)) (K : Nat) (a0 : List (El T53)) : ∀ (n : Nat) (ps5 : Int) (ph12_0 : Int) (ph12_2 : Int) (ph16 : List (El T34)) (ph501200 : List (El T34)), loopN Try.prog (tab8 F10 F11 F17 F15 F27 F14 F16) 0 K Try.f8 la8 dq8.k 0 [] n (hd8_0 a0 ps5 ph12_0 ph12_2 ph16 ph501200) = L8_0 F10 F11 F17 F15 F27 F14 F16 K a0 n ps5 ph12_0 ph12_2 ph16 ph501200
  | 0, _, _, _, _, _ => by kernel_rfl
  | n + 1, ps5, ph12_0, ph12_2, ph16, ph501200 => by
    have h : loopN Try.prog (tab8 F10 F11 F17 F15 F27 F14 F16) 0 K Try.f8 la8 dq8.k 0 [] (n + 1) (hd8_0 a0 ps5 ph12_0 ph12_2 ph16 ph501200) = b8_0 F10 F11 F17 F15 F27 F14 F16 K a0 (fun q0 q1 q2 q3 q4 => loopN Try.prog (tab8 F10 F11 F17 F15 F27 F14 F16) 0 K Try.f8 la8 dq8.k 0 [] n (hd8_0 a0 q0 q1 q2 q3 q4)) (fun k q0 q1 q2 q3 q4 q5 => loopN Try.prog (tab8 F10 F11 F17 F15 F27 F14 F16) 0 K Try.f8 la8 dq8.k 1 [n] k (hd8_1 a0 q0 q1 q2 q3 q4 q5)) (fun k q0 q1 q2 q3 q4 => loopN Try.prog (tab8 F10 F11 F17 F15 F27 F14 F16) 0 K Try.f8 la8 dq8.k 2 [] k (hd8_2 a0 q0 q1 q2 q3 q4)) ps5 ph12_0 ph12_2 ph16 ph501200 := by kernel_rfl
    rw [h]
    simp only [lp8_0 F10 F11 F17 F15 F27 F14 F16 K a0 n, lp8_1 F10 F11 F17 F15 F27 F14 F16 K a0 n, lp8_2 F10 F11 F17 F15 F27 F14 F16 K a0]
    rfl
theorem ev8 (F10 : (List (El T53)) → Option ((Int × (List (El T34) × Int)) × Unit)) (F11 : (El T62) → Option (List (El T34))) (F17 : (El T62) → Option (Int)) (F15 : (El T32) → (El T32) → Option (Bool)) (F27 : (El T62) → Int → Option (Int)) (F14 : (El T62) → Option (Int)) (F16 : Option (Bool)) (K : Nat) (a0 : List (El T53)) : evFun Try.prog (tab8 F10 F11 F17 F15 F27 F14 F16) 0 K Try.f8 la8 [.row T53 a0] [] dq8.k = G8 F10 F11 F17 F15 F27 F14 F16 K a0 := by
  have h : evFun Try.prog (tab8 F10 F11 F17 F15 F27 F14 F16) 0 K Try.f8 la8 [.row T53 a0] [] dq8.k = t8 F10 F11 F17 F15 F27 F14 F16 K a0 (fun k q0 q1 q2 q3 q4 => loopN Try.prog (tab8 F10 F11 F17 F15 F27 F14 F16) 0 K Try.f8 la8 dq8.k 0 [] k (hd8_0 a0 q0 q1 q2 q3 q4)) := by kernel_rfl
  rw [h]
  simp only [lp8_0 F10 F11 F17 F15 F27 F14 F16 K a0]
  rfl
noncomputable def F8 (K : Nat) (a0 : List (El T53)) : Option (Bool) := G8 (F10 K) (F11 K) (F17 K) (F15 K) (F27 K) (F14 K) (F16 K) K a0
theorem cok8 (K : Nat) : CallOK D Try.prog (tab8 (F10 K) (F11 K) (F17 K) (F15 K) (F27 K) (F14 K) (F16 K)) := (add_ok (add_ok (add_ok (add_ok (add_ok (add_ok (addG_ok none_ok ent10 (ok10 K)) ent11 (ok11 K)) ent17 (ok17 K)) ent15 (ok15 K)) ent27 (ok27 K)) ent14 (ok14 K)) ent16 (ok16 K))
theorem ok8 (K : Nat) : RowOK D Try.prog 8 (row ad8 dq8 fun p => F8 K p) := row_ok fun x r h => has_of (cok8 K) Try.func8 ((ev8 (F10 K) (F11 K) (F17 K) (F15 K) (F27 K) (F14 K) (F16 K) K x).trans h)
end Go.Proofs.YtlpalhgiiodjoaaE
