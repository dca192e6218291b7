import Derived.Test.YtcnfilanbmkpaaaS03W36
set_option linter.all false
namespace Go.Proofs.YtcnfilanbmkpaaaE
open Go Go.Proofs
set_option maxRecDepth 100000
set_option linter.unusedVariables false
variable {D : Prop}
/-! ganger/rank.Sort -/
noncomputable def tab14 (F32 : (List (El T35)) → Option (Bool)) (F35 : (List (El T35)) → Option (List (El T35))) (F36 : Unit → List (El T35) → Option (List (El T35))) (F34 : (El T35) → (El T35) → Option (Int)) : Tab := ((((Tab.none.add 32 (row ad32 dq32 fun p => F32 p)).add 35 (row ad35 dq35 fun p => F35 p)).addW 36 (rowW T35 ad36 F36 false)).add 34 (row ad34 dq34 fun p => F34 p.1 p.2))
noncomputable def t14 (F32 : (List (El T35)) → Option (Bool)) (F35 : (List (El T35)) → Option (List (El T35))) (F36 : Unit → List (El T35) → Option (List (El T35))) (F34 : (El T35) → (El T35) → Option (Int)) (K : Nat) (a0 : List (El T35)) : Option ((List (El T35)) × Int) := 
 (Option.bind (F32 a0) fun x0 => (if x0 = true then some (([], (30 : Int)))
  else 
   (Option.bind (F35 a0) fun x1 => 
    (Option.bind (F36 () x1) fun x2 => some ((x2, (0 : Int)))))))
noncomputable def G14 (F32 : (List (El T35)) → Option (Bool)) (F35 : (List (El T35)) → Option (List (El T35))) (F36 : Unit → List (El T35) → Option (List (El T35))) (F34 : (El T35) → (El T35) → Option (Int)) (K : Nat) (a0 : List (El T35)) : Option ((List (El T35)) × Int) := t14 F32 F35 F36 F34 K a0
theorem ev14 (F32 : (List (El T35)) → Option (Bool)) (F35 : (List (El T35)) → Option (List (El T35))) (F36 : Unit → List (El T35) → Option (List (El T35))) (F34 : (El T35) → (El T35) → Option (Int)) (K : Nat) (a0 : List (El T35)) : evFun Try.prog (tab14 F32 F35 F36 F34) 0 K Try.f14 [] [.row T35 a0] [] dq14.k = G14 F32 F35 F36 F34 K a0 := by
  kernel_rfl
noncomputable def F14 (K : Nat) (a0 : List (El T35)) : Option ((List (El T35)) × Int) := G14 (F32 K) (F35 K) (F36 K) (F34 K) K a0
theorem cok14 (K : Nat) : CallOK D Try.prog (tab14 (F32 K) (F35 K) (F36 K) (F34 K)) := (add_ok (addW_ok (add_ok (add_ok none_ok ent32 (ok32 K)) ent35 (ok35 K)) ent36 (ok36 K)) ent34 (ok34 K))
theorem ok14 (K : Nat) : RowOK D Try.prog 14 (row ad14 dq14 fun p => F14 K p) := row_ok fun x r h => has_of (cok14 K) Try.func14 ((ev14 (F32 K) (F35 K) (F36 K) (F34 K) K x).trans h)
/-! ganger/rank.Check -/
noncomputable def tab13 (F32 : (List (El T35)) → Option (Bool)) (F33 : (List (El T35)) → Unit → Option (Bool)) (F34 : (El T35) → (El T35) → Option (Int)) : Tab := (((Tab.none.add 32 (row ad32 dq32 fun p => F32 p)).add 33 (row ad33 dq33 fun p => F33 p.1 p.2)).add 34 (row ad34 dq34 fun p => F34 p.1 p.2))
noncomputable def t13 (F32 : (List (El T35)) → Option (Bool)) (F33 : (List (El T35)) → Unit → Option (Bool)) (F34 : (El T35) → (El T35) → Option (Int)) (K : Nat) (a0 : List (El T35)) : Option (Int) := 
 (Option.bind (F32 a0) fun x0 => (if x0 = true then some ((30 : Int))
  else 
   (Option.bind (F33 a0 ()) fun x1 => (if (!x1) = true then some ((2 : Int))
    else some ((0 : Int))))))
noncomputable def G13 (F32 : (List (El T35)) → Option (Bool)) (F33 : (List (El T35)) → Unit → Option (Bool)) (F34 : (El T35) → (El T35) → Option (Int)) (K : Nat) (a0 : List (El T35)) : Option (Int) := t13 F32 F33 F34 K a0
theorem ev13 (F32 : (List (El T35)) → Option (Bool)) (F33 : (List (El T35)) → Unit → Option (Bool)) (F34 : (El T35) → (El T35) → Option (Int)) (K : Nat) (a0 : List (El T35)) : evFun Try.prog (tab13 F32 F33 F34) 0 K Try.f13 [] [.row T35 a0] [] dq13.k = G13 F32 F33 F34 K a0 := by
  kernel_rfl
noncomputable def F13 (K : Nat) (a0 : List (El T35)) : Option (Int) := G13 (F32 K) (F33 K) (F34 K) K a0
theorem cok13 (K : Nat) : CallOK D Try.prog (tab13 (F32 K) (F33 K) (F34 K)) := (add_ok (add_ok (add_ok none_ok ent32 (ok32 K)) ent33 (ok33 K)) ent34 (ok34 K))
theorem ok13 (K : Nat) : RowOK D Try.prog 13 (row ad13 dq13 fun p => F13 K p) := row_ok fun x r h => has_of (cok13 K) Try.func13 ((ev13 (F32 K) (F33 K) (F34 K) K x).trans h)
/-! ganger/gangerlaw03.known -/
noncomputable def tab11 (F14 : (List (El T35)) → Option ((List (El T35)) × Int)) (F13 : (List (El T35)) → Option (Int)) : Tab := ((Tab.none.add 14 (row ad14 dq14 fun p => F14 p)).add 13 (row ad13 dq13 fun p => F13 p))
noncomputable def t11 (F14 : (List (El T35)) → Option ((List (El T35)) × Int)) (F13 : (List (El T35)) → Option (Int)) (K : Nat) : Option (Bool) := 
 (Option.bind (F14 [((5 : Int), (3 : Int), (1 : Int)), ((9 : Int), (8 : Int), (2 : Int)), ((5 : Int), (2 : Int), (7 : Int))]) fun x0 => (if (x0.2 == (0 : Int)) = true then (if ((↑x0.1.length : Int) == (3 : Int)) = true then (if decide ((0 : Int) ≤ (0 : Int) ∧ (0 : Int) < (↑x0.1.length : Int)) = true then (if ((x0.1.getD (Int.toNat (0 : Int)) (zEl T35)).1 == (9 : Int) && ((x0.1.getD (Int.toNat (0 : Int)) (zEl T35)).2.1 == (8 : Int) && (x0.1.getD (Int.toNat (0 : Int)) (zEl T35)).2.2 == (2 : Int))) = true then (if decide ((0 : Int) ≤ (1 : Int) ∧ (1 : Int) < (↑x0.1.length : Int)) = true then (if ((x0.1.getD (Int.toNat (1 : Int)) (zEl T35)).2.2 == (7 : Int)) = true then (if decide ((0 : Int) ≤ (2 : Int) ∧ (2 : Int) < (↑x0.1.length : Int)) = true then (if ((x0.1.getD (Int.toNat (2 : Int)) (zEl T35)).2.2 == (1 : Int)) = true then 
          (Option.bind (F13 x0.1) fun x1 => some (x1 == (0 : Int)))
         else some (false))
        else none)
       else some (false))
      else none)
     else some (false))
    else none)
   else some (false))
  else some (false)))
noncomputable def G11 (F14 : (List (El T35)) → Option ((List (El T35)) × Int)) (F13 : (List (El T35)) → Option (Int)) (K : Nat) : Option (Bool) := t11 F14 F13 K
theorem ev11 (F14 : (List (El T35)) → Option ((List (El T35)) × Int)) (F13 : (List (El T35)) → Option (Int)) (K : Nat) : evFun Try.prog (tab11 F14 F13) 0 K Try.f11 [] [] [] dq11.k = G11 F14 F13 K := by
  kernel_rfl
noncomputable def F11 (K : Nat) : Option (Bool) := G11 (F14 K) (F13 K) K
theorem cok11 (K : Nat) : CallOK D Try.prog (tab11 (F14 K) (F13 K)) := (add_ok (add_ok none_ok ent14 (ok14 K)) ent13 (ok13 K))
theorem ok11 (K : Nat) : RowOK D Try.prog 11 (row ad11 dq11 fun p => F11 K) := row_ok fun x r h => has_of (cok11 K) Try.func11 ((ev11 (F14 K) (F13 K) K).trans h)
/-! ganger/gangerlaw03.RankSorts -/
noncomputable def tab3 (F10 : (List (El T35)) → (List (El T35)) → Option (Bool)) (F11 : Option (Bool)) (F12 : (List (El T35)) → Option (List (El T35))) (F13 : (List (El T35)) → Option (Int)) (F14 : (List (El T35)) → Option ((List (El T35)) × Int)) (F15 : (List (El T35)) → Option ((List (El T35)) × Int)) (F16 : (List (El T35)) → Option (Int)) (F17 : (List (El T35)) → (List (El T35)) → Option (Bool)) : Tab := ((((((((Tab.none.add 10 (row ad10 dq10 fun p => F10 p.1 p.2)).add 11 (row ad11 dq11 fun p => F11)).add 12 (row ad12 dq12 fun p => F12 p)).add 13 (row ad13 dq13 fun p => F13 p)).add 14 (row ad14 dq14 fun p => F14 p)).add 15 (row ad15 dq15 fun p => F15 p)).add 16 (row ad16 dq16 fun p => F16 p)).add 17 (row ad17 dq17 fun p => F17 p.1 p.2))
noncomputable def la3 : List (List Tidy) := [[.only [0, 3, 5, 9], .ids [11, 12, 14, 16, 19, 24, 29, 34, 54, 56], .top [1000000]]]
noncomputable def hd3_0 (a0 : List (El T35)) (ps9 : Int) (ph14 : List (El T35)) (ph19 : List (El T35)) (ph24 : List (El T35)) : St := { tm := slots (nat_lit 58) [(nat_lit 0, AV.row T35 a0), (nat_lit 3, AV.own (nat_lit 14)), (nat_lit 5, AV.own (nat_lit 19)), (nat_lit 9, AV.sc (Value.int IntKind.i64 ps9))], H := [(nat_lit 14, ABlk.arr (nat_lit 35) T35 ph14), (nat_lit 19, ABlk.arr (nat_lit 35) T35 ph19), (nat_lit 24, ABlk.arr (nat_lit 35) T35 ph24)] }
noncomputable def b3_0 (F10 : (List (El T35)) → (List (El T35)) → Option (Bool)) (F11 : Option (Bool)) (F12 : (List (El T35)) → Option (List (El T35))) (F13 : (List (El T35)) → Option (Int)) (F14 : (List (El T35)) → Option ((List (El T35)) × Int)) (F15 : (List (El T35)) → Option ((List (El T35)) × Int)) (F16 : (List (El T35)) → Option (Int)) (F17 : (List (El T35)) → (List (El T35)) → Option (Bool)) (K : Nat) (a0 : List (El T35)) (r0 : Int → (List (El T35)) → (List (El T35)) → (List (El T35)) → Option (Bool)) (ps9 : Int) (ph14 : List (El T35)) (ph19 : List (El T35)) (ph24 : List (El T35)) : Option (Bool) :=(if decide (ps9 < (↑ph19.length : Int)) = true then (if decide ((0 : Int) ≤ ps9 ∧ ps9 < (↑ph19.length : Int)) = true then r0 (IntKind.i64.wrap (ps9 + (1 : Int))) (ph14) (ph19.set ps9.toNat ((ph19.getD ps9.toNat (zEl T35)).1, (ph19.getD ps9.toNat (zEl T35)).2.1, (0 : Int))) (ph24)
   else none)
  else 
   (Option.bind (F17 ph14 a0) fun x8 => (if x8 = true then 
     (Option.bind (F11) fun x9 => some (x9))
    else some (false))))
noncomputable def L3_0 (F10 : (List (El T35)) → (List (El T35)) → Option (Bool)) (F11 : Option (Bool)) (F12 : (List (El T35)) → Option (List (El T35))) (F13 : (List (El T35)) → Option (Int)) (F14 : (List (El T35)) → Option ((List (El T35)) × Int)) (F15 : (List (El T35)) → Option ((List (El T35)) × Int)) (F16 : (List (El T35)) → Option (Int)) (F17 : (List (El T35)) → (List (El T35)) → Option (Bool)) (K : Nat) (a0 : List (El T35)) : Nat → Int → (List (El T35)) → (List (El T35)) → (List (El T35)) → Option (Bool)
  | 0, _, _, _, _ => none
  | n + 1, ps9, ph14, ph19, ph24 => b3_0 F10 F11 F12 F13 F14 F15 F16 F17 K a0 (L3_0 F10 F11 F12 F13 F14 F15 F16 F17 K a0 n) ps9 ph14 ph19 ph24
noncomputable def t3 (F10 : (List (El T35)) → (List (El T35)) → Option (Bool)) (F11 : Option (Bool)) (F12 : (List (El T35)) → Option (List (El T35))) (F13 : (List (El T35)) → Option (Int)) (F14 : (List (El T35)) → Option ((List (El T35)) × Int)) (F15 : (List (El T35)) → Option ((List (El T35)) × Int)) (F16 : (List (El T35)) → Option (Int)) (F17 : (List (El T35)) → (List (El T35)) → Option (Bool)) (K : Nat) (a0 : List (El T35)) (l0 : Nat → Int → (List (El T35)) → (List (El T35)) → (List (El T35)) → Option (Bool)) : Option (Bool) := 
 (Option.bind (F10 a0 []) fun x0 => (if x0 = true then 
   (Option.bind (F11) fun x1 => some (x1))
  else 
   (Option.bind (F12 a0) fun x2 => 
    (Option.bind (F13 x2) fun x3 => 
     (Option.bind (F14 x2) fun x4 => 
      (Option.bind (F15 a0) fun x5 => 
       (Option.bind (F16 a0) fun x6 => (if (x3 != x6) = true then some (false)
        else 
         (Option.bind (F17 x4.1 x5.1) fun x7 => (if (!x7) = true then some (false)
          else (if (x4.2 != x5.2) = true then some (false)
           else l0 K ((0 : Int)) (x2) (x4.1) (x5.1))))))))))))
noncomputable def G3 (F10 : (List (El T35)) → (List (El T35)) → Option (Bool)) (F11 : Option (Bool)) (F12 : (List (El T35)) → Option (List (El T35))) (F13 : (List (El T35)) → Option (Int)) (F14 : (List (El T35)) → Option ((List (El T35)) × Int)) (F15 : (List (El T35)) → Option ((List (El T35)) × Int)) (F16 : (List (El T35)) → Option (Int)) (F17 : (List (El T35)) → (List (El T35)) → Option (Bool)) (K : Nat) (a0 : List (El T35)) : Option (Bool) := t3 F10 F11 F12 F13 F14 F15 F16 F17 K a0 (L3_0 F10 F11 F12 F13 F14 F15 F16 F17 K a0)
theorem lp3_0 (F10 : (List (El T35)) → (List (El T35)) → Option (Bool)) (F11 : Option (Bool)) (F12 : (List (El T35)) → Option (List (El T35))) (F13 : (List (El T35)) → Option (Int)) (F14 : (List (El T35)) → Option ((List (El T35)) × Int)) (F15 : (List (El T35)) → Option ((List (El T35)) × Int)) (F16 : (List (El T35)) → Option (Int)) (F17 : (List (El T35)) → (List (El T35)) → Option (Bool)) (K : Nat) (a0 : List (El T35)) : ∀ (n : Nat) (ps9 : Int) (ph14 : List (El T35)) (ph19 : List (El T35)) (ph24 : List (El T35)), loopN Try.prog (tab3 F10 F11 F12 F13 F14 F15 F16 F17) 0 K Try.f3 la3 dq3.k 0 [] n (hd3_0 a0 ps9 ph14 ph19 ph24) = L3_0 F10 F11 F12 F13 F14 F15 F16 F17 K a0 n ps9 ph14 ph19 ph24
  | 0, _, _, _, _ => by kernel_rfl
  | n + 1, ps9, ph14, ph19, ph24 => by
    have h : loopN Try.prog (tab3 F10 F11 F12 F13 F14 F15 F16 F17) 0 K Try.f3 la3 dq3.k 0 [] (n + 1) (hd3_0 a0 ps9 ph14 ph19 ph24) = b3_0 F10 F11 F12 F13 F14 F15 F16 F17 K a0 (fun q0 q1 q2 q3 => loopN Try.prog (tab3 F10 F11 F12 F13 F14 F15 F16 F17) 0 K Try.f3 la3 dq3.k 0 [] n (hd3_0 a0 q0 q1 q2 q3)) ps9 ph14 ph19 ph24 := by kernel_rfl
    rw [h]
    simp only [lp3_0 F10 F11 F12 F13 F14 F15 F16 F17 K a0 n]
    rfl
theorem ev3 (F10 : (List (El T35)) → (List (El T35)) → Option (Bool)) (F11 : Option (Bool)) (F12 : (List (El T35)) → Option (List (El T35))) (F13 : (List (El T35)) → Option (Int)) (F14 : (List (El T35)) → Option ((List (El T35)) × Int)) (F15 : (List (El T35)) → Option ((List (El T35)) × Int)) (F16 : (List (El T35)) → Option (Int)) (F17 : (List (El T35)) → (List (El T35)) → Option (Bool)) (K : Nat) (a0 : List (El T35)) : evFun Try.prog (tab3 F10 F11 F12 F13 F14 F15 F16 F17) 0 K Try.f3 la3 [.row T35 a0] [] dq3.k = G3 F10 F11 F12 F13 F14 F15 F16 F17 K a0 := by
  have h : evFun Try.prog (tab3 F10 F11 F12 F13 F14 F15 F16 F17) 0 K Try.f3 la3 [.row T35 a0] [] dq3.k = t3 F10 F11 F12 F13 F14 F15 F16 F17 K a0 (fun k q0 q1 q2 q3 => loopN Try.prog (tab3 F10 F11 F12 F13 F14 F15 F16 F17) 0 K Try.f3 la3 dq3.k 0 [] k (hd3_0 a0 q0 q1 q2 q3)) := by kernel_rfl
  rw [h]
  simp only [lp3_0 F10 F11 F12 F13 F14 F15 F16 F17 K a0]
  rfl
noncomputable def F3 (K : Nat) (a0 : List (El T35)) : Option (Bool) := G3 (F10 K) (F11 K) (F12 K) (F13 K) (F14 K) (F15 K) (F16 K) (F17 K) K a0
theorem cok3 (K : Nat) : CallOK D Try.prog (tab3 (F10 K) (F11 K) (F12 K) (F13 K) (F14 K) (F15 K) (F16 K) (F17 K)) := (add_ok (add_ok (add_ok (add_ok (add_ok (add_ok (add_ok (add_ok none_ok ent10 (ok10 K)) ent11 (ok11 K)) ent12 (ok12 K)) ent13 (ok13 K)) ent14 (ok14 K)) ent15 (ok15 K)) ent16 (ok16 K)) ent17 (ok17 K))
theorem ok3 (K : Nat) : RowOK D Try.prog 3 (row ad3 dq3 fun p => F3 K p) := row_ok fun x r h => has_of (cok3 K) Try.func3 ((ev3 (F10 K) (F11 K) (F12 K) (F13 K) (F14 K) (F15 K) (F16 K) (F17 K) K x).trans h)
/-! ganger/gangerlaw03.RankLess -/
noncomputable def tab4 (F18 : (El T35) → (El T35) → Option (Bool)) (F19 : (El T35) → (El T35) → Option (Bool)) (F11 : Option (Bool)) : Tab := (((Tab.none.add 18 (row ad18 dq18 fun p => F18 p.1 p.2)).add 19 (row ad19 dq19 fun p => F19 p.1 p.2)).add 11 (row ad11 dq11 fun p => F11))
noncomputable def t4 (F18 : (El T35) → (El T35) → Option (Bool)) (F19 : (El T35) → (El T35) → Option (Bool)) (F11 : Option (Bool)) (K : Nat) (a0 : El T35) (a1 : El T35) (a2 : El T35) : Option (Bool) := 
 (Option.bind (F18 a0 a1) fun x0 => 
  (Option.bind (F18 a1 a0) fun x1 => 
   (Option.bind (F18 a1 a2) fun x2 => (if x0 = true then (if x1 = true then some (false)
     else (if x0 = true then (if (!true == !(a0.1 == a1.1 && (a0.2.1 == a1.2.1 && a0.2.2 == a1.2.2))) = true then some (false)
       else 
        (Option.bind (F18 a0 a0) fun x3 => (if x3 = true then some (false)
         else (if (!x0) = true then 
           (Option.bind (F19 a0 a1) fun x4 => (if (x0 == x4) = true then 
             (Option.bind (F11) fun x5 => some (x5))
            else some (false)))
          else (if (!x2) = true then 
            (Option.bind (F19 a0 a1) fun x6 => (if (x0 == x6) = true then 
              (Option.bind (F11) fun x7 => some (x7))
             else some (false)))
           else 
            (Option.bind (F18 a0 a2) fun x8 => (if x8 = true then 
              (Option.bind (F19 a0 a1) fun x9 => (if (x0 == x9) = true then 
                (Option.bind (F11) fun x10 => some (x10))
               else some (false)))
             else some (false))))))))
      else (if (!x1 == !(a0.1 == a1.1 && (a0.2.1 == a1.2.1 && a0.2.2 == a1.2.2))) = true then some (false)
       else 
        (Option.bind (F18 a0 a0) fun x11 => (if x11 = true then some (false)
         else (if (!x0) = true then 
           (Option.bind (F19 a0 a1) fun x12 => (if (x0 == x12) = true then 
             (Option.bind (F11) fun x13 => some (x13))
            else some (false)))
          else (if (!x2) = true then 
            (Option.bind (F19 a0 a1) fun x14 => (if (x0 == x14) = true then 
              (Option.bind (F11) fun x15 => some (x15))
             else some (false)))
           else 
            (Option.bind (F18 a0 a2) fun x16 => (if x16 = true then 
              (Option.bind (F19 a0 a1) fun x17 => (if (x0 == x17) = true then 
                (Option.bind (F11) fun x18 => some (x18))
               else some (false)))
             else some (false))))))))))
    else (if x0 = true then (if (!true == !(a0.1 == a1.1 && (a0.2.1 == a1.2.1 && a0.2.2 == a1.2.2))) = true then some (false)
      else 
       (Option.bind (F18 a0 a0) fun x19 => (if x19 = true then some (false)
        else (if (!x0) = true then 
          (Option.bind (F19 a0 a1) fun x20 => (if (x0 == x20) = true then 
            (Option.bind (F11) fun x21 => some (x21))
           else some (false)))
         else (if (!x2) = true then 
           (Option.bind (F19 a0 a1) fun x22 => (if (x0 == x22) = true then 
             (Option.bind (F11) fun x23 => some (x23))
            else some (false)))
          else 
           (Option.bind (F18 a0 a2) fun x24 => (if x24 = true then 
             (Option.bind (F19 a0 a1) fun x25 => (if (x0 == x25) = true then 
               (Option.bind (F11) fun x26 => some (x26))
              else some (false)))
            else some (false))))))))
     else (if (!x1 == !(a0.1 == a1.1 && (a0.2.1 == a1.2.1 && a0.2.2 == a1.2.2))) = true then some (false)
      else 
       (Option.bind (F18 a0 a0) fun x27 => (if x27 = true then some (false)
        else (if (!x0) = true then 
          (Option.bind (F19 a0 a1) fun x28 => (if (x0 == x28) = true then 
            (Option.bind (F11) fun x29 => some (x29))
           else some (false)))
         else (if (!x2) = true then 
           (Option.bind (F19 a0 a1) fun x30 => (if (x0 == x30) = true then 
             (Option.bind (F11) fun x31 => some (x31))
            else some (false)))
          else 
           (Option.bind (F18 a0 a2) fun x32 => (if x32 = true then 
             (Option.bind (F19 a0 a1) fun x33 => (if (x0 == x33) = true then 
               (Option.bind (F11) fun x34 => some (x34))
              else some (false)))
            else some (false)))))))))))))
noncomputable def G4 (F18 : (El T35) → (El T35) → Option (Bool)) (F19 : (El T35) → (El T35) → Option (Bool)) (F11 : Option (Bool)) (K : Nat) (a0 : El T35) (a1 : El T35) (a2 : El T35) : Option (Bool) := t4 F18 F19 F11 K a0 a1 a2
theorem ev4 (F18 : (El T35) → (El T35) → Option (Bool)) (F19 : (El T35) → (El T35) → Option (Bool)) (F11 : Option (Bool)) (K : Nat) (a0 : El T35) (a1 : El T35) (a2 : El T35) : evFun Try.prog (tab4 F18 F19 F11) 0 K Try.f4 [] [.agg (cellsOf T35 a0), .agg (cellsOf T35 a1), .agg (cellsOf T35 a2)] [] dq4.k = G4 F18 F19 F11 K a0 a1 a2 := by
  kernel_rfl
noncomputable def F4 (K : Nat) (a0 : El T35) (a1 : El T35) (a2 : El T35) : Option (Bool) := G4 (F18 K) (F19 K) (F11 K) K a0 a1 a2
theorem cok4 (K : Nat) : CallOK D Try.prog (tab4 (F18 K) (F19 K) (F11 K)) := (add_ok (add_ok (add_ok none_ok ent18 (ok18 K)) ent19 (ok19 K)) ent11 (ok11 K))
theorem ok4 (K : Nat) : RowOK D Try.prog 4 (row ad4 dq4 fun p => F4 K p.1 p.2.1 p.2.2) := row_ok fun x r h => has_of (cok4 K) Try.func4 ((ev4 (F18 K) (F19 K) (F11 K) K x.1 x.2.1 x.2.2).trans h)
/-! ganger/gangerlaw03.RankTops$1 -/
noncomputable def tab25 : Tab := Tab.none
noncomputable def t25 (K : Nat) (a0 : El T35) (o0 : Int) (o1 : Int) : Option (Bool × (Int × Int)) := some ((Int.tmod a0.2.2 (4 : Int) != o1.tmod (4 : Int), IntKind.i64.wrap (o0 + (1 : Int)), o1))
noncomputable def G25 (K : Nat) (a0 : El T35) (o0 : Int) (o1 : Int) : Option (Bool × (Int × Int)) := t25 K a0 o0 o1
theorem ev25 (K : Nat) (a0 : El T35) (o0 : Int) (o1 : Int) : evFun Try.prog (tab25) 0 K Try.f25 [] [.agg (cellsOf T35 a0), .ptr 2000000 0, .ptr 2000001 0] (hpB ob25 (o0, o1)) gq25.k = G25 K a0 o0 o1 := by
  kernel_rfl
noncomputable def F25 (K : Nat) (a0 : El T35) (o0 : Int) (o1 : Int) : Option (Bool × (Int × Int)) := G25 K a0 o0 o1
theorem cok25 (K : Nat) : CallOK D Try.prog (tab25) := none_ok
theorem ok25 (K : Nat) : RowG D Try.prog 25 (rowG (gad ag25 ob25) gq25 fun p => F25 K p.1.1 p.2.1 p.2.2) := rowG_ok fun x r h => ghas_of (cok25 K) Try.func25 ((ev25 K x.1.1 x.2.1 x.2.2).trans h)
/-! ganger/rank.Top -/
noncomputable def tab24 (F25 : (El T35) → Int → Int → Option (Bool × (Int × Int))) : Tab := (Tab.none.addG 25 (rowG (gad ag25 ob25) gq25 fun p => F25 p.1.1 p.2.1 p.2.2))
noncomputable def la24 : List (List Tidy) := [[.only [1, 2, 7, 10, 11, 12], .pro 7 26 35 (T35), .ids [11, 26], .top [1000000]], [.frz (List.range 60)]]
noncomputable def hd24_0 (a0 : List (El T35)) (a1 : Int) (o0 : Int) (o1 : Int) (ps12 : Int) (ph26 : List (El T35)) (ph2000000_0 : Int) (ph2000001_0 : Int) : St := { tm := slots (nat_lit 29) [(nat_lit 1, AV.sc (Value.int IntKind.i64 a1)), (nat_lit 2, AV.fn (nat_lit 25) [AV.ptr (nat_lit 2000000) (nat_lit 0), AV.ptr (nat_lit 2000001) (nat_lit 0)]), (nat_lit 7, AV.own (nat_lit 26)), (nat_lit 10, AV.row T35 a0), (nat_lit 11, AV.sc (Value.int IntKind.i64 (↑a0.length : Int))), (nat_lit 12, AV.sc (Value.int IntKind.i64 ps12))], H := [(nat_lit 26, ABlk.arr (nat_lit 35) T35 ph26), (nat_lit 2000000, ABlk.box (nat_lit 3) [AV.sc (Value.int IntKind.i64 ph2000000_0)]), (nat_lit 2000001, ABlk.box (nat_lit 33) [AV.sc (Value.int IntKind.u32 ph2000001_0)])] }
noncomputable def b24_0 (F25 : (El T35) → Int → Int → Option (Bool × (Int × Int))) (K : Nat) (a0 : List (El T35)) (a1 : Int) (o0 : Int) (o1 : Int) (r0 : Int → (List (El T35)) → Int → Int → Option (List (El T35) × (Int × Int))) (ps12 : Int) (ph26 : List (El T35)) (ph2000000_0 : Int) (ph2000001_0 : Int) : Option (List (El T35) × (Int × Int)) :=(if decide (ps12 < (↑a0.length : Int)) = true then (if decide ((0 : Int) ≤ ps12 ∧ ps12 < (↑a0.length : Int)) = true then (if decide ((↑ph26.length : Int) ≥ a1) = true then some ((ph26, ph2000000_0, ph2000001_0))
    else 
     (Option.bind (F25 (a0.getD ps12.toNat (zEl T35)) ph2000000_0 ph2000001_0) fun x0 => (if x0.1 = true then (if decide ((ph26.length + [a0.getD ps12.toNat (zEl T35)].length) * Try.prog.types[(35 : Nat)].bytes ≤ (140737488355328 : Nat)) = true then r0 (IntKind.i64.wrap (ps12 + (1 : Int))) (ph26 ++ [a0.getD ps12.toNat (zEl T35)]) (x0.2.1) (x0.2.2)
       else none)
      else r0 (IntKind.i64.wrap (ps12 + (1 : Int))) (ph26) (x0.2.1) (x0.2.2))))
   else none)
  else some ((ph26, ph2000000_0, ph2000001_0)))
noncomputable def L24_0 (F25 : (El T35) → Int → Int → Option (Bool × (Int × Int))) (K : Nat) (a0 : List (El T35)) (a1 : Int) (o0 : Int) (o1 : Int) : Nat → Int → (List (El T35)) → Int → Int → Option (List (El T35) × (Int × Int))
  | 0, _, _, _, _ => none
  | n + 1, ps12, ph26, ph2000000_0, ph2000001_0 => b24_0 F25 K a0 a1 o0 o1 (L24_0 F25 K a0 a1 o0 o1 n) ps12 ph26 ph2000000_0 ph2000001_0
noncomputable def t24 (F25 : (El T35) → Int → Int → Option (Bool × (Int × Int))) (K : Nat) (a0 : List (El T35)) (a1 : Int) (o0 : Int) (o1 : Int) (l0 : Nat → Int → (List (El T35)) → Int → Int → Option (List (El T35) × (Int × Int))) : Option (List (El T35) × (Int × Int)) := l0 K ((0 : Int)) ([]) (o0) (o1)
noncomputable def G24 (F25 : (El T35) → Int → Int → Option (Bool × (Int × Int))) (K : Nat) (a0 : List (El T35)) (a1 : Int) (o0 : Int) (o1 : Int) : Option (List (El T35) × (Int × Int)) := t24 F25 K a0 a1 o0 o1 (L24_0 F25 K a0 a1 o0 o1)
theorem lp24_0 (F25 : (El T35) → Int → Int → Option (Bool × (Int × Int))) (K : Nat) (a0 : List (El T35)) (a1 : Int) (o0 : Int) (o1 : Int) : ∀ (n : Nat) (ps12 : Int) (ph26 : List (El T35)) (ph2000000_0 : Int) (ph2000001_0 : Int), loopN Try.prog (tab24 F25) 0 K Try.f24 la24 gq24.k 0 [] n (hd24_0 a0 a1 o0 o1 ps12 ph26 ph2000000_0 ph2000001_0) = L24_0 F25 K a0 a1 o0 o1 n ps12 ph26 ph2000000_0 ph2000001_0
  | 0, _, _, _, _ => by kernel_rfl
  | n + 1, ps12, ph26, ph2000000_0, ph2000001_0 => by
    have h : loopN Try.prog (tab24 F25) 0 K Try.f24 la24 gq24.k 0 [] (n + 1) (hd24_0 a0 a1 o0 o1 ps12 ph26 ph2000000_0 ph2000001_0) = b24_0 F25 K a0 a1 o0 o1 (fun q0 q1 q2 q3 => loopN Try.prog (tab24 F25) 0 K Try.f24 la24 gq24.k 0 [] n (hd24_0 a0 a1 o0 o1 q0 q1 q2 q3)) ps12 ph26 ph2000000_0 ph2000001_0 := by kernel_rfl
    rw [h]
    simp only [lp24_0 F25 K a0 a1 o0 o1 n]
    rfl
theorem ev24 (F25 : (El T35) → Int → Int → Option (Bool × (Int × Int))) (K : Nat) (a0 : List (El T35)) (a1 : Int) (o0 : Int) (o1 : Int) : evFun Try.prog (tab24 F25) 0 K Try.f24 la24 [.row T35 a0, I .i64 a1, .fn 25 [.ptr 2000000 0, .ptr 2000001 0]] (hpB ob24 (o0, o1)) gq24.k = G24 F25 K a0 a1 o0 o1 := by
  have h : evFun Try.prog (tab24 F25) 0 K Try.f24 la24 [.row T35 a0, I .i64 a1, .fn 25 [.ptr 2000000 0, .ptr 2000001 0]] (hpB ob24 (o0, o1)) gq24.k = t24 F25 K a0 a1 o0 o1 (fun k q0 q1 q2 q3 => loopN Try.prog (tab24 F25) 0 K Try.f24 la24 gq24.k 0 [] k (hd24_0 a0 a1 o0 o1 q0 q1 q2 q3)) := by kernel_rfl
  rw [h]
  simp only [lp24_0 F25 K a0 a1 o0 o1]
  rfl
noncomputable def F24 (K : Nat) (a0 : List (El T35)) (a1 : Int) (o0 : Int) (o1 : Int) : Option (List (El T35) × (Int × Int)) := G24 (F25 K) K a0 a1 o0 o1
theorem cok24 (K : Nat) : CallOK D Try.prog (tab24 (F25 K)) := (addG_ok none_ok ent25 (ok25 K))
theorem ok24 (K : Nat) : RowG D Try.prog 24 (rowG (gad ag24 ob24) gq24 fun p => F24 K p.1.1 p.1.2.1 p.2.1 p.2.2) := rowG_ok fun x r h => ghas_of (cok24 K) Try.func24 ((ev24 (F25 K) K x.1.1 x.1.2.1 x.2.1 x.2.2).trans h)
/-! ganger/gangerlaw03.RankTops -/
noncomputable def tab6 (F10 : (List (El T35)) → (List (El T35)) → Option (Bool)) (F11 : Option (Bool)) (F24 : (List (El T35)) → Int → Int → Int → Option (List (El T35) × (Int × Int))) (F17 : (List (El T35)) → (List (El T35)) → Option (Bool)) : Tab := ((((Tab.none.add 10 (row ad10 dq10 fun p => F10 p.1 p.2)).add 11 (row ad11 dq11 fun p => F11)).addG 24 (rowG (gad ag24 ob24) gq24 fun p => F24 p.1.1 p.1.2.1 p.2.1 p.2.2)).add 17 (row ad17 dq17 fun p => F17 p.1 p.2))
noncomputable def la6 : List (List Tidy) := [[.only [0, 1, 5, 7, 8, 9, 10], .pro 9 43 35 (T35), .ids [5, 7, 12, 13, 17, 43, 48, 55], .top [1000000]]]
noncomputable def hd6_0 (a0 : List (El T35)) (a1 : Int) (a2 : Int) (ps8 : List (El T35)) (ps10 : Int) (ph5_0 : Int) (ph7_0 : Int) (ph43 : List (El T35)) : St := { tm := slots (nat_lit 57) [(nat_lit 0, AV.row T35 a0), (nat_lit 1, AV.sc (Value.int IntKind.i64 a1)), (nat_lit 5, AV.ptr (nat_lit 5) (nat_lit 0)), (nat_lit 7, AV.ptr (nat_lit 7) (nat_lit 0)), (nat_lit 8, AV.row T35 ps8), (nat_lit 9, AV.own (nat_lit 43)), (nat_lit 10, AV.sc (Value.int IntKind.i64 ps10))], H := [(nat_lit 5, ABlk.box (nat_lit 33) [AV.sc (Value.int IntKind.u32 ph5_0)]), (nat_lit 7, ABlk.box (nat_lit 3) [AV.sc (Value.int IntKind.i64 ph7_0)]), (nat_lit 43, ABlk.arr (nat_lit 35) T35 ph43)] }
noncomputable def b6_0 (F10 : (List (El T35)) → (List (El T35)) → Option (Bool)) (F11 : Option (Bool)) (F24 : (List (El T35)) → Int → Int → Int → Option (List (El T35) × (Int × Int))) (F17 : (List (El T35)) → (List (El T35)) → Option (Bool)) (K : Nat) (a0 : List (El T35)) (a1 : Int) (a2 : Int) (r0 : (List (El T35)) → Int → Int → Int → (List (El T35)) → Option (Bool)) (ps8 : List (El T35)) (ps10 : Int) (ph5_0 : Int) (ph7_0 : Int) (ph43 : List (El T35)) : Option (Bool) :=(if decide (ps10 < (↑a0.length : Int)) = true then (if decide ((↑ph43.length : Int) < a1) = true then (if decide ((0 : Int) ≤ ps10 ∧ ps10 < (↑a0.length : Int)) = true then (if (Int.tmod (a0.getD ps10.toNat (zEl T35)).2.2 (4 : Int) != ph5_0.tmod (4 : Int)) = true then (if decide ((0 : Int) ≤ ps10 ∧ ps10 < (↑a0.length : Int)) = true then (if decide ((ph43.length + [a0.getD ps10.toNat (zEl T35)].length) * Try.prog.types[(35 : Nat)].bytes ≤ (140737488355328 : Nat)) = true then r0 (ps8) (IntKind.i64.wrap (ps10 + (1 : Int))) (ph5_0) (ph7_0) (ph43 ++ [a0.getD ps10.toNat (zEl T35)])
       else none)
      else none)
     else r0 (ps8) (IntKind.i64.wrap (ps10 + (1 : Int))) (ph5_0) (ph7_0) (ph43))
    else none)
   else 
    (Option.bind (F17 ps8 ph43) fun x3 => (if x3 = true then (if (ph7_0 == ps10) = true then 
       (Option.bind (F11) fun x4 => some (x4))
      else some (false))
     else some (false))))
  else 
   (Option.bind (F17 ps8 ph43) fun x5 => (if x5 = true then (if (ph7_0 == ps10) = true then 
      (Option.bind (F11) fun x6 => some (x6))
     else some (false))
    else some (false))))
noncomputable def L6_0 (F10 : (List (El T35)) → (List (El T35)) → Option (Bool)) (F11 : Option (Bool)) (F24 : (List (El T35)) → Int → Int → Int → Option (List (El T35) × (Int × Int))) (F17 : (List (El T35)) → (List (El T35)) → Option (Bool)) (K : Nat) (a0 : List (El T35)) (a1 : Int) (a2 : Int) : Nat → (List (El T35)) → Int → Int → Int → (List (El T35)) → Option (Bool)
  | 0, _, _, _, _, _ => none
  | n + 1, ps8, ps10, ph5_0, ph7_0, ph43 => b6_0 F10 F11 F24 F17 K a0 a1 a2 (L6_0 F10 F11 F24 F17 K a0 a1 a2 n) ps8 ps10 ph5_0 ph7_0 ph43
noncomputable def t6 (F10 : (List (El T35)) → (List (El T35)) → Option (Bool)) (F11 : Option (Bool)) (F24 : (List (El T35)) → Int → Int → Int → Option (List (El T35) × (Int × Int))) (F17 : (List (El T35)) → (List (El T35)) → Option (Bool)) (K : Nat) (a0 : List (El T35)) (a1 : Int) (a2 : Int) (l0 : Nat → (List (El T35)) → Int → Int → Int → (List (El T35)) → Option (Bool)) : Option (Bool) := 
 (Option.bind (F10 a0 []) fun x0 => (if x0 = true then 
   (Option.bind (F11) fun x1 => some (x1))
  else 
   (Option.bind (F24 a0 a1 (0 : Int) a2) fun x2 => l0 K (x2.1) ((0 : Int)) (x2.2.2) (x2.2.1) ([]))))
noncomputable def G6 (F10 : (List (El T35)) → (List (El T35)) → Option (Bool)) (F11 : Option (Bool)) (F24 : (List (El T35)) → Int → Int → Int → Option (List (El T35) × (Int × Int))) (F17 : (List (El T35)) → (List (El T35)) → Option (Bool)) (K : Nat) (a0 : List (El T35)) (a1 : Int) (a2 : Int) : Option (Bool) := t6 F10 F11 F24 F17 K a0 a1 a2 (L6_0 F10 F11 F24 F17 K a0 a1 a2)
theorem lp6_0 (F10 : (List (El T35)) → (List (El T35)) → Option (Bool)) (F11 : Option (Bool)) (F24 : (List (El T35)) → Int → Int → Int → Option (List (El T35) × (Int × Int))) (F17 : (List (El T35)) → (List (El T35)) → Option (Bool)) (K : Nat) (a0 : List (El T35)) (a1 : Int) (a2 : Int) : ∀ (n : Nat) (ps8 : List (El T35)) (ps10 : Int) (ph5_0 : Int) (ph7_0 : Int) (ph43 : List (El T35)), loopN Try.prog (tab6 F10 F11 F24 F17) 0 K Try.f6 la6 dq6.k 0 [] n (hd6_0 a0 a1 a2 ps8 ps10 ph5_0 ph7_0 ph43) = L6_0 F10 F11 F24 F17 K a0 a1 a2 n ps8 ps10 ph5_0 ph7_0 ph43
  | 0, _, _, _, _, _ => by kernel_rfl
  | n + 1, ps8, ps10, ph5_0, ph7_0, ph43 => by
    have h : loopN Try.prog (tab6 F10 F11 F24 F17) 0 K Try.f6 la6 dq6.k 0 [] (n + 1) (hd6_0 a0 a1 a2 ps8 ps10 ph5_0 ph7_0 ph43) = b6_0 F10 F11 F24 F17 K a0 a1 a2 (fun q0 q1 q2 q3 q4 => loopN Try.prog (tab6 F10 F11 F24 F17) 0 K Try.f6 la6 dq6.k 0 [] n (hd6_0 a0 a1 a2 q0 q1 q2 q3 q4)) ps8 ps10 ph5_0 ph7_0 ph43 := by kernel_rfl
    rw [h]
    simp only [lp6_0 F10 F11 F24 F17 K a0 a1 a2 n]
    rfl
theorem ev6 (F10 : (List (El T35)) → (List (El T35)) → Option (Bool)) (F11 : Option (Bool)) (F24 : (List (El T35)) → Int → Int → Int → Option (List (El T35) × (Int × Int))) (F17 : (List (El T35)) → (List (El T35)) → Option (Bool)) (K : Nat) (a0 : List (El T35)) (a1 : Int) (a2 : Int) : evFun Try.prog (tab6 F10 F11 F24 F17) 0 K Try.f6 la6 [.row T35 a0, I .i64 a1, I .u32 a2] [] dq6.k = G6 F10 F11 F24 F17 K a0 a1 a2 := by
  have h : evFun Try.prog (tab6 F10 F11 F24 F17) 0 K Try.f6 la6 [.row T35 a0, I .i64 a1, I .u32 a2] [] dq6.k = t6 F10 F11 F24 F17 K a0 a1 a2 (fun k q0 q1 q2 q3 q4 => loopN Try.prog (tab6 F10 F11 F24 F17) 0 K Try.f6 la6 dq6.k 0 [] k (hd6_0 a0 a1 a2 q0 q1 q2 q3 q4)) := by kernel_rfl
  rw [h]
  simp only [lp6_0 F10 F11 F24 F17 K a0 a1 a2]
  rfl
noncomputable def F6 (K : Nat) (a0 : List (El T35)) (a1 : Int) (a2 : Int) : Option (Bool) := G6 (F10 K) (F11 K) (F24 K) (F17 K) K a0 a1 a2
theorem cok6 (K : Nat) : CallOK D Try.prog (tab6 (F10 K) (F11 K) (F24 K) (F17 K)) := (add_ok (addG_ok (add_ok (add_ok none_ok ent10 (ok10 K)) ent11 (ok11 K)) ent24 (ok24 K)) ent17 (ok17 K))
theorem ok6 (K : Nat) : RowOK D Try.prog 6 (row ad6 dq6 fun p => F6 K p.1 p.2.1 p.2.2) := row_ok fun x r h => has_of (cok6 K) Try.func6 ((ev6 (F10 K) (F11 K) (F24 K) (F17 K) K x.1 x.2.1 x.2.2).trans h)
end Go.Proofs.YtcnfilanbmkpaaaE
