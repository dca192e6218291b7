/- The engine, part 2: operations that touch no memory. -/
import Derived.Test.YthebmlpohkfhbaaEng1
set_option linter.all false
namespace Go.Proofs.YthebmlpohkfhbaaE
open Go
set_option linter.unusedVariables false

inductive PR where
  | no
  | ok (a : AV)
  | chk (c : Bool) (a : AV)

def PR.sat (Q : AV → Prop) : PR → Prop
  | .no => True
  | .ok a => Q a
  | .chk c a => c = true → Q a

def I (k : IntKind) (n : Int) : AV := .sc (.int k n)
def B (b : Bool) : AV := .sc (.bool b)

def intBin (op : BinOp) (k : IntKind) (a b : Int) : PR :=
  match op with
  | .add => .ok (I k (k.wrap (a + b)))
  | .sub => .ok (I k (k.wrap (a - b)))
  | .mul => .ok (I k (k.wrap (a * b)))
  | .quo => .chk (!(b == 0)) (I k (k.wrap (a.tdiv b)))
  | .rem => .chk (!(b == 0)) (I k (a.tmod b))
  | .and => .ok (I k (k.wrap (BitVec.ofInt k.bits a &&& BitVec.ofInt k.bits b).toNat))
  | .or => .ok (I k (k.wrap (BitVec.ofInt k.bits a ||| BitVec.ofInt k.bits b).toNat))
  | .xor => .ok (I k (k.wrap (BitVec.ofInt k.bits a ^^^ BitVec.ofInt k.bits b).toNat))
  | .andNot => .ok (I k (k.wrap (BitVec.ofInt k.bits a &&& ~~~ BitVec.ofInt k.bits b).toNat))
  | .eql => .ok (B (a == b))
  | .neq => .ok (B (a != b))
  | .lss => .ok (B (decide (a < b)))
  | .leq => .ok (B (decide (a ≤ b)))
  | .gtr => .ok (B (decide (a > b)))
  | .geq => .ok (B (decide (a ≥ b)))
  | _ => .no

def shiftBin (op : BinOp) (k : IntKind) (a b : Int) : PR :=
  match op with
  | .shl => .chk (decide (0 ≤ b)) (I k (k.wrap (a * 2 ^ (min b.toNat k.bits))))
  | .shr => .chk (decide (0 ≤ b)) (I k (a.fdiv (2 ^ (min b.toNat k.bits))))
  | _ => .no

def strBin (op : BinOp) (x y : ByteArray) : PR :=
  match op with
  | .add => .chk (decide (((x.size + y.size : Nat) : Int) ≤ 9223372036854775807)) (.sc (.string (x ++ y)))
  | .eql => .ok (B (x.toList == y.toList))
  | .neq => .ok (B (!(x.toList == y.toList)))
  | .lss => .ok (B (Op.bytesLess x.toList y.toList))
  | .leq => .ok (B (Op.bytesLess x.toList y.toList || x.toList == y.toList))
  | .gtr => .ok (B (!(Op.bytesLess x.toList y.toList || x.toList == y.toList)))
  | .geq => .ok (B (!(Op.bytesLess x.toList y.toList)))
  | _ => .no

def isPtr : AV → Bool
  | .ptr _ _ | .eptr _ _ _ | .optr _ _ _ _ => true
  | _ => false

def binPR (P : Program) (op : BinOp) (t : TypeId) (x y : AV) : PR :=
  match x, y with
  | .sc (.int k a), .sc (.int k' b) =>
    match op with
    | .shl | .shr => shiftBin op k a b
    | _ => if k = k' then intBin op k a b else .no
  | .sc (.string a), .sc (.string b) => strBin op a b
  | .sc (.bool a), .sc (.bool b) =>
    match P.underlying t, op with
    | some .bool, .eql => .ok (B (a == b))
    | some .bool, .neq => .ok (B (!(a == b)))
    | _, _ => .no
  | .sc (.pointer none), .sc (.pointer none) =>
    match P.underlying t, op with
    | some (.pointer _), .eql => .ok (B true)
    | some (.pointer _), .neq => .ok (B false)
    | _, _ => .no
  | x, .sc (.pointer none) =>
    match P.underlying t, op, isPtr x with
    | some (.pointer _), .eql, true => .ok (B false)
    | some (.pointer _), .neq, true => .ok (B true)
    | _, _, _ => .no
  | _, _ => .no

def isAggT (P : Program) (t : TypeId) : Bool := match P.underlying t with
  | some (.struct _) => true
  | some (.array _ _) => true
  | _ => false

/-- A type's size; none: there is no such type. -/
def szT (P : Program) (t : TypeId) : Option Nat := (P.info? t).map (·.size)

def partAV (P : Program) (t : TypeId) (l : List AV) (off : Nat) : PR :=
  match P.underlying t, szT P t with
  | some _, some n => if isAggT P t then .ok (.agg ((l.drop off).take n)) else match l[off]? with
    | some a => .ok a
    | none => .no
  | _, _ => .no

def pickAV (c : Bool) (a b : AV) : AV := match c with
  | true => a
  | false => b

def toPtr (off : Nat) : AV → Option AV
  | .ptr id o => some (.ptr id (o + off))
  | .eptr t x o => some (.eptr t x (o + off))
  | .optr id i s o => some (.optr id i s (o + off))
  | _ => none

def u8L : (t : Ty) → List (El t) → Option (List Int)
  | .int .u8, l => some l
  | _, _ => none
def bytesStr (s : ByteArray) : List Int → ByteArray
  | [] => s
  | n :: l => bytesStr (s.push (UInt8.ofNat n.toNat)) l

def pureOp (P : Program) (op : Op) (ρ : Operand → AV) : PR :=
  match op with
  | .move x => .ok (ρ x)
  | .assign x => .ok (ρ x)
  | .pick c a b => match ρ c with
    | .sc (.bool c) => match ρ a, ρ b with
      | .sc (.bool x), .sc (.bool y) => .ok (B (match c with | true => x | false => y))
      | a, b => .ok (pickAV c a b)
    | _ => .no
  | .binOp op t x y _ => binPR P op t (ρ x) (ρ y)
  | .unOp .not _ x => match ρ x with
    | .sc (.bool b) => .ok (B (!b))
    | _ => .no
  | .unOp .neg _ x => match ρ x with
    | .sc (.int k n) => .ok (I k (k.wrap (0 - n)))
    | _ => .no
  | .unOp .xor _ x => match ρ x with
    | .sc (.int k n) => intBin .xor k (if k.signed then -1 else k.max) n
    | _ => .no
  | .convert src dst x => match ρ x, P.underlying src, P.underlying dst with
    | .sc (.int k n), some _, some (.int k') => .ok (I k' (k'.wrap n))
    | .sc (.string s), some .string, some .string => .ok (.sc (.string s))
    | .row t l, some (.slice e), some .string => match P.underlying e, u8L t l with
      | some (.int .u8), some bs => .ok (.sc (.string (bytesStr .empty bs)))
      | _, _ => .no
    | _, _, _ => .no
  | .makeFunc (.func f) first caps => if first.size = 0 then .ok (.fn f (caps.toList.map ρ)) else .no
  | .extract t ix => match ρ t with
    | .tup l => match l[ix]? with
      | some a => .ok a
      | none => .no
    | _ => .no
  | .field t x f => match ρ x, P.underlying t with
    | .agg l, some (.struct fs) => match fs[f]? with
      | some fd => partAV P fd.type l fd.offset
      | none => .no
    | _, _ => .no
  | .index t x i => match ρ x, ρ i, P.underlying t with
    | .agg l, .sc (.int _ n), some (.array len e) => match szT P e, P.underlying e with
      | some s, some _ => match partAV P e l (n.toNat * s) with
        | .ok a => .chk (decide (0 ≤ n ∧ n < (len : Int))) a
        | _ => .no
      | _, _ => .no
    | .sc (.string s), .sc (.int _ n), some .string => .chk (decide (0 ≤ n ∧ n < (s.size : Int))) (I .u8 (s.data.getD n.toNat 0).toNat)
    | _, _, _ => .no
  | .fieldAddr s x f => match P.underlying s with
    | some (.struct fs) => match fs[f]? with
      | some fd => match szT P fd.type, toPtr fd.offset (ρ x) with
        | some (n + 1), some a => .ok a
        | _, _ => .no
      | none => .no
    | _ => .no
  | .indexAddr t x i => match ρ x, ρ i, P.underlying t with
    | .row ty l, .sc (.int _ n), some (.slice e) => match szT P e with
      | some s => if s = sz ty then .chk (decide (0 ≤ n ∧ n < (l.length : Int))) (.eptr ty (l.getD n.toNat (zEl ty)) 0) else .no
      | none => .no
    | a, .sc (.int _ n), some (.array len e) => match szT P e, toPtr (n.toNat * (szT P e).getD 0) a with
      | some s, some b => .chk (decide (0 ≤ n ∧ n < (len : Int))) b
      | _, _ => .no
    | _, _, _ => .no
  | .nilCheck x => match ρ x with
    | .ptr id o => .ok (.ptr id o)
    | .eptr t y o => .ok (.eptr t y o)
    | .optr id i s o => .ok (.optr id i s o)
    | .fn f l => .ok (.fn f l)
    | _ => .no
  | .slice t x lo hi none => match ρ x, P.underlying t with
    | .row ty l, some (.slice e) => match szT P e, (lo.map ρ).getD (.sc (.int .i64 0)), (hi.map ρ).getD (.sc (.int .i64 l.length)) with
      | some s, .sc (.int _ a), .sc (.int _ b) => if s = sz ty then .chk (decide (0 ≤ a ∧ a ≤ b ∧ b ≤ (l.length : Int))) (.row ty ((l.take b.toNat).drop a.toNat)) else .no
      | _, _, _ => .no
    | .sc (.string s), some .string => match (lo.map ρ).getD (.sc (.int .i64 0)), (hi.map ρ).getD (.sc (.int .i64 s.size)) with
      | .sc (.int _ a), .sc (.int _ b) => .chk (decide (0 ≤ a ∧ a ≤ b ∧ b ≤ (s.size : Int))) (.sc (.string (s.extract a.toNat b.toNat)))
      | _, _ => .no
    | _, _ => .no
  | .call c => match c.callee with
    | .builtin .len => match (c.args[0]?).map ρ, (c.argTypes[0]?).bind P.underlying with
      | some (.row ty l), some (.slice _) => .ok (I .i64 l.length)
      | some (.sc (.string s)), some .string => .ok (I .i64 s.size)
      | some (.sc (.slice none 0 0)), some (.slice _) => .ok (I .i64 0)
      | _, _ => .no
    | .builtin .min => match c.args.toList.map ρ with
      | [.sc (.int k x), .sc (.int k' y)] => .ok (I k (if y < x then y else x))
      | _ => .no
    | .builtin .max => match c.args.toList.map ρ with
      | [.sc (.int k x), .sc (.int k' y)] => .ok (I k (if y > x then y else x))
      | _ => .no
    | _ => .no
  | _ => .no

/-! ### that this is what the machine does -/
section
variable {P : Program} {μ : Nat → Value} {S : Nat → Prop} {w : World}

theorem toPtr_ok {off : Nat} {a b : AV} {u : Value} (h : toPtr off a = some b) (hu : VOK μ S w a u) : ∃ bl o, u = .pointer (some ⟨bl, o, none⟩) ∧ VOK μ S w b (.pointer (some ⟨bl, o + off, none⟩)) := by
  unfold toPtr at h
  split at h
  · cases h
    obtain ⟨bl, h1, h2⟩ := hu
    exact ⟨bl, _, h2, bl, h1, rfl⟩
  · cases h
    obtain ⟨bl, o, cs, h1, h2⟩ := hu
    exact ⟨bl, _, h1, bl, o, cs, by rw [Nat.add_assoc], h2⟩
  · cases h
    obtain ⟨bl, n, c, h1, h2⟩ := hu
    exact ⟨bl, _, h2, bl, n, c, h1, by rw [Nat.add_assoc]⟩
  · cases h

theorem isPtr_ok {a : AV} {u : Value} (h : isPtr a = true) (hu : VOK μ S w a u) : ∃ ad, u = .pointer (some ad) := by
  cases a <;> simp [isPtr] at h
  · obtain ⟨bl, h1, h2⟩ := hu; exact ⟨_, h2⟩
  · obtain ⟨bl, o, cs, h1, h2⟩ := hu; exact ⟨_, h1⟩
  · obtain ⟨bl, n, c, h1, h2⟩ := hu; exact ⟨_, h2⟩

theorem intBin_ok {op : BinOp} {t : TypeId} {k : IntKind} {a b : Int} (h1 : op ≠ .shl) (h2 : op ≠ .shr) : (intBin op k a b).sat fun av => ∃ v, (binOp op t (.int k a) (.int k b)).run P w = .ok v w ∧ VOK μ S w av v := by
  cases op <;> first
    | exact absurd rfl h1
    | exact absurd rfl h2
    | (refine ⟨_, ?_, rfl⟩; simp [binOp, Op.intArith, Op.intBits, Op.intCmp, go_sem]; done)
    | (intro hc; refine ⟨_, ?_, rfl⟩; simp at hc; simp [binOp, Op.intDiv, hc, go_sem]; done)
    | trivial
theorem shiftBin_ok {op : BinOp} {t : TypeId} {k k' : IntKind} {a b : Int} : (shiftBin op k a b).sat fun av => ∃ v, (binOp op t (.int k a) (.int k' b)).run P w = .ok v w ∧ VOK μ S w av v := by
  cases op <;> first
    | trivial
    | (intro hc
       refine ⟨_, ?_, rfl⟩
       have hb : ¬ b < 0 := by simp at hc; omega
       simp [binOp, Op.shift, hb, go_sem]; done)
theorem strBin_ok {op : BinOp} {t : TypeId} {x y : ByteArray} : (strBin op x y).sat fun av => ∃ v, (binOp op t (.string x) (.string y)).run P w = .ok v w ∧ VOK μ S w av v := by
  cases op <;> first
    | trivial
    | (refine ⟨_, ?_, rfl⟩; simp [binOp, Op.stringOp, go_sem]; done)
    | (intro hc
       refine ⟨_, ?_, rfl⟩
       have hb : ¬ ((x.size + y.size : Nat) : Int) > IntKind.i64.max := by
         have e : IntKind.i64.max = 9223372036854775807 := by decide
         have := of_decide_eq_true hc
         rw [e]; omega
       simp only [binOp, Op.stringOp, if_neg hb]
       simp [go_sem]; done)

/-- The operation hands this value back and touches nothing. -/
def Goes (P : Program) (ρ' : Operand → Value) (op : Op) (μ : Nat → Value) (S : Nat → Prop) (w : World) (av : AV) : Prop :=
  ∀ o : Oper, o.op = op → ∃ v, (execOp ρ' o).run P w = .ok (.value v) w ∧ VOK μ S w av v

theorem goes_of {ρ' : Operand → Value} {op : Op} {av : AV} {e : Sem Value} (he : ∀ o : Oper, o.op = op → execOp ρ' o = (do pure (.value (← e)))) (h : ∃ v, e.run P w = .ok v w ∧ VOK μ S w av v) : Goes P ρ' op μ S w av := by
  intro o ho
  obtain ⟨v, h1, h2⟩ := h
  exact ⟨v, by rw [he o ho]; simp [go_sem, h1], h2⟩

theorem PR.sat_mono {Q R : AV → Prop} (h : ∀ a, Q a → R a) : ∀ {r : PR}, r.sat Q → r.sat R
  | .no, _ => trivial
  | .ok a, k => h a k
  | .chk c a, k => fun hc => h a (k hc)

theorem guard_int {op : BinOp} {t : TypeId} {x y : Operand} {k k' : IntKind} {a b : Int} : (eqGuard op t x y (.int k a) (.int k' b)).run P w = .ok () w := by
  cases op <;> simp [eqGuard, go_sem]
theorem guard_str {op : BinOp} {t : TypeId} {x y : Operand} {a b : ByteArray} : (eqGuard op t x y (.string a) (.string b)).run P w = .ok () w := by
  cases op <;> simp [eqGuard, go_sem]
theorem guard_bool {op : BinOp} {t : TypeId} {x y : Operand} {a b : Bool} : (eqGuard op t x y (.bool a) (.bool b)).run P w = .ok () w := by
  cases op <;> simp [eqGuard, go_sem]
theorem guard_ptr {op : BinOp} {t : TypeId} {x y : Operand} {a b : Option Addr} : (eqGuard op t x y (.pointer a) (.pointer b)).run P w = .ok () w := by
  cases op <;> simp [eqGuard, go_sem]

theorem run_und {t : TypeId} {d : TypeDesc} (h : P.underlying t = some d) : (underlying t).run P w = .ok d w := by
  simp [underlying, go_sem, h]
theorem run_sz {t : TypeId} {n : Nat} (h : szT P t = some n) : (sizeOf t).run P w = .ok n w := by
  unfold szT at h
  obtain ⟨i, h1, h2⟩ := Option.map_eq_some_iff.1 h
  simp [sizeOf, typeInfo, go_sem, h1, h2]
theorem run_isAgg {t : TypeId} {d : TypeDesc} (h : P.underlying t = some d) : (isAgg t).run P w = .ok (isAggT P t) w := by
  unfold isAggT
  simp only [isAgg, Sem.run_bind, run_und h, Result.andThen_ok, h]
  cases d <;> simp [go_sem]

theorem equalIn_bool {t : TypeId} {a b : Bool} (h : P.underlying t = some .bool) (d : Nat) : (Op.equalIn (d + 1) t (.bool a) (.bool b)).run P w = .ok (a == b) w := by
  simp only [Op.equalIn, Sem.run_bind, run_und h, Result.andThen_ok]
  simp [go_sem]
theorem equalIn_nil {t e : TypeId} {b : Option Addr} (h : P.underlying t = some (.pointer e)) (d : Nat) : (Op.equalIn (d + 1) t (.pointer none) (.pointer b)).run P w = .ok b.isNone w := by
  simp only [Op.equalIn, Sem.run_bind, run_und h, Result.andThen_ok]
  simp [go_sem]
theorem equalIn_ptr {t e : TypeId} {a : Addr} (h : P.underlying t = some (.pointer e)) (d : Nat) : (Op.equalIn (d + 1) t (.pointer (some a)) (.pointer none)).run P w = .ok false w := by
  simp only [Op.equalIn, Sem.run_bind, run_und h, Result.andThen_ok]
  simp [go_sem]
theorem equal_of {t : TypeId} {x y : Value} {r : Bool} (h : ∀ d, (Op.equalIn (d + 1) t x y).run P w = .ok r w) : (Op.equal t x y).run P w = .ok r w := h 9999

theorem bin_ok {ρ' : Operand → Value} {op : BinOp} {t t' : TypeId} {x y : Operand} {a b : AV} (hx : VOK μ S w a (ρ' x)) (hy : VOK μ S w b (ρ' y)) : (binPR P op t a b).sat (Goes P ρ' (.binOp op t x y t') μ S w) := by
  have he : ∀ o : Oper, o.op = .binOp op t x y t' → execOp ρ' o = (do pure (.value (← (do eqGuard op t x y (ρ' x) (ρ' y); binOp op t (ρ' x) (ρ' y))))) := by
    intro o ho; simp only [execOp, ho]
  unfold binPR
  split
  · rename_i k a k' b
    rw [VOK] at hx hy
    have main : ∀ {r : PR}, (r.sat fun av => ∃ v, (binOp op t (.int k a) (.int k' b)).run P w = .ok v w ∧ VOK μ S w av v) → r.sat (Goes P ρ' (.binOp op t x y t') μ S w) := by
      intro r hr
      refine PR.sat_mono (fun av h => ?_) hr
      obtain ⟨v, h1, h2⟩ := h
      exact goes_of he ⟨v, by rw [hx, hy]; simp [go_sem, guard_int, h1], h2⟩
    split
    · exact main shiftBin_ok
    · exact main shiftBin_ok
    · rename_i h1 h2
      split
      · rename_i e; subst e; exact main (intBin_ok h1 h2)
      · trivial
  · rw [VOK] at hx hy
    refine PR.sat_mono (fun av h => ?_) (strBin_ok (t := t) (P := P) (μ := μ) (S := S) (w := w))
    obtain ⟨v, h1, h2⟩ := h
    exact goes_of he ⟨v, by rw [hx, hy]; simp [go_sem, guard_str, h1], h2⟩
  · rw [VOK] at hx hy
    split
    · rename_i hu
      exact goes_of he ⟨_, by rw [hx, hy]; simp [go_sem, guard_bool, binOp, equal_of (equalIn_bool hu)], rfl⟩
    · rename_i hu
      exact goes_of he ⟨_, by rw [hx, hy]; simp [go_sem, guard_bool, binOp, equal_of (equalIn_bool hu)], rfl⟩
    · trivial
  · rw [VOK] at hx hy
    split
    · rename_i hu
      exact goes_of he ⟨_, by rw [hx, hy]; simp [go_sem, guard_ptr, binOp, equal_of (equalIn_nil hu)], rfl⟩
    · rename_i hu
      exact goes_of he ⟨_, by rw [hx, hy]; simp [go_sem, guard_ptr, binOp, equal_of (equalIn_nil hu)], rfl⟩
    · trivial
  · rw [VOK] at hy
    split
    · rename_i hu hp
      obtain ⟨ad, had⟩ := isPtr_ok hp hx
      exact goes_of he ⟨_, by rw [had, hy]; simp [go_sem, guard_ptr, binOp, equal_of (equalIn_ptr hu)], rfl⟩
    · rename_i hu hp
      obtain ⟨ad, had⟩ := isPtr_ok hp hx
      exact goes_of he ⟨_, by rw [had, hy]; simp [go_sem, guard_ptr, binOp, equal_of (equalIn_ptr hu)], rfl⟩
    · trivial
  · trivial
end
end Go.Proofs.YthebmlpohkfhbaaE
