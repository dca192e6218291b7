/- The engine, part 2: operations that touch no memory. -/
import Derived.Test.YtigekmmdflaeaaaDoorEng1
set_option linter.all false
namespace Go.Proofs.YtigekmmdflaeaaaDoorE
open Go
set_option linter.unusedVariables false

inductive PR where
  | no
  | ok (a : AV)
  | chk (c : Bool) (a : AV)

def PR.sat (Q : AV → Prop) : PR → Prop
  | .no => True
  | .ok a => Q a
  | .chk c a => c = true → Q a

def I (k : IntKind) (n : Int) : AV := .sc (.int k n)
def B (b : Bool) : AV := .sc (.bool b)

def intBin (op : BinOp) (k : IntKind) (a b : Int) : PR :=
  match op with
  | .add => .ok (I k (k.wrap (a + b)))
  | .sub => .ok (I k (k.wrap (a - b)))
  | .mul => .ok (I k (k.wrap (a * b)))
  | .quo => .chk (!(b == 0)) (I k (k.wrap (a.tdiv b)))
  | .rem => .chk (!(b == 0)) (I k (a.tmod b))
  | .and => .ok (I k (k.wrap (BitVec.ofInt k.bits a &&& BitVec.ofInt k.bits b).toNat))
  | .or => .ok (I k (k.wrap (BitVec.ofInt k.bits a ||| BitVec.ofInt k.bits b).toNat))
  | .xor => .ok (I k (k.wrap (BitVec.ofInt k.bits a ^^^ BitVec.ofInt k.bits b).toNat))
  | .andNot => .ok (I k (k.wrap (BitVec.ofInt k.bits a &&& ~~~ BitVec.ofInt k.bits b).toNat))
  | .eql => .ok (B (a == b))
  | .neq => .ok (B (a != b))
  | .lss => .ok (B (decide (a < b)))
  | .leq => .ok (B (decide (a ≤ b)))
  | .gtr => .ok (B (decide (a > b)))
  | .geq => .ok (B (decide (a ≥ b)))
  | _ => .no

def shiftBin (op : BinOp) (k : IntKind) (a b : Int) : PR :=
  match op with
  | .shl => .chk (decide (0 ≤ b)) (I k (k.wrap (a * 2 ^ (min b.toNat k.bits))))
  | .shr => .chk (decide (0 ≤ b)) (I k (a.fdiv (2 ^ (min b.toNat k.bits))))
  | _ => .no

def strBin (op : BinOp) (x y : ByteArray) : PR :=
  match op with
  | .add => .chk (decide (x.size + y.size ≤ 9223372036854775807)) (.sc (.string (x ++ y)))
  | .eql => .ok (B (x.toList == y.toList))
  | .neq => .ok (B (!(x.toList == y.toList)))
  | .lss => .ok (B (Op.bytesLess x.toList y.toList))
  | .leq => .ok (B (Op.bytesLess x.toList y.toList || x.toList == y.toList))
  | .gtr => .ok (B (!(Op.bytesLess x.toList y.toList || x.toList == y.toList)))
  | .geq => .ok (B (!(Op.bytesLess x.toList y.toList)))
  | _ => .no

def isPtr : AV → Bool
  | .ptr _ _ | .eptr _ _ _ | .optr _ _ _ _ => true
  | _ => false

def isAggT (P : Program) (t : TypeId) : Bool := match P.underlying t with
  | some (.struct _) => true
  | some (.array _ _) => true
  | _ => false

/-- A type's size; none: there is no such type. -/
def szT (P : Program) (t : TypeId) : Option Nat := (P.info? t).map (·.size)

def aggPart (P : Program) (t : TypeId) (l : List AV) (off : Nat) : Option AV := match P.underlying t, szT P t with
  | some _, some n => if isAggT P t then some (.agg ((l.drop off).take n)) else l[off]?
  | _, _ => none
def eqFs (P : Program) (eq : TypeId → AV → AV → Option Bool) : List Field → List AV → List AV → Option Bool
  | [], _, _ => some true
  | f :: fs, l, m => match f.name == "_" with
    | true => eqFs P eq fs l m
    | false => match aggPart P f.type l f.offset, aggPart P f.type m f.offset with
      | some a, some b => match fs with
        | [] => eq f.type a b
        | g :: gs => (eq f.type a b).bind fun r => (eqFs P eq (g :: gs) l m).bind fun s => some (r && s)
      | _, _ => none
def eqEs (P : Program) (eq : TypeId → AV → AV → Option Bool) (e : TypeId) (s : Nat) : Nat → Nat → List AV → List AV → Option Bool
  | 0, _, _, _ => some true
  | k + 1, i, l, m => match aggPart P e l (i * s), aggPart P e m (i * s) with
    | some a, some b => match k with
      | 0 => eq e a b
      | k + 1 => (eq e a b).bind fun r => (eqEs P eq e s (k + 1) (i + 1) l m).bind fun t => some (r && t)
    | _, _ => none
/-- Two values of one type, held against each other. -/
def eqAV (P : Program) : Nat → TypeId → AV → AV → Option Bool
  | 0, _, _, _ => none
  | n + 1, t, a, b => match P.underlying t with
    | some (.int _) => match a, b with
      | .sc (.int k x), .sc (.int k' y) => if k = k' then some (x == y) else none
      | _, _ => none
    | some .bool => match a, b with
      | .sc (.bool x), .sc (.bool y) => some (x == y)
      | _, _ => none
    | some .string => match a, b with
      | .sc (.string x), .sc (.string y) => some (x.toList == y.toList)
      | _, _ => none
    | some (.struct fs) => match a, b with
      | .agg l, .agg m => match P.stoodInHeld t with
        | false => eqFs P (eqAV P n) fs.toList l m
        | true => none
      | _, _ => none
    | some (.array len e) => match a, b with
      | .agg l, .agg m => match szT P e with
        | some s => eqEs P (eqAV P n) e s len 0 l m
        | none => none
      | _, _ => none
    | _ => none
def binPR (P : Program) (op : BinOp) (t : TypeId) (x y : AV) : PR :=
  match x, y with
  | .sc (.int k a), .sc (.int k' b) =>
    match op with
    | .shl | .shr => shiftBin op k a b
    | _ => if k = k' then intBin op k a b else .no
  | .sc (.string a), .sc (.string b) => strBin op a b
  | .sc (.bool a), .sc (.bool b) =>
    match P.underlying t, op with
    | some .bool, .eql => .ok (B (a == b))
    | some .bool, .neq => .ok (B (!(a == b)))
    | _, _ => .no
  | .agg l, .agg m =>
    match op, P.eqGuardType P.depth t with
    | .eql, false => match eqAV P 20 t (.agg l) (.agg m) with
      | some r => .ok (B r)
      | none => .no
    | .neq, false => match eqAV P 20 t (.agg l) (.agg m) with
      | some r => .ok (B (!r))
      | none => .no
    | _, _ => .no
  | .sc (.slice none 0 0), .sc (.slice none 0 0) =>
    match P.underlying t, op with
    | some (.slice _), .eql => .ok (B true)
    | some (.slice _), .neq => .ok (B false)
    | _, _ => .no
  | .sc (.pointer none), .sc (.pointer none) =>
    match P.underlying t, op with
    | some (.pointer _), .eql => .ok (B true)
    | some (.pointer _), .neq => .ok (B false)
    | _, _ => .no
  | x, .sc (.pointer none) =>
    match P.underlying t, op, isPtr x with
    | some (.pointer _), .eql, true => .ok (B false)
    | some (.pointer _), .neq, true => .ok (B true)
    | _, _, _ => .no
  | _, _ => .no

def partAV (P : Program) (t : TypeId) (l : List AV) (off : Nat) : PR :=
  match P.underlying t, szT P t with
  | some _, some n => if isAggT P t then .ok (.agg ((l.drop off).take n)) else match l[off]? with
    | some a => .ok a
    | none => .no
  | _, _ => .no

def pickAV (c : Bool) (a b : AV) : AV := match c with
  | true => a
  | false => b

/-- a pointer to a whole array that is kept as a row -/
def arrOwn (a : AV) (s len : Nat) : Bool := match a with
  | .optr _ _ s' _ => Nat.beq s' s && Nat.blt 1 len
  | _ => false
def toPtr (off : Nat) : AV → Option AV
  | .ptr id o => some (.ptr id (o + off))
  | .eptr t x o => some (.eptr t x (o + off))
  | .optr id i s o => some (.optr id i s (o + off))
  | _ => none

def u8L : (t : Ty) → List (El t) → Option (List Int)
  | .int .u8, l => some l
  | _, _ => none
def bytesStr (s : ByteArray) : List Int → ByteArray
  | [] => s
  | n :: l => bytesStr (s.push (UInt8.ofNat n.toNat)) l

def pureOp (P : Program) (op : Op) (ρ : Operand → AV) : PR :=
  match op with
  | .move x => .ok (ρ x)
  | .assign x => .ok (ρ x)
  | .pick c a b => match ρ c with
    | .sc (.bool c) => match ρ a, ρ b with
      | .sc (.bool x), .sc (.bool y) => .ok (B (match c with | true => x | false => y))
      | a, b => .ok (pickAV c a b)
    | _ => .no
  | .binOp op t x y _ => binPR P op t (ρ x) (ρ y)
  | .unOp .not _ x => match ρ x with
    | .sc (.bool b) => .ok (B (!b))
    | _ => .no
  | .unOp .neg _ x => match ρ x with
    | .sc (.int k n) => .ok (I k (k.wrap (0 - n)))
    | _ => .no
  | .unOp .xor _ x => match ρ x with
    | .sc (.int k n) => intBin .xor k (if k.signed then -1 else k.max) n
    | _ => .no
  | .convert src dst x => match ρ x, P.underlying src, P.underlying dst with
    | .sc (.int k n), some _, some (.int k') => .ok (I k' (k'.wrap n))
    | .sc (.string s), some .string, some .string => .ok (.sc (.string s))
    | .row t l, some (.slice e), some .string => match P.underlying e, u8L t l with
      | some (.int .u8), some bs => .ok (.sc (.string (bytesStr .empty bs)))
      | _, _ => .no
    | _, _, _ => .no
  | .makeFunc (.func f) first caps => if first.size = 0 then .ok (.fn f (caps.toList.map ρ)) else .no
  | .extract t ix => match ρ t with
    | .tup l => match l[ix]? with
      | some a => .ok a
      | none => .no
    | _ => .no
  | .field t x f => match ρ x, P.underlying t with
    | .agg l, some (.struct fs) => match fs[f]? with
      | some fd => partAV P fd.type l fd.offset
      | none => .no
    | _, _ => .no
  | .index t x i => match ρ x, ρ i, P.underlying t with
    | .agg l, .sc (.int _ n), some (.array len e) => match szT P e, P.underlying e with
      | some s, some _ => match partAV P e l (n.toNat * s) with
        | .ok a => .chk (decide (0 ≤ n ∧ n < (len : Int))) a
        | _ => .no
      | _, _ => .no
    | .sc (.string s), .sc (.int _ n), some .string => .chk (decide (0 ≤ n ∧ n < (s.size : Int))) (I .u8 (s.data.getD n.toNat 0).toNat)
    | _, _, _ => .no
  | .fieldAddr s x f => match P.underlying s with
    | some (.struct fs) => match fs[f]? with
      | some fd => match szT P fd.type, toPtr fd.offset (ρ x) with
        | some (n + 1), some a => .ok a
        | _, _ => .no
      | none => .no
    | _ => .no
  | .indexAddr t x i => match ρ x, ρ i, P.underlying t with
    | .row ty l, .sc (.int _ n), some (.slice e) => match szT P e with
      | some s => if s = sz ty then .chk (decide (0 ≤ n ∧ n < (l.length : Int))) (.eptr ty (l.getD n.toNat (zEl ty)) 0) else .no
      | none => .no
    | a, .sc (.int _ n), some (.array len e) => match szT P e, toPtr (n.toNat * (szT P e).getD 0) a with
      | some s, some b => match arrOwn a s len with
        | true => .no
        | false => .chk (decide (0 ≤ n ∧ n < (len : Int))) b
      | _, _ => .no
    | _, _, _ => .no
  | .nilCheck x => match ρ x with
    | .ptr id o => .ok (.ptr id o)
    | .eptr t y o => .ok (.eptr t y o)
    | .optr id i s o => .ok (.optr id i s o)
    | .fn f l => .ok (.fn f l)
    | _ => .no
  | .slice t x lo hi none => match ρ x, P.underlying t with
    | .row ty l, some (.slice e) => match szT P e, (lo.map ρ).getD (.sc (.int .i64 0)), (hi.map ρ).getD (.sc (.int .i64 l.length)) with
      | some s, .sc (.int _ a), .sc (.int _ b) => if s = sz ty then .chk (decide (0 ≤ a ∧ a ≤ b ∧ b ≤ (l.length : Int))) (.row ty ((l.take b.toNat).drop a.toNat)) else .no
      | _, _, _ => .no
    | .sc (.string s), some .string => match (lo.map ρ).getD (.sc (.int .i64 0)), (hi.map ρ).getD (.sc (.int .i64 s.size)) with
      | .sc (.int _ a), .sc (.int _ b) => .chk (decide (0 ≤ a ∧ a ≤ b ∧ b ≤ (s.size : Int))) (.sc (.string (s.extract a.toNat b.toNat)))
      | _, _ => .no
    | _, _ => .no
  | .call c => match c.callee with
    | .builtin .len => match (c.args[0]?).map ρ, (c.argTypes[0]?).bind P.underlying with
      | some (.row ty l), some (.slice _) => .ok (I .i64 l.length)
      | some (.sc (.string s)), some .string => .ok (I .i64 s.size)
      | some (.sc (.slice none 0 0)), some (.slice _) => .ok (I .i64 0)
      | _, _ => .no
    | .builtin .min => match c.args.toList.map ρ with
      | [.sc (.int k x), .sc (.int k' y)] => .ok (I k (if y < x then y else x))
      | _ => .no
    | .builtin .max => match c.args.toList.map ρ with
      | [.sc (.int k x), .sc (.int k' y)] => .ok (I k (if y > x then y else x))
      | _ => .no
    | _ => .no
  | _ => .no

/-! ### that this is what the machine does -/
section
variable {P : Program} {μ : Nat → Value} {S : Nat → Prop} {w : World}

theorem toPtr_ok {off : Nat} {a b : AV} {u : Value} (h : toPtr off a = some b) (hu : VOK μ S w a u) : ∃ bl o, u = .pointer (some ⟨bl, o, none⟩) ∧ VOK μ S w b (.pointer (some ⟨bl, o + off, none⟩)) := by
  unfold toPtr at h
  split at h
  · cases h
    obtain ⟨bl, h1, h2⟩ := hu
    exact ⟨bl, _, h2, bl, h1, rfl⟩
  · cases h
    obtain ⟨bl, o, cs, h1, h2⟩ := hu
    exact ⟨bl, _, h1, bl, o, cs, by rw [Nat.add_assoc], h2⟩
  · cases h
    obtain ⟨bl, n, c, h1, h2⟩ := hu
    exact ⟨bl, _, h2, bl, n, c, h1, by rw [Nat.add_assoc]⟩
  · cases h

theorem isPtr_ok {a : AV} {u : Value} (h : isPtr a = true) (hu : VOK μ S w a u) : ∃ ad, u = .pointer (some ad) := by
  cases a <;> simp [isPtr] at h
  · obtain ⟨bl, h1, h2⟩ := hu; exact ⟨_, h2⟩
  · obtain ⟨bl, o, cs, h1, h2⟩ := hu; exact ⟨_, h1⟩
  · obtain ⟨bl, n, c, h1, h2⟩ := hu; exact ⟨_, h2⟩

theorem intBin_ok {op : BinOp} {t : TypeId} {k : IntKind} {a b : Int} (h1 : op ≠ .shl) (h2 : op ≠ .shr) : (intBin op k a b).sat fun av => ∃ v, (binOp op t (.int k a) (.int k b)).run P w = .ok v w ∧ VOK μ S w av v := by
  cases op <;> first
    | exact absurd rfl h1
    | exact absurd rfl h2
    | (refine ⟨_, ?_, rfl⟩; simp [binOp, Op.intArith, Op.intBits, Op.intCmp, go_sem]; done)
    | (intro hc; refine ⟨_, ?_, rfl⟩; simp at hc; simp [binOp, Op.intDiv, hc, go_sem]; done)
    | trivial
theorem shiftBin_ok {op : BinOp} {t : TypeId} {k k' : IntKind} {a b : Int} : (shiftBin op k a b).sat fun av => ∃ v, (binOp op t (.int k a) (.int k' b)).run P w = .ok v w ∧ VOK μ S w av v := by
  cases op <;> first
    | trivial
    | (intro hc
       refine ⟨_, ?_, rfl⟩
       have hb : ¬ b < 0 := by simp at hc; omega
       simp [binOp, Op.shift, hb, go_sem]; done)
theorem strBin_ok {op : BinOp} {t : TypeId} {x y : ByteArray} : (strBin op x y).sat fun av => ∃ v, (binOp op t (.string x) (.string y)).run P w = .ok v w ∧ VOK μ S w av v := by
  cases op <;> first
    | trivial
    | (refine ⟨_, ?_, rfl⟩; simp [binOp, Op.stringOp, go_sem]; done)
    | (intro hc
       refine ⟨_, ?_, rfl⟩
       have hb : ¬ ((x.size + y.size : Nat) : Int) > IntKind.i64.max := by
         have e : IntKind.i64.max = 9223372036854775807 := by decide
         have := of_decide_eq_true hc
         rw [e]; omega
       simp only [binOp, Op.stringOp, if_neg hb]
       simp [go_sem]; done)

/-- The operation hands this value back and touches nothing. -/
def Goes (P : Program) (ρ' : Operand → Value) (op : Op) (μ : Nat → Value) (S : Nat → Prop) (w : World) (av : AV) : Prop :=
  ∀ o : Oper, o.op = op → ∃ v, (execOp ρ' o).run P w = .ok (.value v) w ∧ VOK μ S w av v

theorem goes_of {ρ' : Operand → Value} {op : Op} {av : AV} {e : Sem Value} (he : ∀ o : Oper, o.op = op → execOp ρ' o = (do pure (.value (← e)))) (h : ∃ v, e.run P w = .ok v w ∧ VOK μ S w av v) : Goes P ρ' op μ S w av := by
  intro o ho
  obtain ⟨v, h1, h2⟩ := h
  exact ⟨v, by rw [he o ho]; simp [go_sem, h1], h2⟩

theorem PR.sat_mono {Q R : AV → Prop} (h : ∀ a, Q a → R a) : ∀ {r : PR}, r.sat Q → r.sat R
  | .no, _ => trivial
  | .ok a, k => h a k
  | .chk c a, k => fun hc => h a (k hc)

theorem guard_int {op : BinOp} {t : TypeId} {x y : Operand} {k k' : IntKind} {a b : Int} : (eqGuard op t x y (.int k a) (.int k' b)).run P w = .ok () w := by
  cases op <;> simp [eqGuard, go_sem]
theorem guard_str {op : BinOp} {t : TypeId} {x y : Operand} {a b : ByteArray} : (eqGuard op t x y (.string a) (.string b)).run P w = .ok () w := by
  cases op <;> simp [eqGuard, go_sem]
theorem guard_bool {op : BinOp} {t : TypeId} {x y : Operand} {a b : Bool} : (eqGuard op t x y (.bool a) (.bool b)).run P w = .ok () w := by
  cases op <;> simp [eqGuard, go_sem]
theorem guard_ptr {op : BinOp} {t : TypeId} {x y : Operand} {a b : Option Addr} : (eqGuard op t x y (.pointer a) (.pointer b)).run P w = .ok () w := by
  cases op <;> simp [eqGuard, go_sem]

theorem guard_sl {op : BinOp} {t : TypeId} {x y : Operand} {a b : Option Addr} {n c m d : Nat} : (eqGuard op t x y (.slice a n c) (.slice b m d)).run P w = .ok () w := by
  cases op <;> simp [eqGuard, go_sem]
theorem run_und {t : TypeId} {d : TypeDesc} (h : P.underlying t = some d) : (underlying t).run P w = .ok d w := by
  simp [underlying, go_sem, h]
theorem run_sz {t : TypeId} {n : Nat} (h : szT P t = some n) : (sizeOf t).run P w = .ok n w := by
  unfold szT at h
  obtain ⟨i, h1, h2⟩ := Option.map_eq_some_iff.1 h
  simp [sizeOf, typeInfo, go_sem, h1, h2]
theorem run_isAgg {t : TypeId} {d : TypeDesc} (h : P.underlying t = some d) : (isAgg t).run P w = .ok (isAggT P t) w := by
  unfold isAggT
  simp only [isAgg, Sem.run_bind, run_und h, Result.andThen_ok, h]
  cases d <;> simp [go_sem]

theorem equalIn_bool {t : TypeId} {a b : Bool} (h : P.underlying t = some .bool) (d : Nat) : (Op.equalIn (d + 1) t (.bool a) (.bool b)).run P w = .ok (a == b) w := by
  simp only [Op.equalIn, Sem.run_bind, run_und h, Result.andThen_ok]
  simp [go_sem]
theorem equalIn_nil {t e : TypeId} {b : Option Addr} (h : P.underlying t = some (.pointer e)) (d : Nat) : (Op.equalIn (d + 1) t (.pointer none) (.pointer b)).run P w = .ok b.isNone w := by
  simp only [Op.equalIn, Sem.run_bind, run_und h, Result.andThen_ok]
  simp [go_sem]
theorem equalIn_ptr {t e : TypeId} {a : Addr} (h : P.underlying t = some (.pointer e)) (d : Nat) : (Op.equalIn (d + 1) t (.pointer (some a)) (.pointer none)).run P w = .ok false w := by
  simp only [Op.equalIn, Sem.run_bind, run_und h, Result.andThen_ok]
  simp [go_sem]
theorem equalIn_sl0 {t e : TypeId} {b : Option Addr} {n c m d : Nat} (h : P.underlying t = some (.slice e)) (k : Nat) : (Op.equalIn (k + 1) t (.slice none n c) (.slice b m d)).run P w = .ok b.isNone w := by
  simp only [Op.equalIn, Sem.run_bind, run_und h, Result.andThen_ok]
  simp [go_sem]
theorem equalIn_sl1 {t e : TypeId} {a : Option Addr} {n c m d : Nat} (h : P.underlying t = some (.slice e)) (k : Nat) : (Op.equalIn (k + 1) t (.slice a n c) (.slice none m d)).run P w = .ok a.isNone w := by
  cases a with
  | none => exact equalIn_sl0 h k
  | some a =>
    simp only [Op.equalIn, Sem.run_bind, run_und h, Result.andThen_ok]
    simp [go_sem]
theorem equal_of {t : TypeId} {x y : Value} {r : Bool} (h : ∀ d, (Op.equalIn (d + 1) t x y).run P w = .ok r w) : (Op.equal t x y).run P w = .ok r w := h 9999

end
end Go.Proofs.YtigekmmdflaeaaaDoorE
