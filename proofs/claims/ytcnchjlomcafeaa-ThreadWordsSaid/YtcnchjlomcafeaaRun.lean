/- Runs of operations that change no memory, reckoned by one function over what is known of slots and cells. -/
import Derived.Test.YtcnchjlomcafeaaDefer
set_option linter.unusedVariables false
set_option linter.unusedSimpArgs false
set_option linter.unusedSectionVars false
namespace Go.Proofs.Ytcnchjlomcafeaa.B
open Go Go.RowKit

/-! ### what is known -/
/-- Of a struct's making: the cells of its zero, and its places. -/
def BL (P : Program) (t : TypeId) (z : Array Value) (pl : Array (Nat × Nat)) : Prop := ∀ ps cells w, Instr.fill (pl[·]?) z ps = some cells → (Instr.build t ps.toArray).run P w = .ok (.agg cells) w
structure TE (P : Program) where
  t : Nat
  d : TypeDesc
  sz : Nat
  ag : Bool
  u : UT P t d
  s : SZ P t sz
  a : AG P t ag
  z : Option (Array Value × Array (Nat × Nat))
  b : ∀ q, z = some q → BL P t q.1 q.2
theorem BL.mk {P : Program} {t : TypeId} {zv : Value} {z : Array Value} {fs : Array Field} {pl : Array (Nat × Nat)} (hz : ZR P t zv) (hzv : zv.cells = z) (hu : UT P t (.struct fs))
    (hp : ∀ w, (fs.mapM fun f => do pure (f.offset, ← sizeOf f.type) : Sem (Array (Nat × Nat))).run P w = .ok pl w) : BL P t z pl := by
  intro ps cells w hf
  subst hzv
  unfold Instr.build
  rw [Sem.run_bind, hz w, Result.andThen_ok]
  show ((underlying t >>= _ : Sem Value)).run P w = _
  rw [Sem.run_bind, hu w, Result.andThen_ok]
  show ((_ >>= _ : Sem Value)).run P w = _
  rw [Sem.run_bind, hp w, Result.andThen_ok]
  simp only [hf]
  rfl
section
variable {P : Program}
def tget : List (TE P) → Nat → Option (TE P)
  | [], _ => none
  | e :: r, t => bif Nat.beq e.t t then some e else tget r t
theorem tget_t {T : List (TE P)} {t : Nat} {e : TE P} (h : tget T t = some e) : e.t = t := by
  induction T with
  | nil => cases h
  | cons x r ih =>
    simp only [tget] at h
    cases hb : Nat.beq x.t t
    · rw [hb] at h; exact ih h
    · rw [hb] at h; cases h; exact Nat.eq_of_beq_eq_true hb
end
structure Base where
  a : Addr
  cs : List Value
def bget (M : List Base) (i : Nat) : Base := M.getD i ⟨⟨0, 0, none⟩, []⟩
/-- A value, or a place: so far behind a base. -/
inductive CV
  | v (x : Value)
  | p (i off : Nat)
def CV.den (M : List Base) : CV → Value
  | .v x => x
  | .p i off => .pointer (some ((bget M i).a.add off))
/-- An index that was held against its bounds: of a slice, of an array. -/
inductive Ix
  | s (slot base : Nat) (A : Option Addr) (m c : Nat) (i : Int) (sz : Nat) (p : Addr) (h : Pl A sz i p) (g : 0 ≤ i ∧ i < (m : Int))
  | a (slot base : Nat) (b o m : Nat) (i : Int) (g : 0 ≤ i ∧ i < (m : Int))
  | p (slot base off : Nat)
def Ix.slot : Ix → Nat
  | .s d .. => d
  | .a d .. => d
  | .p d .. => d
def xget : List Ix → Nat → Option Ix
  | [], _ => none
  | e :: r, t => bif Nat.beq e.slot t then some e else xget r t
/-- A slot that an operation has written: under which guards, what; and what must be the same for that. -/
structure GE where
  slot : Nat
  path : List (Nat × Bool)
  c : Bool
  x : CV
  ob : List (Value × Value)
def GE.val (M : List Base) (e : GE) : Value := match e.path with
  | [] => e.x.den M
  | _ => bif e.c then e.x.den M else undef
def gden (M : List Base) (Γ : List GE) : Env := Γ.map fun e => (e.slot, e.val M)
def gfind : List GE → Nat → Option (Nat × GE)
  | [], _ => none
  | e :: r, t => bif Nat.beq e.slot t then some (r.length, e) else gfind r t
def gat : List GE → Nat → Option GE
  | [], _ => none
  | e :: r, k => bif Nat.beq r.length k then some e else gat r k
def lfind : Env → Nat → Option Value
  | [], _ => none
  | p :: r, t => bif Nat.beq p.1 t then some p.2 else lfind r t
def sfind : List (Nat × Nat × Nat) → Nat → Option (Nat × Nat)
  | [], _ => none
  | p :: r, t => bif Nat.beq p.1 t then some p.2 else sfind r t
structure Cx (P : Program) where
  n : Nat
  ol : List Oper
  T : List (TE P)
  M : List Base
  may : Nat → Bool
  S : List (Nat × Nat × Nat)
  ix : List Ix
  sg : List (Nat × Nat × List Value)
  L : Env

/-! ### reckoning -/
def qeq (q r : Nat × Bool) : Bool := Nat.beq q.1 r.1 && (bif q.2 then r.2 else !r.2)
def sub_ (ρ π : List (Nat × Bool)) : Bool := ρ.all fun q => π.any (qeq q)
section
variable {P : Program}
def rdo (X : Cx P) (Γ : List GE) (π : List (Nat × Bool)) : Operand → Option CV
  | .const v => some (.v v)
  | .tmp t => bif Nat.blt t X.n then (match gfind Γ t with
      | some q => bif sub_ q.2.path π then some q.2.x else none
      | none => match sfind X.S t with
        | some q => some (.p q.1 q.2)
        | none => match lfind X.L t with
          | some v => some (.v v)
          | none => none) else none
  | _ => none
def kn : IntKind → Nat
  | .i8 => 0 | .i16 => 1 | .i32 => 2 | .i64 => 3 | .u8 => 4 | .u16 => 5 | .u32 => 6 | .u64 => 7
theorem kn_inj {k k' : IntKind} (h : Nat.beq (kn k) (kn k') = true) : k = k' := by
  have := Nat.eq_of_beq_eq_true h
  cases k <;> cases k' <;> first | rfl | (simp [kn] at this)
def wr (k : IntKind) (x : Int) : Int := match k with
  | .i64 => wrap64 x | .i32 => wrap32 x | .u8 => x % 256 | .u16 => x % 65536 | .u32 => x % 4294967296 | .u64 => x % 18446744073709551616 | .i16 => wrap16 x | .i8 => IntKind.i8.wrap x
theorem wr_eq (k : IntKind) (x : Int) : k.wrap x = wr k x := by
  cases k
  · rfl
  · exact wrap_i16 x
  · exact wrap_i32 x
  · exact wrap_i64 x
  · exact wrap_u8 x
  · exact wrap_u16 x
  · exact wrap_u32 x
  · exact wrap_u64 x
def nneg : Int → Bool
  | .ofNat _ => true
  | .negSucc _ => false
def nzero : Int → Bool
  | .ofNat 0 => false
  | _ => true
theorem nneg_ok {b : Int} (h : nneg b = true) : 0 ≤ b := by
  cases b with
  | ofNat n => exact Int.natCast_nonneg n
  | negSucc n => cases h
theorem nzero_ok {b : Int} (h : nzero b = true) : b ≠ 0 := by
  rintro rfl
  cases h
def isBool : TypeDesc → Bool
  | .bool => true
  | _ => false
/-- Operators. -/
def sameK (k k' : IntKind) : Bool := Nat.beq (kn k) (kn k')
def bopI (op : BinOp) (k : IntKind) (a : Int) (k' : IntKind) (b : Int) : Option Value := match op with
    | .shl => bif nneg b then some (.int k (wr k (a * 2 ^ (min b.toNat k.bits)))) else none
    | .shr => bif nneg b then some (.int k (a / 2 ^ (min b.toNat k.bits))) else none
    | .add => bif sameK k k' then some (.int k (wr k (a + b))) else none
    | .sub => bif sameK k k' then some (.int k (wr k (a - b))) else none
    | .mul => bif sameK k k' then some (.int k (wr k (a * b))) else none
    | .quo => bif sameK k k' && nzero b then some (.int k (wr k (Int.tdiv a b))) else none
    | .rem => bif sameK k k' && nzero b then some (.int k (Int.tmod a b)) else none
    | .and => bif sameK k k' then some (.int k (bits .and k a b)) else none
    | .or => bif sameK k k' then some (.int k (bits .or k a b)) else none
    | .xor => bif sameK k k' then some (.int k (bits .xor k a b)) else none
    | .andNot => bif sameK k k' then some (.int k (bits .andNot k a b)) else none
    | .eql => bif sameK k k' then some (.bool (decide (a = b))) else none
    | .neq => bif sameK k k' then some (.bool (!decide (a = b))) else none
    | .lss => bif sameK k k' then some (.bool (decide (a < b))) else none
    | .leq => bif sameK k k' then some (.bool (decide (a ≤ b))) else none
    | .gtr => bif sameK k k' then some (.bool (decide (a > b))) else none
    | .geq => bif sameK k k' then some (.bool (decide (a ≥ b))) else none
def bopB (T : List (TE P)) (xt : Nat) (op : BinOp) (a b : Bool) : Option Value := match tget T xt with
    | some e => bif isBool e.d then (match op with
      | .eql => some (.bool (a == b))
      | .neq => some (.bool (!(a == b)))
      | _ => none) else none
    | none => none
def bopS (op : BinOp) (a b : ByteArray) : Option Value := match op with
    | .eql => some (.bool (a.toList == b.toList))
    | .neq => some (.bool (!(a.toList == b.toList)))
    | _ => none
def bop (T : List (TE P)) (xt : Nat) (op : BinOp) (v1 v2 : Value) : Option Value := match v1 with
  | .int k a => (match v2 with | .int k' b => bopI op k a k' b | _ => none)
  | .bool a => (match v2 with | .bool b => bopB T xt op a b | _ => none)
  | .string a => (match v2 with | .string b => bopS op a b | _ => none)
  | _ => none
theorem fdivp (a : Int) (m : Nat) : a.fdiv (2 ^ m) = a / 2 ^ m := by
  refine Int.fdiv_eq_ediv_of_nonneg a ?_
  exact Int.le_of_lt (Int.pow_pos (by decide))
theorem condE {b : Bool} {v : Value} {o : Option Value} (h : (bif b then o else none) = some v) : b = true ∧ o = some v := by
  cases b
  · cases h
  · exact ⟨rfl, h⟩
theorem bopI_ok {xt : Nat} {op : BinOp} {k k' : IntKind} {a b : Int} {v : Value} {x y : Operand} {w : World} (h : bopI op k a k' b = some v) :
    (do eqGuard op xt x y (.int k a) (.int k' b); binOp op xt (.int k a) (.int k' b) : Sem Value).run P w = .ok v w := by
  have main : sameK k k' = true → k' = k := fun h => (kn_inj h).symm
  have and2 : ∀ {p q : Bool}, (p && q) = true → p = true ∧ q = true := fun h => by simpa using h
  cases op <;> obtain ⟨h1, h2⟩ := condE h
  case shl => cases h2; exact r_shl (nneg_ok h1) (wr_eq _ _)
  case shr => cases h2; exact r_shr (nneg_ok h1) (fdivp _ _)
  case quo => cases h2; obtain ⟨h1, h3⟩ := and2 h1; cases main h1; exact r_div (op := .not) (nzero_ok h3) (wr_eq _ _)
  case rem => cases h2; obtain ⟨h1, h3⟩ := and2 h1; cases main h1; exact r_rem (nzero_ok h3) rfl
  all_goals cases h2
  all_goals cases main h1
  case add => exact r_add (wr_eq _ _)
  case sub => exact r_sub (wr_eq _ _)
  case mul => exact r_mul (wr_eq _ _)
  case and => exact r_bits (by simp) rfl
  case or => exact r_bits (by simp) rfl
  case xor => exact r_bits (by simp) rfl
  case andNot => exact r_bits (by simp) rfl
  case eql => exact r_eql rfl
  case neq => exact r_neq rfl
  case lss => exact r_lss rfl
  case leq => exact r_leq rfl
  case gtr => exact r_gtr rfl
  case geq => exact r_geq rfl
theorem bop_ok {T : List (TE P)} {xt : Nat} {op : BinOp} {v1 v2 v : Value} {x y : Operand} {w : World} (h : bop T xt op v1 v2 = some v) :
    (do eqGuard op xt x y v1 v2; binOp op xt v1 v2 : Sem Value).run P w = .ok v w := by
  cases v1 <;> first | (cases h; done) | skip
  case int k a => cases v2 <;> first | (cases h; done) | exact bopI_ok h
  case bool a =>
    cases v2 <;> first | (cases h; done) | skip
    rename_i b
    simp only [bop, bopB] at h
    split at h
    · rename_i e he
      obtain ⟨h1, h2⟩ := condE h
      have hu : UT P xt .bool := by
        have h3 := e.u
        have h4 : e.d = .bool := by cases hd : e.d <;> rw [hd] at h1 <;> first | rfl | cases h1
        rw [h4, tget_t he] at h3; exact h3
      cases op <;> first | (cases h2; done) | skip
      · cases h2; exact r_eqb hu rfl
      · cases h2; exact r_neb hu rfl
    · cases h
  case string a =>
    cases v2 <;> first | (cases h; done) | skip
    rename_i b
    simp only [bop, bopS] at h
    cases op <;> first | (cases h; done) | skip
    · cases h; exact r_streq rfl
    · cases h; exact r_strne rfl
/-! ### one operation -/
abbrev Got := Option (CV × List (Value × Value))
def nob : Option CV → Got
  | some c => some (c, [])
  | none => none
def vob : Option Value → Got
  | some v => some (.v v, [])
  | none => none
theorem nobE {o : Option CV} {q : CV × List (Value × Value)} (h : nob o = some q) : o = some q.1 := by
  cases o with
  | none => cases h
  | some c => cases h; rfl
theorem vobE {o : Option Value} {q : CV × List (Value × Value)} (h : vob o = some q) : ∃ v, o = some v ∧ q.1 = .v v := by
  cases o with
  | none => cases h
  | some c => cases h; exact ⟨c, rfl, rfl⟩
/-- A value that is read. -/
def val1 : Option CV → Option Value
  | some (.v v) => some v
  | _ => none
theorem val1E {o : Option CV} {v : Value} (h : val1 o = some v) : o = some (.v v) := by
  cases o with
  | none => cases h
  | some c => cases c with
    | v x => cases h; rfl
    | p i off => cases h
/-- Is an operand this bool, as it stands? -/
def isC (u : Bool) : Operand → Bool
  | .const (.bool true) => u
  | .const (.bool false) => !u
  | _ => false
def pickB (x y : Operand) (b c e : Bool) : Bool := match isC true x with
  | true => b || e
  | false => match isC false y with
    | true => b && c
    | false => bif b then c else e
theorem isC_ok {X : Cx P} {Γ : List GE} {π : List (Nat × Bool)} {x : Operand} {u c : Bool} (h : isC u x = true) (hc : val1 (rdo X Γ π x) = some (.bool c)) : c = u := by
  unfold isC at h
  split at h
  · subst h; simp only [rdo, val1, Option.some.injEq, Value.bool.injEq] at hc; exact hc.symm
  · have : u = false := by simpa using h
    subst this; simp only [rdo, val1, Option.some.injEq, Value.bool.injEq] at hc; exact hc.symm
  · cases h
def evPick (X : Cx P) (Γ : List GE) (π : List (Nat × Bool)) (z x y : Operand) : Option Value := match z with
  | .tmp t => bif Nat.blt t X.n then (match gfind Γ t with
    | some q => bif sub_ q.2.path π then (match q.2.x with
      | .v (.bool b) => (match val1 (rdo X Γ (π ++ [(q.1, true)]) x) with
        | some (.bool c) => (match val1 (rdo X Γ (π ++ [(q.1, false)]) y) with
          | some (.bool e) => some (.bool (pickB x y b c e))
          | _ => none)
        | _ => none)
      | _ => none) else none
    | none => none) else none
  | _ => none
def evConv (X : Cx P) (s d : Nat) : Option Value → Option Value
  | some (.int k a) => match tget X.T s with
    | some _ => match tget X.T d with
      | some e => match e.d with
        | .int k' => some (.int k' (wr k' a))
        | _ => none
      | none => none
    | none => none
  | _ => none
/-- Cells that stand behind others, at a place of a base. -/
def sget : List (Nat × Nat × List Value) → Nat → Nat → Nat → Option (List Value)
  | [], _, _, _ => none
  | s :: r, i, off, sz => bif Nat.beq s.1 i && (Nat.ble s.2.1 off && Nat.ble (off + sz) (s.2.1 + s.2.2.length)) then some (s.2.2.drop (off - s.2.1)) else sget r i off sz
def evCells (e : TE P) (l : List Value) : Option Value := bif e.ag then (bif Nat.beq (l.take e.sz).length e.sz then some (.agg (l.take e.sz).toArray) else none) else l[0]?
def evLoad (X : Cx P) (t : Nat) : Option CV → Option Value
  | some (.p i off) => match tget X.T t with
    | some e => match sget X.sg i off e.sz with
      | some l => evCells e l
      | none => bif X.may i then evCells e ((bget X.M i).cs.drop off) else none
    | none => none
  | _ => none
def evFA (X : Cx P) (s f : Nat) : Option CV → Option CV
  | some (.p i off) => match tget X.T s with
    | some e => match e.d with
      | .struct fs => match fs.toList[f]? with
        | some fd => match tget X.T fd.type with
          | some e2 => bif Nat.beq e2.sz 0 then none else some (.p i (off + fd.offset))
          | none => none
        | none => none
      | _ => none
    | none => none
  | _ => none
def evField (X : Cx P) (s f : Nat) : Option Value → Option Value
  | some (.agg cs) => match tget X.T s with
    | some e => match e.d with
      | .struct fs => match fs.toList[f]? with
        | some fd => match tget X.T fd.type with
          | some e2 => bif e2.ag then some (.agg ((cs.toList.drop fd.offset).take e2.sz).toArray) else cs.toList[fd.offset]?
          | none => none
        | none => none
      | _ => none
    | none => none
  | _ => none
def evExt (i : Nat) : Option Value → Option Value
  | some (.tuple vs) => vs.toList[i]?
  | _ => none
def evParts (X : Cx P) (Γ : List GE) (π : List (Nat × Bool)) : List (Nat × Operand) → Option (List (Nat × Value))
  | [] => some []
  | p :: r => match val1 (rdo X Γ π p.2) with
    | some v => match evParts X Γ π r with
      | some l => some ((p.1, v) :: l)
      | none => none
    | none => none
def evBuild (X : Cx P) (t : Nat) : Option (List (Nat × Value)) → Option Value
  | some l => match tget X.T t with
    | some e => match e.z with
      | some q => match Instr.fill (q.2[·]?) q.1 l with
        | some cells => some (.agg cells)
        | none => none
      | none => none
    | none => none
  | none => none
def evLen (X : Cx P) (t : Nat) : Option Value → Option Value
  | some (.slice A m c) => match tget X.T t with
    | some e => match e.d with
      | .slice _ => some (.int .i64 m)
      | _ => none
    | none => none
  | some (.string s) => match tget X.T t with
    | some e => match e.d with
      | .string => some (.int .i64 s.size)
      | _ => none
    | none => none
  | _ => none
def evIx (X : Cx P) (d t : Nat) (x : Option CV) (y : Option Value) : Got := match xget X.ix d with
  | some (.s _ base A m c i sz p h g) => (match x with
    | some (.v v) => (match y with
      | some (.int k j) => (match tget X.T t with
        | some e => (match e.d with
          | .slice el => (match tget X.T el with
            | some e2 => bif Nat.beq e2.sz sz then some (.p base 0, [(v, .slice A m c), (.int k j, .int k i), (.pointer (some (bget X.M base).a), .pointer (some p))]) else none
            | none => none)
          | _ => none)
        | none => none)
      | _ => none)
    | _ => none)
  | some (.a _ base b o m i g) => (match x with
    | some (.p i0 off) => (match y with
      | some (.int k j) => (match tget X.T t with
        | some e => (match e.d with
          | .array m' el => (match tget X.T el with
            | some e2 => bif Nat.beq m' m then some (.p base 0, [(.pointer (some ((bget X.M i0).a.add off)), .pointer (some ⟨b, o, none⟩)), (.int k j, .int k i), (.pointer (some (bget X.M base).a), .pointer (some ⟨b, o + i.toNat * e2.sz, none⟩))]) else none
            | none => none)
          | _ => none)
        | none => none)
      | _ => none)
    | _ => none)
  | some (.p ..) => none
  | none => none
/-- A place that is loaded. -/
def evPl (X : Cx P) (d : Nat) (v : Value) : CV × List (Value × Value) := match xget X.ix d with
  | some (.p _ i off) => (.p i off, [(v, (CV.p i off).den X.M)])
  | _ => (.v v, [])
def evLd (X : Cx P) (d : Nat) : Option Value → Got
  | some v => some (evPl X d v)
  | none => none
def ev (X : Cx P) (Γ : List GE) (π : List (Nat × Bool)) (d : Nat) : Op → Got
  | .move x => nob (rdo X Γ π x)
  | .assign x => nob (rdo X Γ π x)
  | .pick z x y => vob (evPick X Γ π z x y)
  | .binOp op xt x y _ => vob (match val1 (rdo X Γ π x) with
    | some a => (match val1 (rdo X Γ π y) with
      | some b => bop X.T xt op a b
      | none => none)
    | none => none)
  | .unOp op _ x => vob (match op with
    | .not => (match val1 (rdo X Γ π x) with
      | some (.bool b) => some (.bool (!b))
      | _ => none)
    | .neg => (match val1 (rdo X Γ π x) with
      | some (.int k a) => some (.int k (wr k (0 - a)))
      | _ => none)
    | _ => none)
  | .convert s t x => vob (evConv X s t (val1 (rdo X Γ π x)))
  | .load t x => evLd X d (evLoad X t (rdo X Γ π x))
  | .fieldAddr s x f => nob (evFA X s f (rdo X Γ π x))
  | .field s x f => vob (evField X s f (val1 (rdo X Γ π x)))
  | .extract x i => vob (evExt i (val1 (rdo X Γ π x)))
  | .build t ps => vob (evBuild X t (evParts X Γ π ps.toList))
  | .nilCheck x => match rdo X Γ π x with
    | some (.p i off) => some (.p i off, [])
    | _ => none
  | .indexAddr t x y => evIx X d t (rdo X Γ π x) (val1 (rdo X Γ π y))
  | .call c => match c.callee with
    | .builtin .len => (match c.args.toList with
      | [x] => (match c.argTypes.toList with
        | [t] => vob (evLen X t (val1 (rdo X Γ π x)))
        | _ => none)
      | _ => none)
    | _ => none
  | _ => none
def holds (Γ : List GE) (q : Nat × Bool) : Prop := ∃ e b, gat Γ q.1 = some e ∧ e.x = .v (.bool b) ∧ b = q.2
structure Snd (X : Cx P) (Γ : List GE) (a : Act) (w : World) : Prop where
  rd : ∀ π x cv, rdo X Γ π x = some cv → (∀ q ∈ π, holds Γ q) → a.eval x = cv.den X.M
  at_ : ∀ i, X.may i = true → CellsAt w (bget X.M i).a (bget X.M i).cs
  sg : ∀ s ∈ X.sg, CellsAt w ((bget X.M s.1).a.add s.2.1) s.2.2
  gt : ∀ t q, gfind Γ t = some q → gat Γ q.1 = some q.2
section
variable {X : Cx P} {Γ : List GE} {a : Act} {w : World} {π : List (Nat × Bool)} {d : Nat} {dst : Option Tmp} {ty : TypeId} {pos : String} {af : Array Edge} {gd : Option (Nat × Bool)}
theorem Snd.v1 (S : Snd X Γ a w) {x : Operand} {v : Value} (h : val1 (rdo X Γ π x) = some v) (hp : ∀ q ∈ π, holds Γ q) : a.eval x = v := S.rd π x _ (val1E h) hp
theorem sget_at {M : List Base} : ∀ {sg : List (Nat × Nat × List Value)} {i off sz : Nat} {l : List Value}, sget sg i off sz = some l → (∀ s ∈ sg, CellsAt w ((bget M s.1).a.add s.2.1) s.2.2) → CellsAt w ((bget M i).a.add off) l
  | [], i, off, sz, l, h, _ => by cases h
  | s :: r, i, off, sz, l, h, hs => by
    simp only [sget] at h
    cases hb : Nat.beq s.1 i && (Nat.ble s.2.1 off && Nat.ble (off + sz) (s.2.1 + s.2.2.length))
    · rw [hb] at h
      exact sget_at h fun s hs' => hs s (List.mem_cons_of_mem _ hs')
    · rw [hb] at h
      cases h
      simp only [Bool.and_eq_true] at hb
      have h1 := Nat.eq_of_beq_eq_true hb.1
      have h2 := Nat.le_of_ble_eq_true hb.2.1
      subst h1
      have h3 := hs s (List.mem_cons_self ..)
      intro j u hu
      rw [List.getElem?_drop] at hu
      have := h3 _ u hu
      rw [add_add] at this ⊢
      rwa [show s.2.1 + (off - s.2.1 + j) = off + j by omega] at this
theorem Snd.sgAt (S : Snd X Γ a w) {i off sz : Nat} {l : List Value} (h : sget X.sg i off sz = some l) : CellsAt w ((bget X.M i).a.add off) l := sget_at h S.sg
theorem evPick_ok (S : Snd X Γ a w) (hp : ∀ q ∈ π, holds Γ q) {z x y : Operand} {v : Value} (h : evPick X Γ π z x y = some v) : (execOp a.eval ⟨dst, .pick z x y, ty, pos, af, gd⟩).run P w = .ok (.value v) w := by
  unfold evPick at h
  split at h
  · rename_i t
    obtain ⟨hn, h⟩ := condE h
    split at h
    · rename_i q hq
      obtain ⟨hs, h⟩ := condE h
      split at h
      · rename_i b hb
        split at h
        · rename_i c hc
          split at h
          · rename_i e he
            cases h
            have hz : a.eval (.tmp t) = .bool b := by
              have := S.rd π (.tmp t) q.2.x (by simp only [rdo, hn, hq, hs, cond_true]) hp
              rw [this, hb]; rfl
            have ext : ∀ u, b = u → ∀ r ∈ π ++ [(q.1, u)], holds Γ r := by
              intro u hu r hr
              rcases List.mem_append.1 hr with hr | hr
              · exact hp r hr
              · rw [List.mem_singleton] at hr
                subst hr
                exact ⟨q.2, b, S.gt t q hq, hb, hu⟩
            refine e_pick (v1 := .bool c) (v2 := .bool e) hz (fun hu => S.v1 hc (ext true hu)) (fun hu => S.v1 he (ext false hu)) ?_
            unfold pickB
            split
            · rename_i h1; rw [isC_ok h1 hc]; cases b <;> rfl
            · split
              · rename_i h1; rw [isC_ok h1 he]; cases b <;> simp
              · cases b <;> rfl
          · cases h
        · cases h
      · cases h
    · cases h
  · cases h
theorem evParts_ok (S : Snd X Γ a w) (hp : ∀ q ∈ π, holds Γ q) : ∀ {ps : List (Nat × Operand)} {l : List (Nat × Value)}, evParts X Γ π ps = some l → EvP a.eval ps l
  | [], l, h => by cases h; exact .nil
  | p :: r, l, h => by
    simp only [evParts] at h
    split at h
    · rename_i v hv
      split at h
      · rename_i l' hl
        cases h
        obtain ⟨i, x⟩ := p
        exact .cons (S.v1 hv hp) (evParts_ok S hp hl)
      · cases h
    · cases h
theorem fs_at {fs : Array Field} {f : Nat} {fd : Field} (h : fs.toList[f]? = some fd) : fs[f]? = some fd := by simpa using h
theorem TE.uu {T : List (TE P)} {t : Nat} {e : TE P} {D : TypeDesc} (h : tget T t = some e) (hd : e.d = D) : UT P t D := by have := e.u; rw [hd, tget_t h] at this; exact this
theorem TE.ss {T : List (TE P)} {t : Nat} {e : TE P} (h : tget T t = some e) : SZ P t e.sz := by have := e.s; rw [tget_t h] at this; exact this
theorem TE.aa {T : List (TE P)} {t : Nat} {e : TE P} {b : Bool} (h : tget T t = some e) (hb : e.ag = b) : AG P t b := by have := e.a; rw [tget_t h, hb] at this; exact this
theorem ev_ok (S : Snd X Γ a w) (hp : ∀ q ∈ π, holds Γ q) {op : Op} {q : CV × List (Value × Value)} (h : ev X Γ π d op = some q) (ho : ∀ p ∈ q.2, p.1 = p.2) :
    (execOp a.eval ⟨dst, op, ty, pos, af, gd⟩).run P w = .ok (.value (q.1.den X.M)) w := by
  cases op <;> try (cases h; done)
  case move x => exact e_move (S.rd π x _ (nobE h) hp)
  case assign x => exact e_assign (S.rd π x _ (nobE h) hp)
  case pick z x y =>
    obtain ⟨v, h1, h2⟩ := vobE h
    rw [h2]; exact evPick_ok S hp h1
  case binOp op xt x y yt =>
    obtain ⟨v, h1, h2⟩ := vobE h
    rw [h2]
    split at h1
    · rename_i v1 hv1
      split at h1
      · rename_i v2 hv2
        exact e_bin (S.v1 hv1 hp) (S.v1 hv2 hp) (bop_ok h1)
      · cases h1
    · cases h1
  case unOp op xt x =>
    obtain ⟨v, h1, h2⟩ := vobE h
    rw [h2]
    cases op <;> first | (cases h1; done) | skip
    · simp only [] at h1
      split at h1
      · rename_i v1 hv1; cases h1; exact e_un (S.v1 hv1 hp) (r_neg (wr_eq _ _))
      · cases h1
    · simp only [] at h1
      split at h1
      · rename_i v1 hv1; cases h1; exact e_un (S.v1 hv1 hp) (r_not rfl)
      · cases h1
  case convert s t x =>
    obtain ⟨v, h1, h2⟩ := vobE h
    rw [h2]
    unfold evConv at h1
    split at h1
    · rename_i k c hc
      split at h1
      · rename_i e1 he1
        split at h1
        · rename_i e2 he2
          split at h1
          · rename_i k' hk'
            cases h1
            exact e_conv (S.v1 hc hp) (TE.uu he1 rfl) (TE.uu he2 hk') (wr_eq _ _)
          · cases h1
        · cases h1
      · cases h1
    · cases h1
  case load t x =>
    obtain ⟨v, h1, h2⟩ : ∃ v, evLoad X t (rdo X Γ π x) = some v ∧ q.1.den X.M = v := by
      simp only [ev] at h
      cases hv : evLoad X t (rdo X Γ π x) with
      | none => rw [hv] at h; cases h
      | some v =>
        rw [hv] at h
        refine ⟨v, rfl, ?_⟩
        simp only [evLd, evPl] at h
        split at h
        · cases h; exact (ho _ (List.mem_singleton.2 rfl)).symm
        · cases h; rfl
    rw [h2]
    unfold evLoad at h1
    split at h1
    · rename_i i off hx
      split at h1
      · rename_i e he
        have hx' := S.rd π x _ hx hp
        have key : ∀ l, CellsAt w ((bget X.M i).a.add off) l → evCells e l = some v → (execOp a.eval ⟨dst, .load t x, ty, pos, af, gd⟩).run P w = .ok (.value v) w := by
          intro l hc h1
          unfold evCells at h1
          cases hag : e.ag
          · rw [hag] at h1
            exact e_load1 hx' (TE.aa he hag) (cells_zero hc h1)
          · rw [hag] at h1
            obtain ⟨hl, h1⟩ := condE (h1 : (bif Nat.beq _ _ then _ else _) = _)
            cases h1
            refine e_loadA hx' (TE.aa he hag) (TE.ss he) (Nat.eq_of_beq_eq_true hl) ?_
            intro j u hu
            refine hc j u ?_
            rw [List.getElem?_take] at hu
            split at hu
            · exact hu
            · cases hu
        split at h1
        · rename_i l hl
          exact key l (S.sgAt hl) h1
        · obtain ⟨hm, h1⟩ := condE h1
          refine key _ ?_ h1
          intro j u hu
          rw [add_add]
          rw [List.getElem?_drop] at hu
          exact S.at_ i hm _ u hu
      · cases h1
    · cases h1
  case fieldAddr s x f =>
    have h1 := nobE h
    unfold evFA at h1
    split at h1
    · rename_i i off hx
      split at h1
      · rename_i e he
        split at h1
        · rename_i fs hfs
          split at h1
          · rename_i fd hfd
            split at h1
            · rename_i e2 he2
              cases hz : Nat.beq e2.sz 0
              · rw [hz] at h1
                injection h1 with h1
                rw [← h1]
                exact e_fieldAddr (S.rd π x _ hx hp) (TE.uu he hfs) (fs_at hfd) (TE.ss he2) hz (add_add _ _ _)
              · rw [hz] at h1; cases h1
            · cases h1
          · cases h1
        · cases h1
      · cases h1
    · cases h1
  case field s x f =>
    obtain ⟨v, h1, h2⟩ := vobE h
    rw [h2]
    unfold evField at h1
    split at h1
    · rename_i cs hx
      split at h1
      · rename_i e he
        split at h1
        · rename_i fs hfs
          split at h1
          · rename_i fd hfd
            split at h1
            · rename_i e2 he2
              cases hag : e2.ag
              · rw [hag] at h1
                exact e_field1 (cs := cs.toList) (S.v1 hx hp) (TE.uu he hfs) (fs_at hfd) (TE.aa he2 hag) h1
              · rw [hag] at h1
                cases h1
                exact e_fieldA (cs := cs.toList) (S.v1 hx hp) (TE.uu he hfs) (fs_at hfd) (TE.aa he2 hag) (TE.ss he2) rfl
            · cases h1
          · cases h1
        · cases h1
      · cases h1
    · cases h1
  case extract x i =>
    obtain ⟨v, h1, h2⟩ := vobE h
    rw [h2]
    unfold evExt at h1
    split at h1
    · rename_i vs hx
      exact e_extract (vs := vs.toList) (S.v1 hx hp) h1
    · cases h1
  case build t ps =>
    obtain ⟨v, h1, h2⟩ := vobE h
    rw [h2]
    unfold evBuild at h1
    split at h1
    · rename_i l hl
      split at h1
      · rename_i e he
        split at h1
        · rename_i qz hqz
          split at h1
          · rename_i cells hc
            cases h1
            have hb := e.b qz hqz
            rw [tget_t he] at hb
            exact e_build (ps := ps.toList) (vs := l) (cs := cells.toList) (evParts_ok S hp hl) (hb l cells w hc)
          · cases h1
        · cases h1
      · cases h1
    · cases h1
  case nilCheck x =>
    simp only [ev] at h
    split at h
    · rename_i i off hx
      cases h
      exact e_nilCheckP (S.rd π x _ hx hp)
    · cases h
  case indexAddr t x y =>
    simp only [ev, evIx] at h
    split at h
    · rename_i sl base A m c i sz p hh g hix
      split at h
      · rename_i v hx
        split at h
        · rename_i k j hy
          split at h
          · rename_i e he
            split at h
            · rename_i el hel
              split at h
              · rename_i e2 he2
                cases hz : Nat.beq e2.sz sz
                · rw [hz] at h; cases h
                · rw [hz] at h
                  cases h
                  have o1 := ho _ (List.mem_cons_self ..)
                  have o2 := ho _ (List.mem_cons_of_mem _ (List.mem_cons_self ..))
                  have o3 := ho _ (List.mem_cons_of_mem _ (List.mem_cons_of_mem _ (List.mem_cons_self ..)))
                  simp only at o1 o2 o3
                  have e1 : a.eval x = .slice A m c := (S.rd π x _ hx hp).trans o1
                  have e3 : a.eval y = .int k i := (S.v1 hy hp).trans o2
                  have e4 : (CV.p base 0).den X.M = .pointer (some p) := by
                    rw [← o3]; simp [CV.den, Addr.add]
                  rw [e4]
                  exact e_idx e1 e3 (TE.uu he hel) (Nat.eq_of_beq_eq_true hz ▸ TE.ss he2) hh g
              · cases h
            · cases h
          · cases h
        · cases h
      · cases h
    · rename_i sl base b o m i g hix
      split at h
      · rename_i i0 off hx
        split at h
        · rename_i k j hy
          split at h
          · rename_i e he
            split at h
            · rename_i m' el hel
              split at h
              · rename_i e2 he2
                cases hz : Nat.beq m' m
                · rw [hz] at h; cases h
                · rw [hz] at h
                  cases h
                  have hm := Nat.eq_of_beq_eq_true hz
                  subst hm
                  have o1 := ho _ (List.mem_cons_self ..)
                  have o2 := ho _ (List.mem_cons_of_mem _ (List.mem_cons_self ..))
                  have o3 := ho _ (List.mem_cons_of_mem _ (List.mem_cons_of_mem _ (List.mem_cons_self ..)))
                  simp only at o1 o2 o3
                  have e1 : a.eval x = .pointer (some ⟨b, o, none⟩) := (S.rd π x _ hx hp).trans o1
                  have e3 : a.eval y = .int k i := (S.v1 hy hp).trans o2
                  have e4 : (CV.p base 0).den X.M = .pointer (some ⟨b, o + i.toNat * e2.sz, none⟩) := by
                    rw [← o3]; simp [CV.den, Addr.add]
                  rw [e4]
                  exact e_aidx e1 e3 (TE.uu he hel) (TE.ss he2) g
              · cases h
            · cases h
          · cases h
        · cases h
      · cases h
    · cases h
    · cases h
  case call c =>
    obtain ⟨callee, cargs, cty⟩ := c
    simp only [ev] at h
    split at h
    · split at h
      · rename_i x hargs
        split at h
        · rename_i t hty
          obtain ⟨v, h1, h2⟩ := vobE h
          rw [h2]
          have ha : cargs = [x].toArray := by rw [← hargs]
          have hb : cty = #[t] := by rw [show cty = cty.toList.toArray from rfl, hty]
          subst ha; subst hb
          unfold evLen at h1
          split at h1
          · rename_i A m cc hx
            split at h1
            · rename_i e he
              split at h1
              · rename_i el hel
                cases h1
                exact e_builtin (.cons (S.v1 hx hp) .nil) (r_lens (TE.uu he hel))
              · cases h1
            · cases h1
          · rename_i s hx
            split at h1
            · rename_i e he
              split at h1
              · rename_i hel
                cases h1
                exact e_builtin (.cons (S.v1 hx hp) .nil) (r_lenstr (TE.uu he hel))
              · cases h1
            · cases h1
          · cases h1
        · cases h
      · cases h
    · cases h
end
/-! ### one behind the other -/
def gc : List (Nat × Bool) → Bool → Bool → Bool
  | [], _, f => f
  | _, c, f => c && f
def stepE (X : Cx P) (Γ : List GE) (o : Oper) : Option (List GE) := match o.dst with
  | none => none
  | some d => bif Nat.blt d X.n then (match o.guard with
    | none => (match ev X Γ [] d o.op with
      | some q => some (⟨d, [], true, q.1, q.2⟩ :: Γ)
      | none => none)
    | some g => (match dstAt X.ol g.1 with
      | some dj => bif Nat.blt dj X.n then (match gfind Γ dj with
        | some q => (match q.2.x with
          | .v (.bool b) => (match ev X Γ (q.2.path ++ [(q.1, g.2)]) d o.op with
            | some r => some (⟨d, q.2.path ++ [(q.1, g.2)], gc q.2.path q.2.c (bif g.2 then b else !b), r.1, r.2⟩ :: Γ)
            | none => none)
          | _ => none)
        | none => none) else none
      | none => none)) else none
def runE (X : Cx P) : List GE → List Oper → Option (List GE)
  | Γ, [] => some Γ
  | Γ, o :: r => match stepE X Γ o with
    | some Γ' => runE X Γ' r
    | none => none
def GOk : List GE → Prop
  | [] => True
  | e :: r => GOk r ∧ (∀ q ∈ e.path, q.1 < r.length) ∧ (e.path = [] ∨ (e.c = true ↔ ∀ q ∈ e.path, holds r q))
theorem gat_cons {e : GE} {r : List GE} {k : Nat} (h : k < r.length) : gat (e :: r) k = gat r k := by
  have : Nat.beq r.length k = false := by
    cases hb : Nat.beq r.length k
    · rfl
    · have := Nat.eq_of_beq_eq_true hb; omega
  simp [gat, this]
theorem gat_lt : ∀ {Γ : List GE} {k : Nat} {e : GE}, gat Γ k = some e → k < Γ.length
  | [], k, e, h => by cases h
  | x :: r, k, e, h => by
    simp only [gat] at h
    cases hb : Nat.beq r.length k
    · rw [hb] at h; have := gat_lt h; simp; omega
    · have := Nat.eq_of_beq_eq_true hb; simp; omega
theorem holds_cons {e : GE} {r : List GE} {q : Nat × Bool} (h : q.1 < r.length) : holds (e :: r) q ↔ holds r q := by
  unfold holds; rw [gat_cons h]
theorem gfind_at : ∀ {Γ : List GE} {t : Nat} {q : Nat × GE}, gfind Γ t = some q → gat Γ q.1 = some q.2
  | [], t, q, h => by cases h
  | x :: r, t, q, h => by
    simp only [gfind] at h
    cases hb : Nat.beq x.slot t
    · rw [hb] at h
      have h1 := gfind_at (h : gfind r t = some q)
      rw [gat_cons (gat_lt h1)]; exact h1
    · rw [hb] at h; cases h; simp [gat]
theorem qeq_eq {q r : Nat × Bool} (h : qeq q r = true) : q = r := by
  obtain ⟨a, b⟩ := q
  obtain ⟨c, d⟩ := r
  simp only [qeq, Bool.and_eq_true] at h
  have h1 := Nat.eq_of_beq_eq_true h.1
  subst h1
  cases b <;> cases d <;> simp at h ⊢
/-- What an entry tells, where its guards hold. -/
theorem g_val {M : List Base} : ∀ {Γ : List GE} {t : Nat} {q : Nat × GE} {π : List (Nat × Bool)}, GOk Γ → gfind Γ t = some q → (∀ r ∈ π, holds Γ r) → sub_ q.2.path π = true → q.2.val M = q.2.x.den M
  | [], t, q, π, _, h, _, _ => by cases h
  | x :: r, t, q, π, hk, h, hp, hs => by
    simp only [gfind] at h
    have hin : ∀ u ∈ q.2.path, holds (x :: r) u := by
      intro u hu
      have h1 := List.all_eq_true.1 hs u hu
      obtain ⟨v, hv, he⟩ := List.any_eq_true.1 h1
      rw [qeq_eq he]; exact hp v hv
    cases hb : Nat.beq x.slot t
    · rw [hb] at h
      refine g_val (π := q.2.path) hk.1 (h : gfind r t = some q) (fun u hu => ?_) (List.all_eq_true.2 fun u hu => List.any_eq_true.2 ⟨u, hu, ?_⟩)
      · have h1 := gfind_at (h : gfind r t = some q)
        exact (holds_cons (g_low hk.1 h1 u hu)).1 (hin u hu)
      · simp only [qeq, Nat.beq_refl, Bool.true_and]; cases u.2 <;> rfl
    · rw [hb] at h; cases h
      unfold GE.val
      cases hpth : x.path with
      | nil => rfl
      | cons a l =>
        have h2 := hk.2.2.resolve_left (by rw [hpth]; simp)
        have : x.c = true := h2.2 fun u hu => (holds_cons (hk.2.1 u hu)).1 (hin u hu)
        simp only [this, cond_true]
where
  g_low {Γ : List GE} (hk : GOk Γ) {k : Nat} {e : GE} (h : gat Γ k = some e) : ∀ q ∈ e.path, q.1 < Γ.length := by
    induction Γ with
    | nil => cases h
    | cons x r ih =>
      simp only [gat] at h
      cases hb : Nat.beq r.length k
      · rw [hb] at h
        intro q hq
        have := ih hk.1 h q hq
        simp; omega
      · rw [hb] at h; cases h
        intro q hq
        have := hk.2.1 q hq
        simp; omega
theorem ov_lfind {L : Env} {σ : Nat → Value} {t : Nat} {v : Value} (h : lfind L t = some v) : ov L σ t = v := by
  induction L with
  | nil => cases h
  | cons p r ih =>
    simp only [lfind] at h
    simp only [ov]
    cases hb : Nat.beq p.1 t
    · rw [hb] at h; exact ih h
    · rw [hb] at h; cases h; rfl
theorem ov_none {L : Env} {σ : Nat → Value} {t : Nat} (h : lfind L t = none) : ov L σ t = σ t := by
  induction L with
  | nil => rfl
  | cons p r ih =>
    simp only [lfind] at h
    simp only [ov]
    cases hb : Nat.beq p.1 t
    · rw [hb] at h; exact ih h
    · rw [hb] at h; cases h
theorem ov_gden {M : List Base} {L : Env} {σ : Nat → Value} {t : Nat} : ∀ {Γ : List GE}, ov (gden M Γ ++ L) σ t = match gfind Γ t with
    | some q => q.2.val M
    | none => ov L σ t
  | [] => rfl
  | x :: r => by
    simp only [gden, List.map_cons, List.cons_append, ov, gfind]
    cases hb : Nat.beq x.slot t
    · exact ov_gden
    · rfl
/-- What is known at the beginning. -/
structure Bg (X : Cx P) (σ : Nat → Value) (w : World) : Prop where
  S : ∀ t q, sfind X.S t = some q → lfind X.L t = some ((CV.p q.1 q.2).den X.M)
  at_ : ∀ i, X.may i = true → CellsAt w (bget X.M i).a (bget X.M i).cs
  sg : ∀ s ∈ X.sg, CellsAt w ((bget X.M s.1).a.add s.2.1) s.2.2
theorem Bg.snd {X : Cx P} {σ : Nat → Value} {ds : List Deferred} {w : World} {Γ : List GE} (B : Bg X σ w) (hk : GOk Γ) : Snd X Γ (st X.n (gden X.M Γ ++ X.L) σ ds) w := by
  refine ⟨fun π x cv h hp => ?_, B.at_, B.sg, fun t q h => gfind_at h⟩
  cases x <;> first | (cases h; done) | skip
  case const v => cases h; rfl
  case tmp t =>
    simp only [rdo] at h
    cases hn : Nat.blt t X.n
    · rw [hn] at h; cases h
    rw [hn] at h
    simp only [cond_true] at h
    refine tm hn ?_
    rw [ov_gden]
    cases hg : gfind Γ t with
    | some q =>
      rw [hg] at h
      simp only [] at h ⊢
      cases hs : sub_ q.2.path π
      · rw [hs] at h; cases h
      · rw [hs] at h; cases h
        exact g_val hk hg hp hs
    | none =>
      rw [hg] at h
      simp only [] at h ⊢
      cases hf : sfind X.S t with
      | some q =>
        rw [hf] at h
        simp only [] at h
        cases h
        exact ov_lfind (B.S t q hf)
      | none =>
        rw [hf] at h
        simp only [] at h
        cases hl : lfind X.L t with
        | some v => rw [hl] at h; cases h; exact ov_lfind hl
        | none => rw [hl] at h; cases h
def obs : List GE → List (Value × Value)
  | [] => []
  | e :: r => e.ob ++ obs r
variable {Q : Exit → Act → World → Prop} {N : Act → World → Prop} {rest : List Oper}
theorem obs_step {X : Cx P} {Γ Γ' : List GE} {o : Oper} (h : stepE X Γ o = some Γ') (k : ∀ p ∈ obs Γ', p.1 = p.2) : ∀ p ∈ obs Γ, p.1 = p.2 := by
  have : ∃ e, Γ' = e :: Γ := by
    unfold stepE at h
    split at h
    · cases h
    · rename_i d hd
      cases hn : Nat.blt d X.n
      · rw [hn] at h; cases h
      rw [hn] at h
      simp only [cond_true] at h
      split at h
      · split at h
        · cases h; exact ⟨_, rfl⟩
        · cases h
      · split at h
        · rename_i dj hdj
          cases hn2 : Nat.blt dj X.n
          · rw [hn2] at h; cases h
          rw [hn2] at h
          simp only [cond_true] at h
          split at h
          · split at h
            · split at h
              · cases h; exact ⟨_, rfl⟩
              · cases h
            · cases h
          · cases h
        · cases h
  obtain ⟨e, rfl⟩ := this
  exact fun p hp => k p (by simp only [obs, List.mem_append]; exact .inr hp)
theorem obs_run {X : Cx P} : ∀ {ops : List Oper} {Γ Γ' : List GE}, runE X Γ ops = some Γ' → (∀ p ∈ obs Γ', p.1 = p.2) → ∀ p ∈ obs Γ, p.1 = p.2
  | [], Γ, Γ', h, k => by cases h; exact k
  | o :: r, Γ, Γ', h, k => by
    simp only [runE] at h
    split at h
    · rename_i Γ1 h1
      exact obs_step h1 (obs_run h k)
    · cases h
theorem path_holds {e : GE} {Γ : List GE} {t : Nat} {q : Nat × GE} {b : Bool} (hk : GOk Γ) (hq : gfind Γ t = some q) (hb : q.2.x = .v (.bool b)) (u : Bool) :
    (∀ r ∈ q.2.path ++ [(q.1, u)], r.1 < Γ.length) ∧ ((gc q.2.path q.2.c (bif u then b else !b) = true) ↔ ∀ r ∈ q.2.path ++ [(q.1, u)], holds Γ r) := by
  have h1 := gfind_at hq
  have hlow := g_val.g_low hk h1
  have hlt := gat_lt h1
  have hself : holds Γ (q.1, u) ↔ b = u := by
    constructor
    · rintro ⟨e, b', h2, h3, h4⟩
      rw [h1] at h2
      cases h2
      rw [hb] at h3
      cases h3
      exact h4
    · intro h2; exact ⟨q.2, b, h1, hb, h2⟩
  have hc : q.2.path = [] ∨ (q.2.c = true ↔ ∀ r ∈ q.2.path, holds Γ r) := by
    have : ∀ {Γ : List GE}, GOk Γ → ∀ {k : Nat} {e : GE}, gat Γ k = some e → e.path = [] ∨ (e.c = true ↔ ∀ r ∈ e.path, holds Γ r) := by
      intro Γ
      induction Γ with
      | nil => intro _ k e h; cases h
      | cons x r ih =>
        intro hk k e h
        simp only [gat] at h
        cases hb : Nat.beq r.length k
        · rw [hb] at h
          refine (ih hk.1 h).imp id fun h5 => h5.trans ?_
          exact ⟨fun h6 u hu => (holds_cons (g_val.g_low hk.1 h u hu)).2 (h6 u hu), fun h6 u hu => (holds_cons (g_val.g_low hk.1 h u hu)).1 (h6 u hu)⟩
        · rw [hb] at h; cases h
          refine hk.2.2.imp id fun h5 => h5.trans ?_
          exact ⟨fun h6 u hu => (holds_cons (hk.2.1 u hu)).2 (h6 u hu), fun h6 u hu => (holds_cons (hk.2.1 u hu)).1 (h6 u hu)⟩
    exact this hk h1
  refine ⟨fun r hr => ?_, ?_⟩
  · rcases List.mem_append.1 hr with hr | hr
    · exact hlow r hr
    · rw [List.mem_singleton] at hr; subst hr; exact hlt
  · have hf : (bif u then b else !b) = true ↔ b = u := by cases u <;> cases b <;> simp
    have happ : (∀ r ∈ q.2.path ++ [(q.1, u)], holds Γ r) ↔ (∀ r ∈ q.2.path, holds Γ r) ∧ b = u := by
      constructor
      · intro h; exact ⟨fun r hr => h r (List.mem_append_left _ hr), hself.1 (h _ (List.mem_append_right _ (List.mem_singleton.2 rfl)))⟩
      · rintro ⟨h2, h3⟩ r hr
        rcases List.mem_append.1 hr with hr | hr
        · exact h2 r hr
        · rw [List.mem_singleton] at hr; subst hr; exact hself.2 h3
    rw [happ]
    cases hp : q.2.path with
    | nil => simp only [gc, hf, List.not_mem_nil, false_imp_iff, implies_true, true_and]
    | cons a l =>
      have h2 := hc.resolve_left (by rw [hp]; simp)
      rw [hp] at h2
      simp only [gc, Bool.and_eq_true, hf, h2]
theorem run_list {X : Cx P} {σ : Nat → Value} {ds : List Deferred} {w : World} (B : Bg X σ w) : ∀ {ops : List Oper} {Γ Γ' : List GE}, GOk Γ → runE X Γ ops = some Γ' → (∀ p ∈ obs Γ', p.1 = p.2) →
    wpList P X.ol.toArray Q rest (st X.n (gden X.M Γ' ++ X.L) σ ds) w → wpList P X.ol.toArray Q (ops ++ rest) (st X.n (gden X.M Γ ++ X.L) σ ds) w
  | [], Γ, Γ', _, h, _, k => by cases h; exact k
  | o :: r, Γ, Γ', hk, h, ho, k => by
    simp only [runE] at h
    split at h
    · rename_i Γ1 h1
      have ho1 := obs_run h ho
      obtain ⟨dst, op, ty, pos, af, gd⟩ := o
      have S := B.snd (ds := ds) hk
      have hnil : ∀ q ∈ ([] : List (Nat × Bool)), holds Γ q := fun q hq => by cases hq
      have h1' := h1
      unfold stepE at h1
      split at h1
      · cases h1
      · rename_i d hd
        simp only at hd
        subst hd
        cases hn : Nat.blt d X.n
        · rw [hn] at h1; cases h1
        rw [hn] at h1
        simp only [cond_true] at h1
        split at h1
        · skip
          split at h1
          · rename_i q hq
            cases h1
            have hx := ev_ok (dst := some d) (ty := ty) (pos := pos) (af := af) (gd := none) S hnil hq (fun p hp => ho1 p (by simp only [obs, List.mem_append]; exact .inl hp))
            refine sv rfl rfl hn hx ?_
            exact run_list B (Γ := ⟨d, [], true, q.1, q.2⟩ :: Γ) ⟨hk, (fun q hq => by cases hq), .inl rfl⟩ h ho k
          · cases h1
        · rename_i g
          split at h1
          · rename_i dj hdj
            cases hn2 : Nat.blt dj X.n
            · rw [hn2] at h1; cases h1
            rw [hn2] at h1
            simp only [cond_true] at h1
            split at h1
            · rename_i q hq
              split at h1
              · rename_i b hb
                split at h1
                · rename_i rr hrr
                  cases h1
                  obtain ⟨hlow, hiff⟩ := path_holds (e := q.2) hk hq hb g.2
                  have hk1 : GOk (⟨d, q.2.path ++ [(q.1, g.2)], gc q.2.path q.2.c (bif g.2 then b else !b), rr.1, rr.2⟩ :: Γ) := ⟨hk, hlow, .inr hiff⟩
                  have key := run_list B hk1 h ho k
                  have hval : (GE.val X.M ⟨d, q.2.path ++ [(q.1, g.2)], gc q.2.path q.2.c (bif g.2 then b else !b), rr.1, rr.2⟩) = bif gc q.2.path q.2.c (bif g.2 then b else !b) then rr.1.den X.M else undef := by
                    unfold GE.val
                    cases hp2 : q.2.path ++ [(q.1, g.2)] with
                    | nil => simp at hp2
                    | cons _ _ => rfl
                  have hdj' : ov (gden X.M Γ ++ X.L) σ dj = q.2.val X.M := by rw [ov_gden, hq]
                  simp only [gden, List.map_cons, List.cons_append] at key
                  rw [hval] at key
                  cases hcase : gc q.2.path q.2.c (bif g.2 then b else !b)
                  · rw [hcase] at key
                    simp only [cond_false] at key
                    by_cases hund : q.2.val X.M = undef
                    · exact goffu hdj hn2 (hdj'.trans hund) hn key
                    · have hq2 : q.2.val X.M = .bool b := by
                        unfold GE.val at hund ⊢
                        cases hp3 : q.2.path with
                        | nil => rw [hb]; rfl
                        | cons x l =>
                          rw [hp3] at hund
                          simp only [] at hund ⊢
                          cases hc3 : q.2.c
                          · rw [hc3] at hund; exact absurd rfl hund
                          · rw [hb]; rfl
                      refine goff hdj hn2 (hdj'.trans (hq2.trans ?_)) hn key
                      have : (bif g.2 then b else !b) = false := by
                        cases hp3 : q.2.path with
                        | nil => rw [hp3] at hcase; exact hcase
                        | cons x l =>
                          rw [hp3] at hcase
                          simp only [gc] at hcase
                          cases hc3 : q.2.c
                          · exfalso; apply hund; unfold GE.val; rw [hp3]; simp only [hc3, cond_false]
                          · rw [hc3, Bool.true_and] at hcase; exact hcase
                      congr 1
                      cases hg2 : g.2 <;> rw [hg2] at this <;> cases b <;> simp at this ⊢
                  · rw [hcase] at key
                    simp only [cond_true] at key
                    have hall := hiff.1 hcase
                    have hx := ev_ok (dst := some d) (ty := ty) (pos := pos) (af := af) (gd := none) S hall hrr (fun p hp => ho1 p (by simp only [obs, List.mem_append]; exact .inl hp))
                    have hbu : b = g.2 := by
                      obtain ⟨e, b', h2, h3, h4⟩ := hall (q.1, g.2) (List.mem_append_right _ (List.mem_singleton.2 rfl))
                      rw [gfind_at hq] at h2
                      cases h2
                      rw [hb] at h3
                      cases h3
                      exact h4
                    have hv := g_val (M := X.M) (π := q.2.path) hk hq (fun r hr => hall r (List.mem_append_left _ hr)) (List.all_eq_true.2 fun u hu => List.any_eq_true.2 ⟨u, hu, by simp only [qeq, Nat.beq_refl, Bool.true_and]; cases u.2 <;> rfl⟩)
                    rw [hb] at hv
                    refine gon (want := g.2) hdj hn2 (hdj'.trans (hv.trans (by rw [hbu]; rfl))) ?_
                    exact sv rfl rfl hn hx key
                · cases h1
              · cases h1
            · cases h1
          · cases h1
    · cases h
/-! ### as it is used -/
def imp (L : Env) : List Nat → List GE
  | [] => []
  | t :: r => match lfind L t with
    | some v => ⟨t, [], true, .v v, []⟩ :: imp L r
    | none => imp L r
theorem imp_ok (L : Env) : ∀ im : List Nat, GOk (imp L im) ∧ obs (imp L im) = [] ∧ ∀ t q, gfind (imp L im) t = some q → ∃ v, lfind L t = some v ∧ ∀ M, q.2.val M = v
  | [] => ⟨trivial, rfl, fun t q h => by cases h⟩
  | t :: r => by
    obtain ⟨h1, h2, h3⟩ := imp_ok L r
    simp only [imp]
    cases hl : lfind L t with
    | none => exact ⟨h1, h2, h3⟩
    | some v =>
      refine ⟨⟨h1, (fun q hq => by cases hq), .inl rfl⟩, h2, fun t' q hq => ?_⟩
      simp only [gfind] at hq
      cases hb : Nat.beq t t'
      · rw [hb] at hq; exact h3 t' q hq
      · rw [hb] at hq
        cases hq
        have := Nat.eq_of_beq_eq_true hb
        subst this
        exact ⟨v, hl, fun M => rfl⟩
structure Ext (w : World) where
  a : Addr
  cs : List Value
  h : CellsAt w a cs
def Ext.b {w : World} (e : Ext w) : Base := ⟨e.a, e.cs⟩
def bx : Rsc → Base
  | [(b, .cells c _ _)] => ⟨⟨b, 0, none⟩, c.toList⟩
  | _ => ⟨⟨0, 0, none⟩, []⟩
theorem bx_ok {w : World} {r : Rsc} (h : ∀ p ∈ r, w.heap[p.1]? = some p.2) : CellsAt w (bx r).a (bx r).cs := by
  unfold bx
  split
  · rename_i b c e fz
    have := h _ (List.mem_singleton.2 rfl)
    simp only at this
    intro j u hu
    rw [add_none, Nat.zero_add]
    refine cell_at this ?_
    simpa using hu
  · intro j u hu; simp at hu
theorem nilAt {w : World} {a : Addr} : CellsAt w a [] := fun j u hu => by simp at hu
theorem bases_ok {M I : Nat → Prop} {w0 wr w : World} {R : List Rsc} (h : Hp M I w0 wr w R) (ex : List (Ext w)) (i : Nat) : CellsAt w (bget (R.map bx ++ ex.map Ext.b) i).a (bget (R.map bx ++ ex.map Ext.b) i).cs := by
  unfold bget
  rw [List.getD_eq_getElem?_getD]
  cases hi : (R.map bx ++ ex.map Ext.b)[i]? with
  | none => exact nilAt
  | some b =>
    have hm := List.mem_of_getElem? hi
    rcases List.mem_append.1 hm with hm | hm
    · obtain ⟨r, hr, rfl⟩ := List.mem_map.1 hm
      exact bx_ok fun p hp => h.own p (List.mem_flatten.2 ⟨r, hr, hp⟩)
    · obtain ⟨e, he, rfl⟩ := List.mem_map.1 hm
      exact e.h
/-- Cells behind others, with their address. -/
structure Sgt (w : World) where
  i : Nat
  o : Nat
  a : Addr
  cs : List Value
  h : CellsAt w a cs
def Sgt.t {w : World} (s : Sgt w) : Nat × Nat × List Value := (s.i, s.o, s.cs)
def Sgt.ob {w : World} (M : List Base) (s : Sgt w) : Value × Value := (.pointer (some ((bget M s.i).a.add s.o)), .pointer (some s.a))
def outs (M : List Base) (Γ : List GE) : Env → Option (List (Value × Value))
  | [] => some []
  | p :: r => match gfind Γ p.1 with
    | some q => match outs M Γ r with
      | some l => some ((q.2.val M, p.2) :: l)
      | none => none
    | none => none
def sob (L : Env) (M : List Base) : List (Nat × Nat × Nat) → List (Value × Value)
  | [] => []
  | p :: r => (match lfind L p.1 with
    | some v => (v, (CV.p p.2.1 p.2.2).den M)
    | none => (.bool true, .bool false)) :: sob L M r
def inL (L : Env) (d : Nat) : Bool := match lfind L d with
  | some _ => true
  | none => false
def freshB (L L' : Env) (ops : List Oper) : Bool := ops.all fun o => match o.dst with
  | some d => inL L' d || !inL L d
  | none => true
def outE (X : Cx P) (im : List Nat) (ops : List Oper) (L' : Env) (z : List (Value × Value)) : Option (List (Value × Value)) := match runE X (imp X.L im) ops with
  | some Γ => bif freshB X.L L' ops then (match outs X.M Γ L' with
    | some l => some (obs Γ ++ (l ++ (sob X.L X.M X.S ++ z)))
    | none => none) else none
  | none => none
def sideL : Option (List (Value × Value)) → List (Option Value)
  | some l => l.map fun p => some p.1
  | none => [none]
def sideR : Option (List (Value × Value)) → List (Option Value)
  | some l => l.map fun p => some p.2
  | none => []
theorem sides {o : Option (List (Value × Value))} (h : sideL o = sideR o) : ∃ l, o = some l ∧ ∀ p ∈ l, p.1 = p.2 := by
  cases o with
  | none => cases h
  | some l =>
    refine ⟨l, rfl, ?_⟩
    simp only [sideL, sideR] at h
    induction l with
    | nil => intro p hp; cases hp
    | cons x r ih =>
      simp only [List.map_cons, List.cons.injEq, Option.some.injEq] at h
      intro p hp
      rcases List.mem_cons.1 hp with rfl | hp
      · exact h.1
      · exact ih h.2 p hp
theorem sob_ok {L : Env} {M : List Base} : ∀ {S : List (Nat × Nat × Nat)}, (∀ p ∈ sob L M S, p.1 = p.2) → ∀ t q, sfind S t = some q → lfind L t = some ((CV.p q.1 q.2).den M)
  | [], _, t, q, h => by cases h
  | x :: r, hs, t, q, h => by
    simp only [sfind] at h
    cases hb : Nat.beq x.1 t
    · rw [hb] at h
      exact sob_ok (fun p hp => hs p (List.mem_cons_of_mem _ hp)) t q h
    · rw [hb] at h
      cases h
      have h1 := hs _ (List.mem_cons_self ..)
      have := Nat.eq_of_beq_eq_true hb
      subst this
      cases hl : lfind L x.1 with
      | none => rw [hl] at h1; cases h1
      | some v => rw [hl] at h1; simp only at h1; rw [h1]
def app : Env → Env → Env
  | [], L => L
  | p :: r, L => p :: app r L
theorem ov_app {L' L : Env} {σ : Nat → Value} {t : Nat} : ov (app L' L) σ t = match lfind L' t with
    | some v => v
    | none => ov L σ t := by
  induction L' with
  | nil => rfl
  | cons p r ih =>
    simp only [app, ov, lfind]
    cases hb : Nat.beq p.1 t
    · exact ih
    · rfl
theorem outs_ok {M : List Base} {Γ : List GE} : ∀ {L' : Env} {l : List (Value × Value)}, outs M Γ L' = some l → (∀ p ∈ l, p.1 = p.2) → ∀ t v, lfind L' t = some v → ∃ q, gfind Γ t = some q ∧ q.2.val M = v
  | [], l, h, _, t, v, hv => by cases hv
  | x :: r, l, h, hl, t, v, hv => by
    simp only [outs] at h
    split at h
    · rename_i q hq
      split at h
      · rename_i l' hl'
        cases h
        simp only [lfind] at hv
        cases hb : Nat.beq x.1 t
        · rw [hb] at hv
          exact outs_ok hl' (fun p hp => hl p (List.mem_cons_of_mem _ hp)) t v hv
        · rw [hb] at hv
          cases hv
          have := Nat.eq_of_beq_eq_true hb
          subst this
          exact ⟨q, hq, hl _ (List.mem_cons_self ..)⟩
      · cases h
    · cases h
theorem run_slots {X : Cx P} : ∀ {ops : List Oper} {Γ Γ' : List GE}, runE X Γ ops = some Γ' → ∀ t q, gfind Γ' t = some q → gfind Γ t = some q ∨ ∃ o ∈ ops, o.dst = some t
  | [], Γ, Γ', h, t, q, hq => by cases h; exact .inl hq
  | o :: r, Γ, Γ', h, t, q, hq => by
    simp only [runE] at h
    split at h
    · rename_i Γ1 h1
      rcases run_slots h t q hq with h2 | ⟨o', ho', hd⟩
      · have : ∃ e, Γ1 = e :: Γ ∧ o.dst = some e.slot := by
          unfold stepE at h1
          split at h1
          · cases h1
          · rename_i d hd
            cases hn : Nat.blt d X.n
            · rw [hn] at h1; cases h1
            rw [hn] at h1
            simp only [cond_true] at h1
            split at h1
            · split at h1
              · cases h1; exact ⟨_, rfl, hd⟩
              · cases h1
            · split at h1
              · rename_i dj hdj
                cases hn2 : Nat.blt dj X.n
                · rw [hn2] at h1; cases h1
                rw [hn2] at h1
                simp only [cond_true] at h1
                split at h1
                · split at h1
                  · split at h1
                    · cases h1; exact ⟨_, rfl, hd⟩
                    · cases h1
                  · cases h1
                · cases h1
              · cases h1
        obtain ⟨e, rfl, hd⟩ := this
        simp only [gfind] at h2
        cases hb : Nat.beq e.slot t
        · rw [hb] at h2; exact .inl h2
        · exact .inr ⟨o, List.mem_cons_self .., by rw [hd, Nat.eq_of_beq_eq_true hb]⟩
      · exact .inr ⟨o', List.mem_cons_of_mem _ ho', hd⟩
    · cases h
theorem frame_app {X : Cx P} {σ : Nat → Value} {ds : List Deferred} {im : List Nat} {ops : List Oper} {L' : Env} {Γ : List GE} {l : List (Value × Value)} (h : runE X (imp X.L im) ops = some Γ) (hf : freshB X.L L' ops = true)
    (ho : outs X.M Γ L' = some l) (hl : ∀ p ∈ l, p.1 = p.2) : st X.n (gden X.M Γ ++ X.L) σ ds = st X.n (app L' X.L) (ov (gden X.M Γ ++ X.L) σ) ds := by
  have : ov (app L' X.L) (ov (gden X.M Γ ++ X.L) σ) = ov (gden X.M Γ ++ X.L) σ := by
    funext t
    rw [ov_app]
    cases h1 : lfind L' t with
    | some v =>
      obtain ⟨q, hq, hv⟩ := outs_ok ho hl t v h1
      simp only []
      rw [ov_gden, hq]; exact hv.symm
    | none =>
      simp only []
      cases h2 : lfind X.L t with
      | none => exact ov_none h2
      | some v =>
        rw [ov_lfind h2, ov_gden]
        cases hq : gfind Γ t with
        | none => exact (ov_lfind h2).symm
        | some q =>
          simp only []
          rcases run_slots h t q hq with h3 | ⟨o, ho', hd⟩
          · obtain ⟨v', h4, h5⟩ := (imp_ok X.L im).2.2 t q h3
            rw [h2] at h4
            cases h4
            exact (h5 _).symm
          · exfalso
            have h6 := List.all_eq_true.1 hf o ho'
            rw [hd] at h6
            simp [inL, h1, h2] at h6
  unfold st
  rw [this]
section
variable {n : Nat} {L : Env} {σ : Nat → Value} {ds : List Deferred} {w : World} {M I : Nat → Prop} {w0 wr : World} {R : List Rsc} {ol l : List Oper}
theorem run_main (T : List (TE P)) (B : List Base) (hB : ∀ i, CellsAt w (bget B i).a (bget B i).cs) (ix : List Ix) (sg : List (Sgt w)) (S : List (Nat × Nat × Nat)) (im : List Nat) {ops : List Oper} (L' : Env)
    (H : sideL (outE ⟨n, ol, T, B, fun _ => true, S, ix, sg.map Sgt.t, L⟩ im ops L' (sg.map (Sgt.ob B))) = sideR (outE ⟨n, ol, T, B, fun _ => true, S, ix, sg.map Sgt.t, L⟩ im ops L' (sg.map (Sgt.ob B))))
    (k : ∀ σ, wpList P ol.toArray Q rest (st n (app L' L) σ ds) w) : wpList P ol.toArray Q (ops ++ rest) (st n L σ ds) w := by
  obtain ⟨l, hl, ho⟩ := sides H
  unfold outE at hl
  split at hl
  · rename_i Γ hΓ
    simp only at hΓ
    obtain ⟨h1, hl⟩ : freshB L L' ops = true ∧ _ := by
      cases hf : freshB L L' ops
      · rw [hf] at hl; cases hl
      · rw [hf] at hl; exact ⟨rfl, hl⟩
    split at hl
    · rename_i l' hl'
      cases hl
      have o1 : ∀ p ∈ obs Γ, p.1 = p.2 := fun p hp => ho p (List.mem_append_left _ hp)
      have o2 : ∀ p ∈ l', p.1 = p.2 := fun p hp => ho p (List.mem_append_right _ (List.mem_append_left _ hp))
      have o3 : ∀ p ∈ sob L B S, p.1 = p.2 := fun p hp => ho p (List.mem_append_right _ (List.mem_append_right _ (List.mem_append_left _ hp)))
      have o4 : ∀ p ∈ sg.map (Sgt.ob B), p.1 = p.2 := fun p hp => ho p (List.mem_append_right _ (List.mem_append_right _ (List.mem_append_right _ hp)))
      have hsg : ∀ s ∈ sg.map Sgt.t, CellsAt w ((bget B s.1).a.add s.2.1) s.2.2 := by
        intro s hs
        obtain ⟨u, hu, rfl⟩ := List.mem_map.1 hs
        have := o4 _ (List.mem_map.2 ⟨u, hu, rfl⟩)
        simp only [Sgt.ob, Value.pointer.injEq, Option.some.injEq] at this
        simp only [Sgt.t, this]
        exact u.h
      have Bb : Bg (⟨n, ol, T, B, fun _ => true, S, ix, sg.map Sgt.t, L⟩ : Cx P) σ w := ⟨sob_ok o3, fun i _ => hB i, hsg⟩
      obtain ⟨g1, g2, g3⟩ := imp_ok L im
      have hfr := frame_app (X := (⟨n, ol, T, B, fun _ => true, S, ix, sg.map Sgt.t, L⟩ : Cx P)) (σ := σ) (ds := ds) hΓ h1 hl' o2
      have key := run_list (Q := Q) (rest := rest) (ds := ds) Bb (ops := ops) g1 hΓ o1 (by rw [hfr]; exact k _)
      have h0 : st n (gden B (imp L im) ++ L) σ ds = st n L σ ds := by
        unfold st
        congr 2
        funext t
        rw [ov_gden]
        cases hq : gfind (imp L im) t with
        | none => rfl
        | some q =>
          obtain ⟨v, h4, h5⟩ := g3 t q hq
          simp only []
          rw [h5, ov_lfind h4]
      simp only [] at key
      rw [h0] at key
      exact key
    · cases hl
  · cases hl
/-- What is to be seen by reckoning: both sides are the same. -/
def seeL {P : Program} {w : World} (n : Nat) (ol : List Oper) (T : List (TE P)) (B : List Base) (ix : List Ix) (sg : List (Sgt w)) (S : List (Nat × Nat × Nat)) (im : List Nat) (L : Env) (ops : List Oper) (L' : Env) : List (Option Value) :=
  sideL (outE ⟨n, ol, T, B, fun _ => true, S, ix, sg.map Sgt.t, L⟩ im ops L' (sg.map (Sgt.ob B)))
def seeR {P : Program} {w : World} (n : Nat) (ol : List Oper) (T : List (TE P)) (B : List Base) (ix : List Ix) (sg : List (Sgt w)) (S : List (Nat × Nat × Nat)) (im : List Nat) (L : Env) (ops : List Oper) (L' : Env) : List (Option Value) :=
  sideR (outE ⟨n, ol, T, B, fun _ => true, S, ix, sg.map Sgt.t, L⟩ im ops L' (sg.map (Sgt.ob B)))
/-- Some operations of a region. -/
theorem srx (T : List (TE P)) (h : Hp M I w0 wr w R) (ex : List (Ext w)) (ix : List Ix) (sg : List (Sgt w)) (S : List (Nat × Nat × Nat)) (im : List Nat) (m : Nat) (L' : Env)
    (H : seeL n ol T (R.map bx ++ ex.map Ext.b) ix sg S im L (l.take m) L' = seeR n ol T (R.map bx ++ ex.map Ext.b) ix sg S im L (l.take m) L') (k : ∀ σ, wpList P ol.toArray Q (l.drop m) (st n (app L' L) σ ds) w) : wpList P ol.toArray Q l (st n L σ ds) w := by
  have := run_main (Q := Q) (σ := σ) (ds := ds) T _ (bases_ok h ex) ix sg S im L' H k
  rwa [List.take_append_drop] at this
/-- A region of such operations alone. -/
theorem krx {id : Nat} (T : List (TE P)) (h : Hp M I w0 wr w R) (ex : List (Ext w)) (ix : List Ix) (sg : List (Sgt w)) (S : List (Nat × Nat × Nat)) (im : List Nat) (L' : Env)
    (H : seeL n l T (R.map bx ++ ex.map Ext.b) ix sg S im L l L' = seeR n l T (R.map bx ++ ex.map Ext.b) ix sg S im L l L') (k : ∀ σ, N (st n (app L' L) σ ds) w) : wk P (.region id l.toArray false) N Q (st n L σ ds) w := by
  refine k_region ?_
  have := run_main (Q := Exit.then N Q) (rest := []) (σ := σ) (ds := ds) T _ (bases_ok h ex) ix sg S im L' H (fun σ => k_nil (k σ))
  rwa [List.append_nil] at this
theorem kqx {id : Nat} {y : Code} (T : List (TE P)) (h : Hp M I w0 wr w R) (ex : List (Ext w)) (ix : List Ix) (sg : List (Sgt w)) (S : List (Nat × Nat × Nat)) (im : List Nat) (L' : Env)
    (H : seeL n l T (R.map bx ++ ex.map Ext.b) ix sg S im L l L' = seeR n l T (R.map bx ++ ex.map Ext.b) ix sg S im L l L') (k : ∀ σ, wk P y N Q (st n (app L' L) σ ds) w) : wk P (.seq (.region id l.toArray false) y) N Q (st n L σ ds) w := k_seq (krx T h ex ix sg S im L' H k)
theorem sr (T : List (TE P)) (h : Hp M I w0 wr w R) (S : List (Nat × Nat × Nat)) (m : Nat) (L' : Env)
    (H : seeL (w := w) n ol T (R.map bx ++ []) [] [] S [] L (l.take m) L' = seeR (w := w) n ol T (R.map bx ++ []) [] [] S [] L (l.take m) L') (k : ∀ σ, wpList P ol.toArray Q (l.drop m) (st n (app L' L) σ ds) w) : wpList P ol.toArray Q l (st n L σ ds) w := srx T h [] [] [] S [] m L' H k
theorem kr {id : Nat} (T : List (TE P)) (h : Hp M I w0 wr w R) (S : List (Nat × Nat × Nat)) (L' : Env)
    (H : seeL (w := w) n l T (R.map bx ++ []) [] [] S [] L l L' = seeR (w := w) n l T (R.map bx ++ []) [] [] S [] L l L') (k : ∀ σ, N (st n (app L' L) σ ds) w) : wk P (.region id l.toArray false) N Q (st n L σ ds) w := krx T h [] [] [] S [] L' H k
theorem kq {id : Nat} {y : Code} (T : List (TE P)) (h : Hp M I w0 wr w R) (S : List (Nat × Nat × Nat)) (L' : Env)
    (H : seeL (w := w) n l T (R.map bx ++ []) [] [] S [] L l L' = seeR (w := w) n l T (R.map bx ++ []) [] [] S [] L l L') (k : ∀ σ, wk P y N Q (st n (app L' L) σ ds) w) : wk P (.seq (.region id l.toArray false) y) N Q (st n L σ ds) w := k_seq (kr T h S L' H k)
end
/-! ### within a region that draws its order -/
section
variable {n : Nat} {L : Env} {σ : Nat → Value} {ds : List Deferred} {w : World} {M I : Nat → Prop} {w0 wr : World} {R S : List Rsc} {ol l : List Oper} {ms : List (List Nat)} {tm : List Nat}
theorem k_anyF {id : Nat} (ms : List (List Nat)) (tm : List Nat) (hm : P.follows .mixedOrders = true) (h : Hp M I w0 wr w R) (len : Nat) (hl : ol.length = len)
    (k : ∀ w', Hp M I w0 wr w' R → wpW (WF I wr R ms tm) P ol.toArray (Exit.then N Q) len (lb len 0) (st n L σ ds) w') : wk P (.region id ol.toArray true) N Q (st n L σ ds) w := k_any (WF I wr R ms tm) hm h len hl k
/-- Cells that are there as long as some resources are as at first. -/
structure ExtD (I : Nat → Prop) (wr : World) (S : List Rsc) where
  a : Addr
  cs : List Value
  js : List Nat
  h : ∀ w, Wp I wr S js w → CellsAt w a cs
def ExtD.b (e : ExtD I wr S) : Base := ⟨e.a, e.cs⟩
structure SgD (I : Nat → Prop) (wr : World) (S : List Rsc) where
  i : Nat
  o : Nat
  a : Addr
  cs : List Value
  js : List Nat
  h : ∀ w, Wp I wr S js w → CellsAt w a cs
def SgD.t (s : SgD I wr S) : Nat × Nat × List Value := (s.i, s.o, s.cs)
def SgD.ob (M : List Base) (s : SgD I wr S) : Value × Value := (.pointer (some ((bget M s.i).a.add s.o)), .pointer (some s.a))
def subN (js ks : List Nat) : Bool := js.all fun j => ks.any (Nat.beq j)
theorem subN_ok {js ks : List Nat} (h : subN js ks = true) {w : World} (hw : Wp I wr S ks w) : Wp I wr S js w := by
  refine ⟨hw.imm, fun r hr => hw.own r ?_⟩
  obtain ⟨k, hk, he⟩ := List.any_eq_true.1 (List.all_eq_true.1 h r hr)
  rw [Nat.eq_of_beq_eq_true he]; exact hk
/-- Which bases may be read where the resources js are as at first. -/
def mayD (S : List Rsc) (ex : List (ExtD I wr S)) (js : List Nat) (k : Nat) : Bool := bif Nat.blt k S.length then js.any (Nat.beq k) else match ex[k - S.length]? with
  | some e => subN e.js js
  | none => true
def basesD (S : List Rsc) (ex : List (ExtD I wr S)) : List Base := S.map bx ++ ex.map ExtD.b
theorem mayD_ok {ex : List (ExtD I wr S)} {js : List Nat} {w : World} (hw : Wp I wr S js w) (k : Nat) (hk : mayD S ex js k = true) : CellsAt w (bget (basesD S ex) k).a (bget (basesD S ex) k).cs := by
  unfold bget basesD
  rw [List.getD_eq_getElem?_getD]
  unfold mayD at hk
  cases hlt : Nat.blt k S.length
  · rw [hlt] at hk
    simp only [cond_false] at hk
    have hge : S.length ≤ k := by
      rcases Nat.lt_or_ge k S.length with h | h
      · rw [show Nat.blt k S.length = true by rw [Nat.blt_eq]; exact h] at hlt; cases hlt
      · exact h
    rw [List.getElem?_append_right (by simpa using hge)]
    simp only [List.length_map, List.getElem?_map]
    cases he : ex[k - S.length]? with
    | none => exact nilAt
    | some e =>
      rw [he] at hk
      exact e.h w (subN_ok hk hw)
  · rw [hlt] at hk
    simp only [cond_true] at hk
    have hlt' : k < S.length := blt hlt
    rw [List.getElem?_append_left (by simpa using hlt')]
    simp only [List.getElem?_map, List.getElem?_eq_getElem hlt', Option.map_some, Option.getD_some]
    obtain ⟨j, hj, he⟩ := List.any_eq_true.1 hk
    have := Nat.eq_of_beq_eq_true he
    subst this
    refine bx_ok fun p hp => hw.own k hj p ?_
    rw [List.getD_eq_getElem?_getD, List.getElem?_eq_getElem hlt']; exact hp
def cxD (n : Nat) (ol : List Oper) (T : List (TE P)) (S : List Rsc) (ex : List (ExtD I wr S)) (ix : List Ix) (sg : List (SgD I wr S)) (S' : List (Nat × Nat × Nat)) (L : Env) (js : List Nat) : Cx P :=
  ⟨n, ol, T, basesD S ex, mayD S ex js, S', ix, (sg.filter fun s => subN s.js js).map SgD.t, L⟩
/-- Operations that are taken, one behind the other. -/
def takeE (X : List Nat → Cx P) (ol : List Oper) (ms : List (List Nat)) (tm U : List Nat) : Nat → List GE → List Nat → Option (Nat × List GE)
  | m, Γ, [] => some (m, Γ)
  | m, Γ, i :: r => match opAt ol i with
    | some o => bif closedB ol m 0 ol && ((Region.ready .any ol.toArray (lb ol.length m)).contains i && (vOk ol m i o (ms.getD i []) ms tm 0 ol && subN (ms.getD i []) U)) then (match stepE (X (ms.getD i [])) Γ o with
      | some Γ' => takeE X ol ms tm U (m ||| 1 <<< i) Γ' r
      | none => none) else none
    | none => none
theorem lb_set {len m i : Nat} (h : i < len) : (lb len m).setIfInBounds i true = lb len (m ||| 1 <<< i) := by
  apply Array.ext
  · simp [lb]
  · intro j h1 h2
    have hj : j < len := by simpa [lb] using h2
    rw [Array.getElem_setIfInBounds (by simpa [lb] using h2)]
    simp only [lb, List.getElem_toArray, List.getElem_map, List.getElem_range, Nat.testBit_or]
    rw [Nat.shiftLeft_eq, Nat.one_mul, Nat.testBit_two_pow]
    by_cases hij : i = j
    · subst hij; simp
    · simp [hij]
theorem stepE_cons {X : Cx P} {Γ Γ' : List GE} {o : Oper} (h : stepE X Γ o = some Γ') : ∃ e d, Γ' = e :: Γ ∧ o.dst = some d ∧ e.slot = d ∧ Nat.blt d X.n = true := by
  unfold stepE at h
  split at h
  · cases h
  · rename_i d hd
    cases hn : Nat.blt d X.n
    · rw [hn] at h; cases h
    rw [hn] at h
    simp only [cond_true] at h
    split at h
    · split at h
      · cases h; exact ⟨_, d, rfl, hd, rfl, hn⟩
      · cases h
    · split at h
      · rename_i dj hdj
        cases hn2 : Nat.blt dj X.n
        · rw [hn2] at h; cases h
        rw [hn2] at h
        simp only [cond_true] at h
        split at h
        · split at h
          · split at h
            · cases h; exact ⟨_, d, rfl, hd, rfl, hn⟩
            · cases h
          · cases h
        · cases h
      · cases h
/-- What an operation yields, in whatever world its memory is as at first. -/
theorem step_yw {X : Cx P} {V : World → Prop} {Γ : List GE} {e : GE} {o : Oper} (hV : ∀ w, V w → Bg X σ w) (hk : GOk Γ) (h : stepE X Γ o = some (e :: Γ)) (ho : ∀ p ∈ obs (e :: Γ), p.1 = p.2) :
    GOk (e :: Γ) ∧ YW V P X.ol.toArray o (e.val X.M) (st X.n (gden X.M Γ ++ X.L) σ ds) := by
  obtain ⟨dst, op, ty, pos, af, gd⟩ := o
  have hnil : ∀ q ∈ ([] : List (Nat × Bool)), holds Γ q := fun q hq => by cases hq
  have hob : ∀ p ∈ e.ob, p.1 = p.2 := fun p hp => ho p (by simp only [obs, List.mem_append]; exact .inl hp)
  unfold stepE at h
  split at h
  · cases h
  · rename_i d hd
    simp only at hd
    subst hd
    cases hn : Nat.blt d X.n
    · rw [hn] at h; cases h
    rw [hn] at h
    simp only [cond_true] at h
    split at h
    · split at h
      · rename_i q hq
        cases h
        exact ⟨⟨hk, (fun q hq => by cases hq), .inl rfl⟩, .inl ⟨rfl, fun w hw => ev_ok (dst := some d) (ty := ty) (pos := pos) (af := af) (gd := none) ((hV w hw).snd hk) hnil hq hob⟩⟩
      · cases h
    · rename_i g
      split at h
      · rename_i dj hdj
        cases hn2 : Nat.blt dj X.n
        · rw [hn2] at h; cases h
        rw [hn2] at h
        simp only [cond_true] at h
        split at h
        · rename_i q hq
          split at h
          · rename_i b hb
            split at h
            · rename_i rr hrr
              cases h
              obtain ⟨hlow, hiff⟩ := path_holds (e := q.2) hk hq hb g.2
              refine ⟨⟨hk, hlow, .inr hiff⟩, ?_⟩
              have hval : (GE.val X.M ⟨d, q.2.path ++ [(q.1, g.2)], gc q.2.path q.2.c (bif g.2 then b else !b), rr.1, rr.2⟩) = bif gc q.2.path q.2.c (bif g.2 then b else !b) then rr.1.den X.M else undef := by
                unfold GE.val
                cases hp2 : q.2.path ++ [(q.1, g.2)] with
                | nil => simp at hp2
                | cons _ _ => rfl
              rw [hval]
              have hdj' : ov (gden X.M Γ ++ X.L) σ dj = q.2.val X.M := by rw [ov_gden, hq]
              have hj' : (X.ol[g.1]?).bind (·.dst) = some dj := by rw [dstAt_eq]; exact hdj
              cases hcase : gc q.2.path q.2.c (bif g.2 then b else !b)
              · refine .inr ⟨?_, rfl⟩
                have hval2 : q.2.val X.M = undef ∨ (q.2.val X.M = .bool b ∧ (bif g.2 then b else !b) = false) := by
                  unfold GE.val
                  cases hp3 : q.2.path with
                  | nil => rw [hp3] at hcase; rw [hb]; exact .inr ⟨rfl, hcase⟩
                  | cons x l =>
                    rw [hp3] at hcase
                    simp only [gc] at hcase
                    simp only []
                    cases hc3 : q.2.c
                    · exact .inl rfl
                    · rw [hc3, Bool.true_and] at hcase; rw [hb]; exact .inr ⟨rfl, hcase⟩
                rcases hval2 with hu | ⟨hu, hf⟩
                · simp [Region.wanted, yielded, hj', fr_get (blt hn2), hdj', hu, undef]
                · obtain ⟨g1, g2⟩ := g
                  have : (b == g2) = false := by cases g2 <;> cases b <;> simp at hf ⊢
                  simp [Region.wanted, yielded, hj', fr_get (blt hn2), hdj', hu, this]
              · have hall := hiff.1 hcase
                have hbu : b = g.2 := by
                  obtain ⟨e, b', h2, h3, h4⟩ := hall (q.1, g.2) (List.mem_append_right _ (List.mem_singleton.2 rfl))
                  rw [gfind_at hq] at h2
                  cases h2
                  rw [hb] at h3
                  cases h3
                  exact h4
                have hv := g_val (M := X.M) (π := q.2.path) hk hq (fun r hr => hall r (List.mem_append_left _ hr)) (List.all_eq_true.2 fun u hu => List.any_eq_true.2 ⟨u, hu, by simp only [qeq, Nat.beq_refl, Bool.true_and]; cases u.2 <;> rfl⟩)
                rw [hb] at hv
                refine .inl ⟨?_, fun w hw => ev_ok (dst := some d) (ty := ty) (pos := pos) (af := af) (gd := some g) ((hV w hw).snd hk) hall hrr hob⟩
                simp [Region.wanted, yielded, hj', fr_get (blt hn2), hdj', hv, CV.den, hbu]
            · cases h
          · cases h
        · cases h
      · cases h
theorem take_list (X : List Nat → Cx P) {M : List Base} {U : List Nat} (hX : ∀ js, (X js).n = n ∧ (X js).ol = ol ∧ (X js).M = M ∧ (X js).L = L) (hB : ∀ js w, Wp I wr S js w → Bg (X js) σ w)
    (hs : Region.noSelect ol.toArray = true) (hT : tmOk tm 0 ol = true) (hQ : ∀ d, PanOk d Q) (hU : Wp I wr S U w) : ∀ (is : List Nat) (m m' : Nat) (Γ Γ' : List GE) (f : Nat), GOk Γ → takeE X ol ms tm U m Γ is = some (m', Γ') → (∀ p ∈ obs Γ', p.1 = p.2) →
    wpW (WF I wr S ms tm) P ol.toArray Q f (lb ol.length m') (st n (gden M Γ' ++ L) σ ds) w → wpW (WF I wr S ms tm) P ol.toArray Q (f + is.length) (lb ol.length m) (st n (gden M Γ ++ L) σ ds) w
  | [], m, m', Γ, Γ', f, _, h, _, k => by cases h; exact k
  | i :: r, m, m', Γ, Γ', f, hk, h, ho, k => by
    simp only [takeE] at h
    split at h
    · rename_i o ho1
      have hb : closedB ol m 0 ol = true ∧ (Region.ready .any ol.toArray (lb ol.length m)).contains i = true ∧ vOk ol m i o (ms.getD i []) ms tm 0 ol = true ∧ subN (ms.getD i []) U = true ∧
          (match stepE (X (ms.getD i [])) Γ o with | some Γ' => takeE X ol ms tm U (m ||| 1 <<< i) Γ' r | none => none) = some (m', Γ') := by
        cases hc : closedB ol m 0 ol && ((Region.ready .any ol.toArray (lb ol.length m)).contains i && (vOk ol m i o (ms.getD i []) ms tm 0 ol && subN (ms.getD i []) U))
        · rw [hc] at h; cases h
        · rw [hc] at h
          simp only [Bool.and_eq_true] at hc
          exact ⟨hc.1, hc.2.1, hc.2.2.1, hc.2.2.2, h⟩
      clear h
      obtain ⟨c1, c2, c3, c4, h⟩ := hb
      split at h
      · rename_i Γ1 h1
        obtain ⟨e, d, rfl, hd, hed, hn⟩ := stepE_cons h1
        obtain ⟨x1, x2, x3, x4⟩ := hX (ms.getD i [])
        have ho2 : ∀ p ∈ obs (e :: Γ), p.1 = p.2 := by
          have : ∀ (r : List Nat) (m : Nat) (Γ : List GE), takeE X ol ms tm U m Γ r = some (m', Γ') → ∀ p ∈ obs Γ, p.1 = p.2 := by
            intro r
            induction r with
            | nil => intro m Γ h; cases h; exact ho
            | cons i r ih =>
              intro m Γ h
              simp only [takeE] at h
              split at h
              · rename_i o _
                cases hc : closedB ol m 0 ol && ((Region.ready .any ol.toArray (lb ol.length m)).contains i && (vOk ol m i o (ms.getD i []) ms tm 0 ol && subN (ms.getD i []) U))
                · rw [hc] at h; cases h
                · rw [hc] at h
                  simp only [cond_true] at h
                  split at h
                  · rename_i Γ1 h1; exact obs_step h1 (ih _ _ h)
                  · cases h
              · cases h
          exact this r _ _ h
        obtain ⟨hk1, hy⟩ := step_yw (σ := σ) (ds := ds) (hB (ms.getD i [])) hk h1 ho2
        rw [x1, x2, x3, x4] at hy
        rw [x1] at hn
        have hil : i < ol.length := by
          have : ol[i]? = some o := by rw [opAt_eq]; exact ho1
          exact (List.getElem?_eq_some_iff.1 this).1
        obtain ⟨dst, op, ty, pos, af, gd⟩ := o
        simp only at hd
        subst hd
        have key := take_list X hX hB hs hT hQ hU r (m ||| 1 <<< i) m' (e :: Γ) Γ' f hk1 h ho k
        have := w_take (P := P) (ol := ol) (σ := σ) (ds := ds) (w := w) (L := gden M Γ ++ L) (n := n) i ho1 hn hs c1 c2 (lb_set hil) rfl hT c3 (hQ d) (subN_ok c4 hU) hy (f := f + r.length) (m' := m ||| 1 <<< i) (by
          simp only [gden, List.map_cons, List.cons_append, hed] at key ⊢
          exact key)
        rw [List.length_cons, ← Nat.add_assoc]
        exact this
      · cases h
    · cases h
def outD (X : List Nat → Cx P) (ol : List Oper) (M : List Base) (L : Env) (S' : List (Nat × Nat × Nat)) (ms : List (List Nat)) (tm U im : List Nat) (m m' : Nat) (is : List Nat) (L' : Env) (z : List (Value × Value)) : Option (List (Value × Value)) :=
  bif Region.noSelect ol.toArray && tmOk tm 0 ol then (match takeE X ol ms tm U m (imp L im) is with
    | some q => bif Nat.beq q.1 m' && freshB L L' (is.map fun i => (opAt ol i).getD default) then (match outs M q.2 L' with
      | some l => some (obs q.2 ++ (l ++ (sob L M S' ++ z)))
      | none => none) else none
    | none => none) else none
def seeDL (n : Nat) (ol : List Oper) (T : List (TE P)) (ex : List (ExtD I wr S)) (ix : List Ix) (sg : List (SgD I wr S)) (S' : List (Nat × Nat × Nat)) (L : Env) (ms : List (List Nat)) (tm U im : List Nat) (m m' : Nat) (is : List Nat) (L' : Env) : List (Option Value) :=
  sideL (outD (cxD n ol T S ex ix sg S' L) ol (basesD S ex) L S' ms tm U im m m' is L' (sg.map (SgD.ob (basesD S ex))))
def seeDR (n : Nat) (ol : List Oper) (T : List (TE P)) (ex : List (ExtD I wr S)) (ix : List Ix) (sg : List (SgD I wr S)) (S' : List (Nat × Nat × Nat)) (L : Env) (ms : List (List Nat)) (tm U im : List Nat) (m m' : Nat) (is : List Nat) (L' : Env) : List (Option Value) :=
  sideR (outD (cxD n ol T S ex ix sg S' L) ol (basesD S ex) L S' ms tm U im m m' is L' (sg.map (SgD.ob (basesD S ex))))
theorem w_takes {len f F m : Nat} (T : List (TE P)) (U : List Nat) (hU : Wp I wr S U w) (ex : List (ExtD I wr S)) (ix : List Ix) (sg : List (SgD I wr S)) (S' : List (Nat × Nat × Nat)) (im is : List Nat) (m' : Nat) (L' : Env) (hQ : ∀ d, PanOk d Q) (hl : len = ol.length) (hF : F = f + is.length)
    (H : seeDL n ol T ex ix sg S' L ms tm U im m m' is L' = seeDR n ol T ex ix sg S' L ms tm U im m m' is L')
    (k : ∀ σ, wpW (WF I wr S ms tm) P ol.toArray Q f (lb len m') (st n (app L' L) σ ds) w) : wpW (WF I wr S ms tm) P ol.toArray Q F (lb len m) (st n L σ ds) w := by
  subst hl
  subst hF
  obtain ⟨l, hl, ho⟩ := sides H
  unfold outD at hl
  cases hc : Region.noSelect ol.toArray && tmOk tm 0 ol
  · rw [hc] at hl; cases hl
  rw [hc] at hl
  simp only [Bool.and_eq_true, cond_true] at hc hl
  split at hl
  · rename_i q hq
    cases hc2 : Nat.beq q.1 m' && freshB L L' (is.map fun i => (opAt ol i).getD default)
    · rw [hc2] at hl; cases hl
    rw [hc2] at hl
    simp only [Bool.and_eq_true, cond_true] at hc2 hl
    split at hl
    · rename_i l' hl'
      cases hl
      have o1 : ∀ p ∈ obs q.2, p.1 = p.2 := fun p hp => ho p (List.mem_append_left _ hp)
      have o2 : ∀ p ∈ l', p.1 = p.2 := fun p hp => ho p (List.mem_append_right _ (List.mem_append_left _ hp))
      have o3 : ∀ p ∈ sob L (basesD S ex) S', p.1 = p.2 := fun p hp => ho p (List.mem_append_right _ (List.mem_append_right _ (List.mem_append_left _ hp)))
      have o4 : ∀ p ∈ sg.map (SgD.ob (basesD S ex)), p.1 = p.2 := fun p hp => ho p (List.mem_append_right _ (List.mem_append_right _ (List.mem_append_right _ hp)))
      have hsg : ∀ js w, Wp I wr S js w → ∀ s ∈ (sg.filter fun s => subN s.js js).map SgD.t, CellsAt w ((bget (basesD S ex) s.1).a.add s.2.1) s.2.2 := by
        intro js w hw s hs
        obtain ⟨u, hu, rfl⟩ := List.mem_map.1 hs
        obtain ⟨hu1, hu2⟩ := List.mem_filter.1 hu
        have := o4 _ (List.mem_map.2 ⟨u, hu1, rfl⟩)
        simp only [SgD.ob, Value.pointer.injEq, Option.some.injEq] at this
        simp only [SgD.t, this]
        exact u.h w (subN_ok hu2 hw)
      have hB : ∀ js w, Wp I wr S js w → Bg (cxD n ol T S ex ix sg S' L js) σ w := fun js w hw => ⟨sob_ok o3, fun i hi => mayD_ok hw i hi, hsg js w hw⟩
      obtain ⟨g1, g2, g3⟩ := imp_ok L im
      have hm' := Nat.eq_of_beq_eq_true hc2.1
      have hfr : st n (gden (basesD S ex) q.2 ++ L) σ ds = st n (app L' L) (ov (gden (basesD S ex) q.2 ++ L) σ) ds := by
        have : ov (app L' L) (ov (gden (basesD S ex) q.2 ++ L) σ) = ov (gden (basesD S ex) q.2 ++ L) σ := by
          funext t
          rw [ov_app]
          cases h1 : lfind L' t with
          | some v =>
            obtain ⟨q', hq', hv⟩ := outs_ok hl' o2 t v h1
            simp only []
            rw [ov_gden, hq']; exact hv.symm
          | none =>
            simp only []
            cases h2 : lfind L t with
            | none => exact ov_none h2
            | some v =>
              rw [ov_lfind h2, ov_gden]
              cases hq' : gfind q.2 t with
              | none => exact (ov_lfind h2).symm
              | some q' =>
                simp only []
                have slots : ∀ (r : List Nat) (m : Nat) (Γ : List GE), takeE (cxD n ol T S ex ix sg S' L) ol ms tm U m Γ r = some q → gfind Γ t = some q' ∨ ∃ i ∈ r, ∃ o, opAt ol i = some o ∧ o.dst = some t := by
                  intro r
                  induction r with
                  | nil => intro m Γ h; cases h; exact .inl hq'
                  | cons i r ih =>
                    intro m Γ h
                    simp only [takeE] at h
                    split at h
                    · rename_i o ho'
                      cases hc : closedB ol m 0 ol && ((Region.ready .any ol.toArray (lb ol.length m)).contains i && (vOk ol m i o (ms.getD i []) ms tm 0 ol && subN (ms.getD i []) U))
                      · rw [hc] at h; cases h
                      · rw [hc] at h
                        simp only [cond_true] at h
                        split at h
                        · rename_i Γ1 h1
                          obtain ⟨e, d, rfl, hd, hed, hn⟩ := stepE_cons h1
                          rcases ih _ _ h with h3 | ⟨i', hi', o', ho2, hd2⟩
                          · simp only [gfind] at h3
                            cases hb : Nat.beq e.slot t
                            · rw [hb] at h3; exact .inl h3
                            · exact .inr ⟨i, List.mem_cons_self .., o, ho', by rw [hd, ← hed, Nat.eq_of_beq_eq_true hb]⟩
                          · exact .inr ⟨i', List.mem_cons_of_mem _ hi', o', ho2, hd2⟩
                        · cases h
                    · cases h
                rcases slots is m _ hq with h3 | ⟨i, hi, o, ho', hd⟩
                · obtain ⟨v', h4, h5⟩ := g3 t q' h3
                  rw [h2] at h4
                  cases h4
                  exact (h5 _).symm
                · exfalso
                  have h6 := List.all_eq_true.1 hc2.2 o (List.mem_map.2 ⟨i, hi, by rw [ho']; rfl⟩)
                  rw [hd] at h6
                  simp [inL, h1, h2] at h6
        unfold st
        rw [this]
      have key := take_list (ms := ms) (tm := tm) (Q := Q) (ds := ds) (M := basesD S ex) (L := L) (n := n) (cxD n ol T S ex ix sg S' L) (fun js => ⟨rfl, rfl, rfl, rfl⟩) hB hc.1 hc.2 hQ hU is m q.1 (imp L im) q.2 f g1 hq o1 (by rw [hfr, hm']; exact k _)
      have h0 : st n (gden (basesD S ex) (imp L im) ++ L) σ ds = st n L σ ds := by
        unfold st
        congr 2
        funext t
        rw [ov_gden]
        cases hq : gfind (imp L im) t with
        | none => rfl
        | some q =>
          obtain ⟨v, h4, h5⟩ := g3 t q hq
          simp only []
          rw [h5, ov_lfind h4]
      rw [h0] at key
      exact key
    · cases hl
  · cases hl
end
end
end Go.Proofs.Ytcnchjlomcafeaa.B
