/- Operations over a frame, and over what a call owns. -/
import Derived.Test.YtcnchjlomcafeaaBase
import Derived.Laws.Bits
set_option linter.unusedVariables false
set_option linter.unusedSimpArgs false
set_option linter.unusedSectionVars false
namespace Go.Proofs.Ytcnchjlomcafeaa.B
open Go Go.RowKit

section
variable {P : Program} {ops : Array Oper} {Q : Exit → Act → World → Prop} {n : Nat} {L : Env} {σ : Nat → Value} {ds : List Deferred} {w : World} {rest : List Oper}
variable {d : Nat} {ty : TypeId} {pos : String} {af : Array Edge} {v v1 v2 v3 : Value} {x y z : Operand}

theorem r_div {op : UnOp} {k : IntKind} {a b c : Int} {xt : TypeId} (hb : b ≠ 0) (hc : k.wrap (a.tdiv b) = c) :
    (do eqGuard .quo xt x y (.int k a) (.int k b); binOp .quo xt (.int k a) (.int k b) : Sem Value).run P w = .ok (.int k c) w := by
  subst hc
  simp [eqGuard, binOp, Op.intDiv, hb]
theorem r_rem {k : IntKind} {a b c : Int} {xt : TypeId} (hb : b ≠ 0) (hc : a.tmod b = c) :
    (do eqGuard .rem xt x y (.int k a) (.int k b); binOp .rem xt (.int k a) (.int k b) : Sem Value).run P w = .ok (.int k c) w := by
  subst hc
  simp [eqGuard, binOp, Op.intDiv, hb]
theorem r_add {k : IntKind} {a b c : Int} {xt : TypeId} (hc : k.wrap (a + b) = c) :
    (do eqGuard .add xt x y (.int k a) (.int k b); binOp .add xt (.int k a) (.int k b) : Sem Value).run P w = .ok (.int k c) w := by
  subst hc
  simp [eqGuard, binOp, Op.intArith]
theorem r_sub {k : IntKind} {a b c : Int} {xt : TypeId} (hc : k.wrap (a - b) = c) :
    (do eqGuard .sub xt x y (.int k a) (.int k b); binOp .sub xt (.int k a) (.int k b) : Sem Value).run P w = .ok (.int k c) w := by
  subst hc
  simp [eqGuard, binOp, Op.intArith]
theorem r_mul {k : IntKind} {a b c : Int} {xt : TypeId} (hc : k.wrap (a * b) = c) :
    (do eqGuard .mul xt x y (.int k a) (.int k b); binOp .mul xt (.int k a) (.int k b) : Sem Value).run P w = .ok (.int k c) w := by
  subst hc
  simp [eqGuard, binOp, Op.intArith]
theorem r_shl {k k' : IntKind} {a b c : Int} {xt : TypeId} (hb : 0 ≤ b) (hc : k.wrap (a * 2 ^ (min b.toNat k.bits)) = c) :
    (do eqGuard .shl xt x y (.int k a) (.int k' b); binOp .shl xt (.int k a) (.int k' b) : Sem Value).run P w = .ok (.int k c) w := by
  subst hc
  have : ¬ b < 0 := by omega
  simp [eqGuard, binOp, Op.shift, this]
theorem r_shr {k k' : IntKind} {a b c : Int} {xt : TypeId} (hb : 0 ≤ b) (hc : a.fdiv (2 ^ (min b.toNat k.bits)) = c) :
    (do eqGuard .shr xt x y (.int k a) (.int k' b); binOp .shr xt (.int k a) (.int k' b) : Sem Value).run P w = .ok (.int k c) w := by
  subst hc
  have : ¬ b < 0 := by omega
  simp [eqGuard, binOp, Op.shift, this]
theorem r_eql {k : IntKind} {a b : Int} {c : Bool} {xt : TypeId} (hc : decide (a = b) = c) :
    (do eqGuard .eql xt x y (.int k a) (.int k b); binOp .eql xt (.int k a) (.int k b) : Sem Value).run P w = .ok (.bool c) w := by
  subst hc
  simp [eqGuard, binOp, Op.intCmp]
  rfl
theorem r_neq {k : IntKind} {a b : Int} {c : Bool} {xt : TypeId} (hc : (!decide (a = b)) = c) :
    (do eqGuard .neq xt x y (.int k a) (.int k b); binOp .neq xt (.int k a) (.int k b) : Sem Value).run P w = .ok (.bool c) w := by
  subst hc
  simp [eqGuard, binOp, Op.intCmp]
  rfl
theorem r_lss {k : IntKind} {a b : Int} {c : Bool} {xt : TypeId} (hc : decide (a < b) = c) :
    (do eqGuard .lss xt x y (.int k a) (.int k b); binOp .lss xt (.int k a) (.int k b) : Sem Value).run P w = .ok (.bool c) w := by
  subst hc
  simp [eqGuard, binOp, Op.intCmp]
theorem r_leq {k : IntKind} {a b : Int} {c : Bool} {xt : TypeId} (hc : decide (a ≤ b) = c) :
    (do eqGuard .leq xt x y (.int k a) (.int k b); binOp .leq xt (.int k a) (.int k b) : Sem Value).run P w = .ok (.bool c) w := by
  subst hc
  simp [eqGuard, binOp, Op.intCmp]
theorem r_gtr {k : IntKind} {a b : Int} {c : Bool} {xt : TypeId} (hc : decide (a > b) = c) :
    (do eqGuard .gtr xt x y (.int k a) (.int k b); binOp .gtr xt (.int k a) (.int k b) : Sem Value).run P w = .ok (.bool c) w := by
  subst hc
  simp [eqGuard, binOp, Op.intCmp]
theorem r_geq {k : IntKind} {a b : Int} {c : Bool} {xt : TypeId} (hc : decide (a ≥ b) = c) :
    (do eqGuard .geq xt x y (.int k a) (.int k b); binOp .geq xt (.int k a) (.int k b) : Sem Value).run P w = .ok (.bool c) w := by
  subst hc
  simp [eqGuard, binOp, Op.intCmp]
theorem r_bits {op : BinOp} {k : IntKind} {a b c : Int} {xt : TypeId} (ho : op = .and ∨ op = .or ∨ op = .xor ∨ op = .andNot) (hc : bits op k a b = c) :
    (do eqGuard op xt x y (.int k a) (.int k b); binOp op xt (.int k a) (.int k b) : Sem Value).run P w = .ok (.int k c) w := by
  subst hc
  rcases ho with rfl | rfl | rfl | rfl <;> simp [eqGuard, binOp, Op.intBits, bits]
theorem r_streq {a b : ByteArray} {c : Bool} {xt : TypeId} (hc : (a.toList == b.toList) = c) :
    (do eqGuard .eql xt x y (.string a) (.string b); binOp .eql xt (.string a) (.string b) : Sem Value).run P w = .ok (.bool c) w := by
  subst hc
  simp [eqGuard, binOp, Op.stringOp]
theorem r_strne {a b : ByteArray} {c : Bool} {xt : TypeId} (hc : (!(a.toList == b.toList)) = c) :
    (do eqGuard .neq xt x y (.string a) (.string b); binOp .neq xt (.string a) (.string b) : Sem Value).run P w = .ok (.bool c) w := by
  subst hc
  simp [eqGuard, binOp, Op.stringOp]
theorem r_not {b c : Bool} (hc : (!b) = c) : (Op.unary .not (.bool b)).run P w = .ok (.bool c) w := by subst hc; rfl
theorem r_neg {k : IntKind} {a c : Int} (hc : k.wrap (0 - a) = c) : (Op.unary .neg (.int k a)).run P w = .ok (.int k c) w := by
  subst hc; simp [Op.unary, Op.intArith]
end
end Go.Proofs.Ytcnchjlomcafeaa.B
