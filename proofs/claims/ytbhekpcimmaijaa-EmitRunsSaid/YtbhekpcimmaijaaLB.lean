/- LB: several texts in one. -/
import Derived.Test.YtbhekpcimmaijaaLA
import Derived.ArgAppend
import Derived.Laws.FloatArith
import Derived.Laws.LoneSync
import Derived.Laws.BitsAllLaws
set_option linter.unusedVariables false
set_option linter.unusedSimpArgs false
set_option linter.unusedSectionVars false
namespace Go.Proofs.Ytbhekpcimmaijaa.B
open Go Go.RowKit

structure Wp (I : Nat → Prop) (wr : World) (S : List Rsc) (mk : List Nat) (w : World) : Prop where
 imm : ∀ k, I k → w.heap[k]? = wr.heap[k]?
 own : ∀ r ∈ mk, ∀ p ∈ S.getD r [], w.heap[p.1]? = some p.2
section
variable {M I : Nat → Prop} {w0 wr w : World} {R S : List Rsc} {mk : List Nat} {α : Type} {E : Enc α}
section
variable {β : Type} {kk : IntKind} {ev : β → Value} {A : Option Nat} {m : List (Int × β)} {X : Rsc}
end
end

section
variable {P : Program} {ops : Array Oper} {Q : Exit → Act → World → Prop} {W : Nat → World → Prop} {V : World → Prop}
inductive TR (ops : Array Oper) : Nat → Nat → Prop
 | one {j : Nat} {o : Oper} {e : Edge} (h : ops[j]? = some o) (he : e ∈ o.after) (hb : Region.binds .any e = true) : TR ops j e.on
 | step {j i : Nat} {o : Oper} {e : Edge} (h : ops[j]? = some o) (he : e ∈ o.after) (hb : Region.binds .any e = true) (k : TR ops e.on i) : TR ops j i
end

section
variable {P : Program} {ol : List Oper} {N : Act → World → Prop} {Q : Exit → Act → World → Prop} {n : Nat} {L : Env} {σ : Nat → Value} {ds : List Deferred} {w : World} {W : Nat → World → Prop} {V : World → Prop}
def opAt : List Oper → Nat → Option Oper
 | [], _ => none
 | o :: _, 0 => some o
 | _ :: r, j + 1 => opAt r j
end

def updb (g : Nat → Nat) (i b j : Nat) : Nat := bif Nat.beq i j then b else g j
def updx (g : Nat → Rsc) (i : Nat) (X : Rsc) (j : Nat) : Rsc := bif Nat.beq i j then X else g j
structure PF where
 i : Nat
 slot : Option Nat
 fact : Nat → Rsc → Value → Prop
def pfAt : List PF → Nat → PF
 | [], i => ⟨i, none, fun _ _ _ => True⟩
 | f :: r, i => bif Nat.beq f.i i then f else pfAt r i
abbrev Jt := (Nat → Bool) → (Nat → Nat) → (Nat → Rsc) → World → Prop
def PF.at_ (f : PF) (gb : Nat → Nat) (gx : Nat → Rsc) (σ : Nat → Value) : Prop := f.fact (gb f.i) (gx f.i) (dval σ f.slot)
def Pcs (Φ : List PF) (gb : Nat → Nat) (gx : Nat → Rsc) (σ : Nat → Value) : List Nat → Prop
 | [] => True
 | j :: r => (pfAt Φ j).at_ gb gx σ ∧ Pcs Φ gb gx σ r
inductive PSteps (P : Program) (ol : List Oper) (n : Nat) (L : Env) (ds : List Deferred) (J : Jt) (Q : Exit → Act → World → Prop) (Φ : List PF) : List PF → Prop
 | nil : PSteps P ol n L ds J Q Φ []
 | cons {f : PF} {o : Oper} {r : List PF} (pr pt np : List Nat) (ho : opAt ol f.i = some o) (hs : f.slot = o.dst) (hn : slotB n o.dst = true) (hp : predsOk o pr = true) (ht : predsOk o pt = true) (hq : succsOk ol f.i np = true)
  (h : ∀ σ fl gb gx w, J fl gb gx w → fl f.i = false → Fls fl true pt → Fls fl false np → Pcs Φ gb gx σ pr →
   wpList P ol.toArray (Exit.then (fun a w' => ∃ v b X, a = st n (pd o.dst v L) σ ds ∧ J (upd fl f.i) (updb gb f.i b) (updx gx f.i X) w' ∧ f.fact b X (dv o.dst v)) Q) [o] (st n L σ ds) w)
  (k : PSteps P ol n L ds J Q Φ r) : PSteps P ol n L ds J Q Φ (f :: r)

def pslotNot (d : Nat) : List PF → Bool
 | [] => true
 | f :: r => (match f.slot with | some d' => !(Nat.beq d' d) | none => true) && pslotNot d r
section
variable {P : Program} {ol : List Oper} {n : Nat} {L : Env} {ds : List Deferred} {J : Jt} {Φ : List PF} {N : Act → World → Prop} {Q : Exit → Act → World → Prop} {W : Nat → World → Prop}
structure PJ (ol : List Oper) (n : Nat) (L : Env) (ds : List Deferred) (J : Jt) (Φ : List PF) (m : Nat) (listed : Array Bool) (a : Act) (w : World) : Prop where
 ex : ∃ σ gb gx, a = st n L σ ds ∧ J (fun j => listed.getD j false) gb gx w ∧ ∀ f ∈ Φ, listed.getD f.i false = true → f.at_ gb gx σ
 closed : ∀ i o, ol[i]? = some o → listed.getD i false = true → ∀ e ∈ o.after, Region.binds .any e = true → listed.getD e.on false = true
 base : ∀ i, Nat.testBit m i = true → i < ol.length → listed.getD i false = true
 only : ∀ i, listed.getD i false = true → Nat.testBit m i = true ∨ i ∈ Φ.map (·.i)
end
section
variable {P : Program} {ops : Array Oper} {N : Act → World → Prop} {Q : Exit → Act → World → Prop} {n : Nat} {L : Env} {σ : Nat → Value} {ds : List Deferred} {w : World} {rest : List Oper}
variable {ty : TypeId} {pos : String} {af : Array Edge} {x : Operand} {fn : Func} {R : Ending → World → Prop} {f : FuncId} {caps : List Value}
variable {u : FrameMode} {c : Code} {c₀ : Frame} {cs : List Frame}
variable {d d2 : Nat} {ty2 : TypeId} {pos2 : String} {af2 : Array Edge} {id : Nat} {K : Act → List Frame → World → Prop} {QS : Exit → Act → List Frame → World → Prop}
variable {dst : Option Tmp} {a : Act} {gd : Option (Nat × Bool)}
end

def BL (P : Program) (t : TypeId) (z : Array Value) (pl : Array (Nat × Nat)) : Prop := ∀ ps cells w, Instr.fill (pl[·]?) z ps = some cells → (Instr.build t ps.toArray).run P w = .ok (.agg cells) w
structure TE (P : Program) where
 t : Nat
 d : TypeDesc
 sz : Nat
 ag : Bool
 u : UT P t d
 s : SZ P t sz
 a : AG P t ag
 z : Option (Array Value × Array (Nat × Nat))
 b : ∀ q, z = some q → BL P t q.1 q.2
section
variable {P : Program}
def tget : List (TE P) → Nat → Option (TE P)
 | [], _ => none
 | e :: r, t => bif Nat.beq e.t t then some e else tget r t
theorem tget_t {T : List (TE P)} {t : Nat} {e : TE P} (h : tget T t = some e) : e.t = t := by
 induction T with
 | nil => cases h
 | cons x r ih =>
  simp only [tget] at h
  cases hb : Nat.beq x.t t
  ·rw [hb] at h; exact ih h
  ·rw [hb] at h; cases h; exact Nat.eq_of_beq_eq_true hb
end
structure Base where
 a : Addr
 cs : List Value
def bget (M : List Base) (i : Nat) : Base := M.getD i ⟨⟨0, 0, none⟩, []⟩
inductive CV
 | v (x : Value)
 | p (i off : Nat)
def CV.den (M : List Base) : CV → Value
 | .v x => x
 | .p i off => .pointer (some ((bget M i).a.add off))
inductive Ix
 | s (slot base : Nat) (A : Option Addr) (m c : Nat) (i : Int) (sz : Nat) (p : Addr) (h : Pl A sz i p) (g : 0 ≤ i ∧ i < (m : Int))
 | a (slot base : Nat) (b o m : Nat) (i : Int) (g : 0 ≤ i ∧ i < (m : Int))
 | p (slot base off : Nat)
structure GE where
 slot : Nat
 path : List (Nat × Bool)
 c : Bool
 x : CV
 ob : List (Value × Value)
def gfind : List GE → Nat → Option (Nat × GE)
 | [], _ => none
 | e :: r, t => bif Nat.beq e.slot t then some (r.length, e) else gfind r t
def gat : List GE → Nat → Option GE
 | [], _ => none
 | e :: r, k => bif Nat.beq r.length k then some e else gat r k
def lfind : Env → Nat → Option Value
 | [], _ => none
 | p :: r, t => bif Nat.beq p.1 t then some p.2 else lfind r t
def sfind : List (Nat × Nat × Nat) → Nat → Option (Nat × Nat)
 | [], _ => none
 | p :: r, t => bif Nat.beq p.1 t then some p.2 else sfind r t
structure Cx (P : Program) where
 n : Nat
 ol : List Oper
 T : List (TE P)
 M : List Base
 may : Nat → Bool
 S : List (Nat × Nat × Nat)
 ix : List Ix
 sg : List (Nat × Nat × List Value)
 L : Env

def qeq (q r : Nat × Bool) : Bool := Nat.beq q.1 r.1 && (bif q.2 then r.2 else !r.2)
def sub_ (ρ π : List (Nat × Bool)) : Bool := ρ.all fun q => π.any (qeq q)
section
variable {P : Program}
def rdo (X : Cx P) (Γ : List GE) (π : List (Nat × Bool)) : Operand → Option CV
 | .const v => some (.v v)
 | .tmp t => bif Nat.blt t X.n then (match gfind Γ t with
  | some q => bif sub_ q.2.path π then some q.2.x else none
  | none => match sfind X.S t with
   | some q => some (.p q.1 q.2)
   | none => match lfind X.L t with
    | some v => some (.v v)
    | none => none) else none
 | _ => none
def kn : IntKind → Nat
 | .i8 => 0 | .i16 => 1 | .i32 => 2 | .i64 => 3 | .u8 => 4 | .u16 => 5 | .u32 => 6 | .u64 => 7
theorem kn_inj {k k' : IntKind} (h : Nat.beq (kn k) (kn k') = true) : k = k' := by
 have := Nat.eq_of_beq_eq_true h
 cases k <;> cases k' <;> first | rfl | (simp [kn] at this)
def wr (k : IntKind) (x : Int) : Int := match k with
 | .i64 => wrap64 x | .i32 => wrap32 x | .u8 => x % 256 | .u16 => x % 65536 | .u32 => x % 4294967296 | .u64 => x % 18446744073709551616 | .i16 => wrap16 x | .i8 => IntKind.i8.wrap x
theorem wr_eq (k : IntKind) (x : Int) : k.wrap x = wr k x := by
 cases k
 ·rfl
 ·exact wrap_i16 x
 ·exact wrap_i32 x
 ·exact wrap_i64 x
 ·exact wrap_u8 x
 ·exact wrap_u16 x
 ·exact wrap_u32 x
 ·exact wrap_u64 x
def nneg : Int → Bool
 | .ofNat _ => true
 | .negSucc _ => false
def nzero : Int → Bool
 | .ofNat 0 => false
 | _ => true
theorem nneg_ok {b : Int} (h : nneg b = true) : 0 ≤ b := by
 cases b with
 | ofNat n => exact Int.natCast_nonneg n
 | negSucc n => cases h
theorem nzero_ok {b : Int} (h : nzero b = true) : b ≠ 0 := by
 rintro rfl
 cases h
def isBool : TypeDesc → Bool
 | .bool => true
 | _ => false
def sameK (k k' : IntKind) : Bool := Nat.beq (kn k) (kn k')
def bopI (op : BinOp) (k : IntKind) (a : Int) (k' : IntKind) (b : Int) : Option Value := match op with
 | .shl => bif nneg b then some (.int k (wr k (a * 2 ^ (min b.toNat k.bits)))) else none
 | .shr => bif nneg b then some (.int k (a / 2 ^ (min b.toNat k.bits))) else none
 | .add => bif sameK k k' then some (.int k (wr k (a + b))) else none
 | .sub => bif sameK k k' then some (.int k (wr k (a - b))) else none
 | .mul => bif sameK k k' then some (.int k (wr k (a * b))) else none
 | .quo => bif sameK k k' && nzero b then some (.int k (wr k (Int.tdiv a b))) else none
 | .rem => bif sameK k k' && nzero b then some (.int k (Int.tmod a b)) else none
 | .and => bif sameK k k' then some (.int k (bits .and k a b)) else none
 | .or => bif sameK k k' then some (.int k (bits .or k a b)) else none
 | .xor => bif sameK k k' then some (.int k (bits .xor k a b)) else none
 | .andNot => bif sameK k k' then some (.int k (bits .andNot k a b)) else none
 | .eql => bif sameK k k' then some (.bool (decide (a = b))) else none
 | .neq => bif sameK k k' then some (.bool (!decide (a = b))) else none
 | .lss => bif sameK k k' then some (.bool (decide (a < b))) else none
 | .leq => bif sameK k k' then some (.bool (decide (a ≤ b))) else none
 | .gtr => bif sameK k k' then some (.bool (decide (a > b))) else none
 | .geq => bif sameK k k' then some (.bool (decide (a ≥ b))) else none
theorem fdivp (a : Int) (m : Nat) : a.fdiv (2 ^ m) = a / 2 ^ m := by
 refine Int.fdiv_eq_ediv_of_nonneg a ?_
 exact Int.le_of_lt (Int.pow_pos (by decide))
theorem condE {b : Bool} {v : Value} {o : Option Value} (h : (bif b then o else none) = some v) : b = true ∧ o = some v := by
 cases b
 ·cases h
 ·exact ⟨rfl, h⟩
theorem bopI_ok {xt : Nat} {op : BinOp} {k k' : IntKind} {a b : Int} {v : Value} {x y : Operand} {w : World} (h : bopI op k a k' b = some v) :
 (do eqGuard op xt x y (.int k a) (.int k' b); binOp op xt (.int k a) (.int k' b) : Sem Value).run P w = .ok v w := by
 have main : sameK k k' = true → k' = k := fun h => (kn_inj h).symm
 have and2 : ∀ {p q : Bool}, (p && q) = true → p = true ∧ q = true := fun h => by simpa using h
 cases op <;> obtain ⟨h1, h2⟩ := condE h
 case shl => cases h2; exact r_shl (nneg_ok h1) (wr_eq _ _)
 case shr => cases h2; exact r_shr (nneg_ok h1) (fdivp _ _)
 case quo => cases h2; obtain ⟨h1, h3⟩ := and2 h1; cases main h1; exact r_div (op := .not) (nzero_ok h3) (wr_eq _ _)
 case rem => cases h2; obtain ⟨h1, h3⟩ := and2 h1; cases main h1; exact r_rem (nzero_ok h3) rfl
 all_goals cases h2
 all_goals cases main h1
 case add => exact r_add (wr_eq _ _)
 case sub => exact r_sub (wr_eq _ _)
 case mul => exact r_mul (wr_eq _ _)
 case and => exact r_bits (by simp) rfl
 case or => exact r_bits (by simp) rfl
 case xor => exact r_bits (by simp) rfl
 case andNot => exact r_bits (by simp) rfl
 case eql => exact r_eql rfl
 case neq => exact r_neq rfl
 case lss => exact r_lss rfl
 case leq => exact r_leq rfl
 case gtr => exact r_gtr rfl
 case geq => exact r_geq rfl
def holds (Γ : List GE) (q : Nat × Bool) : Prop := ∃ e b, gat Γ q.1 = some e ∧ e.x = .v (.bool b) ∧ b = q.2
structure Snd (X : Cx P) (Γ : List GE) (a : Act) (w : World) : Prop where
 rd : ∀ π x cv, rdo X Γ π x = some cv → (∀ q ∈ π, holds Γ q) → a.eval x = cv.den X.M
 at_ : ∀ i, X.may i = true → CellsAt w (bget X.M i).a (bget X.M i).cs
 sg : ∀ s ∈ X.sg, CellsAt w ((bget X.M s.1).a.add s.2.1) s.2.2
 gt : ∀ t q, gfind Γ t = some q → gat Γ q.1 = some q.2
section
variable {X : Cx P} {Γ : List GE} {a : Act} {w : World} {π : List (Nat × Bool)} {d : Nat} {dst : Option Tmp} {ty : TypeId} {pos : String} {af : Array Edge} {gd : Option (Nat × Bool)}
end
structure Bg (X : Cx P) (σ : Nat → Value) (w : World) : Prop where
 S : ∀ t q, sfind X.S t = some q → lfind X.L t = some ((CV.p q.1 q.2).den X.M)
 at_ : ∀ i, X.may i = true → CellsAt w (bget X.M i).a (bget X.M i).cs
 sg : ∀ s ∈ X.sg, CellsAt w ((bget X.M s.1).a.add s.2.1) s.2.2
variable {Q : Exit → Act → World → Prop} {N : Act → World → Prop} {rest : List Oper}
structure Ext (w : World) where
 a : Addr
 cs : List Value
 h : CellsAt w a cs
structure Sgt (w : World) where
 i : Nat
 o : Nat
 a : Addr
 cs : List Value
 h : CellsAt w a cs
section
variable {n : Nat} {L : Env} {σ : Nat → Value} {ds : List Deferred} {w : World} {M I : Nat → Prop} {w0 wr : World} {R : List Rsc} {ol l : List Oper}
end
section
variable {n : Nat} {L : Env} {σ : Nat → Value} {ds : List Deferred} {w : World} {M I : Nat → Prop} {w0 wr : World} {R S : List Rsc} {ol l : List Oper} {ms : List (List Nat)} {tm : List Nat}
structure ExtD (I : Nat → Prop) (wr : World) (S : List Rsc) where
 a : Addr
 cs : List Value
 js : List Nat
 h : ∀ w, Wp I wr S js w → CellsAt w a cs
structure SgD (I : Nat → Prop) (wr : World) (S : List Rsc) where
 i : Nat
 o : Nat
 a : Addr
 cs : List Value
 js : List Nat
 h : ∀ w, Wp I wr S js w → CellsAt w a cs
end
end

section
variable {P : Program} {ops : Array Oper} {Q : Exit → Act → World → Prop} {n : Nat} {L : Env} {σ : Nat → Value} {ds : List Deferred} {w : World} {rest : List Oper}
variable {d : Nat} {ty : TypeId} {pos : String} {af : Array Edge} {v v1 v2 v3 : Value} {x y z : Operand} {gd : Option (Nat × Bool)} {dst : Option Tmp}
variable {M I F : Nat → Prop} {w0 wr wf : World} {R : List Rsc} {α : Type} {E : Enc α}

def vA (sz : Nat) (A : Option Addr) (c l : Nat) : Option Addr := if c = l then A else A.map (·.add (l * sz))
theorem e_view {t e : TypeId} {A : Option Addr} {c m sz : Nat} {lo hi : Option Operand} {l h : Int} {kl kh : IntKind} (hu : UT P t (.slice e)) (hs : SZ P e sz) (hb : 0 ≤ l ∧ l ≤ h ∧ h ≤ (c : Int)) :
 ∀ {ac : Act} {w : World}, ac.eval x = .slice A m c → ((lo.map ac.eval = some (.int kl l)) ∨ (lo = none ∧ l = 0)) → ((hi.map ac.eval = some (.int kh h)) ∨ (hi = none ∧ h = (m : Int))) →
  (execOp ac.eval ⟨dst, .slice t x lo hi none, ty, pos, af, gd⟩).run P w = .ok (.value (.slice (vA sz A c l.toNat) (h.toNat - l.toNat) (c - l.toNat))) w := by
 intro ac w hx hlo hhi
 obtain ⟨b0, b1, b2⟩ := hb
 have e0 : 0 ≤ h := by omega
 simp only [execOp, hx, Option.map_none]
 rcases hlo with hlo | ⟨rfl, rfl⟩ <;> rcases hhi with hhi | ⟨rfl, rfl⟩ <;>
  simp [Instr.sliceAt, Instr.slice, Instr.sliceBounds, Instr.sliceBound, Sem.run_bind, hu w, hs w, asIntOf, vA, *] <;> (try omega)
theorem zeroCells_eq {zv : Array Value} {zc : List Value} {sz : Nat} (h : zv = zc.toArray) (hc : zc.length = sz) (hp : 0 < sz) (m : Nat) : (Builtin.zeroCells zv m).toList = (List.replicate m zc).flatten := by
 subst h
 apply List.ext_getElem?
 intro j
 by_cases hj : j < m * sz
 ·rw [cs_replicate hc hp m j hj]
  have hm : j % sz < zc.length := by rw [hc]; exact Nat.mod_lt _ hp
  simp [Builtin.zeroCells, hc, hj, hm, List.getElem?_eq_getElem hm, getElem!_pos]
 ·rw [List.getElem?_eq_none (by simp [Builtin.zeroCells, hc]; omega), List.getElem?_eq_none]
  have : (List.replicate m zc).flatten.length = m * sz := by simp [hc]
  omega
theorem e_slice3 {t e : TypeId} {A : Option Addr} {c m sz : Nat} {lo hi mx : Operand} {l h k : Int} {kl kh km : IntKind} (hu : UT P t (.slice e)) (hs : SZ P e sz) (hb : 0 ≤ l ∧ l ≤ h ∧ h ≤ k ∧ k ≤ (c : Int)) :
 ∀ {ac : Act} {w : World}, ac.eval x = .slice A m c → ac.eval lo = .int kl l → ac.eval hi = .int kh h → ac.eval mx = .int km k →
  (execOp ac.eval ⟨dst, .slice t x (some lo) (some hi) (some mx), ty, pos, af, gd⟩).run P w = .ok (.value (.slice (if k.toNat = l.toNat then A else A.map (·.add (l.toNat * sz))) (h.toNat - l.toNat) (k.toNat - l.toNat))) w := by
 intro ac w hx h1 h2 h3
 obtain ⟨b0, b1, b2, b3⟩ := hb
 have e0 : 0 ≤ h := by omega
 have e1 : 0 ≤ k := by omega
 simp only [execOp, hx, Option.map_some]
 simp [Instr.sliceAt, Instr.slice, Instr.sliceBounds, Instr.sliceBound, Sem.run_bind, hu w, hs w, asIntOf, *]
 rw [if_pos (by omega), if_pos (by omega)]
end
def isnan (b : Nat) : Bool := (Ieee.double.read b).isNaN
def nan64 : Nat := 9221120237041090561
def flt (b : Nat) : Nat := if isnan b = true then nan64 else b
theorem isnan64 : isnan nan64 = true := by decide +kernel
theorem isnan_flt (b : Nat) : isnan (flt b) = isnan b := by
 unfold flt
 by_cases h : isnan b = true
 ·rw [if_pos h, isnan64, h]
 ·rw [if_neg h]
theorem flt_num {b : Nat} (h : isnan b = false) : flt b = b := by unfold flt; rw [if_neg (by rw [h]; decide)]
theorem ord_l {b : Nat} (h : isnan b = true) (c : Nat) : Ieee.double.order b c = none := by
 unfold Ieee.Format.order
 unfold isnan at h
 cases hd : Ieee.double.read b <;> rw [hd] at h <;> simp [Ieee.Datum.isNaN] at h
 rfl
theorem ord_r {c : Nat} (h : isnan c = true) (b : Nat) : Ieee.double.order b c = none := by
 unfold Ieee.Format.order
 unfold isnan at h
 cases hd : Ieee.double.read c <;> rw [hd] at h <;> simp [Ieee.Datum.isNaN] at h
 cases Ieee.double.read b <;> rfl
theorem ord_flt (b c : Nat) : Ieee.double.order (flt b) (flt c) = Ieee.double.order b c := by
 by_cases hb : isnan b = true
 ·rw [ord_l hb, ord_l (by rw [isnan_flt]; exact hb)]
 ·by_cases hc : isnan c = true
  ·rw [ord_r hc, ord_r (by rw [isnan_flt]; exact hc)]
  ·rw [flt_num (by simpa using hb), flt_num (by simpa using hc)]
theorem isnan_lt {b : Nat} (h : 9218868437227405312 < b % 9223372036854775808) : isnan b = true := by
 unfold isnan Ieee.Format.read
 have e1 : Ieee.double.signWeight = 9223372036854775808 := by decide +kernel
 have e2 : Ieee.double.binade = 4503599627370496 := by decide +kernel
 have e3 : Ieee.double.infRung = 9218868437227405312 := by decide +kernel
 simp only [e1, e2, e3]
 rw [if_neg (by omega), if_neg (by omega), if_neg (by omega)]
 rfl
def qf (a b : Nat) : Nat := match Ieee.double.div a b with | some r => flt r | none => nan64
theorem div_l {b : Nat} (h : isnan b = true) (c : Nat) : Ieee.double.div b c = none := by
 unfold Ieee.Format.div
 unfold isnan at h
 cases hd : Ieee.double.read b <;> rw [hd] at h <;> simp [Ieee.Datum.isNaN] at h
 rfl
theorem div_r {c : Nat} (h : isnan c = true) (b : Nat) : Ieee.double.div b c = none := by
 unfold Ieee.Format.div
 unfold isnan at h
 cases hd : Ieee.double.read c <;> rw [hd] at h <;> simp [Ieee.Datum.isNaN] at h
 cases Ieee.double.read b <;> rfl
theorem qf_flt (b c : Nat) : qf (flt b) (flt c) = qf b c := by
 unfold qf
 by_cases hb : isnan b = true
 ·rw [div_l hb, div_l (by rw [isnan_flt]; exact hb)]
 ·by_cases hc : isnan c = true
  ·rw [div_r hc, div_r (by rw [isnan_flt]; exact hc)]
  ·rw [flt_num (by simpa using hb), flt_num (by simpa using hc)]
section
variable {P : Program} {w w0 wr : World} {M I : Nat → Prop} {R : List Rsc} {x y : Operand} {xt : TypeId}
theorem run_quo (a b : Nat) : ∃ r w', (do eqGuard .quo xt x y (.float .f64 a) (.float .f64 b); binOp .quo xt (.float .f64 a) (.float .f64 b) : Sem Value).run P w = .ok (.float .f64 r) w' ∧ flt r = qf a b ∧ (w' = w ∨ w' = w.drew) := by
 have h1 : eqGuard .quo xt x y (.float .f64 a) (.float .f64 b) = pure () := rfl
 rw [h1, Sem.run_bind, Sem.run_pure, Result.andThen_ok]
 unfold qf
 cases hd : Ieee.double.div a b with
 | some r =>
  exact ⟨r, w, run_float_arith w .quo xt .f64 a b r hd, rfl, .inl rfl⟩
 | none =>
  have hr : (binOp .quo xt (.float .f64 a) (.float .f64 b)).run P w = .ok (.float .f64 ((Question.nanBits .f64 a b).cut (w.tape w.drawn (.nanBits .f64 a b)))) w.drew := by
   have h2 : binOp .quo xt (.float .f64 a) (.float .f64 b) = Op.floatArith .quo .f64 a b := rfl
   rw [h2]
   unfold Op.floatArith
   have h3 : FloatKind.f64.format.div a b = none := hd
   simp [h3, Question.forced]
  refine ⟨_, _, hr, ?_, .inr rfl⟩
  unfold flt
  rw [if_pos]
  refine isnan_lt ?_
  simp only [Question.cut]
  generalize w.tape w.drawn (Question.nanBits FloatKind.f64 a b) = t
  have hm : t / 2 % (2 ^ 52 - 1) < 4503599627370495 := Nat.mod_lt _ (by decide)
  generalize t / 2 % (2 ^ 52 - 1) = m at hm
  rcases Nat.mod_two_eq_zero_or_one t with e | e <;> rw [e] <;> omega
end
def i2f (n : Int) : Nat := floatOfInt .f64 n
def feq (a b : Nat) : Bool := Ieee.double.order a b == some .eq
def fls (a b : Nat) : Bool := Ieee.double.order a b == some .lt
theorem qf_c {a b x y : Nat} (ha : flt a = x) (hb : flt b = y) : qf a b = qf x y := by subst ha; subst hb; exact (qf_flt a b).symm
section
variable {P : Program} {ops : Array Oper} {Q : Exit → Act → World → Prop} {n : Nat} {L : Env} {σ : Nat → Value} {ds : List Deferred} {w : World} {rest : List Oper}
variable {d : Nat} {ty : TypeId} {pos : String} {af : Array Edge} {x y : Operand} {M I : Nat → Prop} {w0 wr : World} {R : List Rsc} {xt yt : TypeId}
theorem e_convF {a : Act} {src dt : TypeId} {sd : TypeDesc} {k' : IntKind} {c : Int} {dst : Option Tmp} {gd : Option (Nat × Bool)} (hx : a.eval x = .int k' c) (h1 : UT P src sd) (h2 : UT P dt (.float .f64)) :
 (execOp a.eval ⟨dst, .convert src dt x, ty, pos, af, gd⟩).run P w = .ok (.value (.float .f64 (i2f c))) w := by
 simp only [execOp, hx]
 rw [Sem.run_bind]
 cases sd <;> simp [convert, Sem.run_bind, h1 w, h2 w, Conv.intToFloat, i2f, floatOfInt]
theorem r_feq {a b p q : Nat} (ha : flt a = p) (hb : flt b = q) (hu : UT P xt (.float .f64)) :
 (do eqGuard .eql xt x y (.float .f64 a) (.float .f64 b); binOp .eql xt (.float .f64 a) (.float .f64 b) : Sem Value).run P w = .ok (.bool (feq p q)) w := by
 subst ha; subst hb
 unfold feq
 rw [ord_flt]
 rfl
theorem r_fls {a b p q : Nat} (ha : flt a = p) (hb : flt b = q) :
 (do eqGuard .lss xt x y (.float .f64 a) (.float .f64 b); binOp .lss xt (.float .f64 a) (.float .f64 b) : Sem Value).run P w = .ok (.bool (fls p q)) w := by
 subst ha; subst hb
 unfold fls
 rw [ord_flt]
 rfl
end

theorem loop_tot {S O : Type} {f : S → Option (S ⊕ O)} (I : S → Prop) (μ : S → Nat) (Q : O → Prop)
 (step : ∀ s, I s → (∃ s', f s = some (.inl s') ∧ I s' ∧ μ s' < μ s) ∨ (∃ o, f s = some (.inr o) ∧ Q o)) (s : S) (h : I s) : ∃ o, loop f s = some o ∧ Q o := by
 suffices H : ∀ n s, μ s ≤ n → I s → ∃ o, loop f s = some o ∧ Q o from H _ s (Nat.le_refl _) h
 intro n
 induction n with
 | zero =>
  intro s hn hs
  rcases step s hs with ⟨s', _, _, hlt⟩ | ⟨o, ho, hq⟩
  ·omega
  ·exact ⟨o, loop_out ho, hq⟩
 | succ n ih =>
  intro s hn hs
  rcases step s hs with ⟨s', he, hs', hlt⟩ | ⟨o, ho, hq⟩
  ·obtain ⟨o, h1, h2⟩ := ih s' (by omega) hs'
   exact ⟨o, (loop_in he).trans h1, h2⟩
  ·exact ⟨o, loop_out ho, hq⟩
def loopF {S O : Type} (f : S → Option (S ⊕ O)) : Nat → S → Option O
 | 0, _ => none
 | n + 1, s => match f s with
  | none => none
  | some (.inl s') => loopF f n s'
  | some (.inr o) => some o
theorem w64 {x : Int} (h : -9223372036854775808 ≤ x ∧ x < 9223372036854775808) : wrap64 x = x := by unfold wrap64; omega
theorem gi_mem {α : Type} [Inhabited α] {l : List α} {i : Int} (h0 : 0 ≤ i) (h : i < l.length) : gi l i ∈ l := by
 have : i.toNat < l.length := by omega
 simp [gi, List.getD_eq_getElem?_getD, this]
def W64 (a : Int) : Prop := 0 ≤ a ∧ a < 18446744073709551616
def bt (a : Int) (k : Nat) : Bool := a.toNat.testBit k
theorem bt_or {a b : Int} (ha : W64 a) (hb : W64 b) (k : Nat) : bt (bits .or .u64 a b) k = (bt a k || bt b k) := by
 rw [u64_or a b ha.1 ha.2 hb.1 hb.2]
 simp [bt]
theorem W_zero : W64 0 := ⟨by decide, by decide⟩
def b1 (i : Int) : Int := (1 * 2 ^ (min (i % 18446744073709551616).toNat 64)) % 18446744073709551616
theorem b1_eq {i : Nat} (h : i < 64) : b1 (i : Int) = ((2 ^ i : Nat) : Int) := by
 unfold b1
 have h1 : min (((i : Int)) % 18446744073709551616).toNat 64 = i := by omega
 have h2 : 2 ^ i < 2 ^ 64 := Nat.pow_lt_pow_right (by decide) h
 rw [h1, Int.one_mul]
 have h3 : ((2 : Int) ^ i) = ((2 ^ i : Nat) : Int) := by simp
 rw [h3]
 generalize 2 ^ i = m at h2 ⊢
 omega
theorem b1_W (i : Int) : W64 (b1 i) := by unfold b1; exact ⟨by omega, by omega⟩
theorem bt_b1 {i : Nat} (h : i < 64) (k : Nat) : bt (b1 (i : Int)) k = decide (i = k) := by
 rw [b1_eq h]; simp only [bt, Int.toNat_natCast, Nat.testBit_two_pow]
section
variable {β : Type}
theorem aget_nil (k : Int) : aget ([] : List (Int × β)) k = none := rfl
theorem aget_cons (p : Int × β) (r : List (Int × β)) (k : Int) : aget (p :: r) k = if k = p.1 then some p.2 else aget r k := by
 unfold aget
 simp only [aidx]
 split
 ·rfl
 ·cases aidx r k <;> rfl
theorem aset_nil (k : Int) (v : β) : aset ([] : List (Int × β)) k v = [(k, v)] := rfl
theorem aset_cons (p : Int × β) (r : List (Int × β)) (k : Int) (v : β) : aset (p :: r) k v = if k = p.1 then (k, v) :: r else p :: aset r k v := by
 by_cases h : k = p.1
 ·simp [aset, aidx, h]
 ·cases h2 : aidx r k with
  | none => simp [aset, aidx, h, h2]
  | some q => simp [aset, aidx, h, h2]
theorem aget_aset (m : List (Int × β)) (k k' : Int) (v : β) : aget (aset m k v) k' = if k' = k then some v else aget m k' := by
 induction m with
 | nil => rw [aset_nil, aget_cons, aget_nil]
 | cons p r ih =>
  rw [aset_cons]
  split
  ·rename_i h
   subst h
   rw [aget_cons, aget_cons]
   simp only []
   split <;> rfl
  ·rename_i h
   rw [aget_cons, aget_cons, ih]
   split
   ·rename_i h2
    subst h2
    rw [if_neg (fun e => h e.symm)]
   ·rfl
end
end Go.Proofs.Ytbhekpcimmaijaa.B
