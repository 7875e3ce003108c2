/- Operations that change no memory, each as a run; guarded operations; contexts of a walk. -/
import Derived.Test.YtcnchjlomcafeaaSlOps
set_option linter.unusedVariables false
set_option linter.unusedSimpArgs false
set_option linter.unusedSectionVars false
namespace Go.Proofs.Ytcnchjlomcafeaa.B
open Go Go.RowKit

section
variable {P : Program} {a : Act} {w : World} {dst : Option Tmp} {gd : Option (Nat × Bool)}
variable {d : Nat} {ty : TypeId} {pos : String} {af : Array Edge} {v v1 v2 v3 : Value} {x y z : Operand}

theorem e_move (hx : a.eval x = v) : (execOp a.eval ⟨dst, .move x, ty, pos, af, gd⟩).run P w = .ok (.value v) w := by
  simp only [execOp, hx]; rfl
theorem e_assign (hx : a.eval x = v) : (execOp a.eval ⟨dst, .assign x, ty, pos, af, gd⟩).run P w = .ok (.value v) w := by
  simp only [execOp, hx]; rfl
theorem e_pick {b : Bool} (hz : a.eval z = .bool b) (hx : b = true → a.eval x = v1) (hy : b = false → a.eval y = v2) (hv : (bif b then v1 else v2) = v) :
    (execOp a.eval ⟨dst, .pick z x y, ty, pos, af, gd⟩).run P w = .ok (.value v) w := by
  simp only [execOp, hz, asBool]
  subst hv
  cases b
  · rw [← hy rfl]; rfl
  · rw [← hx rfl]; rfl
theorem e_bin {op : BinOp} {xt yt : TypeId} (hx : a.eval x = v1) (hy : a.eval y = v2)
    (hr : (do eqGuard op xt x y v1 v2; binOp op xt v1 v2 : Sem Value).run P w = .ok v w) :
    (execOp a.eval ⟨dst, .binOp op xt x y yt, ty, pos, af, gd⟩).run P w = .ok (.value v) w := by
  simp only [execOp, hx, hy]
  rw [Sem.run_bind, hr]
  rfl
theorem e_un {op : UnOp} {xt : TypeId} (hx : a.eval x = v1) (hr : (Op.unary op v1).run P w = .ok v w) :
    (execOp a.eval ⟨dst, .unOp op xt x, ty, pos, af, gd⟩).run P w = .ok (.value v) w := by
  simp only [execOp, hx]
  rw [Sem.run_bind, hr]
  rfl
theorem e_conv {src dt : TypeId} {sd : TypeDesc} {k k' : IntKind} {c e : Int} (hx : a.eval x = .int k' c) (h1 : UT P src sd) (h2 : UT P dt (.int k)) (hc : k.wrap c = e) :
    (execOp a.eval ⟨dst, .convert src dt x, ty, pos, af, gd⟩).run P w = .ok (.value (.int k e)) w := by
  subst hc
  simp only [execOp, hx]
  rw [Sem.run_bind]
  simp [convert, Sem.run_bind, h1 w, h2 w, Conv.intToInt]
theorem e_load1 {t : TypeId} {p : Addr} (hx : a.eval x = .pointer (some p)) (hA : AG P t false) (hc : w.cell? p = some v) :
    (execOp a.eval ⟨dst, .load t x, ty, pos, af, gd⟩).run P w = .ok (.value v) w := by
  simp only [execOp, hx]
  simp [Instr.loadAt, Instr.sureAddr, Sem.run_bind, r_load1 hA hc]
theorem e_loadA {t : TypeId} {p : Addr} {vs : List Value} {sz : Nat} (hx : a.eval x = .pointer (some p)) (hA : AG P t true) (hs : SZ P t sz) (hl : vs.length = sz) (hc : CellsAt w p vs) :
    (execOp a.eval ⟨dst, .load t x, ty, pos, af, gd⟩).run P w = .ok (.value (.agg vs.toArray)) w := by
  simp only [execOp, hx]
  simp [Instr.loadAt, Instr.sureAddr, Sem.run_bind, r_loadA hA hs hl hc]
theorem e_fieldAddr {s : TypeId} {p p' : Addr} {f sz : Nat} {fs : Array Field} {fd : Field} (hx : a.eval x = .pointer (some p)) (hu : UT P s (.struct fs)) (hf : fs[f]? = some fd) (hs : SZ P fd.type sz) (hsz : Nat.beq sz 0 = false)
    (ha : p.add fd.offset = p') :
    (execOp a.eval ⟨dst, .fieldAddr s x f, ty, pos, af, gd⟩).run P w = .ok (.value (.pointer (some p'))) w := by
  subst ha
  have hz : ¬ sz = 0 := fun e => by rw [e] at hsz; cases hsz
  simp only [execOp, hx]
  simp [Instr.fieldAt, Instr.sureAddr, fieldPlace, Sem.run_bind, hu w, hf, hs w, hz]
theorem e_field1 {s : TypeId} {f : Nat} {fs : Array Field} {fd : Field} {cs : List Value} (hx : a.eval x = .agg cs.toArray) (hu : UT P s (.struct fs)) (hf : fs[f]? = some fd) (hA : AG P fd.type false) (hv : cs[fd.offset]? = some v) :
    (execOp a.eval ⟨dst, .field s x f, ty, pos, af, gd⟩).run P w = .ok (.value v) w := by
  simp only [execOp, hx]
  simp [Instr.field, asAgg, part, Sem.run_bind, hu w, hf, hA w, hv]
theorem e_fieldA {s : TypeId} {f sz : Nat} {fs : Array Field} {fd : Field} {cs vs : List Value} (hx : a.eval x = .agg cs.toArray) (hu : UT P s (.struct fs)) (hf : fs[f]? = some fd) (hA : AG P fd.type true) (hs : SZ P fd.type sz) (hv : (cs.drop fd.offset).take sz = vs) :
    (execOp a.eval ⟨dst, .field s x f, ty, pos, af, gd⟩).run P w = .ok (.value (.agg vs.toArray)) w := by
  subst hv
  simp only [execOp, hx]
  simp [Instr.field, asAgg, part, Sem.run_bind, hu w, hf, hA w, hs w, List.take_drop]
theorem e_extract {i : Nat} {vs : List Value} (hx : a.eval x = .tuple vs.toArray) (hv : vs[i]? = some v) :
    (execOp a.eval ⟨dst, .extract x i, ty, pos, af, gd⟩).run P w = .ok (.value v) w := by
  simp only [execOp, hx]
  simp [Instr.extract, Sem.run_bind, hv]
theorem e_build {t : TypeId} {ps : List (Nat × Operand)} {vs : List (Nat × Value)} {cs : List Value} (hx : EvP a.eval ps vs) (hb : (Instr.build t vs.toArray).run P w = .ok (.agg cs.toArray) w) :
    (execOp a.eval ⟨dst, .build t ps.toArray, ty, pos, af, gd⟩).run P w = .ok (.value (.agg cs.toArray)) w := by
  simp only [execOp, List.map_toArray, hx.map]
  simp [Sem.run_bind, hb]
/-- An array's value, indexed: cells of one each. -/
theorem e_index {t e : TypeId} {m : Nat} {α : Type} [Inhabited α] {f : α → Value} {xs : List α} {i : Int} {k' : IntKind} (hx : a.eval x = .agg (xs.map f).toArray) (hy : a.eval y = .int k' i) (hu : UT P t (.array m e)) (hA : AG P e false) (hs : SZ P e 1)
    (hm : xs.length = m) (h : 0 ≤ i ∧ i < m) (hv : f (gi xs i) = v) :
    (execOp a.eval ⟨dst, .index t x y, ty, pos, af, gd⟩).run P w = .ok (.value v) w := by
  obtain ⟨h0, h1⟩ := h
  have hl : i.toNat < xs.length := by omega
  have hc : (xs.map f)[i.toNat]? = some v := by
    have hg : gi xs i = xs[i.toNat] := by simp [gi, hl]
    rw [hg] at hv
    simp [hl, hv]
  simp only [execOp, hx, hy]
  simp [Instr.index, asIntOf, part, Sem.run_bind, hu w, hA w, hs w, h0, h1]
  simp at hc
  obtain ⟨z, hz, rfl⟩ := hc
  simp [hz]
def sb (s : ByteArray) (i : Int) : Int := (s.data.getD i.toNat 0).toNat
theorem e_indexs {t : TypeId} {s : ByteArray} {i : Int} {k' : IntKind} (hx : a.eval x = .string s) (hy : a.eval y = .int k' i) (hu : UT P t .string)
    (h : 0 ≤ i ∧ i < s.size) :
    (execOp a.eval ⟨dst, .index t x y, ty, pos, af, gd⟩).run P w = .ok (.value (.int .u8 (sb s i))) w := by
  obtain ⟨h0, h1⟩ := h
  have h2 : i.toNat < s.size := by omega
  have h3 : ((s[i.toNat]'h2).toNat : Int) = sb s i := by
    have : i.toNat < s.data.size := h2
    simp only [sb, Array.getD, this, dif_pos]
    rfl
  simp only [execOp, hx, hy]
  simp [Instr.index, asIntOf, Sem.run_bind, hu w, h0, h2, h3]
theorem e_makeFunc {fn : Fn} {fi ca : List Operand} {v1 v2 : List Value} (h1 : Evs a.eval fi v1) (h2 : Evs a.eval ca v2) :
    (execOp a.eval ⟨dst, .makeFunc fn fi.toArray ca.toArray, ty, pos, af, gd⟩).run P w = .ok (.value (.func fn v1.toArray v2.toArray)) w := by
  simp only [execOp, List.map_toArray, h1.map, h2.map]
  simp [Instr.makeFunc, Sem.run_bind]
theorem e_nilCheckP {p : Addr} (hx : a.eval x = .pointer (some p)) :
    (execOp a.eval ⟨dst, .nilCheck x, ty, pos, af, gd⟩).run P w = .ok (.value (.pointer (some p))) w := by
  simp only [execOp, hx]
  rfl
theorem e_builtin {b : Builtin} {xs : List Operand} {vs : List Value} {ats : Array TypeId} (hx : Evs a.eval xs vs)
    (hr : (builtin b ats ty (xs.map fun | .const _ => true | _ => false).toArray vs.toArray).run P w = .ok (.value v) w) :
    (execOp a.eval ⟨dst, .call { callee := .builtin b, args := xs.toArray, argTypes := ats }, ty, pos, af, gd⟩).run P w = .ok (.value v) w := by
  simp only [execOp, resolve, List.map_toArray, hx.map]
  simp only [Sem.run_bind, Sem.run_pure, Result.andThen_ok, invoke]
  exact hr
theorem run_eqb {b c : Bool} {xt : TypeId} (hu : UT P xt .bool) : (Op.equal xt (.bool b) (.bool c)).run P w = .ok (b == c) w := by
  unfold Op.equal Op.maxDepth
  rw [Op.equalIn]
  rw [Sem.run_bind, hu w, Result.andThen_ok]
  rfl
theorem r_eqb {b c e : Bool} {xt : TypeId} (hu : UT P xt .bool) (he : (b == c) = e) :
    (do eqGuard .eql xt x y (.bool b) (.bool c); binOp .eql xt (.bool b) (.bool c) : Sem Value).run P w = .ok (.bool e) w := by
  subst he
  have h1 : eqGuard .eql xt x y (.bool b) (.bool c) = pure () := rfl
  have h2 : binOp .eql xt (.bool b) (.bool c) = (do pure (.bool (← Op.equal xt (.bool b) (.bool c)))) := rfl
  rw [h1, h2, Sem.run_bind, Sem.run_pure, Result.andThen_ok, Sem.run_bind, run_eqb hu, Result.andThen_ok, Sem.run_pure]
theorem r_neb {b c e : Bool} {xt : TypeId} (hu : UT P xt .bool) (he : (!(b == c)) = e) :
    (do eqGuard .neq xt x y (.bool b) (.bool c); binOp .neq xt (.bool b) (.bool c) : Sem Value).run P w = .ok (.bool e) w := by
  subst he
  have h1 : eqGuard .neq xt x y (.bool b) (.bool c) = pure () := rfl
  have h2 : binOp .neq xt (.bool b) (.bool c) = (do pure (.bool (!(← Op.equal xt (.bool b) (.bool c))))) := rfl
  rw [h1, h2, Sem.run_bind, Sem.run_pure, Result.andThen_ok, Sem.run_bind, run_eqb hu, Result.andThen_ok, Sem.run_pure]

/-- A guarded operation that changes no memory, whatever its guard says. -/
theorem s_gp {ol : List Oper} {Q : Exit → Act → World → Prop} {n : Nat} {L : Env} {σ : Nat → Value} {ds : List Deferred} {rest : List Oper} {op : Op} {j dj : Nat} {want b G : Bool}
    (hj : dstAt ol j = some dj) (hn : Nat.blt dj n = true) (hv : ov L σ dj = .bool b) (hG : (b == want) = G)
    (hx : G = true → (execOp (st n L σ ds).eval ⟨some d, op, ty, pos, af, none⟩).run P w = .ok (.value v) w) (hd : Nat.blt d n = true)
    (k : wpList P ol.toArray Q rest (st n ((d, bif G then v else undef) :: L) σ ds) w) :
    wpList P ol.toArray Q (⟨some d, op, ty, pos, af, some (j, want)⟩ :: rest) (st n L σ ds) w := by
  by_cases hb : b = want
  · subst hb
    have hGt : G = true := by rw [← hG]; simp
    subst hGt
    exact gon hj hn hv (sv rfl rfl hd (hx rfl) k)
  · have hbw : b = !want := by cases b <;> cases want <;> simp at hb ⊢
    have hGf : G = false := by rw [← hG]; cases b <;> cases want <;> simp at hb ⊢
    subst hbw; subst hGf
    exact goff hj hn hv hd k
theorem goffu {ol : List Oper} {Q : Exit → Act → World → Prop} {n : Nat} {L : Env} {σ : Nat → Value} {ds : List Deferred} {rest : List Oper} {op : Op} {j dj : Nat} {want : Bool}
    (hj : dstAt ol j = some dj) (hn : Nat.blt dj n = true) (hv : ov L σ dj = undef) (hd : Nat.blt d n = true)
    (k : wpList P ol.toArray Q rest (st n ((d, undef) :: L) σ ds) w) :
    wpList P ol.toArray Q (⟨some d, op, ty, pos, af, some (j, want)⟩ :: rest) (st n L σ ds) w := by
  have hj' : (ol[j]?).bind (·.dst) = some dj := by rw [dstAt_eq]; exact hj
  have hw : Region.wanted ⟨some d, op, ty, pos, af, some (j, want)⟩ (yielded ol.toArray (st n L σ ds).tmps) = false := by
    simp [Region.wanted, yielded, hj', fr_get (blt hn), hv, undef]
  unfold wpList
  rw [hw, put_st hd]
  exact k
theorem gvv {u : Value} {v : Value} (G : Bool) (hv : u = bif G then v else undef) (g : G = true) : u = v := by rw [hv, g]; rfl
theorem gvu {u : Value} {v : Value} (G : Bool) (hv : u = bif G then v else undef) (g : G = false) : u = undef := by rw [hv, g]; rfl
theorem tmg {n : Nat} {L : Env} {σ : Nat → Value} {ds : List Deferred} {t : Nat} (G : Bool) (v : Value) (h : Nat.blt t n = true) (hv : ov L σ t = bif G then v else undef) (g : G = true) : (st n L σ ds).eval (.tmp t) = v := tm h (gvv G hv g)
theorem and_i {a b : Bool} (h : a = true) (k : b = true) : (a && b) = true := by subst h; subst k; rfl
theorem nt {a : Bool} (h : a = false) : (!a) = true := by subst h; rfl

theorem beq_t (b : Bool) : (b == true) = b := by cases b <;> rfl
theorem beq_f (b : Bool) : (b == false) = !b := by cases b <;> rfl
theorem pk_or (b : Bool) {c : Bool} : (bif b then Value.bool true else Value.bool c) = Value.bool (b || c) := by cases b <;> rfl
theorem pk_and (b : Bool) {c : Bool} : (bif b then Value.bool c else Value.bool false) = Value.bool (b && c) := by cases b <;> rfl
theorem wrap_u64 (n : Int) : IntKind.u64.wrap n = n % 18446744073709551616 := by
  have h : IntKind.u64.wrap n = n % 2 ^ 64 := by simp [IntKind.wrap, IntKind.bits, IntKind.signed]
  rw [h]
  rfl
theorem wrap_u32 (n : Int) : IntKind.u32.wrap n = n % 4294967296 := IntKind.wrap_u32 n
theorem wrap_u16 (n : Int) : IntKind.u16.wrap n = n % 65536 := by
  have h : IntKind.u16.wrap n = n % 2 ^ 16 := by simp [IntKind.wrap, IntKind.bits, IntKind.signed]
  rw [h]
  rfl
theorem wrap_u8 (n : Int) : IntKind.u8.wrap n = n % 256 := IntKind.wrap_u8 n
theorem wrap_i64 (n : Int) : IntKind.i64.wrap n = wrap64 n := IntKind.wrap_i64 n
theorem wrap_i32 (n : Int) : IntKind.i32.wrap n = wrap32 n := IntKind.wrap_i32 n
def wrap16 (n : Int) : Int := (n + 32768) % 65536 - 32768
theorem wrap_i16 (n : Int) : IntKind.i16.wrap n = wrap16 n := by
  have h : IntKind.i16.wrap n = if n % 65536 ≥ 32768 then n % 65536 - 65536 else n % 65536 := by simp [IntKind.wrap, IntKind.bits, IntKind.signed]
  rw [h]
  unfold wrap16
  omega
theorem fdp (a : Int) (n : Nat) {c : Int} (h : c = a / 2 ^ n) : a.fdiv (2 ^ n) = c := by rw [h]; exact Int.fdiv_eq_ediv_of_nonneg a (Int.pow_nonneg (by decide))
/-! ### what is told of a part -/
def lt {α β : Type} (x : α) (f : α → β) : β := f x
theorem ltE {α β : Type} {x : α} {f : α → β} {r : β} (h : lt x f = r) : ∃ o, x = o ∧ f o = r := ⟨x, rfl, h⟩
theorem bindSome {α β : Type} {x : Option α} {f : α → Option β} {r : β} (h : x.bind f = some r) : ∃ o, x = some o ∧ f o = some r := by
  cases x with
  | none => cases h
  | some o => exact ⟨o, rfl, h⟩
theorem ift {α : Type} {b : Bool} {A B r : α} (hb : b = true) (h : (if b = true then A else B) = r) : A = r := by rw [if_pos hb] at h; exact h
theorem iff_ {α : Type} {b : Bool} {A B r : α} (hb : b = false) (h : (if b = true then A else B) = r) : B = r := by rw [if_neg (by simp [hb])] at h; exact h
theorem grd {α : Type} {p : Prop} [Decidable p] {A : Option α} {r : α} (h : (if p then A else none) = some r) : p ∧ A = some r := by
  by_cases hp : p
  · rw [if_pos hp] at h; exact ⟨hp, h⟩
  · rw [if_neg hp] at h; cases h
theorem fuel {α : Type} {f : Nat → Option α} {m : Nat} {r : α} (h0 : f 0 = none) (h : f m = some r) : ∃ k, m = k + 1 := by
  cases m with
  | zero => rw [h0] at h; cases h
  | succ k => exact ⟨k, rfl⟩
theorem seenF {n : Nat} {L L' : Env} {σ : Nat → Value} {ds : List Deferred} (h : AllEq L' (ov L σ)) : st n L σ ds = st n L' (ov L σ) ds := by
  simp only [st, ov_absorb h]
end
end Go.Proofs.Ytcnchjlomcafeaa.B
