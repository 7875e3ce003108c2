/- PB: several texts in one. -/
import Derived.Test.YtbhekpcimmaijaaPA
import Derived.Test.YtbhekpcimmaijaaLB
import Derived.Test.YtbhekpcimmaijaaQC
set_option linter.unusedVariables false
set_option linter.unusedSimpArgs false
set_option linter.unusedSectionVars false
namespace Go.Proofs.Ytbhekpcimmaijaa.W
open Go Go.RowKit Go.Proofs.Ytbhekpcimmaijaa Go.Proofs.Ytbhekpcimmaijaa.X
open Go.Proofs.Ytbhekpcimmaijaa.B (wr aget aset loop loop_in loop_out loop_tot wrap16 bt W64 b1 bt_b1 b1_W bt_or)

theorem uni_W (a b : Int) : W64 (uni a b) := by
 unfold uni
 show W64 (IntKind.u64.wrap _)
 rw [B.wrap_u64]
 exact ⟨by omega, by omega⟩
theorem bt_uni {a : Int} (ha : W64 a) (b : Int) (k : Nat) (h : bt a k = true) : bt (uni a b) k = true := by
 have e : uni a b = uni a (b % 18446744073709551616) := by
  unfold uni bits
  have : BitVec.ofInt IntKind.u64.bits b = BitVec.ofInt IntKind.u64.bits (b % 18446744073709551616) := by
   apply BitVec.eq_of_toInt_eq
   rw [BitVec.toInt_ofInt, BitVec.toInt_ofInt]
   show Int.bmod b (2 ^ 64) = Int.bmod (b % 18446744073709551616) (2 ^ 64)
   rw [show (18446744073709551616 : Int) = ((2 ^ 64 : Nat) : Int) by decide, Int.emod_bmod]
  rw [this]
 rw [e, uni, bt_or ha ⟨by omega, by omega⟩, h, Bool.true_or]
theorem bt_uni_r (a : Int) {b : Int} (ha : W64 a) (hb : W64 b) (k : Nat) (h : bt b k = true) : bt (uni a b) k = true := by
 rw [uni, bt_or ha hb, h, Bool.or_true]
abbrev Sk := Int × Int × Int × Int
def sk (e : api_Event) : Sk := (e.Kind, e.Loc, e.Val, e.Pair)
section
variable {l : List api_Loc}
def Pl (l : List api_Loc) (e : api_Event) : Prop := e.Kind = 1 ∧ (gi l e.Loc).Atomic = false
structure DL (l : List api_Loc) (out : List api_Event) : Prop where
 len : out.length ≤ 64
 d : ∀ j k : Nat, j < k → k < out.length → Pl l (gi out j) → bt (gi out k).Ctrl j = true
 w : ∀ j : Nat, j < out.length → W64 (gi out j).Ctrl
 lo : ∀ j : Nat, j < out.length → (gi out j).Kind = 1 ∨ (gi out j).Kind = 2 → 0 ≤ (gi out j).Loc ∧ (gi out j).Loc < l.length
structure Dc (l : List api_Loc) (ctrl : Int) (out : List api_Event) (m : Nat) : Prop where
 dl : DL l out
 w : W64 ctrl
 c : ∀ j : Nat, j < m → Pl l (gi out j) → bt ctrl j = true
variable {ctrl : Int} {out : List api_Event} {m : Nat}
theorem Dc.or (h : Dc l ctrl out m) (x : Int) : Dc l (uni ctrl x) out m := ⟨h.dl, uni_W _ _, fun j hj hp => bt_uni h.w x j (h.c j hj hp)⟩
theorem Dc.orb (h : Dc l ctrl out (out.length - 1)) {x : Int} (hx : x = b1 ((out.length - 1 : Nat) : Int)) (h0 : 0 < out.length) : Dc l (uni ctrl x) out out.length := ⟨h.dl, uni_W _ _, fun j hj hp => by
 by_cases c : j = out.length - 1
 ·subst hx
  have := h.dl.len
  exact bt_uni_r _ h.w (b1_W _) j (by rw [bt_b1 (by omega)]; exact decide_eq_true c.symm)
 ·exact bt_uni h.w x j (h.c j (by omega) hp)⟩
theorem Dc.app (h : Dc l ctrl out out.length) {e : api_Event} (hc : e.Ctrl = ctrl) (hlo : e.Kind = 1 ∨ e.Kind = 2 → 0 ≤ e.Loc ∧ e.Loc < l.length) (hl : out.length ≠ 64) : Dc l ctrl (out ++ [e]) out.length := by
 have hlen := h.dl.len
 refine ⟨⟨by simp; omega, fun j k hj hk hp => ?_, fun j hj => ?_, fun j hj hk => ?_⟩, h.w, fun j hj hp => ?_⟩
 ·rw [List.length_append, List.length_singleton] at hk
  have ej : gi (out ++ [e]) (j : Int) = gi out j := gi_apl (by omega) (by omega)
  rw [ej] at hp
  by_cases c : k < out.length
  ·rw [gi_apl (by omega) (by omega)]; exact h.dl.d j k hj c hp
  ·have : k = out.length := by omega
   subst this
   rw [gi_apa rfl, hc]
   exact h.c j hj hp
 ·rw [List.length_append, List.length_singleton] at hj
  by_cases c : j < out.length
  ·rw [gi_apl (by omega) (by omega)]; exact h.dl.w j c
  ·have : j = out.length := by omega
   subst this
   rw [gi_apa rfl, hc]; exact h.w
 ·rw [List.length_append, List.length_singleton] at hj
  by_cases c : j < out.length
  ·rw [gi_apl (by omega) (by omega)] at hk ⊢; exact h.dl.lo j c hk
  ·have : j = out.length := by omega
   subst this
   rw [gi_apa rfl] at hk ⊢; exact hlo hk
 ·rw [gi_apl (by omega) (by omega)] at hp; exact h.c j hj hp
theorem Dc.np {e : api_Event} (h : Dc l ctrl (out ++ [e]) out.length) (hn : ¬ Pl l e) : Dc l ctrl (out ++ [e]) (out ++ [e]).length := ⟨h.dl, h.w, fun j hj hp => by
 rw [List.length_append, List.length_singleton] at hj
 by_cases c : j < out.length
 ·exact h.c j c hp
 ·have : j = out.length := by omega
  subst this
  rw [gi_apa rfl] at hp
  exact absurd hp hn⟩
end
def Seg (code : List api_Inst) (pc : Int) (ys : List api_Inst) : Prop := 0 ≤ pc ∧ pc + ys.length ≤ code.length ∧ ∀ k : Nat, k < ys.length → gi code (pc + k) = gi ys k
theorem Seg.cons {code : List api_Inst} {pc : Int} {y : api_Inst} {ys : List api_Inst} (h : Seg code pc (y :: ys)) : gi code pc = y ∧ (0 ≤ pc ∧ pc < code.length) ∧ Seg code (pc + 1) ys := by
 obtain ⟨h0, h1, h2⟩ := h
 rw [List.length_cons] at h1
 refine ⟨?_, by omega, by omega, by omega, fun k hk => ?_⟩
 ·have := h2 0 (by simp)
  rw [show pc + ((0 : Nat) : Int) = pc by omega] at this
  exact this
 ·have := h2 (k + 1) (by simp; omega)
  rw [show pc + 1 + (k : Int) = pc + ((k + 1 : Nat) : Int) by omega, this]
  show (y :: ys).getD (((k + 1 : Nat) : Int)).toNat default = ys.getD ((k : Int)).toNat default
  simp
theorem Seg.app {code : List api_Inst} {pc : Int} {xs ys : List api_Inst} (h : Seg code pc (xs ++ ys)) : Seg code pc xs ∧ Seg code (pc + xs.length) ys := by
 obtain ⟨h0, h1, h2⟩ := h
 rw [List.length_append] at h1
 refine ⟨⟨h0, by omega, fun k hk => ?_⟩, ⟨by omega, by omega, fun k hk => ?_⟩⟩
 ·rw [h2 k (by rw [List.length_append]; omega), gi_apl (by omega) (by omega)]
 ·have := h2 (xs.length + k) (by rw [List.length_append]; omega)
  rw [show pc + (xs.length : Int) + (k : Int) = pc + ((xs.length + k : Nat) : Int) by omega, this, gi_apr (by omega), show ((xs.length + k : Nat) : Int) - (xs.length : Int) = (k : Int) by omega]
inductive PR
 | fin (st : Int) (o : List Sk)
 | nxt (j : Bool) (v : Int) (ans : List Int) (o : List Sk)
def telS (o : List Sk) (e : Sk) (k : List Sk → PR) : PR := if o.length = 64 then .fin 5 o else k (o ++ [e])
def redS (ans : List Int) (o : List Sk) (p : Int) (k : Int → List Int → List Sk → PR) : PR := match ans with
 | [] => .fin 4 o
 | n :: r => telS o (1, p, n, 0) (k n r)
def pstep (x : api_Ins) (a b : Int) (ans : List Int) (o : List Sk) : PR :=
 if x.Op = 1 then .nxt false x.K ans o
 else if x.Op = 2 then .nxt false (wr .i64 (a + b)) ans o
 else if x.Op = 3 then .nxt false (wr .i64 (a - b)) ans o
 else if x.Op = 4 then .nxt false (wr .i64 (a * b)) ans o
 else if x.Op = 5 then (if b = 0 then .fin 2 o else .nxt false (wr .i64 (Int.tdiv a b)) ans o)
 else if x.Op = 6 then redS ans o x.Loc fun n r o => .nxt false n r o
 else if x.Op = 7 then telS o (2, x.Loc, a, 0) fun o => .nxt false 0 ans o
 else if x.Op = 8 then telS o (3, 0, 0, 0) fun o => redS ans o x.Loc fun n r o => telS o (3, 0, 0, 0) fun o => .nxt false n r o
 else if x.Op = 9 then telS o (3, 0, 0, 0) fun o => telS o (2, x.Loc, a, 0) fun o => telS o (3, 0, 0, 0) fun o => .nxt false 0 ans o
 else if x.Op = 10 then telS o (3, 0, 0, 0) fun o => redS ans o x.Loc fun n r o1 => telS o1 (2, x.Loc, a, (o.length : Int) + 1) fun o => telS o (3, 0, 0, 0) fun o => .nxt false n r o
 else if x.Op = 11 then telS o (3, 0, 0, 0) fun o => redS ans o x.Loc fun n r o1 => telS o1 (2, x.Loc, wr .i64 (n + a), (o.length : Int) + 1) fun o => telS o (3, 0, 0, 0) fun o => .nxt false n r o
 else if x.Op = 12 then telS o (3, 0, 0, 0) fun o => redS ans o x.Loc fun n r o1 => if n = a then telS o1 (2, x.Loc, b, (o.length : Int) + 1) fun o => telS o (3, 0, 0, 0) fun o => .nxt false 0 r o else telS o1 (3, 0, 0, 0) fun o => .nxt true 0 r o
 else if x.Op = 13 then (if 0 ≤ a ∧ a < x.Len then redS ans o (x.Loc + a) fun n r o => .nxt false n r o else .fin 3 o)
 else if x.Op = 14 then (if 0 ≤ a ∧ a < x.Len then telS o (2, x.Loc + a, b, 0) fun o => .nxt false 0 ans o else .fin 3 o)
 else if x.Op = 15 then telS o (6, 0, wr .i64 a, 0) fun o => .nxt false 0 ans o
 else if x.Op = 16 then .nxt (!decide (a < b)) 0 ans o
 else if x.Op = 17 then .nxt (!decide (a = b)) 0 ans o
 else .fin 1 o

structure Cx (code : List api_Inst) (locs base : Int) (l : List api_Loc) (Q : List api_Event × Int → Prop) (P : PR → Prop) : Prop where
 L : Lay locs base
 n : code.length ≤ 8000
 ll : (l.length : Int) = locs
 fin : ∀ st out, P (.fin st (out.map sk)) → DL l out → Q (out, st)
structure Ok (base : Int) (l : List api_Loc) (s : M) : Prop where
 b1 : (s.regs.g 1).n = base
 b2 : (s.regs.g 2).n = 65536
 dc : Dc l s.ctrl s.out s.out.length
theorem tel_sk (s : M) (k p v pr ad da : Int) : (s.tel k p v pr ad da).out.map sk = s.out.map sk ++ [(k, p, v, pr)] := by
 unfold M.tel; simp [sk]
theorem or_add (k : Nat) (hk : k ≤ 32) (x b : Int) (hx : x % 2 ^ k = 0) (hr : -9223372036854775808 ≤ x ∧ x < 9223372036854775808) (h0 : 0 ≤ b) (h1 : b < 2 ^ k) : bits .or .i64 x b = x + b := by
 have h2 : (2 : Int) ^ k ≤ 4294967296 := by
  have : (2 : Nat) ^ k ≤ 2 ^ 32 := Nat.pow_le_pow_right (by decide) hk
  have e : ((2 ^ k : Nat) : Int) = (2 : Int) ^ k := by simp
  omega
 have h3 : (18446744073709551616 : Int) % 2 ^ k = 0 := by
  have : (18446744073709551616 : Int) = 2 ^ k * 2 ^ (64 - k) := by rw [← Int.pow_add, show k + (64 - k) = 64 by omega]; decide
  rw [this, Int.mul_emod_right]
 have h4 : (x % 18446744073709551616) % 2 ^ k = 0 := by
  rw [Int.emod_emod_of_dvd _ (Int.dvd_of_emod_eq_zero h3)]; exact hx
 have e : (BitVec.ofInt 64 x ||| BitVec.ofInt 64 b).toNat = (x % 18446744073709551616).toNat + b.toNat := by
  rw [BitVec.toNat_or, BitVec.toNat_ofInt, BitVec.toNat_ofInt]
  show (x % 18446744073709551616).toNat ||| (b % 18446744073709551616).toNat = _
  rw [show b % 18446744073709551616 = b by omega]
  have hX : 0 ≤ x % 18446744073709551616 := by omega
  obtain ⟨X, hXe⟩ := Int.eq_ofNat_of_zero_le hX
  rw [hXe] at h4 ⊢
  obtain ⟨B, hB⟩ := Int.eq_ofNat_of_zero_le h0
  rw [hB] at h1 ⊢
  have h5 : X % 2 ^ k = 0 := by
   have e : ((X % 2 ^ k : Nat) : Int) = (X : Int) % 2 ^ k := by simp
   omega
  have h6 : B < 2 ^ k := by
   have e : ((2 ^ k : Nat) : Int) = (2 : Int) ^ k := by simp
   omega
  rw [Int.toNat_natCast, Int.toNat_natCast]
  obtain ⟨Y, rfl⟩ := Nat.dvd_of_mod_eq_zero h5
  exact (Nat.two_pow_add_eq_or_of_lt h6 Y).symm
 show IntKind.i64.wrap ((BitVec.ofInt 64 x ||| BitVec.ofInt 64 b).toNat : Int) = _
 rw [e, B.wrap_i64]
 have hlt : x + b < 9223372036854775808 := by
  have h7 : (9223372036854775808 : Int) % 2 ^ k = 0 := by
   have : (9223372036854775808 : Int) = 2 ^ k * 2 ^ (63 - k) := by rw [← Int.pow_add, show k + (63 - k) = 63 by omega]; decide
   rw [this, Int.mul_emod_right]
  obtain ⟨u, hu⟩ := Int.dvd_of_emod_eq_zero hx
  obtain ⟨w, hw⟩ := Int.dvd_of_emod_eq_zero h7
  have hp : (0 : Int) < 2 ^ k := Int.pow_pos (by decide)
  have h8 : u < w := by
   apply Int.lt_of_mul_lt_mul_left _ (Int.le_of_lt hp)
   rw [← hu, ← hw]; exact hr.2
  have h9 : (2 : Int) ^ k * (u + 1) ≤ 2 ^ k * w := Int.mul_le_mul_of_nonneg_left (by omega) (Int.le_of_lt hp)
  rw [Int.mul_add, Int.mul_one, ← hu, ← hw] at h9
  omega
 unfold wrap64
 omega
section
variable {code : List api_Inst} {locs base : Int} {l : List api_Loc} {Q : List api_Event × Int → Prop} {P : PR → Prop} {pc : Int} {s : M} {ys : List api_Inst} {y : api_Inst}
theorem Cx.ins (C : Cx code locs base l Q P) (hS : Seg code pc (y :: ys)) {s' : M} (e : stp code locs base s y = some (.inl (s', 1))) (k : Seg code (pc + 1) ys → WP code locs base Q (pc + 1) s') : WP code locs base Q pc s := by
 obtain ⟨h1, h2, h3⟩ := hS.cons
 have := C.n
 exact WP.step h2 C.n (by rw [h1]; exact e) (by omega) (k h3)
theorem Cx.end_ (C : Cx code locs base l Q P) (hS : Seg code pc (y :: ys)) {st : Int} (e : stp code locs base s y = some (.inr st)) (hd : DL l s.out) (k : P (.fin st (s.out.map sk))) : WP code locs base Q pc s := by
 obtain ⟨h1, h2, h3⟩ := hS.cons
 exact WP.fin h2 C.n (by rw [h1]; exact e) (C.fin _ _ k hd)
theorem Cx.tel (C : Cx code locs base l Q P) (hS : Seg code pc (y :: ys)) (hd : Dc l s.ctrl s.out s.out.length) {k p v pr ad da : Int} {g : M → M} {f : List Sk → PR}
 (e : stp code locs base s y = some (if s.out.length = 64 then .inr 5 else .inl (g (s.tel k p v pr ad da), 1))) (hP : P (telS (s.out.map sk) (k, p, v, pr) f)) (hk : k ≠ 1) (hp : k = 2 → 0 ≤ p ∧ p < locs)
 (c : Seg code (pc + 1) ys → Dc l s.ctrl (s.tel k p v pr ad da).out (s.tel k p v pr ad da).out.length → P (f ((s.tel k p v pr ad da).out.map sk)) → WP code locs base Q (pc + 1) (g (s.tel k p v pr ad da))) : WP code locs base Q pc s := by
 unfold telS at hP
 rw [List.length_map] at hP
 by_cases h : s.out.length = 64
 ·rw [if_pos h] at hP e
  exact C.end_ hS e hd.dl hP
 ·rw [if_neg h] at hP e
  refine C.ins hS e fun h3 => c h3 ?_ (by rw [tel_sk]; exact hP)
  have hll := C.ll
  exact (hd.app (e := ⟨k, p, v, pr, ad, da, s.ctrl, s.fen⟩) rfl (fun h => by
   rcases h with h | h
   ·exact absurd h hk
   ·have := hp h; dsimp only; omega) h).np fun h => hk h.1
theorem Cx.red (C : Cx code locs base l Q P) (hS : Seg code pc (y :: ys)) (hd : Dc l s.ctrl s.out s.out.length) {op t p ad : Int} {f : Int → List Int → List Sk → PR}
 (e : stp code locs base s y = some (match s.ans with | [] => .inr 4 | n :: r => if s.out.length = 64 then .inr 5 else .inl (s.rd op t p n r ad, 1))) (hP : P (redS s.ans (s.out.map sk) p f)) (hp : 0 ≤ p ∧ p < locs)
 (c : ∀ n r, s.ans = n :: r → Seg code (pc + 1) ys → Dc l s.ctrl (s.rd op t p n r ad).out s.out.length → P (f n r ((s.rd op t p n r ad).out.map sk)) → WP code locs base Q (pc + 1) (s.rd op t p n r ad)) : WP code locs base Q pc s := by
 unfold redS telS at hP
 rw [List.length_map] at hP
 cases ha : s.ans with
 | nil =>
  rw [ha] at hP e
  exact C.end_ hS e hd.dl hP
 | cons n r =>
  rw [ha] at hP e
  dsimp only at hP e
  by_cases h : s.out.length = 64
  ·rw [if_pos h] at hP e
   exact C.end_ hS e hd.dl hP
  ·rw [if_neg h] at hP e
   have hll := C.ll
   refine C.ins hS e fun h3 => c n r ha h3 (hd.app (e := ⟨1, p, n, 0, ad, 0, s.ctrl, s.fen⟩) rfl (fun _ => by dsimp only; omega) h) ?_
   show P (f n r ((s.tel 1 p n 0 ad 0).out.map sk))
   rw [tel_sk]; exact hP
variable {hm : List api_Home} {t sp : Int}
def hv (hm : List api_Home) (s : M) (t : Int) : Int := if 0 ≤ (gi hm t).Reg then (s.regs.g (14 + (gi hm t).Reg)).n else (s.stk.g (gi hm t).Slot).n
theorem Cx.ul (C : Cx code locs base l Q P) (hB : HB hm t) (hsp : 3 ≤ sp ∧ sp < 14) (h1 : (s.regs.g 1).n = base) (hS : Seg code pc (ul hm t sp ++ ys))
 (k : ∀ R : Arr thread_cell 32, (R.g (ur hm t sp)).n = hv hm s t → (∀ q, R32 q → q ≠ sp → R.g q = s.regs.g q) → Seg code (pc + (ul hm t sp).length) ys → WP code locs base Q (pc + (ul hm t sp).length) { s with regs := R }) : WP code locs base Q pc s := by
 obtain ⟨hS1, hS2⟩ := hS.app
 have hh := hB.h
 unfold W.ul ur hv at *
 by_cases c : 0 ≤ (gi hm t).Reg
 ·simp only [if_pos c] at *
  have := k s.regs (by first | trivial | rfl) (fun q _ _ => rfl) hS2
  rw [show pc + (([] : List api_Inst).length : Int) = pc by simp] at this
  exact this
 ·simp only [if_neg c] at *
  have ht : R32 sp := ⟨by omega, by show sp < 32; omega⟩
  refine C.ins hS1 (i_ldS C.L ht (by omega) h1) fun _ => ?_
  refine k _ (by rw [arr_self _ ht]) (fun q hq hne => by rw [arr_ne _ ht hq hne]) hS2
def hsl (hm : List api_Home) (t : Int) : Int := if 0 ≤ (gi hm t).Reg then -1 else (gi hm t).Slot
theorem Cx.kp (C : Cx code locs base l Q P) (hB : HB hm t) (h1 : (s.regs.g 1).n = base) (hS : Seg code pc (kp hm t ++ ys))
 (k : ∀ S : Arr thread_cell 400, hv hm { s with stk := S } t = (s.regs.g (ur hm t 11)).n → (∀ j, 0 ≤ j → j < 400 → j ≠ hsl hm t → S.g j = s.stk.g j) → Seg code (pc + (kp hm t).length) ys → WP code locs base Q (pc + (kp hm t).length) { s with stk := S }) : WP code locs base Q pc s := by
 obtain ⟨hS1, hS2⟩ := hS.app
 have hh := hB.h
 unfold W.kp ur hv hsl at *
 by_cases c : 0 ≤ (gi hm t).Reg
 ·simp only [if_pos c] at *
  have := k s.stk (by first | trivial | rfl) (fun q _ _ _ => rfl) hS2
  rw [show pc + (([] : List api_Inst).length : Int) = pc by simp] at this
  exact this
 ·simp only [if_neg c] at *
  have hs : 0 ≤ (gi hm t).Slot ∧ (gi hm t).Slot < ((400 : Nat) : Int) := by omega
  refine C.ins hS1 (i_stdS C.L (by decide) (by omega) h1) fun _ => ?_
  refine k _ (by rw [arr_self _ hs]) (fun q h0 h9 hne => by rw [arr_ne _ hs ⟨h0, h9⟩ hne]) hS2
end

section
variable {code : List api_Inst} {locs base : Int} {l : List api_Loc} {Q : List api_Event × Int → Prop} {P : PR → Prop} {pc : Int} {s : M} {ys : List api_Inst} {y : api_Inst} {r n : Int}
theorem setR_self (s : M) {t : Int} (ht : R32 t) (c : thread_cell) : (s.setR t c).regs.g t = c := arr_self _ ht
theorem setR_ne (s : M) {t q : Int} (ht : R32 t) (hq : R32 q) (h : q ≠ t) (c : thread_cell) : (s.setR t c).regs.g q = s.regs.g q := arr_ne _ ht hq h
theorem Cx.num32 (C : Cx code locs base l Q P) (hr : R32 r) (hn : -2147483648 ≤ n ∧ n < 2147483648) (hS : Seg code pc (num32 r n ++ ys))
 (k : ∀ R : Arr thread_cell 32, (R.g r).n = n → (∀ q, R32 q → q ≠ r → R.g q = s.regs.g q) → Seg code (pc + 2) ys → WP code locs base Q (pc + 2) { s with regs := R }) : WP code locs base Q pc s := by
 unfold W.num32 at hS
 refine C.ins hS (i_addis hr R0) fun hS => C.ins hS (i_ori hr hr) fun hS => ?_
 have e : pc + 1 + 1 = pc + 2 := by omega
 rw [e] at hS ⊢
 refine k _ ?_ (fun q hq hne => ?_) hS
 ·show (((s.setR r _).setR r _).regs.g r).n = n
  rw [setR_self _ hr, setR_self _ hr]
  show bits .or .i64 (wr .i64 (0 + wr .i64 (wrap16 (n / 65536) * 65536))) (n % 65536) = n
  have e1 : wrap16 (n / 65536) = n / 65536 := by unfold wrap16; omega
  have w1 : wr .i64 (n / 65536 * 65536) = n / 65536 * 65536 := wr64 (by omega)
  have o1 := or_add 16 (by decide) (n / 65536 * 65536) (n % 65536) (by show (n / 65536 * 65536) % 65536 = 0; clear w1; omega) (by clear w1; omega) (by clear w1; omega) (by show n % 65536 < 65536; clear w1; omega)
  rw [e1, w1, Int.zero_add, w1, o1]
  clear w1 o1
  omega
 ·show ((s.setR r _).setR r _).regs.g q = _
  rw [setR_ne _ hr hq hne, setR_ne _ hr hq hne]
theorem Cx.num (C : Cx code locs base l Q P) (hr : R32 r) (hn : -9223372036854775808 ≤ n ∧ n < 9223372036854775808) (hS : Seg code pc (num r n ++ ys))
 (k : ∀ R : Arr thread_cell 32, (R.g r).n = n → (∀ q, R32 q → q ≠ r → R.g q = s.regs.g q) → Seg code (pc + (num r n).length) ys → WP code locs base Q (pc + (num r n).length) { s with regs := R }) : WP code locs base Q pc s := by
 unfold W.num at *
 by_cases c1 : -32768 ≤ n ∧ n ≤ 32767
 ·simp only [if_pos c1] at *
  refine C.ins hS (i_addi hr R0) fun hS => ?_
  refine k _ ?_ (fun q hq hne => ?_) hS
  ·rw [arr_self _ hr]
   show wr .i64 (0 + n) = n
   rw [wr64 (by omega)]; omega
  ·rw [arr_ne _ hr hq hne]
 ·simp only [if_neg c1] at *
  by_cases c2 : n < -2147483648 ∨ 2147483648 ≤ n
  ·simp only [if_pos c2] at *
   rw [List.append_assoc] at hS
   refine C.num32 hr (by omega) hS fun R f g hS => ?_
   refine C.ins hS (i_sldi hr hr (by decide)) fun hS => C.ins hS (i_oris hr hr) fun hS => C.ins hS (i_ori hr hr) fun hS => ?_
   have e : pc + ((W.num32 r (n / 4294967296) ++ [(⟨5, r, r, 0, 32⟩ : api_Inst), ⟨4, r, r, 0, n / 65536 % 65536⟩, ⟨3, r, r, 0, n % 65536⟩]).length : Int) = pc + 2 + 1 + 1 + 1 := by simp [W.num32]; omega
   rw [e] at k
   refine k _ ?_ (fun q hq hne => ?_) hS
   ·rw [arr_self _ hr, setR_self _ hr, setR_self _ hr]
    dsimp only
    rw [f]
    have e1 : wr .i64 (n / 4294967296 * 2 ^ ((32 : Int).toNat)) = n / 4294967296 * 4294967296 := by
     rw [show (2 : Int) ^ ((32 : Int).toNat) = 4294967296 from rfl]; exact wr64 (by omega)
    have e2 : wr .i64 (n / 65536 % 65536 * 65536) = n / 65536 % 65536 * 65536 := wr64 (by omega)
    rw [e1, e2]
    clear e1 e2
    have o1 := or_add 32 (by decide) (n / 4294967296 * 4294967296) (n / 65536 % 65536 * 65536) (by show (n / 4294967296 * 4294967296) % 4294967296 = 0; omega) (by omega) (by omega) (by show n / 65536 % 65536 * 65536 < 4294967296; omega)
    rw [o1]
    clear o1
    have o2 := or_add 16 (by decide) (n / 4294967296 * 4294967296 + n / 65536 % 65536 * 65536) (n % 65536) (by show (n / 4294967296 * 4294967296 + n / 65536 % 65536 * 65536) % 65536 = 0; omega) (by omega) (by omega) (by show n % 65536 < 65536; omega)
    rw [o2]
    clear o2
    omega
   ·rw [arr_ne _ hr hq hne, setR_ne _ hr hq hne, setR_ne _ hr hq hne]
    exact g q hq hne
  ·simp only [if_neg c2] at *
   refine C.num32 hr (by omega) hS fun R f g hS => k R f g hS
theorem Cx.dcd (C : Cx code locs base l Q P) (hr : R32 r) (hd : Dc l s.ctrl s.out (s.out.length - 1)) (h0 : 0 < s.out.length) (hh : (s.regs.g r).hang = b1 ((s.out.length - 1 : Nat) : Int)) (hS : Seg code pc (dcd r ++ ys))
 (k : ∀ s' : M, s'.regs = s.regs → s'.stk = s.stk → s'.ans = s.ans → s'.out = s.out → Dc l s'.ctrl s'.out s'.out.length → Seg code (pc + 2) ys → WP code locs base Q (pc + 2) s') : WP code locs base Q pc s := by
 unfold W.dcd at hS
 refine C.ins hS (i_cmpd hr hr) fun hS => ?_
 refine C.ins hS (s' := { s with less := decide ((s.regs.g r).n < (s.regs.g r).n), same := decide ((s.regs.g r).n = (s.regs.g r).n), held := uni (s.regs.g r).hang (s.regs.g r).hang, ctrl := uni s.ctrl (uni (s.regs.g r).hang (s.regs.g r).hang) }) ?_ fun hS => ?_
 ·have := i_bc (code := code) (locs := locs) (base := base) (s := { s with less := decide ((s.regs.g r).n < (s.regs.g r).n), same := decide ((s.regs.g r).n = (s.regs.g r).n), held := uni (s.regs.g r).hang (s.regs.g r).hang }) (c := 3) (d := 1) (by decide)
  rw [ite_self] at this
  exact this
 ·have e : pc + 1 + 1 = pc + 2 := by omega
  rw [e] at hS ⊢
  refine k _ rfl rfl rfl rfl ?_ hS
  have hw := b1_W ((s.out.length - 1 : Nat) : Int)
  have e2 : uni (s.regs.g r).hang (s.regs.g r).hang = b1 ((s.out.length - 1 : Nat) : Int) := by
   rw [hh]
   have h1 := u64_or _ _ hw.1 hw.2 hw.1 hw.2
   unfold uni
   rw [h1, Nat.or_self, Int.toNat_of_nonneg hw.1]
  exact hd.orb e2 h0
theorem Cx.bc (C : Cx code locs base l Q P) {c d : Int} (hS : Seg code pc (⟨18, c, 0, 0, 4 * d⟩ :: ys)) (hd : 1 ≤ d ∧ d ≤ 10000) (hb : pc + d ≤ 8000)
 (k : WP code locs base Q (pc + if cnd s c = true then d else 1) { s with ctrl := uni s.ctrl s.held }) : WP code locs base Q pc s := by
 obtain ⟨h1, h2, h3⟩ := hS.cons
 have := C.n
 refine WP.step h2 C.n (by rw [h1]; exact i_bc (by omega)) ?_ k
 split <;> omega
theorem Seg.drop3 {a b c : api_Inst} (h : Seg code pc (a :: b :: c :: ys)) : Seg code (pc + 3) ys := by
 have := h.cons.2.2.cons.2.2.cons.2.2
 rwa [show pc + 1 + 1 + 1 = pc + 3 by omega] at this
theorem Cx.calE (C : Cx code locs base l Q P) {st : Int} (hc : (n = 0 ∧ st = 1) ∨ (n = 2 ∧ st = 2) ∨ (n = 3 ∧ st = 3)) (hd : Dc l s.ctrl s.out s.out.length) (hS : Seg code pc (⟨1, 0, 0, 0, n⟩ :: ⟨23, 0, 0, 0, 0⟩ :: ys)) (hP : P (.fin st (s.out.map sk))) : WP code locs base Q pc s := by
 refine C.ins hS (i_addi R0 R0) fun hS => ?_
 have e0 : ((s.setR 0 ⟨wr .i64 ((zr s 0).n + n), (zr s 0).hang⟩).regs.g 0).n = n := by
  rw [setR_self _ R0]
  show wr .i64 (0 + n) = n
  rw [wr64 (by omega)]; omega
 have hi := i_sc (code := code) (locs := locs) (base := base) (s := s.setR 0 ⟨wr .i64 ((zr s 0).n + n), (zr s 0).hang⟩) hd.dl.len
 rw [e0] at hi
 have key : stp code locs base (s.setR 0 ⟨wr .i64 ((zr s 0).n + n), (zr s 0).hang⟩) ⟨23, 0, 0, 0, 0⟩ = some (.inr st) := by
  rw [hi]
  rcases hc with ⟨rfl, rfl⟩ | ⟨rfl, rfl⟩ | ⟨rfl, rfl⟩ <;> rfl
 exact C.end_ hS key hd.dl hP
theorem Cx.cal1 (C : Cx code locs base l Q P) {v : Int} (hv : (s.regs.g 3).n = v) (hd : Dc l s.ctrl s.out s.out.length) (hS : Seg code pc (cal 1 ++ ys)) {f : List Sk → PR} (hP : P (telS (s.out.map sk) (6, 0, v, 0) f))
 (k : ∀ s' : M, (∀ q, R32 q → q ≠ 0 → s'.regs.g q = s.regs.g q) → s'.stk = s.stk → s'.ans = s.ans → Dc l s'.ctrl s'.out s'.out.length → P (f (s'.out.map sk)) → Seg code (pc + 2) ys → WP code locs base Q (pc + 2) s') : WP code locs base Q pc s := by
 refine C.ins hS (i_addi R0 R0) fun hS => ?_
 have e0 : ((s.setR 0 ⟨wr .i64 ((zr s 0).n + 1), (zr s 0).hang⟩).regs.g 0).n = 1 := by
  rw [setR_self _ R0]; rfl
 have e3 : ((s.setR 0 ⟨wr .i64 ((zr s 0).n + 1), (zr s 0).hang⟩).regs.g 3).n = v := by
  rw [setR_ne _ R0 (by decide) (by decide)]; exact hv
 have hi := i_sc (code := code) (locs := locs) (base := base) (s := s.setR 0 ⟨wr .i64 ((zr s 0).n + 1), (zr s 0).hang⟩) hd.dl.len
 rw [e0, e3] at hi
 refine C.tel hS hd (k := 6) (p := 0) (v := v) (pr := 0) (ad := 0) (da := 0) (g := id) hi hP (by decide) (fun h => absurd h (by decide)) fun hS hd2 hP2 => ?_
 have e : pc + 1 + 1 = pc + 2 := by omega
 rw [e] at hS ⊢
 exact k _ (fun q hq hne => setR_ne _ R0 hq hne _) rfl rfl hd2 hP2 hS
theorem Cx.bnd (C : Cx code locs base l Q P) (hr : R32 r) (hn : 0 ≤ n ∧ n ≤ 16) (hd : Dc l s.ctrl s.out s.out.length) (hS : Seg code pc (bnd r n ++ ys)) (hP : ¬ (0 ≤ (s.regs.g r).n ∧ (s.regs.g r).n < n) → P (.fin 3 (s.out.map sk)))
 (k : 0 ≤ (s.regs.g r).n ∧ (s.regs.g r).n < n → ∀ s' : M, (s'.regs.g 12).n = 8 * (s.regs.g r).n → (∀ q, R32 q → q ≠ 12 → s'.regs.g q = s.regs.g q) → s'.stk = s.stk → s'.ans = s.ans → s'.out = s.out → Dc l s'.ctrl s'.out s'.out.length → Seg code (pc + 9) ys → WP code locs base Q (pc + 9) s') : WP code locs base Q pc s := by
 unfold W.bnd at hS
 have hb := hS.2.1
 have hC := C.n
 simp only [List.cons_append, List.nil_append, List.length_cons] at hb
 refine C.ins hS (i_cmpdi hr) fun hS => ?_
 refine C.bc (d := 3) hS (by decide) (by omega) ?_
 by_cases c1 : (s.regs.g r).n < 0
 ·have e : cnd ({ s with less := decide ((s.regs.g r).n < 0), same := decide ((s.regs.g r).n = 0), held := (s.regs.g r).hang } : M) 1 = false := by
   show (!decide ((s.regs.g r).n < 0)) = false
   rw [decide_eq_true c1]; rfl
  rw [e, if_neg (by decide)]
  exact C.calE (.inr (.inr ⟨rfl, rfl⟩)) (hd.or _) hS.cons.2.2 (hP (by omega))
 ·have e : cnd ({ s with less := decide ((s.regs.g r).n < 0), same := decide ((s.regs.g r).n = 0), held := (s.regs.g r).hang } : M) 1 = true := by
   show (!decide ((s.regs.g r).n < 0)) = true
   rw [decide_eq_false c1]; rfl
  rw [e, if_pos rfl]
  refine C.ins hS.drop3 (i_cmpdi hr) fun hS => ?_
  refine C.bc (d := 3) hS (by decide) (by omega) ?_
  by_cases c2 : (s.regs.g r).n < n
  ·simp only [cnd, ↓reduceIte]
   rw [if_pos (decide_eq_true c2)]
   refine C.ins hS.drop3 (i_sldi (by decide) hr (by decide)) fun hS => ?_
   have e : pc + 1 + 3 + 1 + 3 + 1 = pc + 9 := by omega
   rw [e] at hS ⊢
   refine k ⟨by omega, c2⟩ _ ?_ (fun q hq hne => by rw [setR_ne _ (by decide) hq hne]) rfl rfl rfl ((hd.or _).or _) hS
   rw [setR_self _ (by decide)]
   show wr .i64 ((s.regs.g r).n * 2 ^ ((3 : Int).toNat)) = 8 * (s.regs.g r).n
   rw [show (2 : Int) ^ ((3 : Int).toNat) = 8 from rfl, wr64 (by omega)]; omega
  ·simp only [cnd, ↓reduceIte]
   rw [if_neg (fun h => c2 (of_decide_eq_true h))]
   exact C.calE (.inr (.inr ⟨rfl, rfl⟩)) ((hd.or _).or _) hS.cons.2.2 (hP (by omega))
end

structure Nx (q k : Int) (s s' : M) : Prop where
 r : ∀ i, 14 ≤ i → i < 32 → i ≠ q → (s'.regs.g i).n = (s.regs.g i).n
 st : ∀ j, 0 ≤ j → j < 400 → j ≠ k → (s'.stk.g j).n = (s.stk.g j).n
def hrg (hm : List api_Home) (t : Int) : Int := if 0 ≤ (gi hm t).Reg then 14 + (gi hm t).Reg else -1
def dq (hm : List api_Home) (x : api_Ins) : Int := if (sh x.Op).d = true then hrg hm x.D else -1
def dk (hm : List api_Home) (x : api_Ins) : Int := if (sh x.Op).d = true then hsl hm x.D else -1
def KK (hm : List api_Home) (code : List api_Inst) (locs base : Int) (l : List api_Loc) (Q : List api_Event × Int → Prop) (x : api_Ins) (s : M) (pcn pct : Int) : PR → Prop
 | .fin st o => ∀ out, out.map sk = o → DL l out → Q (out, st)
 | .nxt j v ans o => ∀ s' : M, Ok base l s' → Nx (dq hm x) (dk hm x) s s' → ((sh x.Op).d = true → hv hm s' x.D = v) → s'.ans = ans → s'.out.map sk = o → WP code locs base Q (if j = true then pct else pcn) s'
section
variable {hm : List api_Home} {code : List api_Inst} {locs base : Int} {l : List api_Loc} {Q : List api_Event × Int → Prop} {x : api_Ins} {s : M} {pc pcn pct : Int} {ys : List api_Inst} {t sp v : Int}
theorem KK.cx (L : Lay locs base) (hn : code.length ≤ 8000) (ll : (l.length : Int) = locs) : Cx code locs base l Q (KK hm code locs base l Q x s pcn pct) := ⟨L, hn, ll, fun st out h hd => h out rfl hd⟩
theorem ur_or (h : HB hm t) (sp : Int) : (ur hm t sp = sp ∧ (gi hm t).Reg < 0) ∨ (ur hm t sp = 14 + (gi hm t).Reg ∧ 14 ≤ ur hm t sp ∧ ur hm t sp < 22) := by
 have := h.h
 unfold ur; split <;> omega
theorem ur_R (h : HB hm t) {sp : Int} (hs : 0 ≤ sp ∧ sp < 32) : R32 (ur hm t sp) := by
 have := ur_or h sp
 exact ⟨by omega, by show ur hm t sp < 32; omega⟩
theorem hv_regs (h : HB hm t) {R : Arr thread_cell 32} {sp : Int} (hsp : sp < 14) (g : ∀ q, R32 q → q ≠ sp → R.g q = s.regs.g q) : hv hm { s with regs := R } t = hv hm s t := by
 have := h.h
 unfold hv
 split
 ·rw [g _ ⟨by omega, by show 14 + (gi hm t).Reg < 32; omega⟩ (by omega)]
 ·rfl
theorem fin_D {s' : M} (L : Lay locs base) (hn : code.length ≤ 8000) (ll : (l.length : Int) = locs) (hD : HB hm x.D) (hd : (sh x.Op).d = true) (hO : Ok base l s') (hS : Seg code pc (kp hm x.D ++ ys)) (hr : ∀ i, 14 ≤ i → i < 32 → i ≠ ur hm x.D 11 → (s'.regs.g i).n = (s.regs.g i).n) (hst : s'.stk = s.stk)
 (hw : (s'.regs.g (ur hm x.D 11)).n = v) (he : pc + (kp hm x.D).length = pcn) (K : KK hm code locs base l Q x s pcn pct (.nxt false v s'.ans (s'.out.map sk))) : WP code locs base Q pc s' := by
 have C : Cx code locs base l Q (KK hm code locs base l Q x s pcn pct) := KK.cx L hn ll
 refine C.kp hD hO.b1 hS fun S hv1 hv2 _ => ?_
 rw [he]
 refine K { s' with stk := S } ⟨hO.b1, hO.b2, hO.dc⟩ ⟨fun i h0 h1 hne => ?_, fun j h0 h1 hne => ?_⟩ (fun _ => hv1.trans hw) rfl rfl
 ·refine hr i h0 h1 ?_
  unfold dq hrg at hne
  rw [if_pos hd] at hne
  unfold ur
  split
  ·rename_i c; rw [if_pos c] at hne; exact hne
  ·omega
 ·unfold dk at hne
  rw [if_pos hd] at hne
  show (S.g j).n = _
  rw [hv2 j h0 h1 hne, hst]
theorem fin_N {s' : M} (hd : (sh x.Op).d = false) (hO : Ok base l s') (hr : ∀ i, 14 ≤ i → i < 32 → (s'.regs.g i).n = (s.regs.g i).n) (hst : s'.stk = s.stk) {j : Bool} (he : pc = if j = true then pct else pcn) (K : KK hm code locs base l Q x s pcn pct (.nxt j v s'.ans (s'.out.map sk))) : WP code locs base Q pc s' := by
 rw [he]
 exact K s' hO ⟨fun i h0 h1 _ => hr i h0 h1, fun j _ _ _ => by rw [hst]⟩ (fun h => by rw [hd] at h; cases h) rfl rfl
theorem two_ul {P : PR → Prop} {sa sb : Int} (C : Cx code locs base l Q P) (hO : Ok base l s) (hA : HB hm x.A) (hB : HB hm x.B) (ha : 3 ≤ sa ∧ sa < 14) (hb : 3 ≤ sb ∧ sb < 14) (hne : sa ≠ sb) (hS : Seg code pc (ul hm x.A sa ++ (ul hm x.B sb ++ ys)))
 (k : ∀ R : Arr thread_cell 32, (R.g (ur hm x.A sa)).n = hv hm s x.A → (R.g (ur hm x.B sb)).n = hv hm s x.B → (∀ q, R32 q → q ≠ sa → q ≠ sb → R.g q = s.regs.g q) → Ok base l { s with regs := R } → Seg code (pc + (ul hm x.A sa).length + (ul hm x.B sb).length) ys → WP code locs base Q (pc + (ul hm x.A sa).length + (ul hm x.B sb).length) { s with regs := R }) : WP code locs base Q pc s := by
 refine C.ul hA ha hO.b1 hS fun R1 f1 g1 hS => ?_
 have b1 : (R1.g 1).n = base := by rw [g1 1 (by decide) (by omega)]; exact hO.b1
 refine C.ul hB hb b1 hS fun R2 f2 g2 hS => ?_
 have uA := ur_or hA sa
 refine k R2 ?_ (f2.trans (hv_regs hB ha.2 g1)) (fun q hq h1 h2 => (g2 q hq h2).trans (g1 q hq h1)) ⟨?_, ?_, hO.dc⟩ hS
 ·rw [g2 _ (ur_R hA (by omega)) (by omega)]; exact f1
 ·show (R2.g 1).n = base
  rw [g2 1 (by decide) (by omega)]; exact b1
 ·show (R2.g 2).n = 65536
  rw [g2 2 (by decide) (by omega)]
  show (R1.g 2).n = 65536
  rw [g1 2 (by decide) (by omega)]; exact hO.b2
theorem one_ul {P : PR → Prop} {sa : Int} (C : Cx code locs base l Q P) (hO : Ok base l s) (hA : HB hm t) (ha : 3 ≤ sa ∧ sa < 14) (hS : Seg code pc (ul hm t sa ++ ys))
 (k : ∀ R : Arr thread_cell 32, (R.g (ur hm t sa)).n = hv hm s t → (∀ q, R32 q → q ≠ sa → R.g q = s.regs.g q) → Ok base l { s with regs := R } → Seg code (pc + (ul hm t sa).length) ys → WP code locs base Q (pc + (ul hm t sa).length) { s with regs := R }) : WP code locs base Q pc s := by
 refine C.ul hA ha hO.b1 hS fun R1 f1 g1 hS => k R1 f1 g1 ⟨?_, ?_, hO.dc⟩ hS
 ·show (R1.g 1).n = base
  rw [g1 1 (by decide) (by omega)]; exact hO.b1
 ·show (R1.g 2).n = 65536
  rw [g1 2 (by decide) (by omega)]; exact hO.b2
theorem Ok.setR {q : Int} {c : thread_cell} (h : Ok base l s) (hq : R32 q) (h3 : q ≠ 1 ∧ q ≠ 2) : Ok base l (s.setR q c) := ⟨by rw [setR_ne _ hq (by decide) (fun e => h3.1 e.symm)]; exact h.b1, by rw [setR_ne _ hq (by decide) (fun e => h3.2 e.symm)]; exact h.b2, h.dc⟩
end

structure Pc (hm : List api_Home) (code : List api_Inst) (locs base : Int) (l : List api_Loc) (x : api_Ins) (s : M) (i0 d pcn pct : Int) : Prop where
 L : Lay locs base
 n : code.length ≤ 8000
 ll : (l.length : Int) = locs
 px : PB hm x
 o : Ok base l s
 loc : (sh x.Op).place = true → 0 ≤ x.Loc ∧ x.Loc + wid (sh x.Op) x ≤ l.length ∧ ∀ k, x.Loc ≤ k → k < x.Loc + wid (sh x.Op) x → (gi l k).Atomic = (sh x.Op).atomic
 S : Seg code i0 (pc hm x (4 * d))
 e : pcn = i0 + (pc hm x 0).length
 an : ∀ n ∈ s.ans, -9223372036854775808 ≤ n ∧ n < 9223372036854775808
 j : isJ x = true → 1 ≤ d ∧ d ≤ 9000 ∧ pct = pcn - 1 + d ∧ pct ≤ 8000
section
variable {hm : List api_Home} {code : List api_Inst} {locs base : Int} {l : List api_Loc} {Q : List api_Event × Int → Prop} {x : api_Ins} {s : M} {i0 d pcn pct : Int}
theorem Pc.hd (h : Pc hm code locs base l x s i0 d pcn pct) (c : (sh x.Op).d = true) : HB hm x.D := h.px.d c
theorem Pc.cx (h : Pc hm code locs base l x s i0 d pcn pct) : Cx code locs base l Q (KK hm code locs base l Q x s pcn pct) := KK.cx h.L h.n h.ll
theorem p1 (h : Pc hm code locs base l x s i0 d pcn pct) (c : x.Op = 1) (K : KK hm code locs base l Q x s pcn pct (pstep x (hv hm s x.A) (hv hm s x.B) s.ans (s.out.map sk))) : WP code locs base Q i0 s := by
 have hS := h.S; have he := h.e
 simp only [pc, pstep, c, Int.reduceEq, ↓reduceIte] at hS he K
 have hd : (sh x.Op).d = true := by rw [c]; rfl
 have hD := h.hd hd
 have u := ur_or hD 11
 refine h.cx.num (ur_R hD (by decide)) h.px.k hS fun R f g hS => ?_
 refine fin_D (s := s) (pcn := pcn) (pct := pct) (ys := []) h.L h.n h.ll hD hd ⟨?_, ?_, h.o.dc⟩ (by rw [List.append_nil]; exact hS) (fun i h0 h1 hne => ?_) rfl f (by rw [he, List.length_append]; omega) K
 ·show (R.g 1).n = base
  rw [g 1 (by decide) (by omega)]; exact h.o.b1
 ·show (R.g 2).n = 65536
  rw [g 2 (by decide) (by omega)]; exact h.o.b2
 ·show (R.g i).n = _
  rw [g i ⟨by omega, h1⟩ hne]
theorem p2 (h : Pc hm code locs base l x s i0 d pcn pct) (c : x.Op = 2) (K : KK hm code locs base l Q x s pcn pct (pstep x (hv hm s x.A) (hv hm s x.B) s.ans (s.out.map sk))) : WP code locs base Q i0 s := by
 have hS := h.S; have he := h.e
 simp only [pc, pstep, c, Int.reduceEq, ↓reduceIte] at hS he K
 have hd : (sh x.Op).d = true := by rw [c]; rfl
 have hD := h.hd hd
 have uD := ur_or hD 11
 have hA := h.px.a (by rw [c]; rfl)
 have uA := ur_or hA 11
 have hB := h.px.b (by rw [c]; rfl)
 have uB := ur_or hB 10
 refine two_ul h.cx h.o hA hB (by decide) (by decide) (by decide) hS fun R fa fb g hO hS => ?_
 refine h.cx.ins hS (i_add (ur_R hD (by decide)) (ur_R hA (by decide)) (ur_R hB (by decide))) fun hS => ?_
 refine fin_D (s := s) (pcn := pcn) (pct := pct) (ys := []) h.L h.n h.ll hD hd (hO.setR (ur_R hD (by decide)) (by omega)) (by rw [List.append_nil]; exact hS) (fun i h0 h1 hne => ?_) rfl (v := wr .i64 (hv hm s x.A + hv hm s x.B)) ?_ (by rw [he]; simp only [List.length_append, List.length_cons]; omega) K
 ·rw [setR_ne _ (ur_R hD (by decide)) ⟨by omega, h1⟩ hne]
  show (R.g i).n = _
  rw [g i ⟨by omega, h1⟩ (by omega) (by omega)]
 ·rw [setR_self _ (ur_R hD (by decide))]
  show wr .i64 ((R.g (ur hm x.A 11)).n + (R.g (ur hm x.B 10)).n) = _
  rw [fa, fb]
theorem p3 (h : Pc hm code locs base l x s i0 d pcn pct) (c : x.Op = 3) (K : KK hm code locs base l Q x s pcn pct (pstep x (hv hm s x.A) (hv hm s x.B) s.ans (s.out.map sk))) : WP code locs base Q i0 s := by
 have hS := h.S; have he := h.e
 simp only [pc, pstep, c, Int.reduceEq, ↓reduceIte] at hS he K
 have hd : (sh x.Op).d = true := by rw [c]; rfl
 have hD := h.hd hd
 have uD := ur_or hD 11
 have hA := h.px.a (by rw [c]; rfl)
 have uA := ur_or hA 11
 have hB := h.px.b (by rw [c]; rfl)
 have uB := ur_or hB 10
 refine two_ul h.cx h.o hA hB (by decide) (by decide) (by decide) hS fun R fa fb g hO hS => ?_
 refine h.cx.ins hS (i_subf (ur_R hD (by decide)) (ur_R hB (by decide)) (ur_R hA (by decide))) fun hS => ?_
 refine fin_D (s := s) (pcn := pcn) (pct := pct) (ys := []) h.L h.n h.ll hD hd (hO.setR (ur_R hD (by decide)) (by omega)) (by rw [List.append_nil]; exact hS) (fun i h0 h1 hne => ?_) rfl (v := wr .i64 (hv hm s x.A - hv hm s x.B)) ?_ (by rw [he]; simp only [List.length_append, List.length_cons]; omega) K
 ·rw [setR_ne _ (ur_R hD (by decide)) ⟨by omega, h1⟩ hne]
  show (R.g i).n = _
  rw [g i ⟨by omega, h1⟩ (by omega) (by omega)]
 ·rw [setR_self _ (ur_R hD (by decide))]
  show wr .i64 ((R.g (ur hm x.A 11)).n - (R.g (ur hm x.B 10)).n) = _
  rw [fa, fb]
theorem p4 (h : Pc hm code locs base l x s i0 d pcn pct) (c : x.Op = 4) (K : KK hm code locs base l Q x s pcn pct (pstep x (hv hm s x.A) (hv hm s x.B) s.ans (s.out.map sk))) : WP code locs base Q i0 s := by
 have hS := h.S; have he := h.e
 simp only [pc, pstep, c, Int.reduceEq, ↓reduceIte] at hS he K
 have hd : (sh x.Op).d = true := by rw [c]; rfl
 have hD := h.hd hd
 have uD := ur_or hD 11
 have hA := h.px.a (by rw [c]; rfl)
 have uA := ur_or hA 11
 have hB := h.px.b (by rw [c]; rfl)
 have uB := ur_or hB 10
 refine two_ul h.cx h.o hA hB (by decide) (by decide) (by decide) hS fun R fa fb g hO hS => ?_
 refine h.cx.ins hS (i_mulld (ur_R hD (by decide)) (ur_R hA (by decide)) (ur_R hB (by decide))) fun hS => ?_
 refine fin_D (s := s) (pcn := pcn) (pct := pct) (ys := []) h.L h.n h.ll hD hd (hO.setR (ur_R hD (by decide)) (by omega)) (by rw [List.append_nil]; exact hS) (fun i h0 h1 hne => ?_) rfl (v := wr .i64 (hv hm s x.A * hv hm s x.B)) ?_ (by rw [he]; simp only [List.length_append, List.length_cons]; omega) K
 ·rw [setR_ne _ (ur_R hD (by decide)) ⟨by omega, h1⟩ hne]
  show (R.g i).n = _
  rw [g i ⟨by omega, h1⟩ (by omega) (by omega)]
 ·rw [setR_self _ (ur_R hD (by decide))]
  show wr .i64 ((R.g (ur hm x.A 11)).n * (R.g (ur hm x.B 10)).n) = _
  rw [fa, fb]
theorem p5 (h : Pc hm code locs base l x s i0 d pcn pct) (c : x.Op = 5) (K : KK hm code locs base l Q x s pcn pct (pstep x (hv hm s x.A) (hv hm s x.B) s.ans (s.out.map sk))) : WP code locs base Q i0 s := by
 have hS := h.S; have he := h.e
 simp only [pc, pstep, c, Int.reduceEq, ↓reduceIte] at hS he K
 have hd : (sh x.Op).d = true := by rw [c]; rfl
 have hD := h.hd hd
 have uD := ur_or hD 11
 have hA := h.px.a (by rw [c]; rfl)
 have uA := ur_or hA 11
 have hB := h.px.b (by rw [c]; rfl)
 have uB := ur_or hB 10
 refine two_ul h.cx h.o hA hB (by decide) (by decide) (by decide) hS fun R fa fb g hO hS => ?_
 have hb := hS.2.1
 have hC := h.n
 simp only [List.length_cons, cal, List.cons_append, List.nil_append] at hb hS
 refine h.cx.ins hS (i_cmpdi (ur_R hB (by decide))) fun hS => ?_
 refine h.cx.bc (d := 3) hS (by decide) (by omega) ?_
 simp only [cnd, Int.reduceEq, ↓reduceIte]
 by_cases c0 : hv hm s x.B = 0
 ·rw [if_pos c0] at K
  rw [fb, decide_eq_true c0, if_neg (by decide)]
  exact h.cx.calE (.inr (.inl ⟨rfl, rfl⟩)) (hO.dc.or _) hS.cons.2.2 K
 ·rw [if_neg c0] at K
  rw [fb, decide_eq_false c0, if_pos (by decide)]
  refine h.cx.ins hS.drop3 (i_divd (ur_R hD (by decide)) (ur_R hA (by decide)) (ur_R hB (by decide)) (by show (R.g _).n ≠ 0; rw [fb]; exact c0)) fun hS => ?_
  refine fin_D (s := s) (pcn := pcn) (pct := pct) (ys := []) h.L h.n h.ll hD hd (Ok.setR ⟨hO.b1, hO.b2, hO.dc.or _⟩ (ur_R hD (by decide)) (by omega)) (by rw [List.append_nil]; exact hS) (fun i h0 h1 hne => ?_) rfl (v := wr .i64 (Int.tdiv (hv hm s x.A) (hv hm s x.B))) ?_ (by rw [he]; simp only [List.length_append, List.length_cons, cal, List.length_nil]; omega) K
  ·rw [setR_ne _ (ur_R hD (by decide)) ⟨by omega, h1⟩ hne]
   show (R.g i).n = _
   rw [g i ⟨by omega, h1⟩ (by omega) (by omega)]
  ·rw [setR_self _ (ur_R hD (by decide))]
   show wr .i64 (Int.tdiv (R.g (ur hm x.A 11)).n (R.g (ur hm x.B 10)).n) = _
   rw [fa, fb]
end

section
variable {hm : List api_Home} {code : List api_Inst} {locs base : Int} {l : List api_Loc} {Q : List api_Event × Int → Prop} {x : api_Ins} {s : M} {i0 d pcn pct : Int}
theorem rd_self (s : M) {op t p n : Int} {r : List Int} {ad : Int} (ht : R32 t) : (s.rd op t p n r ad).regs.g t = ⟨n, b1 (s.out.length : Int)⟩ := arr_self _ ht
theorem rd_ne (s : M) {op t p n : Int} {r : List Int} {ad q : Int} (ht : R32 t) (hq : R32 q) (h : q ≠ t) : (s.rd op t p n r ad).regs.g q = s.regs.g q := arr_ne _ ht hq h
theorem rd_len (s : M) {op t p n : Int} {r : List Int} {ad : Int} : (s.rd op t p n r ad).out.length = s.out.length + 1 := by
 show (s.out ++ [_]).length = _
 simp
theorem Pc.lc (h : Pc hm code locs base l x s i0 d pcn pct) (c : (sh x.Op).place = true) (c2 : (sh x.Op).row = false) : 0 ≤ x.Loc ∧ x.Loc < locs := by
 have h1 := h.loc c
 have := h.ll
 unfold wid at h1
 rw [if_neg (by rw [c2]; decide)] at h1
 omega
theorem Pc.at_ (h : Pc hm code locs base l x s i0 d pcn pct) (c : (sh x.Op).place = true) (c2 : (sh x.Op).row = false) : (gi l x.Loc).Atomic = (sh x.Op).atomic := by
 have h1 := h.loc c
 unfold wid at h1
 rw [if_neg (by rw [c2]; decide)] at h1
 exact h1.2.2 _ (by omega) (by omega)
theorem Pc.rl (h : Pc hm code locs base l x s i0 d pcn pct) (c : (sh x.Op).place = true) (c2 : (sh x.Op).row = true) {a : Int} (ha : 0 ≤ a ∧ a < x.Len) : 0 ≤ x.Loc + a ∧ x.Loc + a < locs := by
 have h1 := h.loc c
 have := h.ll
 unfold wid at h1
 rw [if_pos c2] at h1
 omega
theorem Dc.at_ {ctrl : Int} {s : M} {op t p n : Int} {r : List Int} {ad : Int} (h : Dc l ctrl (s.rd op t p n r ad).out s.out.length) (ha : (gi l p).Atomic = true) : Dc l ctrl (s.rd op t p n r ad).out (s.rd op t p n r ad).out.length :=
 Dc.np (e := ⟨1, p, n, 0, ad, 0, s.ctrl, s.fen⟩) h fun hp => by
  have := hp.2
  dsimp only at this
  rw [ha] at this; cases this
theorem p6 (h : Pc hm code locs base l x s i0 d pcn pct) (c : x.Op = 6) (K : KK hm code locs base l Q x s pcn pct (pstep x (hv hm s x.A) (hv hm s x.B) s.ans (s.out.map sk))) : WP code locs base Q i0 s := by
 have hS := h.S; have he := h.e
 simp only [pc, pstep, c, Int.reduceEq, ↓reduceIte] at hS he K
 have hd : (sh x.Op).d = true := by rw [c]; rfl
 have hD := h.hd hd
 have uD := ur_or hD 11
 have rD := ur_R hD (show 0 ≤ (11 : Int) ∧ (11 : Int) < 32 by decide)
 have hL := h.lc (by rw [c]; rfl) (by rw [c]; rfl)
 refine h.cx.red hS h.o.dc (i_ldL h.L h.o.dc.dl.len rD hL h.o.b2) K hL fun n r ha hS hdc K => ?_
 have hln := rd_len s (op := 10) (t := ur hm x.D 11) (p := x.Loc) (n := n) (r := r) (ad := (s.regs.g 2).hang)
 refine h.cx.dcd rD (by rw [hln]; exact hdc) (by rw [hln]; omega) (by rw [rd_self _ rD, hln]; rfl) hS fun s2 e1 e2 e3 e4 hdc2 hS => ?_
 refine fin_D (s := s) (pcn := pcn) (pct := pct) (v := n) (ys := []) h.L h.n h.ll hD hd ⟨?_, ?_, hdc2⟩ (by rw [List.append_nil]; exact hS) (fun i h0 h1 hne => ?_) e2 ?_ (by rw [he]; simp only [List.length_append, List.length_cons, List.length_nil, bnd, dcd, cal]; omega) ?_
 ·rw [e1, rd_ne _ rD (by decide) (by omega)]; exact h.o.b1
 ·rw [e1, rd_ne _ rD (by decide) (by omega)]; exact h.o.b2
 ·rw [e1, rd_ne _ rD ⟨by omega, h1⟩ hne]
 ·rw [e1, rd_self _ rD]
 ·rw [e3, e4]; exact K
theorem p7 (h : Pc hm code locs base l x s i0 d pcn pct) (c : x.Op = 7) (K : KK hm code locs base l Q x s pcn pct (pstep x (hv hm s x.A) (hv hm s x.B) s.ans (s.out.map sk))) : WP code locs base Q i0 s := by
 have hS := h.S; have he := h.e
 simp only [pc, pstep, c, Int.reduceEq, ↓reduceIte] at hS he K
 have hd : (sh x.Op).d = false := by rw [c]; rfl
 have hA := h.px.a (by rw [c]; rfl)
 have uA := ur_or hA 11
 have rA := ur_R hA (show 0 ≤ (11 : Int) ∧ (11 : Int) < 32 by decide)
 have hL := h.lc (by rw [c]; rfl) (by rw [c]; rfl)
 refine one_ul h.cx h.o hA (by decide) hS fun R f g hO hS => ?_
 have e := i_stdL (code := code) h.L hO.dc.dl.len rA hL hO.b2
 rw [show (M.regs _).g (ur hm x.A 11) = R.g (ur hm x.A 11) from rfl, f] at e
 refine h.cx.tel hS hO.dc (g := id) e K (by decide) (fun _ => hL) fun hS hdc K => ?_
 refine fin_N (s := s) (pcn := pcn) (pct := pct) (v := 0) (j := false) hd ⟨hO.b1, hO.b2, hdc⟩ (fun i h0 h1 => ?_) rfl ?_ K
 ·show (R.g i).n = _
  rw [g i ⟨by omega, h1⟩ (by omega)]
 ·rw [if_neg (by decide)]; rw [he]; simp only [List.length_append, List.length_cons, List.length_nil, bnd, dcd, cal]; omega
theorem p8 (h : Pc hm code locs base l x s i0 d pcn pct) (c : x.Op = 8) (K : KK hm code locs base l Q x s pcn pct (pstep x (hv hm s x.A) (hv hm s x.B) s.ans (s.out.map sk))) : WP code locs base Q i0 s := by
 have hS := h.S; have he := h.e
 simp only [pc, pstep, c, Int.reduceEq, ↓reduceIte] at hS he K
 have hd : (sh x.Op).d = true := by rw [c]; rfl
 have hD := h.hd hd
 have uD := ur_or hD 11
 have rD := ur_R hD (show 0 ≤ (11 : Int) ∧ (11 : Int) < 32 by decide)
 have hL := h.lc (by rw [c]; rfl) (by rw [c]; rfl)
 have hat : (gi l x.Loc).Atomic = true := by rw [h.at_ (by rw [c]; rfl) (by rw [c]; rfl), c]; rfl
 refine h.cx.tel hS h.o.dc (g := id) (i_sync h.o.dc.dl.len) K (by decide) (fun e => absurd e (by decide)) fun hS hdc K => ?_
 refine h.cx.red (s := s.tel 3 0 0 0 0 0) hS hdc (i_ldL h.L hdc.dl.len rD hL h.o.b2) K hL fun n r ha hS hdc K => ?_
 have hdc := hdc.at_ hat
 refine h.cx.tel hS hdc (g := id) (i_sync hdc.dl.len) K (by decide) (fun e => absurd e (by decide)) fun hS hdc K => ?_
 refine fin_D (s := s) (pcn := pcn) (pct := pct) (v := n) (ys := []) h.L h.n h.ll hD hd ⟨?_, ?_, hdc⟩ (by rw [List.append_nil]; exact hS) (fun i h0 h1 hne => ?_) rfl ?_ (by rw [he]; simp only [List.length_append, List.length_cons, List.length_nil, bnd, dcd, cal]; omega) K
 ·show (((s.tel 3 0 0 0 0 0).rd 10 (ur hm x.D 11) x.Loc n r ((s.tel 3 0 0 0 0 0).regs.g 2).hang).regs.g 1).n = base
  rw [rd_ne _ rD (by decide) (by omega)]; exact h.o.b1
 ·show (((s.tel 3 0 0 0 0 0).rd 10 (ur hm x.D 11) x.Loc n r ((s.tel 3 0 0 0 0 0).regs.g 2).hang).regs.g 2).n = 65536
  rw [rd_ne _ rD (by decide) (by omega)]; exact h.o.b2
 ·show (((s.tel 3 0 0 0 0 0).rd 10 (ur hm x.D 11) x.Loc n r ((s.tel 3 0 0 0 0 0).regs.g 2).hang).regs.g i).n = _
  rw [rd_ne _ rD ⟨by omega, h1⟩ hne]; rfl
 ·show (((s.tel 3 0 0 0 0 0).rd 10 (ur hm x.D 11) x.Loc n r ((s.tel 3 0 0 0 0 0).regs.g 2).hang).regs.g (ur hm x.D 11)).n = n
  rw [rd_self _ rD]
theorem p9 (h : Pc hm code locs base l x s i0 d pcn pct) (c : x.Op = 9) (K : KK hm code locs base l Q x s pcn pct (pstep x (hv hm s x.A) (hv hm s x.B) s.ans (s.out.map sk))) : WP code locs base Q i0 s := by
 have hS := h.S; have he := h.e
 simp only [pc, pstep, c, Int.reduceEq, ↓reduceIte] at hS he K
 have hd : (sh x.Op).d = false := by rw [c]; rfl
 have hA := h.px.a (by rw [c]; rfl)
 have uA := ur_or hA 10
 have rA := ur_R hA (show 0 ≤ (10 : Int) ∧ (10 : Int) < 32 by decide)
 have hL := h.lc (by rw [c]; rfl) (by rw [c]; rfl)
 refine one_ul h.cx h.o hA (by decide) hS fun R f g hO hS => ?_
 refine h.cx.tel hS hO.dc (g := id) (i_sync hO.dc.dl.len) K (by decide) (fun e => absurd e (by decide)) fun hS hdc K => ?_
 have e := i_stdL (code := code) (s := ({ s with regs := R } : M).tel 3 0 0 0 0 0) h.L hdc.dl.len rA hL hO.b2
 rw [show (({ s with regs := R } : M).tel 3 0 0 0 0 0).regs.g (ur hm x.A 10) = R.g (ur hm x.A 10) from rfl, f] at e
 refine h.cx.tel hS hdc (g := id) e K (by decide) (fun _ => hL) fun hS hdc K => ?_
 refine h.cx.tel hS hdc (g := id) (i_sync hdc.dl.len) K (by decide) (fun e => absurd e (by decide)) fun hS hdc K => ?_
 refine fin_N (s := s) (pcn := pcn) (pct := pct) (v := 0) (j := false) hd ⟨hO.b1, hO.b2, hdc⟩ (fun i h0 h1 => ?_) rfl ?_ K
 ·show (R.g i).n = _
  rw [g i ⟨by omega, h1⟩ (by omega)]
 ·rw [if_neg (by decide)]; rw [he]; simp only [List.length_append, List.length_cons, List.length_nil, bnd, dcd, cal]; omega
theorem p13 (h : Pc hm code locs base l x s i0 d pcn pct) (c : x.Op = 13) (K : KK hm code locs base l Q x s pcn pct (pstep x (hv hm s x.A) (hv hm s x.B) s.ans (s.out.map sk))) : WP code locs base Q i0 s := by
 have hS := h.S; have he := h.e
 simp only [pc, pstep, c, Int.reduceEq, ↓reduceIte] at hS he K
 have hd : (sh x.Op).d = true := by rw [c]; rfl
 have hD := h.hd hd
 have uD := ur_or hD 11
 have rD := ur_R hD (show 0 ≤ (11 : Int) ∧ (11 : Int) < 32 by decide)
 have hA := h.px.a (by rw [c]; rfl)
 have uA := ur_or hA 11
 have rA := ur_R hA (show 0 ≤ (11 : Int) ∧ (11 : Int) < 32 by decide)
 refine one_ul h.cx h.o hA (by decide) hS fun R f g hO hS => ?_
 refine h.cx.bnd rA h.px.len hO.dc hS (fun hn => ?_) fun ha s1 f12 g1 e2 e3 e4 hdc hS => ?_
 ·rw [if_neg (by rw [← f]; exact hn)] at K; exact K
 have ha' : 0 ≤ hv hm s x.A ∧ hv hm s x.A < x.Len := by rw [← f]; exact ha
 have hL := h.rl (by rw [c]; rfl) (by rw [c]; rfl) ha'
 rw [if_pos ha'] at K
 have f12 : (s1.regs.g 12).n = 8 * hv hm s x.A := f12.trans (by rw [show (M.regs _).g (ur hm x.A 11) = R.g (ur hm x.A 11) from rfl, f])
 have hLoc := h.px.loc
 have hLen := h.px.len
 refine h.cx.ins hS (i_addi (by decide) (by decide)) fun hS => ?_
 have w12 : wr .i64 ((zr s1 12).n + 8 * x.Loc) = 8 * (x.Loc + hv hm s x.A) := by
  rw [show zr s1 12 = s1.regs.g 12 from rfl, f12, wr64 (by omega)]; omega
 rw [w12] at *
 have r12 : R32 12 := by decide
 have b2 : ((s1.setR 12 ⟨8 * (x.Loc + hv hm s x.A), (zr s1 12).hang⟩).regs.g 2).n = 65536 := by
  rw [setR_ne _ r12 (by decide) (by decide), g1 2 (by decide) (by decide)]; exact hO.b2
 have b1' : ((s1.setR 12 ⟨8 * (x.Loc + hv hm s x.A), (zr s1 12).hang⟩).regs.g 1).n = base := by
  rw [setR_ne _ r12 (by decide) (by decide), g1 1 (by decide) (by decide)]; exact hO.b1
 have c12 : ((s1.setR 12 ⟨8 * (x.Loc + hv hm s x.A), (zr s1 12).hang⟩).regs.g 12).n = 8 * (x.Loc + hv hm s x.A) := by rw [setR_self _ r12]
 have gg : ∀ i, 14 ≤ i → i < 32 → ((s1.setR 12 ⟨8 * (x.Loc + hv hm s x.A), (zr s1 12).hang⟩).regs.g i).n = (s.regs.g i).n := fun i h0 h1 => by
  rw [setR_ne _ r12 ⟨by omega, h1⟩ (by omega), g1 i ⟨by omega, h1⟩ (by omega)]
  show (R.g i).n = _
  rw [g i ⟨by omega, h1⟩ (by omega)]
 have q2 : (s1.setR 12 ⟨8 * (x.Loc + hv hm s x.A), (zr s1 12).hang⟩).stk = s.stk := e2
 have q3 : (s1.setR 12 ⟨8 * (x.Loc + hv hm s x.A), (zr s1 12).hang⟩).ans = s.ans := e3
 have q4 : (s1.setR 12 ⟨8 * (x.Loc + hv hm s x.A), (zr s1 12).hang⟩).out = s.out := e4
 have q5 : Dc l (s1.setR 12 ⟨8 * (x.Loc + hv hm s x.A), (zr s1 12).hang⟩).ctrl (s1.setR 12 ⟨8 * (x.Loc + hv hm s x.A), (zr s1 12).hang⟩).out (s1.setR 12 ⟨8 * (x.Loc + hv hm s x.A), (zr s1 12).hang⟩).out.length := hdc
 generalize s1.setR 12 ⟨8 * (x.Loc + hv hm s x.A), (zr s1 12).hang⟩ = s2 at *
 rw [← q3, ← q4] at K
 refine h.cx.red hS q5 (i_ldx h.L q5.dl.len (.inl rfl) rD hL b2 c12) K hL fun n r ha hS hdc K => ?_
 have hln := rd_len s2 (op := 12) (t := ur hm x.D 11) (p := x.Loc + hv hm s x.A) (n := n) (r := r) (ad := ad2 s2)
 refine h.cx.dcd rD (by rw [hln]; exact hdc) (by rw [hln]; omega) (by rw [rd_self _ rD, hln]; rfl) hS fun s3 e1 e2 e3 e4 hdc2 hS => ?_
 refine fin_D (s := s) (pcn := pcn) (pct := pct) (v := n) (ys := []) h.L h.n h.ll hD hd ⟨?_, ?_, hdc2⟩ (by rw [List.append_nil]; exact hS) (fun i h0 h1 hne => ?_) (e2.trans q2) ?_ (by rw [he]; simp only [List.length_append, List.length_cons, List.length_nil, bnd, dcd, cal]; omega) ?_
 ·rw [e1, rd_ne _ rD (by decide) (by omega)]; exact b1'
 ·rw [e1, rd_ne _ rD (by decide) (by omega)]; exact b2
 ·rw [e1, rd_ne _ rD ⟨by omega, h1⟩ hne]; exact gg i h0 h1
 ·rw [e1, rd_self _ rD]
 ·rw [e3, e4]; exact K
theorem p15 (h : Pc hm code locs base l x s i0 d pcn pct) (c : x.Op = 15) (K : KK hm code locs base l Q x s pcn pct (pstep x (hv hm s x.A) (hv hm s x.B) s.ans (s.out.map sk))) : WP code locs base Q i0 s := by
 have hS := h.S; have he := h.e
 simp only [pc, pstep, c, Int.reduceEq, ↓reduceIte] at hS he K
 have hd : (sh x.Op).d = false := by rw [c]; rfl
 have hA := h.px.a (by rw [c]; rfl)
 have uA := ur_or hA 11
 have rA := ur_R hA (show 0 ≤ (11 : Int) ∧ (11 : Int) < 32 by decide)
 refine one_ul h.cx h.o hA (by decide) hS fun R f g hO hS => ?_
 refine h.cx.ins hS (i_addi (by decide) rA) fun hS => ?_
 have hz : zr ({ s with regs := R } : M) (ur hm x.A 11) = R.g (ur hm x.A 11) := by unfold zr; rw [if_neg (by omega)]
 refine h.cx.cal1 (v := wr .i64 (hv hm s x.A)) (ys := []) ?_ hO.dc (by rw [List.append_nil]; exact hS) K fun s' g2 e2 e3 hdc K _ => ?_
 ·rw [setR_self _ (by decide), hz]
  show wr .i64 ((R.g (ur hm x.A 11)).n + 0) = _
  rw [f, Int.add_zero]
 ·refine fin_N (s := s) (pcn := pcn) (pct := pct) (v := 0) (j := false) hd ⟨?_, ?_, hdc⟩ (fun i h0 h1 => ?_) e2 ?_ (by rw [e3]; exact K)
  ·rw [g2 1 (by decide) (by decide), setR_ne _ (by decide) (by decide) (by decide)]; exact hO.b1
  ·rw [g2 2 (by decide) (by decide), setR_ne _ (by decide) (by decide) (by decide)]; exact hO.b2
  ·rw [g2 i ⟨by omega, h1⟩ (by omega), setR_ne _ (by decide) ⟨by omega, h1⟩ (by omega)]
   show (R.g i).n = _
   rw [g i ⟨by omega, h1⟩ (by omega)]
  ·rw [if_neg (by decide)]; rw [he]; simp only [List.length_append, List.length_cons, List.length_nil, bnd, dcd, cal]; omega
theorem p18 (h : Pc hm code locs base l x s i0 d pcn pct) (c : x.Op = 18) (K : KK hm code locs base l Q x s pcn pct (pstep x (hv hm s x.A) (hv hm s x.B) s.ans (s.out.map sk))) : WP code locs base Q i0 s := by
 have hS := h.S; have he := h.e
 simp only [pc, pstep, c, Int.reduceEq, ↓reduceIte] at hS he K
 exact h.cx.calE (ys := []) (.inl ⟨rfl, rfl⟩) h.o.dc hS K
end

section
variable {hm : List api_Home} {code : List api_Inst} {locs base : Int} {l : List api_Loc} {Q : List api_Event × Int → Prop} {x : api_Ins} {s : M} {i0 d pcn pct pc0 v : Int} {ys : List api_Inst}
theorem fin_mv {s' : M} (L : Lay locs base) (hn : code.length ≤ 8000) (ll : (l.length : Int) = locs) (hD : HB hm x.D) (hd : (sh x.Op).d = true) (hO : Ok base l s') (hS : Seg code pc0 (mv hm x.D ++ (kp hm x.D ++ ys))) (hr : ∀ i, 14 ≤ i → i < 32 → (s'.regs.g i).n = (s.regs.g i).n) (hst : s'.stk = s.stk)
 (hv0 : -9223372036854775808 ≤ v ∧ v < 9223372036854775808) (hw : (s'.regs.g 11).n = v) (he : pc0 + (mv hm x.D).length + (kp hm x.D).length = pcn) (K : KK hm code locs base l Q x s pcn pct (.nxt false v s'.ans (s'.out.map sk))) : WP code locs base Q pc0 s' := by
 have hh := hD.h
 have uD := ur_or hD 11
 have rD := ur_R hD (show 0 ≤ (11 : Int) ∧ (11 : Int) < 32 by decide)
 by_cases c : 0 ≤ (gi hm x.D).Reg
 ·have e1 : mv hm x.D = [⟨1, ur hm x.D 11, 11, 0, 0⟩] := by unfold mv ur; rw [if_pos c, if_pos c]
  rw [e1] at hS he
  have C : Cx code locs base l Q (KK hm code locs base l Q x s pcn pct) := KK.cx L hn ll
  refine C.ins hS (i_addi rD (by decide)) fun hS => ?_
  refine fin_D (s := s) (pcn := pcn) (pct := pct) (v := v) (ys := ys) L hn ll hD hd (hO.setR rD (by omega)) hS (fun i h0 h1 hne => ?_) hst ?_ he K
  ·rw [setR_ne _ rD ⟨by omega, h1⟩ hne]; exact hr i h0 h1
  ·rw [setR_self _ rD]
   show wr .i64 ((s'.regs.g 11).n + 0) = v
   rw [hw, Int.add_zero, wr64 hv0]
 ·have e1 : mv hm x.D = [] := by unfold mv; rw [if_neg c]
  have e2 : ur hm x.D 11 = 11 := by unfold ur; rw [if_neg c]
  rw [e1] at hS he
  refine fin_D (s := s) (pcn := pcn) (pct := pct) (v := v) (ys := ys) L hn ll hD hd hO hS (fun i h0 h1 hne => hr i h0 h1) hst (by rw [e2]; exact hw) (by simpa using he) K
structure Hd (base : Int) (l : List api_Loc) (x : api_Ins) (s s' : M) : Prop where
 b1 : (s'.regs.g 1).n = base
 b2 : (s'.regs.g 2).n = 65536
 b12 : (s'.regs.g 12).n = 8 * x.Loc
 r : ∀ i, 14 ≤ i → i < 32 → (s'.regs.g i).n = (s.regs.g i).n
 st : s'.stk = s.stk
theorem hold_wp {P : PR → Prop} {R : Arr thread_cell 32} {f : List Sk → Int → List Int → List Sk → PR} (C : Cx code locs base l Q P) (hO : Ok base l { s with regs := R }) (g : ∀ i, 14 ≤ i → i < 32 → (R.g i).n = (s.regs.g i).n) (hL : 0 ≤ x.Loc ∧ x.Loc < locs) (hat : (gi l x.Loc).Atomic = true)
 (hS : Seg code pc0 (⟨1, 12, 0, 0, 8 * x.Loc⟩ :: ⟨20, 0, 0, 0, 0⟩ :: ⟨14, 11, 2, 12, 0⟩ :: ys)) (K : P (telS (s.out.map sk) (3, 0, 0, 0) fun o => redS s.ans o x.Loc fun n r o1 => f o n r o1))
 (k : ∀ (n : Int) (r : List Int) (s' : M) (o : List Sk), s.ans = n :: r → Hd base l x s s' → (∀ q, R32 q → q ≠ 11 → q ≠ 12 → s'.regs.g q = R.g q) → (s'.regs.g 11).n = n → s'.hold = x.Loc → s'.ev = (o.length : Int) → s'.ans = r → Dc l s'.ctrl s'.out s'.out.length → P (f o n r (s'.out.map sk)) → o.length ≤ 64 → Seg code (pc0 + 3) ys → WP code locs base Q (pc0 + 3) s') : WP code locs base Q pc0 { s with regs := R } := by
 have r12 : R32 12 := by decide
 have r11 : R32 11 := by decide
 have hl := C.L.l
 refine C.ins hS (i_addi r12 R0) fun hS => ?_
 have w12 : wr .i64 ((zr ({ s with regs := R } : M) 0).n + 8 * x.Loc) = 8 * x.Loc := by
  show wr .i64 (0 + 8 * x.Loc) = _
  rw [wr64 (by omega)]; omega
 rw [w12]
 have hO2 : Ok base l (({ s with regs := R } : M).setR 12 ⟨8 * x.Loc, (zr ({ s with regs := R } : M) 0).hang⟩) := hO.setR r12 (by decide)
 have c12 : ((({ s with regs := R } : M).setR 12 ⟨8 * x.Loc, (zr ({ s with regs := R } : M) 0).hang⟩).regs.g 12).n = 8 * x.Loc := by rw [setR_self _ r12]
 have gg : ∀ q, R32 q → q ≠ 12 → (({ s with regs := R } : M).setR 12 ⟨8 * x.Loc, (zr ({ s with regs := R } : M) 0).hang⟩).regs.g q = R.g q := fun q hq hne => setR_ne _ r12 hq hne _
 have q2 : (({ s with regs := R } : M).setR 12 ⟨8 * x.Loc, (zr ({ s with regs := R } : M) 0).hang⟩).stk = s.stk := rfl
 have q3 : (({ s with regs := R } : M).setR 12 ⟨8 * x.Loc, (zr ({ s with regs := R } : M) 0).hang⟩).ans = s.ans := rfl
 have q4 : (({ s with regs := R } : M).setR 12 ⟨8 * x.Loc, (zr ({ s with regs := R } : M) 0).hang⟩).out = s.out := rfl
 generalize ({ s with regs := R } : M).setR 12 ⟨8 * x.Loc, (zr ({ s with regs := R } : M) 0).hang⟩ = s2 at *
 rw [← q3, ← q4] at K
 refine C.tel hS hO2.dc (g := id) (i_sync hO2.dc.dl.len) K (by decide) (fun e => absurd e (by decide)) fun hS hdc K => ?_
 refine C.red (s := s2.tel 3 0 0 0 0 0) hS hdc (i_ldx C.L hdc.dl.len (.inr rfl) r11 hL hO2.b2 c12) K hL fun n r ha hS hdc2 K => ?_
 have e : pc0 + 1 + 1 + 1 = pc0 + 3 := by omega
 rw [e] at hS ⊢
 have hdc3 := hdc2.at_ hat
 refine k n r _ ((s2.tel 3 0 0 0 0 0).out.map sk) (q3.symm.trans ha) ⟨?_, ?_, ?_, fun i h0 h1 => ?_, q2⟩ (fun q hq h11 h12 => ?_) ?_ ?_ ?_ rfl hdc3 K (by rw [List.length_map]; exact hdc.dl.len) hS
 ·rw [rd_ne _ r11 (by decide) (by decide)]; exact hO2.b1
 ·rw [rd_ne _ r11 (by decide) (by decide)]; exact hO2.b2
 ·rw [rd_ne _ r11 (by decide) (by decide)]; exact c12
 ·rw [rd_ne _ r11 ⟨by omega, h1⟩ (by omega)]
  show (s2.regs.g i).n = _
  rw [gg i ⟨by omega, h1⟩ (by omega)]; exact g i h0 h1
 ·rw [rd_ne _ r11 hq h11]
  exact gg q hq h12
 ·rw [rd_self _ r11]
 ·exact (if_pos rfl : (if (14 : Int) = 14 then x.Loc else s2.hold) = x.Loc)
 ·rw [List.length_map]
  exact (if_pos rfl : (if (14 : Int) = 14 then ((s2.tel 3 0 0 0 0 0).out.length : Int) else s2.ev) = ((s2.tel 3 0 0 0 0 0).out.length : Int))
theorem pair_wp {P : PR → Prop} {s' : M} {o : List Sk} {t w m im : Int} {f : List Sk → PR} (C : Cx code locs base l Q P) (H : Hd base l x s s') (hL : 0 ≤ x.Loc ∧ x.Loc < locs) (ht : R32 t) (hw : (s'.regs.g t).n = w) (hh : s'.hold = x.Loc) (hev : s'.ev = (o.length : Int)) (ho : o.length ≤ 64) (hdc : Dc l s'.ctrl s'.out s'.out.length)
 (hm' : -4000000 ≤ m ∧ m ≤ 4000000) (hS : Seg code pc0 (⟨15, t, 2, 12, 0⟩ :: ⟨18, 3, 0, 0, im⟩ :: ⟨20, 0, 0, 0, 0⟩ :: ys)) (him : im = 4 * m) (K : P (telS (s'.out.map sk) (2, x.Loc, w, (o.length : Int) + 1) fun o => telS o (3, 0, 0, 0) f))
 (k : ∀ s2 : M, s2.regs = s'.regs → s2.stk = s'.stk → s2.ans = s'.ans → Dc l s2.ctrl s2.out s2.out.length → P (f (s2.out.map sk)) → Seg code (pc0 + 3) ys → WP code locs base Q (pc0 + 3) s2) : WP code locs base Q pc0 s' := by
 subst him
 have e := i_stdcx (code := code) (s := s') C.L hdc.dl.len ht hL hh H.b2 H.b12
 have e9 : wr .i64 (s'.ev + 1) = (o.length : Int) + 1 := by rw [hev]; exact wr64 (by omega)
 unfold M.cx at e
 rw [hw, e9] at e
 refine C.tel hS hdc (g := fun m => { m with less := false, same := true, held := 0, hold := -1 }) e K (by decide) (fun _ => hL) fun hS hdc K => ?_
 refine C.ins hS (s' := { (s'.tel 2 x.Loc w ((o.length : Int) + 1) (ad2 s') (s'.regs.g t).hang) with less := false, same := true, held := 0, hold := -1, ctrl := uni s'.ctrl 0 }) (i_bc hm') fun hS => ?_
 have hdc := hdc.or 0
 refine C.tel hS hdc (g := id) (i_sync hdc.dl.len) K (by decide) (fun e => absurd e (by decide)) fun hS hdc K => ?_
 have e : pc0 + 1 + 1 + 1 = pc0 + 3 := by omega
 rw [e] at hS ⊢
 exact k _ rfl rfl rfl hdc K hS
theorem p10 (h : Pc hm code locs base l x s i0 d pcn pct) (c : x.Op = 10) (K : KK hm code locs base l Q x s pcn pct (pstep x (hv hm s x.A) (hv hm s x.B) s.ans (s.out.map sk))) : WP code locs base Q i0 s := by
 have hS := h.S; have he := h.e
 simp only [pc, pstep, c, Int.reduceEq, ↓reduceIte] at hS he K
 have hd : (sh x.Op).d = true := by rw [c]; rfl
 have hD := h.hd hd
 have uD := ur_or hD 11
 have rD := ur_R hD (show 0 ≤ (11 : Int) ∧ (11 : Int) < 32 by decide)
 have hA := h.px.a (by rw [c]; rfl)
 have uA := ur_or hA 10
 have rA := ur_R hA (show 0 ≤ (10 : Int) ∧ (10 : Int) < 32 by decide)
 have hL := h.lc (by rw [c]; rfl) (by rw [c]; rfl)
 have hat : (gi l x.Loc).Atomic = true := by rw [h.at_ (by rw [c]; rfl) (by rw [c]; rfl), c]; rfl
 refine one_ul h.cx h.o hA (by decide) hS fun R f g hO hS => ?_
 refine hold_wp (s := s) (x := x) h.cx hO (fun i h0 h1 => by rw [g i ⟨by omega, h1⟩ (by omega)]) hL hat hS K fun n r s' o ha H g2 h11 hh hev ha' hdc K ho hS => ?_
 refine pair_wp (s := s) (x := x) (m := -2) h.cx H hL rA (by rw [g2 _ rA (by omega) (by omega)]; exact f) hh hev ho hdc (by decide) hS (by decide) K fun s2 e1 e2 e3 hdc K hS => ?_
 refine fin_mv (s := s) (pcn := pcn) (pct := pct) (v := n) (ys := []) h.L h.n h.ll hD hd ⟨by rw [e1]; exact H.b1, by rw [e1]; exact H.b2, hdc⟩ (by rw [List.append_nil]; exact hS) (fun i h0 h1 => by rw [e1]; exact H.r i h0 h1) (e2.trans H.st) (h.an n (by rw [ha]; exact List.mem_cons_self ..)) (by rw [e1]; exact h11) (by rw [he]; simp only [List.length_append, List.length_cons, List.length_nil, bnd, dcd, cal]; omega) ?_
 rw [e3]
 rw [show s'.ans = r from ha']
 exact K
theorem p11 (h : Pc hm code locs base l x s i0 d pcn pct) (c : x.Op = 11) (K : KK hm code locs base l Q x s pcn pct (pstep x (hv hm s x.A) (hv hm s x.B) s.ans (s.out.map sk))) : WP code locs base Q i0 s := by
 have hS := h.S; have he := h.e
 simp only [pc, pstep, c, Int.reduceEq, ↓reduceIte] at hS he K
 have hd : (sh x.Op).d = true := by rw [c]; rfl
 have hD := h.hd hd
 have uD := ur_or hD 11
 have rD := ur_R hD (show 0 ≤ (11 : Int) ∧ (11 : Int) < 32 by decide)
 have hA := h.px.a (by rw [c]; rfl)
 have uA := ur_or hA 10
 have rA := ur_R hA (show 0 ≤ (10 : Int) ∧ (10 : Int) < 32 by decide)
 have hL := h.lc (by rw [c]; rfl) (by rw [c]; rfl)
 have hat : (gi l x.Loc).Atomic = true := by rw [h.at_ (by rw [c]; rfl) (by rw [c]; rfl), c]; rfl
 refine one_ul h.cx h.o hA (by decide) hS fun R f g hO hS => ?_
 refine hold_wp (s := s) (x := x) h.cx hO (fun i h0 h1 => by rw [g i ⟨by omega, h1⟩ (by omega)]) hL hat hS K fun n r s' o ha H g2 h11 hh hev ha' hdc K ho hS => ?_
 refine h.cx.ins hS (i_add (show R32 9 by decide) (show R32 11 by decide) rA) fun hS => ?_
 have hw : ((s'.setR 9 ⟨wr .i64 ((s'.regs.g 11).n + (s'.regs.g (ur hm x.A 10)).n), uni (s'.regs.g 11).hang (s'.regs.g (ur hm x.A 10)).hang⟩).regs.g 9).n = wr .i64 (n + hv hm s x.A) := by
  rw [setR_self _ (by decide), h11, g2 _ rA (by omega) (by omega), f]
 have h11' : ((s'.setR 9 ⟨wr .i64 ((s'.regs.g 11).n + (s'.regs.g (ur hm x.A 10)).n), uni (s'.regs.g 11).hang (s'.regs.g (ur hm x.A 10)).hang⟩).regs.g 11).n = n := by
  rw [setR_ne _ (by decide) (by decide) (by decide)]; exact h11
 have H' : Hd base l x s (s'.setR 9 ⟨wr .i64 ((s'.regs.g 11).n + (s'.regs.g (ur hm x.A 10)).n), uni (s'.regs.g 11).hang (s'.regs.g (ur hm x.A 10)).hang⟩) :=
  ⟨by rw [setR_ne _ (by decide) (by decide) (by decide)]; exact H.b1, by rw [setR_ne _ (by decide) (by decide) (by decide)]; exact H.b2, by rw [setR_ne _ (by decide) (by decide) (by decide)]; exact H.b12, fun i h0 h1 => by rw [setR_ne _ (by decide) ⟨by omega, h1⟩ (by omega)]; exact H.r i h0 h1, H.st⟩
 refine pair_wp (s := s) (x := x) (m := -3) h.cx H' hL (show R32 9 by decide) hw hh hev ho hdc (by decide) hS (by decide) K fun s2 e1 e2 e3 hdc K hS => ?_
 have H := H'
 have h11 := h11'
 refine fin_mv (s := s) (pcn := pcn) (pct := pct) (v := n) (ys := []) h.L h.n h.ll hD hd ⟨by rw [e1]; exact H.b1, by rw [e1]; exact H.b2, hdc⟩ (by rw [List.append_nil]; exact hS) (fun i h0 h1 => by rw [e1]; exact H.r i h0 h1) (e2.trans H.st) (h.an n (by rw [ha]; exact List.mem_cons_self ..)) (by rw [e1]; exact h11) (by rw [he]; simp only [List.length_append, List.length_cons, List.length_nil, bnd, dcd, cal]; omega) ?_
 rw [e3]
 rw [show (M.setR _ _ _).ans = r from ha']
 exact K
theorem p12 (h : Pc hm code locs base l x s i0 d pcn pct) (c : x.Op = 12) (K : KK hm code locs base l Q x s pcn pct (pstep x (hv hm s x.A) (hv hm s x.B) s.ans (s.out.map sk))) : WP code locs base Q i0 s := by
 have hS := h.S; have he := h.e
 simp only [pc, pstep, c, Int.reduceEq, ↓reduceIte] at hS he K
 have hd : (sh x.Op).d = false := by rw [c]; rfl
 have hA := h.px.a (by rw [c]; rfl)
 have uA := ur_or hA 10
 have rA := ur_R hA (show 0 ≤ (10 : Int) ∧ (10 : Int) < 32 by decide)
 have hB := h.px.b (by rw [c]; rfl)
 have uB := ur_or hB 9
 have rB := ur_R hB (show 0 ≤ (9 : Int) ∧ (9 : Int) < 32 by decide)
 have hL := h.lc (by rw [c]; rfl) (by rw [c]; rfl)
 have hat : (gi l x.Loc).Atomic = true := by rw [h.at_ (by rw [c]; rfl) (by rw [c]; rfl), c]; rfl
 have hj := h.j (by unfold isJ; rw [c]; rfl)
 have hCn := h.n
 refine two_ul h.cx h.o hA hB (by decide) (by decide) (by decide) hS fun R fa fb g hO hS => ?_
 have hb := hS.2.1
 simp only [List.length_cons, List.length_nil] at hb
 refine hold_wp (s := s) (x := x) (f := fun o n r o1 => if n = hv hm s x.A then telS o1 (2, x.Loc, hv hm s x.B, (o.length : Int) + 1) fun o => telS o (3, 0, 0, 0) fun o => .nxt false 0 r o else telS o1 (3, 0, 0, 0) fun o => .nxt true 0 r o) h.cx hO (fun i h0 h1 => by rw [g i ⟨by omega, h1⟩ (by omega) (by omega)]) hL hat hS K fun n r s' o ha H g2 h11 hh hev ha' hdc K ho hS => ?_
 refine h.cx.ins hS (i_cmpd (show R32 11 by decide) rA) fun hS => ?_
 refine h.cx.bc (d := 5) hS (by decide) (by omega) ?_
 have hsa : (s'.regs.g (ur hm x.A 10)).n = hv hm s x.A := by rw [g2 _ rA (by omega) (by omega)]; exact fa
 simp only [cnd, Int.reduceEq, ↓reduceIte]
 rw [h11, hsa]
 have hS1 := hS.cons.2.2
 by_cases e : n = hv hm s x.A
 ·rw [if_pos e] at K
  rw [decide_eq_true e, if_neg (by decide)]
  have H1 : Hd base l x s ({ s' with less := decide (n < hv hm s x.A), same := true, held := uni (s'.regs.g 11).hang (s'.regs.g (ur hm x.A 10)).hang, ctrl := uni s'.ctrl (uni (s'.regs.g 11).hang (s'.regs.g (ur hm x.A 10)).hang) } : M) := ⟨H.b1, H.b2, H.b12, H.r, H.st⟩
  refine pair_wp (s := s) (x := x) (m := -4) h.cx H1 hL rB (by show (s'.regs.g _).n = _; rw [g2 _ rB (by omega) (by omega)]; exact fb) hh hev ho (hdc.or _) (by decide) hS1 (by decide) K fun s2 e1 e2 e3 hdc K hS => ?_
  obtain ⟨q1, q2, _⟩ := hS.cons
  refine WP.step q2 h.n (by rw [q1]; exact i_b (d := 3) (by decide)) (by omega) ?_
  refine fin_N (s := s) (pcn := pcn) (pct := pct) (v := 0) (j := false) hd ⟨by rw [e1]; exact H.b1, by rw [e1]; exact H.b2, hdc⟩ (fun i h0 h1 => by rw [e1]; exact H.r i h0 h1) (e2.trans H.st) ?_ (by rw [e3, show ({ s' with less := _, same := _, held := _, ctrl := _ } : M).ans = r from ha']; exact K)
  rw [if_neg (by decide)]; rw [he]; simp only [List.length_append, List.length_cons, List.length_nil]; omega
 ·rw [if_neg e] at K
  rw [decide_eq_false e, if_pos (by decide)]
  have hS2 := hS1.drop3.cons.2.2
  refine h.cx.tel (s := { s' with less := decide (n < hv hm s x.A), same := false, held := uni (s'.regs.g 11).hang (s'.regs.g (ur hm x.A 10)).hang, ctrl := uni s'.ctrl (uni (s'.regs.g 11).hang (s'.regs.g (ur hm x.A 10)).hang) }) (ys := [⟨19, 0, 0, 0, 4 * d⟩]) ?_ (hdc.or _) (g := id) (i_sync hdc.dl.len) K (by decide) (fun e => absurd e (by decide)) fun hS hdc K => ?_
  ·have e9 : i0 + ((ul hm x.A 10).length : Int) + ((ul hm x.B 9).length : Int) + 3 + 1 + 1 + 3 + 1 = i0 + ((ul hm x.A 10).length : Int) + ((ul hm x.B 9).length : Int) + 3 + 1 + 5 := by omega
   rw [e9] at hS2
   exact hS2
  ·obtain ⟨q1, q2, _⟩ := hS.cons
   have hpct : i0 + ((ul hm x.A 10).length : Int) + ((ul hm x.B 9).length : Int) + 3 + 1 + 5 + 1 + d = pct := by
    rw [hj.2.2.1, he]; simp only [List.length_append, List.length_cons, List.length_nil]; omega
   refine WP.step q2 h.n (by rw [q1]; exact i_b (d := d) (by omega)) (by omega) ?_
   refine fin_N (s := s) (pcn := pcn) (pct := pct) (v := 0) (j := true) hd ⟨H.b1, H.b2, hdc⟩ H.r H.st ?_ (by rw [← ha'] at K; exact K)
   rw [if_pos rfl]; exact hpct
theorem p14 (h : Pc hm code locs base l x s i0 d pcn pct) (c : x.Op = 14) (K : KK hm code locs base l Q x s pcn pct (pstep x (hv hm s x.A) (hv hm s x.B) s.ans (s.out.map sk))) : WP code locs base Q i0 s := by
 have hS := h.S; have he := h.e
 simp only [pc, pstep, c, Int.reduceEq, ↓reduceIte] at hS he K
 have hd : (sh x.Op).d = false := by rw [c]; rfl
 have hA := h.px.a (by rw [c]; rfl)
 have uA := ur_or hA 11
 have rA := ur_R hA (show 0 ≤ (11 : Int) ∧ (11 : Int) < 32 by decide)
 have hB := h.px.b (by rw [c]; rfl)
 have uB := ur_or hB 10
 have rB := ur_R hB (show 0 ≤ (10 : Int) ∧ (10 : Int) < 32 by decide)
 refine one_ul h.cx h.o hA (by decide) hS fun R f g hO hS => ?_
 refine h.cx.bnd rA h.px.len hO.dc hS (fun hn => ?_) fun ha s1 f12 g1 e2 e3 e4 hdc hS => ?_
 ·rw [if_neg (by rw [← f]; exact hn)] at K; exact K
 have ha' : 0 ≤ hv hm s x.A ∧ hv hm s x.A < x.Len := by rw [← f]; exact ha
 have hL := h.rl (by rw [c]; rfl) (by rw [c]; rfl) ha'
 rw [if_pos ha'] at K
 have f12 : (s1.regs.g 12).n = 8 * hv hm s x.A := f12.trans (by rw [show (M.regs _).g (ur hm x.A 11) = R.g (ur hm x.A 11) from rfl, f])
 have hLoc := h.px.loc
 have hLen := h.px.len
 refine h.cx.ins hS (i_addi (by decide) (by decide)) fun hS => ?_
 have w12 : wr .i64 ((zr s1 12).n + 8 * x.Loc) = 8 * (x.Loc + hv hm s x.A) := by
  rw [show zr s1 12 = s1.regs.g 12 from rfl, f12, wr64 (by omega)]; omega
 rw [w12] at *
 have r12 : R32 12 := by decide
 have b2 : ((s1.setR 12 ⟨8 * (x.Loc + hv hm s x.A), (zr s1 12).hang⟩).regs.g 2).n = 65536 := by
  rw [setR_ne _ r12 (by decide) (by decide), g1 2 (by decide) (by decide)]; exact hO.b2
 have b1' : ((s1.setR 12 ⟨8 * (x.Loc + hv hm s x.A), (zr s1 12).hang⟩).regs.g 1).n = base := by
  rw [setR_ne _ r12 (by decide) (by decide), g1 1 (by decide) (by decide)]; exact hO.b1
 have c12 : ((s1.setR 12 ⟨8 * (x.Loc + hv hm s x.A), (zr s1 12).hang⟩).regs.g 12).n = 8 * (x.Loc + hv hm s x.A) := by rw [setR_self _ r12]
 have gg : ∀ i, 14 ≤ i → i < 32 → ((s1.setR 12 ⟨8 * (x.Loc + hv hm s x.A), (zr s1 12).hang⟩).regs.g i).n = (s.regs.g i).n := fun i h0 h1 => by
  rw [setR_ne _ r12 ⟨by omega, h1⟩ (by omega), g1 i ⟨by omega, h1⟩ (by omega)]
  show (R.g i).n = _
  rw [g i ⟨by omega, h1⟩ (by omega)]
 have q2 : (s1.setR 12 ⟨8 * (x.Loc + hv hm s x.A), (zr s1 12).hang⟩).stk = s.stk := e2
 have q3 : (s1.setR 12 ⟨8 * (x.Loc + hv hm s x.A), (zr s1 12).hang⟩).ans = s.ans := e3
 have q4 : (s1.setR 12 ⟨8 * (x.Loc + hv hm s x.A), (zr s1 12).hang⟩).out = s.out := e4
 have q5 : Dc l (s1.setR 12 ⟨8 * (x.Loc + hv hm s x.A), (zr s1 12).hang⟩).ctrl (s1.setR 12 ⟨8 * (x.Loc + hv hm s x.A), (zr s1 12).hang⟩).out (s1.setR 12 ⟨8 * (x.Loc + hv hm s x.A), (zr s1 12).hang⟩).out.length := hdc
 generalize s1.setR 12 ⟨8 * (x.Loc + hv hm s x.A), (zr s1 12).hang⟩ = s2 at *
 rw [← q3, ← q4] at K
 refine h.cx.ul hB (by decide) b1' hS fun R2 f2 g3 hS => ?_
 have hvB : hv hm s2 x.B = hv hm s x.B := by
  unfold hv
  have hh := hB.h
  split
  ·rw [gg _ (by omega) (by omega)]
  ·rw [q2]
 have e := i_stdx (code := code) (s := { s2 with regs := R2 }) (k := x.Loc + hv hm s x.A) h.L q5.dl.len rB hL (by show (R2.g 2).n = 65536; rw [g3 2 (by decide) (by decide)]; exact b2) (by show (R2.g 12).n = _; rw [g3 12 (by decide) (by decide)]; exact c12)
 rw [show (M.regs _).g (ur hm x.B 10) = R2.g (ur hm x.B 10) from rfl, f2, hvB] at e
 refine h.cx.tel (s := { s2 with regs := R2 }) hS q5 (g := id) e K (by decide) (fun _ => hL) fun hS hdc K => ?_
 refine fin_N (s := s) (pcn := pcn) (pct := pct) (v := 0) (j := false) hd ⟨?_, ?_, hdc⟩ (fun i h0 h1 => ?_) q2 ?_ K
 ·show (R2.g 1).n = base
  rw [g3 1 (by decide) (by decide)]; exact b1'
 ·show (R2.g 2).n = 65536
  rw [g3 2 (by decide) (by decide)]; exact b2
 ·show (R2.g i).n = _
  rw [g3 i ⟨by omega, h1⟩ (by omega)]; exact gg i h0 h1
 ·rw [if_neg (by decide)]; rw [he]; simp only [List.length_append, List.length_cons, List.length_nil, bnd, dcd, cal]; omega
theorem p16 (h : Pc hm code locs base l x s i0 d pcn pct) (c : x.Op = 16) (K : KK hm code locs base l Q x s pcn pct (pstep x (hv hm s x.A) (hv hm s x.B) s.ans (s.out.map sk))) : WP code locs base Q i0 s := by
 have hS := h.S; have he := h.e
 simp only [pc, pstep, c, Int.reduceEq, ↓reduceIte] at hS he K
 have hd : (sh x.Op).d = false := by rw [c]; rfl
 have hA := h.px.a (by rw [c]; rfl)
 have uA := ur_or hA 11
 have rA := ur_R hA (show 0 ≤ (11 : Int) ∧ (11 : Int) < 32 by decide)
 have hB := h.px.b (by rw [c]; rfl)
 have uB := ur_or hB 10
 have rB := ur_R hB (show 0 ≤ (10 : Int) ∧ (10 : Int) < 32 by decide)
 have hj := h.j (by unfold isJ; rw [c]; rfl)
 refine two_ul h.cx h.o hA hB (by decide) (by decide) (by decide) hS fun R fa fb g hO hS => ?_
 refine h.cx.ins hS (i_cmpd rA rB) fun hS => ?_
 have he' : pcn = i0 + ((ul hm x.A 11).length : Int) + ((ul hm x.B 10).length : Int) + 1 + 1 := by rw [he]; simp only [List.length_append, List.length_cons, List.length_nil]; omega
 refine h.cx.bc (d := d) hS ⟨by omega, by omega⟩ (by omega) ?_
 simp only [cnd, Int.reduceEq, ↓reduceIte]
 rw [fa, fb]
 refine fin_N (s := s) (pcn := pcn) (pct := pct) (v := 0) (j := !decide (hv hm s x.A < hv hm s x.B)) hd ⟨hO.b1, hO.b2, hO.dc.or _⟩ (fun i h0 h1 => ?_) rfl ?_ K
 ·show (R.g i).n = _
  rw [g i ⟨by omega, h1⟩ (by omega) (by omega)]
 ·split <;> omega
theorem p17 (h : Pc hm code locs base l x s i0 d pcn pct) (c : x.Op = 17) (K : KK hm code locs base l Q x s pcn pct (pstep x (hv hm s x.A) (hv hm s x.B) s.ans (s.out.map sk))) : WP code locs base Q i0 s := by
 have hS := h.S; have he := h.e
 simp only [pc, pstep, c, Int.reduceEq, ↓reduceIte] at hS he K
 have hd : (sh x.Op).d = false := by rw [c]; rfl
 have hA := h.px.a (by rw [c]; rfl)
 have uA := ur_or hA 11
 have rA := ur_R hA (show 0 ≤ (11 : Int) ∧ (11 : Int) < 32 by decide)
 have hB := h.px.b (by rw [c]; rfl)
 have uB := ur_or hB 10
 have rB := ur_R hB (show 0 ≤ (10 : Int) ∧ (10 : Int) < 32 by decide)
 have hj := h.j (by unfold isJ; rw [c]; rfl)
 refine two_ul h.cx h.o hA hB (by decide) (by decide) (by decide) hS fun R fa fb g hO hS => ?_
 refine h.cx.ins hS (i_cmpd rA rB) fun hS => ?_
 have he' : pcn = i0 + ((ul hm x.A 11).length : Int) + ((ul hm x.B 10).length : Int) + 1 + 1 := by rw [he]; simp only [List.length_append, List.length_cons, List.length_nil]; omega
 refine h.cx.bc (d := d) hS ⟨by omega, by omega⟩ (by omega) ?_
 simp only [cnd, Int.reduceEq, ↓reduceIte]
 rw [fa, fb]
 refine fin_N (s := s) (pcn := pcn) (pct := pct) (v := 0) (j := !decide (hv hm s x.A = hv hm s x.B)) hd ⟨hO.b1, hO.b2, hO.dc.or _⟩ (fun i h0 h1 => ?_) rfl ?_ K
 ·show (R.g i).n = _
  rw [g i ⟨by omega, h1⟩ (by omega) (by omega)]
 ·split <;> omega
end

section
variable {hm : List api_Home} {code : List api_Inst} {locs base : Int} {l : List api_Loc} {Q : List api_Event × Int → Prop} {x : api_Ins} {s : M} {i0 d pcn pct : Int}
theorem piece_wp (h : Pc hm code locs base l x s i0 d pcn pct) (K : KK hm code locs base l Q x s pcn pct (pstep x (hv hm s x.A) (hv hm s x.B) s.ans (s.out.map sk))) : WP code locs base Q i0 s := by
 rcases isOp_c h.px.op with c | c | c | c | c | c | c | c | c | c | c | c | c | c | c | c | c | c
 ·exact p1 h c K
 ·exact p2 h c K
 ·exact p3 h c K
 ·exact p4 h c K
 ·exact p5 h c K
 ·exact p6 h c K
 ·exact p7 h c K
 ·exact p8 h c K
 ·exact p9 h c K
 ·exact p10 h c K
 ·exact p11 h c K
 ·exact p12 h c K
 ·exact p13 h c K
 ·exact p14 h c K
 ·exact p15 h c K
 ·exact p16 h c K
 ·exact p17 h c K
 ·exact p18 h c K
end
def POk (x : api_Ins) (ans : List Int) : PR → Prop
 | .fin st o => 1 ≤ st ∧ st ≤ 5
 | .nxt j v ans' o => (j = true → isJ x = true) ∧ x.Op ≠ 18 ∧ ∀ n ∈ ans', n ∈ ans
theorem ok_fin {x : api_Ins} {ans : List Int} {st : Int} {o : List Sk} (h : 1 ≤ st ∧ st ≤ 5) : POk x ans (.fin st o) := h
theorem ok_nxt {x : api_Ins} {ans a' : List Int} {j : Bool} {v : Int} {o : List Sk} (h : j = true → isJ x = true) (k : x.Op ≠ 18) (m : ∀ n ∈ a', n ∈ ans) : POk x ans (.nxt j v a' o) := ⟨h, k, m⟩
theorem tel_ok {x : api_Ins} {ans : List Int} {o : List Sk} {e : Sk} {f : List Sk → PR} (h : ∀ o, POk x ans (f o)) : POk x ans (telS o e f) := by
 unfold telS; split
 ·exact ⟨by decide, by decide⟩
 ·exact h _
theorem red_ok {x : api_Ins} {ans : List Int} {o : List Sk} {p : Int} {f : Int → List Int → List Sk → PR} (h : ∀ n r o, (∀ m ∈ r, m ∈ ans) → POk x ans (f n r o)) : POk x ans (redS ans o p f) := by
 unfold redS; split
 ·exact ⟨by decide, by decide⟩
 ·exact tel_ok fun o => h _ _ _ fun m hm => List.mem_cons_of_mem _ hm
theorem isJ_of {x : api_Ins} (c : x.Op = 12 ∨ x.Op = 16 ∨ x.Op = 17) : isJ x = true := by
 unfold isJ
 rcases c with c | c | c <;> rw [c] <;> rfl
theorem pstep_ok {x : api_Ins} (hx : isOp x.Op = true) (a b : Int) (ans : List Int) (o : List Sk) : POk x ans (pstep x a b ans o) := by
 rcases isOp_c hx with c | c | c | c | c | c | c | c | c | c | c | c | c | c | c | c | c | c
 all_goals
  simp only [pstep, c, Int.reduceEq, ↓reduceIte]
  have h18 : x.Op ≠ 18 ∨ x.Op = 18 := by omega
  repeat' with_reducible first
   | refine tel_ok fun o => ?_
   | refine red_ok fun n r o hr => ?_
   | exact ok_fin (by decide)
   | exact ok_nxt (fun h => absurd h (by decide)) (by omega) (fun n hn => hn)
   | exact ok_nxt (fun h => absurd h (by decide)) (by omega) (by assumption)
   | exact ok_nxt (fun _ => isJ_of (by omega)) (by omega) (fun n hn => hn)
   | exact ok_nxt (fun _ => isJ_of (by omega)) (by omega) (by assumption)
   | split
section
variable {hm : List api_Home} {code : List api_Ins} {l : List api_Loc}
theorem seg_at (ho : ∀ i : Nat, i < code.length → isOp (gi code i).Op = true) : ∀ (n : Nat), n ≤ code.length → ∀ i : Nat, i < n → Seg (finN hm code n) (atN hm code i) (pc hm (gi code i) (dsp hm code i))
 | n + 1, hn, i, hi => by
  have hl := finN_len (hm := hm) ho n (by omega)
  have hl2 := finN_len (hm := hm) ho (n + 1) hn
  have hp := pc_len (hm := hm) (ho n (by omega)) (dsp hm code n)
  rw [finN]
  by_cases c : i < n
  ·obtain ⟨h0, h1, h2⟩ := seg_at ho n (by omega) i c
   refine ⟨h0, by rw [List.length_append]; omega, fun k hk => ?_⟩
   rw [gi_apl (by omega) (by omega)]; exact h2 k hk
  ·have : i = n := by omega
   subst this
   refine ⟨by omega, by rw [List.length_append, hl]; omega, fun k hk => ?_⟩
   rw [gi_apr (by omega), hl, show (atN hm code i : Int) + (k : Int) - (atN hm code i : Int) = (k : Int) by omega]
def dst (hm : List api_Home) (code : List api_Ins) (i : Nat) : Int := (atN hm code (gi code i).To.toNat : Int) - ((atN hm code i : Int) + (pc hm (gi code i) 0).length - 1)
theorem pl_loc {x : api_Ins} {i n : Int} (h : PP x i n l) : (sh x.Op).place = true → 0 ≤ x.Loc ∧ x.Loc + wid (sh x.Op) x ≤ l.length ∧ ∀ k, x.Loc ≤ k → k < x.Loc + wid (sh x.Op) x → (gi l k).Atomic = (sh x.Op).atomic := fun c => by
 have := h.pl.1 c
 exact ⟨this.2.2.1, this.2.2.2.1, this.2.2.2.2⟩
theorem run_wp {locs base : Int} {Q : List api_Event × Int → Prop} (J : Nat → M → Prop) (L : Lay locs base) (ll : (l.length : Int) = locs) (hR : RP code l) (hp : ∀ i : Nat, i < code.length → PB hm (gi code i))
 (hstep : ∀ (i : Nat) (s : M), i < code.length → J i s → Ok base l s → match pstep (gi code i) (hv hm s (gi code i).A) (hv hm s (gi code i).B) s.ans (s.out.map sk) with
  | .fin st o => ∀ out, out.map sk = o → DL l out → Q (out, st)
  | .nxt j v ans o => ∀ s' : M, Ok base l s' → Nx (dq hm (gi code i)) (dk hm (gi code i)) s s' → ((sh (gi code i).Op).d = true → hv hm s' (gi code i).D = v) → s'.ans = ans → s'.out.map sk = o → J (if j = true then (gi code i).To.toNat else i + 1) s') :
 ∀ (m i : Nat), code.length ≤ i + m → i < code.length → ∀ s : M, J i s → Ok base l s → (∀ n ∈ s.ans, -9223372036854775808 ≤ n ∧ n < 9223372036854775808) → WP (finN hm code code.length) locs base Q (atN hm code i) s
 | 0, i, hm', hi, s, hJ, hO, ha => by omega
 | m + 1, i, hm', hi, s, hJ, hO, ha => by
  have ho : ∀ i : Nat, i < code.length → isOp (gi code i).Op = true := fun i hi => (hp i hi).op
  have hn := hR.n.2
  have hlen := finN_len (hm := hm) ho code.length (Nat.le_refl _)
  have hle := atN_le (hm := hm) ho code.length (Nat.le_refl _)
  have hPP := (hR.p i hi).1
  have hsuc := atN_succ (hm := hm) (code := code) i
  have h20 := pc_20 (hm := hm) (ho i hi)
  have hto : isJ (gi code i) = true → i + 1 < (gi code i).To.toNat ∧ (gi code i).To.toNat < code.length := fun h => by have := hPP.to1 h; omega
  have hP : Pc hm (finN hm code code.length) locs base l (gi code i) s (atN hm code i) (dst hm code i) (atN hm code (i + 1)) (atN hm code (gi code i).To.toNat) := by
   refine ⟨L, by rw [hlen]; omega, ll, hp i hi, hO, pl_loc hPP, ?_, by omega, ha, fun h => ?_⟩
   ·exact seg_at ho code.length (Nat.le_refl _) i hi
   ·have ⟨t1, t2⟩ := hto h
    have h3 := atN_mono (hm := hm) (code := code) (i + 1) (k := (gi code i).To.toNat) (by omega)
    have h4 := atN_mono (hm := hm) (code := code) (gi code i).To.toNat (k := code.length) (by omega)
    unfold dst
    omega
  refine piece_wp hP ?_
  have hs := hstep i s hi hJ hO
  have hok := pstep_ok (ho i hi) (hv hm s (gi code i).A) (hv hm s (gi code i).B) s.ans (s.out.map sk)
  generalize pstep (gi code i) (hv hm s (gi code i).A) (hv hm s (gi code i).B) s.ans (s.out.map sk) = z at hs hok
  cases z with
  | fin st o => exact hs
  | nxt j v ans o =>
   intro s' hO' hN hv' ha' ho'
   have hJ' := hs s' hO' hN hv' ha' ho'
   obtain ⟨k1, k2, k3⟩ := hok
   have ha2 : ∀ n ∈ s'.ans, -9223372036854775808 ≤ n ∧ n < 9223372036854775808 := fun n hn => ha n (k3 n (by rw [← ha']; exact hn))
   cases j with
   | true =>
    have ⟨t1, t2⟩ := hto (k1 rfl)
    exact run_wp J L ll hR hp hstep m _ (by omega) t2 s' hJ' hO' ha2
   | false =>
    have h1 : i + 1 < code.length := by
     by_cases c : i + 1 < code.length
     ·exact c
     ·have hz := hR.z
      rw [show ((code.length : Int) - 1) = (i : Int) by omega] at hz
      exact absurd hz k2
    exact run_wp J L ll hR hp hstep m (i + 1) (by omega) h1 s' hJ' hO' ha2
end
end Go.Proofs.Ytbhekpcimmaijaa.W
namespace Go.Proofs.Ytbhekpcimmaijaa.W
open Go Go.RowKit Go.Proofs.Ytbhekpcimmaijaa Go.Proofs.Ytbhekpcimmaijaa.X
open Go.Proofs.Ytbhekpcimmaijaa.B (wr aget aset loop loop_in loop_out loop_tot wrap16 bt W64 b1 bt_b1 b1_W bt_or W_zero)

theorem do_l1 {out : List api_Inst} (h : AllE out) (hl : out.length ≤ 10000) : loop (thread_Do_2.l1 out) (0 : Int) = some (.inr ()) := by
 refine loop_st (f := thread_Do_2.l1 out) out.length (fun i => (i : Int)) (.inr ()) (fun i hi => ?_) (by unfold thread_Do_2.l1; rw [if_neg (by omega)])
 unfold thread_Do_2.l1
 rw [if_pos (by omega), if_pos (by omega)]
 obtain ⟨w, hw, hw2⟩ := enc_ok (h (gi out (i : Int)) (gi_mem (by omega) (by omega)))
 simp only [letC]
 rw [hw, Option.bind_some, if_pos hw2, wr64 (by omega)]
 rfl
variable {code : List api_Ins} {l : List api_Loc} {regs dom : Int} {ans : List Int} {Q : List api_Event × Int → Prop}
theorem do_R (J : Nat → M → Prop) (hR : RP code l) (hp : ∀ i : Nat, i < code.length → PB (hmo code regs) (gi code i)) (hdom : 0 ≤ dom ∧ dom < 3) (hl : l.length ≤ 16) (ha : ∀ n ∈ ans, -9223372036854775808 ≤ n ∧ n < 9223372036854775808)
 (hJ : ∀ s : M, s.ans = ans → s.out = [] → J 0 s)
 (hstep : ∀ (i : Nat) (s : M), i < code.length → J i s → Ok (1048576 + dom * 65536) l s → match pstep (gi code i) (hv (hmo code regs) s (gi code i).A) (hv (hmo code regs) s (gi code i).B) s.ans (s.out.map sk) with
  | .fin st o => ∀ out, out.map sk = o → DL l out → Q (out, st)
  | .nxt j v ans o => ∀ s' : M, Ok (1048576 + dom * 65536) l s' → Nx (dq (hmo code regs) (gi code i)) (dk (hmo code regs) (gi code i)) s s' → ((sh (gi code i).Op).d = true → hv (hmo code regs) s' (gi code i).D = v) → s'.ans = ans → s'.out.map sk = o → J (if j = true then (gi code i).To.toNat else i + 1) s') :
 ∃ r, thread_Do_2.m (emo code regs) (l.length : Int) dom ans = some (.inr r) ∧ Q r := by
 have ho : ∀ i : Nat, i < code.length → isOp (gi code i).Op = true := fun i hi => (hp i hi).op
 have hn := hR.n
 have hlen := finN_len (hm := hmo code regs) ho code.length (Nat.le_refl _)
 have hle := atN_le (hm := hmo code regs) ho code.length (Nat.le_refl _)
 have hal : AllE (emo code regs) := finN_all hn.2 hp (fun i hi hj => by have := (hR.p i hi).1.to1 hj; omega) _ (Nat.le_refl _)
 have hel : (emo code regs).length = atN (hmo code regs) code code.length := hlen
 unfold thread_Do_2.m
 rw [if_neg (show ¬ (l.length : Int) < 0 by omega), if_neg (show ¬ (l.length : Int) > 16 by omega), if_neg (show ¬ dom < 0 by omega), decide_eq_false (show ¬ dom ≥ 3 by omega), Option.bind_some, if_neg (by decide), do_l1 hal (by omega), Option.bind_some]
 have e1 : wr .i64 (dom * 2 ^ (min (16 : Int).toNat 64)) = dom * 65536 := by
  rw [show (2 : Int) ^ (min (16 : Int).toNat 64) = 65536 from rfl]; exact wr64 (by omega)
 have e2 : wr .i64 (1048576 + dom * 65536) = 1048576 + dom * 65536 := wr64 (by clear e1; omega)
 simp only [letC, e1, e2]
 clear e1 e2
 let s0 : M := ⟨ans, ((Arr.r 32 ((thread_cell.mk 0 0) : thread_cell) : Arr thread_cell 32).s 1 (thread_cell.mk (1048576 + dom * 65536) ((Arr.r 32 ((thread_cell.mk 0 0) : thread_cell) : Arr thread_cell 32).g 1).hang)).s 2 (thread_cell.mk 65536 (((Arr.r 32 ((thread_cell.mk 0 0) : thread_cell) : Arr thread_cell 32).s 1 (thread_cell.mk (1048576 + dom * 65536) ((Arr.r 32 ((thread_cell.mk 0 0) : thread_cell) : Arr thread_cell 32).g 1).hang)).g 2).hang), Arr.r 400 (thread_cell.mk 0 0), false, false, 0, 0, 0, -1, 0, []⟩
 have hO : Ok (1048576 + dom * 65536) l s0 := by
  refine ⟨?_, ?_, ⟨⟨by show (0 : Nat) ≤ 64; omega, fun j k _ hk => absurd hk (Nat.not_lt_zero k), fun j hj => absurd hj (Nat.not_lt_zero j), fun j hj => absurd hj (Nat.not_lt_zero j)⟩, W_zero, fun j hj => absurd hj (Nat.not_lt_zero j)⟩⟩
  ·dsimp only [s0]
   rw [arr_ne _ (by decide) (by decide) (by decide), arr_self _ (by decide)]
  ·dsimp only [s0]
   rw [arr_self _ (by decide)]
 have hw := run_wp (hm := hmo code regs) J (locs := (l.length : Int)) (base := 1048576 + dom * 65536) (Q := Q) ⟨by omega, by omega⟩ rfl hR hp hstep code.length 0 (by omega) (by omega) s0 (hJ s0 rfl rfl) hO ha
 obtain ⟨r, ⟨o, ho1, ho2⟩, hq⟩ := hw 0 (by omega) (by show (0 : Int) ≤ ((0 : Nat) : Int); omega)
 have hs : s0.tup (atN (hmo code regs) code 0 : Int) 0 = (ans, s0.regs, s0.stk, false, false, 0, 0, 0, -1, 0, [], 0, 0) := rfl
 rw [hs] at ho1
 refine ⟨r, ?_, hq⟩
 rw [show finN (hmo code regs) code code.length = emo code regs from rfl] at ho1
 rw [show loop (thread_Do_2.l2 (emo code regs) (l.length : Int) (1048576 + dom * 65536)) _ = some o from ho1, Option.bind_some]
 subst ho2
 cases o <;> rfl
end Go.Proofs.Ytbhekpcimmaijaa.W
namespace Go.Proofs.Ytbhekpcimmaijaa.W
open Go Go.RowKit Go.Proofs.Ytbhekpcimmaijaa Go.Proofs.Ytbhekpcimmaijaa.X
open Go.Proofs.Ytbhekpcimmaijaa.B (wr aget aset loop loop_in loop_out loop_tot wrap16)

end Go.Proofs.Ytbhekpcimmaijaa.W
namespace Go.Proofs.Ytbhekpcimmaijaa.W
open Go Go.RowKit Go.Proofs.Ytbhekpcimmaijaa Go.Proofs.Ytbhekpcimmaijaa.X
open Go.Proofs.Ytbhekpcimmaijaa.B (wr aget aset loop loop_in loop_out loop_tot wrap16 aget_nil aget_aset)

def pr (l : List api_Event) (i : Int) : Bool := decide ((gi l i).Kind = 2) && decide ((gi l i).Pair ≥ 1) && decide ((gi l i).Pair ≤ i) && decide ((gi l ((gi l i).Pair - 1)).Kind = 1)
theorem pr_iff {l : List api_Event} {i : Int} : pr l i = true ↔ (gi l i).Kind = 2 ∧ 1 ≤ (gi l i).Pair ∧ (gi l i).Pair ≤ i ∧ (gi l ((gi l i).Pair - 1)).Kind = 1 := by
 simp [pr, and_assoc]
section
variable {l : List api_Event} {locs : List api_Loc}
theorem pair_eq (hl : l.length ≤ 100) {i : Int} (h0 : 0 ≤ i) (h1 : i < l.length) : thread_Acts_1.m i l = some (pr l i) := by
 unfold thread_Acts_1.m
 rw [if_pos ⟨h0, h1⟩]
 simp only [letC]
 by_cases c1 : (gi l i).Kind = 2
 ·rw [if_pos c1]
  by_cases c2 : (gi l i).Pair ≥ 1
  ·rw [if_pos c2]
   by_cases c3 : (gi l i).Pair ≤ i
   ·have hw : wr .i64 ((gi l i).Pair - 1) = (gi l i).Pair - 1 := wr64 (by omega)
    rw [if_pos c3, hw, if_pos (by clear hw; omega)]
    simp [pr, c1, c2, c3]
   ·rw [if_neg c3]; simp [pr, c3]
  ·rw [if_neg c2]; simp [pr, c2]
 ·rw [if_neg c1]; simp [pr, c1]
def hits (l : List api_Event) (k : Int) (i : Nat) : Nat := ((List.range i).filter fun j : Nat => pr l (j : Int) && decide ((gi l (j : Int)).Pair - 1 = k)).length
theorem hits_succ (l : List api_Event) (k : Int) (i : Nat) : hits l k (i + 1) = hits l k i + if pr l (i : Int) = true ∧ (gi l (i : Int)).Pair - 1 = k then 1 else 0 := by
 unfold hits
 rw [List.range_succ, List.filter_append, List.length_append]
 by_cases h : pr l (i : Int) = true ∧ (gi l (i : Int)).Pair - 1 = k
 ·rw [if_pos h]; simp [h]
 ·rw [if_neg h]
  have : (pr l (i : Int) && decide ((gi l (i : Int)).Pair - 1 = k)) = false := by rw [Bool.eq_false_iff]; simpa using h
  simp [this]
theorem hits_le (l : List api_Event) (k : Int) (i : Nat) : hits l k i ≤ i := by
 have := List.length_filter_le (fun j : Nat => pr l (j : Int) && decide ((gi l (j : Int)).Pair - 1 = k)) (List.range i)
 rwa [List.length_range] at this
theorem turned_eq (hl : l.length ≤ 100) : Tot (fun m : List (Int × Int) => ∀ k : Int, (aget m k).getD 0 = (hits l k l.length : Int)) (loop (thread_Acts.l1 l) ((([] : List (Int × Int)), 0) : (List (Int × Int)) × Int)) := by
 refine loop_T l.length (fun i s => s.2 = (i : Int) ∧ ∀ k : Int, (aget s.1 k).getD 0 = (hits l k i : Int)) (fun i s hi hs => ?_) (fun s hs => ?_) ⟨rfl, fun k => by simp [aget_nil, hits]⟩
 ·obtain ⟨m, j⟩ := s
  obtain ⟨rfl, h2⟩ := hs
  unfold thread_Acts.l1
  dsimp only at h2 ⊢
  have hw : wr .i64 ((i : Int) + 1) = ((i + 1 : Nat) : Int) := wr64 (by omega)
  refine .tt (by clear hw; omega) (.gd (by clear hw; omega) ?_)
  simp only [letC]
  refine .bindE (pair_eq hl (by clear hw; omega) (by clear hw; omega)) (.ite (fun hp => ?_) fun hp => ?_)
  ·obtain ⟨_, p1, p2, _⟩ := pr_iff.1 hp
   have hwp : wr .i64 ((gi l (i : Int)).Pair - 1) = (gi l (i : Int)).Pair - 1 := wr64 (by clear hw; omega)
   have h3 := h2 ((gi l (i : Int)).Pair - 1)
   have hle := hits_le l ((gi l (i : Int)).Pair - 1) i
   rw [hwp, hw]
   have key : ∀ v : Int, v = hits l ((gi l (i : Int)).Pair - 1) i + 1 → ∀ k : Int, (aget (aset m ((gi l (i : Int)).Pair - 1) v) k).getD 0 = hits l k (i + 1) := fun v hv k => by
    rw [hits_succ, aget_aset]
    by_cases hk : k = (gi l (i : Int)).Pair - 1
    ·rw [if_pos hk, if_pos ⟨hp, hk.symm⟩, Option.getD_some, hv, hk]; rfl
    ·rw [if_neg hk, if_neg (fun h => hk h.2.symm), h2]; rfl
   cases ha : aget m ((gi l (i : Int)).Pair - 1) with
   | none =>
    rw [ha] at h3
    exact .some ⟨rfl, key 1 (by rw [← h3]; rfl)⟩
   | some v =>
    rw [ha] at h3
    refine .some ⟨rfl, key _ ?_⟩
    have h3 : v = _ := h3
    clear hw hwp
    rw [h3, wr64 (by omega)]
  ·rw [hw]
   exact .some ⟨rfl, fun k => by rw [hits_succ, if_neg (fun h => hp h.1), h2]; rfl⟩
 ·obtain ⟨m, j⟩ := s
  obtain ⟨rfl, h2⟩ := hs
  unfold thread_Acts.l1
  exact .ff (by dsimp only; omega) (.some h2)
def actOf (l : List api_Event) (locs : List api_Loc) (i : Int) : Option api_Act :=
 let e := gi l i
 let atomic := decide (e.Loc ≥ 0) && decide (e.Loc < (locs.length : Int)) && (gi locs e.Loc).Atomic
 if e.Kind = 6 then some ⟨6, 0, 0, e.Val⟩
 else if pr l i = true then some ⟨5, e.Loc, (gi l (e.Pair - 1)).Val, e.Val⟩
 else if e.Kind = 1 then if hits l i l.length = 0 then some ⟨if atomic then 3 else 1, e.Loc, e.Val, 0⟩ else none
 else if e.Kind = 2 then some ⟨if atomic then 4 else 2, e.Loc, 0, e.Val⟩
 else none
def actsTo (l : List api_Event) (locs : List api_Loc) (i : Nat) : List api_Act := (List.range i).filterMap fun j : Nat => actOf l locs (j : Int)
theorem actsTo_succ (l : List api_Event) (locs : List api_Loc) (i : Nat) : actsTo l locs (i + 1) = actsTo l locs i ++ (actOf l locs (i : Int)).toList := by
 unfold actsTo
 rw [List.range_succ, List.filterMap_append]
 cases h : actOf l locs (i : Int) <;> simp [h]
theorem actsTo_len (l : List api_Event) (locs : List api_Loc) (i : Nat) : (actsTo l locs i).length ≤ i := by
 have := List.length_filterMap_le (fun j : Nat => actOf l locs (j : Int)) (List.range i)
 rwa [List.length_range] at this
theorem atomic_eq (locs : List api_Loc) (n : Int) : (if n ≥ 0 then (if n < (locs.length : Int) then (if 0 ≤ n ∧ n < (locs.length : Int) then (some ((gi locs n).Atomic : Bool)) else none) else (some (false : Bool))) else (some (false : Bool)) : Option Bool) = some (decide (n ≥ 0) && decide (n < (locs.length : Int)) && (gi locs n).Atomic) := by
 by_cases h : n ≥ 0
 ·by_cases h2 : n < (locs.length : Int)
  ·rw [if_pos h, if_pos h2, if_pos ⟨h, h2⟩]; simp [h, h2]
  ·rw [if_pos h, if_neg h2]; simp [h2]
 ·rw [if_neg h]; simp [h]
theorem acts_l2 (hl : l.length ≤ 100) {m : List (Int × Int)} (hm : ∀ k : Int, (aget m k).getD 0 = hits l k l.length) : loop (thread_Acts.l2 l locs m) ((([] : List api_Act), 0) : (List api_Act) × Int) = some (actsTo l locs l.length) := by
 refine loop_st (f := thread_Acts.l2 l locs m) l.length (fun i => (actsTo l locs i, (i : Int))) (actsTo l locs l.length) (fun i hi => ?_) (by unfold thread_Acts.l2; rw [if_neg (by dsimp only; omega)])
 unfold thread_Acts.l2
 dsimp only
 have hw : wr .i64 ((i : Int) + 1) = ((i + 1 : Nat) : Int) := wr64 (by omega)
 have hlen : (actsTo l locs i).length ≤ 100 := by have := actsTo_len l locs i; clear hw; omega
 have push : ∀ a : api_Act, ((actsTo l locs i).length + ([a] : List api_Act).length) * 32 ≤ 140737488355328 := fun a => by clear hw; simp; omega
 rw [if_pos (by clear hw; omega), if_pos (by clear hw; omega)]
 simp only [letC]
 rw [atomic_eq, Option.bind_some, pair_eq hl (by clear hw; omega) (by clear hw; omega), hw, actsTo_succ]
 simp only [if_pos (push _), Option.bind_some]
 have hm' := hm (i : Int)
 unfold actOf
 simp only []
 generalize (decide ((gi l (i : Int)).Loc ≥ 0) && decide ((gi l (i : Int)).Loc < (locs.length : Int)) && (gi locs (gi l (i : Int)).Loc).Atomic) = at_
 by_cases k6 : (gi l (i : Int)).Kind = 6
 ·simp [k6]
 by_cases hp : pr l (i : Int) = true
 ·obtain ⟨p0, p1, p2, _⟩ := pr_iff.1 hp
  have hwp : wr .i64 ((gi l (i : Int)).Pair - 1) = (gi l (i : Int)).Pair - 1 := wr64 (by clear hw; omega)
  rw [hwp, if_pos (show 0 ≤ (gi l (i : Int)).Pair - 1 ∧ (gi l (i : Int)).Pair - 1 < (l.length : Int) by clear hw hwp; omega)]
  simp [k6, hp]
 by_cases k1 : (gi l (i : Int)).Kind = 1
 ·cases ha : aget m (i : Int) with
  | none =>
   rw [ha] at hm'
   have hz : hits l (i : Int) l.length = 0 := by have : (0 : Int) = (hits l (i : Int) l.length : Nat) := hm'; clear hw; omega
   cases at_ <;> simp [hp, k1, hz]
  | some v =>
   rw [ha] at hm'
   have hv : v = (hits l (i : Int) l.length : Nat) := hm'
   by_cases hz : hits l (i : Int) l.length = 0
   ·have hv0 : v = 0 := by rw [hv, hz]; rfl
    cases at_ <;> simp [hp, k1, hz, hv0]
   ·have hv0 : ¬ v = 0 := by clear hw; omega
    cases at_ <;> simp [hp, k1, hz, hv0]
 by_cases k2 : (gi l (i : Int)).Kind = 2
 ·cases at_ <;> simp [hp, k2]
 ·simp [k6, hp, k1, k2]
theorem acts_eq (hl : l.length ≤ 100) : thread_Acts.m l locs = some (actsTo l locs l.length) := by
 unfold thread_Acts.m
 obtain ⟨m, h1, h2⟩ := turned_eq hl
 rw [h1, Option.bind_some, acts_l2 hl h2, Option.bind_some]
end
end Go.Proofs.Ytbhekpcimmaijaa.W
namespace Go.Proofs.Ytbhekpcimmaijaa.W
open Go Go.RowKit Go.Proofs.Ytbhekpcimmaijaa Go.Proofs.Ytbhekpcimmaijaa.X
open Go.Proofs.Ytbhekpcimmaijaa.B (wr aget aset loop loop_in loop_out loop_tot wrap16)

section
variable {out : List api_Event} {locs : List api_Loc}
theorem pr_app (r : List api_Event) {j : Nat} (hj : j < out.length) : pr (out ++ r) (j : Int) = pr out (j : Int) := by
 unfold pr
 rw [gi_apl (by omega) (by omega)]
 by_cases c : 1 ≤ (gi out (j : Int)).Pair ∧ (gi out (j : Int)).Pair ≤ (j : Int)
 ·rw [gi_apl (l := out) (m := r) (i := (gi out (j : Int)).Pair - 1) (by omega) (by omega)]
 ·by_cases c1 : (gi out (j : Int)).Pair ≥ 1
  ·have c2 : ¬ (gi out (j : Int)).Pair ≤ (j : Int) := by omega
   simp [c2]
  ·simp [c1]
theorem hits_app (r : List api_Event) (k : Int) : ∀ n : Nat, n ≤ out.length → hits (out ++ r) k n = hits out k n
 | 0, _ => rfl
 | n + 1, h => by rw [hits_succ, hits_succ, hits_app r k n (by omega), pr_app r (by omega), gi_apl (by omega) (by omega)]
theorem hits_low (l : List api_Event) (k : Int) : ∀ i : Nat, (i : Int) ≤ k + 1 → hits l k i = 0
 | 0, _ => rfl
 | i + 1, h => by
  rw [hits_succ, hits_low l k i (by omega), if_neg (fun c => ?_)]
  have := (pr_iff.1 c.1).2.2.1
  omega
theorem actOf_app (r : List api_Event) {j : Nat} (hj : j < out.length) (hh : hits (out ++ r) (j : Int) (out ++ r).length = hits out (j : Int) out.length) : actOf (out ++ r) locs (j : Int) = actOf out locs (j : Int) := by
 unfold actOf
 simp only []
 rw [pr_app r hj, hh, gi_apl (by omega) (by omega)]
 by_cases hp : pr out (j : Int) = true
 ·have := pr_iff.1 hp
  rw [gi_apl (l := out) (m := r) (i := (gi out (j : Int)).Pair - 1) (by omega) (by omega)]
 ·simp only [if_neg hp]
theorem actsTo_app (r : List api_Event) (hh : ∀ j : Nat, j < out.length → hits (out ++ r) (j : Int) (out ++ r).length = hits out (j : Int) out.length) : ∀ n : Nat, n ≤ out.length → actsTo (out ++ r) locs n = actsTo out locs n
 | 0, _ => rfl
 | n + 1, h => by rw [actsTo_succ, actsTo_succ, actsTo_app r hh n (by omega), actOf_app r (by omega) (hh n (by omega))]
theorem app1 (e : api_Event) (hn : ¬ (e.Kind = 2 ∧ 1 ≤ e.Pair)) : actsTo (out ++ [e]) locs (out ++ [e]).length = actsTo out locs out.length ++ (actOf (out ++ [e]) locs (out.length : Int)).toList := by
 have hp : pr (out ++ [e]) (out.length : Int) = false := by
  rw [Bool.eq_false_iff]
  intro h
  have := pr_iff.1 h
  rw [gi_apa rfl] at this
  exact hn ⟨this.1, this.2.1⟩
 have hl : (out ++ [e]).length = out.length + 1 := by simp
 rw [hl, actsTo_succ, actsTo_app [e] (fun j hj => by rw [hl, hits_succ, if_neg (fun c => by rw [hp] at c; exact absurd c.1 (by decide)), hits_app _ _ _ (Nat.le_refl _)]; rfl) _ (Nat.le_refl _)]
theorem app1_act (e : api_Event) (hn : ¬ (e.Kind = 2 ∧ 1 ≤ e.Pair)) (hlo : e.Kind = 1 ∨ e.Kind = 2 → 0 ≤ e.Loc ∧ e.Loc < locs.length) : actOf (out ++ [e]) locs (out.length : Int) =
 if e.Kind = 6 then some ⟨6, 0, 0, e.Val⟩ else if e.Kind = 1 then some ⟨if (gi locs e.Loc).Atomic then 3 else 1, e.Loc, e.Val, 0⟩ else if e.Kind = 2 then some ⟨if (gi locs e.Loc).Atomic then 4 else 2, e.Loc, 0, e.Val⟩ else none := by
 have hp : pr (out ++ [e]) (out.length : Int) = false := by
  rw [Bool.eq_false_iff]
  intro h
  have := pr_iff.1 h
  rw [gi_apa rfl] at this
  exact hn ⟨this.1, this.2.1⟩
 unfold actOf
 simp only []
 rw [gi_apa rfl, hp, hits_low _ _ _ (by simp)]
 by_cases c6 : e.Kind = 6
 ·rw [if_pos c6, if_pos c6]
 rw [if_neg c6, if_neg c6, if_neg (by decide)]
 by_cases c1 : e.Kind = 1
 ·have := hlo (.inl c1)
  rw [if_pos c1, if_pos c1, if_pos rfl, decide_eq_true (show e.Loc ≥ 0 by omega), decide_eq_true this.2]; rfl
 rw [if_neg c1, if_neg c1]
 by_cases c2 : e.Kind = 2
 ·have := hlo (.inr c2)
  rw [if_pos c2, if_pos c2, decide_eq_true (show e.Loc ≥ 0 by omega), decide_eq_true this.2]; rfl
 ·rw [if_neg c2, if_neg c2]
theorem app2 (e w : api_Event) (h1 : e.Kind = 1) (h2 : w.Kind = 2) (h3 : w.Pair = (out.length : Int) + 1) : actsTo (out ++ [e] ++ [w]) locs (out ++ [e] ++ [w]).length = actsTo out locs out.length ++ [⟨5, w.Loc, e.Val, w.Val⟩] := by
 have hl1 : (out ++ [e]).length = out.length + 1 := by simp
 have hl : (out ++ [e] ++ [w]).length = out.length + 1 + 1 := by simp
 have gw : gi (out ++ [e] ++ [w]) ((out.length + 1 : Nat) : Int) = w := gi_apa (by rw [hl1])
 have ge : gi (out ++ [e] ++ [w]) (out.length : Int) = e := by rw [gi_apl (by omega) (by rw [hl1]; omega), gi_apa rfl]
 have hpw : pr (out ++ [e] ++ [w]) ((out.length + 1 : Nat) : Int) = true := by
  rw [pr_iff, gw]
  refine ⟨h2, by omega, by omega, ?_⟩
  rw [h3, show (out.length : Int) + 1 - 1 = out.length by omega, ge]; exact h1
 have hpe : pr (out ++ [e] ++ [w]) (out.length : Int) = false := by
  rw [Bool.eq_false_iff]
  intro h
  have := (pr_iff.1 h).1
  rw [ge, h1] at this
  exact absurd this (by decide)
 have hh : ∀ k : Int, hits (out ++ [e] ++ [w]) k (out.length + 1 + 1) = hits out k out.length + if (out.length : Int) = k then 1 else 0 := fun k => by
  rw [hits_succ, hits_succ, if_neg (fun c => by rw [hpe] at c; exact absurd c.1 (by decide)), List.append_assoc, hits_app _ _ _ (Nat.le_refl _), ← List.append_assoc, gw, h3]
  by_cases c : (out.length : Int) = k
  ·rw [if_pos ⟨hpw, by omega⟩, if_pos c]
  ·rw [if_neg (fun q => c (by omega)), if_neg c]
 have e1 : actOf (out ++ [e] ++ [w]) locs (out.length : Int) = none := by
  unfold actOf
  simp only []
  rw [ge, hpe, hl, hh, if_pos rfl, if_neg (by rw [h1]; decide), if_neg (by decide), if_pos h1, if_neg (by omega)]
 have e2 : actOf (out ++ [e] ++ [w]) locs ((out.length + 1 : Nat) : Int) = some ⟨5, w.Loc, e.Val, w.Val⟩ := by
  unfold actOf
  simp only []
  rw [gw, hpw, if_neg (by rw [h2]; decide), if_pos rfl, h3, show (out.length : Int) + 1 - 1 = out.length by omega, ge]
 rw [hl, actsTo_succ, actsTo_succ, e1, e2, List.append_assoc out [e] [w], actsTo_app ([e] ++ [w]) (fun j hj => by rw [← List.append_assoc, hl, hh, if_neg (by omega)]; rfl) _ (Nat.le_refl _)]
 simp
end
def AR (locs : List api_Loc) (o : List Sk) (a : List api_Act) : Prop := ∀ out : List api_Event, out.map sk = o → actsTo out locs out.length = a
section
variable {locs : List api_Loc} {o : List Sk} {a : List api_Act}
theorem AR.nil : AR locs [] [] := fun out h => by
 have : out = [] := by simpa using h
 subst this; rfl
theorem map_app {out : List api_Event} {o : List Sk} {e : Sk} (h : out.map sk = o ++ [e]) : ∃ out' ev, out = out' ++ [ev] ∧ out'.map sk = o ∧ sk ev = e := by
 obtain ⟨l1, l2, rfl, h1, h2⟩ := List.map_eq_append_iff.1 h
 cases l2 with
 | nil => simp at h2
 | cons ev r =>
  cases r with
  | nil => exact ⟨l1, ev, rfl, h1, by simpa using h2⟩
  | cons _ _ => simp at h2
theorem AR.one (h : AR locs o a) {k p v q : Int} (hn : ¬ (k = 2 ∧ 1 ≤ q)) (hlo : k = 1 ∨ k = 2 → 0 ≤ p ∧ p < locs.length) : AR locs (o ++ [(k, p, v, q)]) (a ++ (if k = 6 then some ⟨6, 0, 0, v⟩ else if k = 1 then some ⟨if (gi locs p).Atomic then 3 else 1, p, v, 0⟩ else if k = 2 then some ⟨if (gi locs p).Atomic then 4 else 2, p, 0, v⟩ else none : Option api_Act).toList) := fun out ho => by
 obtain ⟨out', ev, rfl, h1, h2⟩ := map_app ho
 have e1 : ev.Kind = k := congrArg (fun x : Sk => x.1) h2
 have e2 : ev.Loc = p := congrArg (fun x : Sk => x.2.1) h2
 have e3 : ev.Val = v := congrArg (fun x : Sk => x.2.2.1) h2
 have e4 : ev.Pair = q := congrArg (fun x : Sk => x.2.2.2) h2
 have hn' : ¬ (ev.Kind = 2 ∧ 1 ≤ ev.Pair) := by rw [e1, e4]; exact hn
 rw [app1 ev hn', app1_act ev hn' (by rw [e1, e2]; exact hlo), h out' h1, e1, e2, e3]
theorem AR.sync (h : AR locs o a) : AR locs (o ++ [(3, 0, 0, 0)]) a := by
 have := h.one (k := 3) (p := 0) (v := 0) (q := 0) (by decide) (fun c => by omega)
 simpa using this
theorem AR.said (h : AR locs o a) (v : Int) : AR locs (o ++ [(6, 0, v, 0)]) (a ++ [⟨6, 0, 0, v⟩]) := h.one (k := 6) (by decide) (fun c => by omega)
theorem AR.read (h : AR locs o a) {p n : Int} (hp : 0 ≤ p ∧ p < locs.length) : AR locs (o ++ [(1, p, n, 0)]) (a ++ [⟨if (gi locs p).Atomic then 3 else 1, p, n, 0⟩]) := h.one (k := 1) (by decide) (fun _ => hp)
theorem AR.write (h : AR locs o a) {p v : Int} (hp : 0 ≤ p ∧ p < locs.length) : AR locs (o ++ [(2, p, v, 0)]) (a ++ [⟨if (gi locs p).Atomic then 4 else 2, p, 0, v⟩]) := h.one (k := 2) (by decide) (fun _ => hp)
theorem AR.pair (h : AR locs o a) {p n v : Int} : AR locs (o ++ [(1, p, n, 0)] ++ [(2, p, v, (o.length : Int) + 1)]) (a ++ [⟨5, p, n, v⟩]) := fun out ho => by
 obtain ⟨out', w, rfl, h1, h2⟩ := map_app ho
 obtain ⟨out, ev, rfl, h3, h4⟩ := map_app h1
 have hl : out.length = o.length := by rw [← h3, List.length_map]
 have e1 : ev.Kind = 1 := congrArg (fun x : Sk => x.1) h4
 have e3 : ev.Val = n := congrArg (fun x : Sk => x.2.2.1) h4
 have w1 : w.Kind = 2 := congrArg (fun x : Sk => x.1) h2
 have w2 : w.Loc = p := congrArg (fun x : Sk => x.2.1) h2
 have w3 : w.Val = v := congrArg (fun x : Sk => x.2.2.1) h2
 have w4 : w.Pair = (o.length : Int) + 1 := congrArg (fun x : Sk => x.2.2.2) h2
 rw [app2 ev w e1 w1 (by rw [w4, hl]), h out h3, e3, w2, w3]
end

inductive TR
 | fin (st : Int) (acts : List api_Act)
 | nxt (j : Bool) (T : Arr Int 400) (ans : List Int) (acts : List api_Act)
def tred (ans : List Int) (acts : List api_Act) (k : Int → List Int → TR) : TR := match ans with
 | [] => .fin 4 acts
 | n :: r => k n r
def tstep (x : api_Ins) (T : Arr Int 400) (ans : List Int) (acts : List api_Act) : TR :=
 if x.Op = 1 then .nxt false (T.s x.D x.K) ans acts
 else if x.Op = 2 then .nxt false (T.s x.D (wr .i64 (T.g x.A + T.g x.B))) ans acts
 else if x.Op = 3 then .nxt false (T.s x.D (wr .i64 (T.g x.A - T.g x.B))) ans acts
 else if x.Op = 4 then .nxt false (T.s x.D (wr .i64 (T.g x.A * T.g x.B))) ans acts
 else if x.Op = 5 then (if T.g x.B = 0 then .fin 2 acts else .nxt false (T.s x.D (wr .i64 (Int.tdiv (T.g x.A) (T.g x.B)))) ans acts)
 else if x.Op = 6 then tred ans acts fun n r => .nxt false (T.s x.D n) r (acts ++ [⟨1, x.Loc, n, 0⟩])
 else if x.Op = 7 then .nxt false T ans (acts ++ [⟨2, x.Loc, 0, T.g x.A⟩])
 else if x.Op = 8 then tred ans acts fun n r => .nxt false (T.s x.D n) r (acts ++ [⟨3, x.Loc, n, 0⟩])
 else if x.Op = 9 then .nxt false T ans (acts ++ [⟨4, x.Loc, 0, T.g x.A⟩])
 else if x.Op = 10 then tred ans acts fun n r => .nxt false (T.s x.D n) r (acts ++ [⟨5, x.Loc, n, T.g x.A⟩])
 else if x.Op = 11 then tred ans acts fun n r => .nxt false (T.s x.D n) r (acts ++ [⟨5, x.Loc, n, wr .i64 (n + T.g x.A)⟩])
 else if x.Op = 12 then tred ans acts fun n r => if n = T.g x.A then .nxt false T r (acts ++ [⟨5, x.Loc, n, T.g x.B⟩]) else .nxt true T r (acts ++ [⟨3, x.Loc, n, 0⟩])
 else if x.Op = 13 then (if 0 ≤ T.g x.A ∧ T.g x.A < x.Len then tred ans acts fun n r => .nxt false (T.s x.D n) r (acts ++ [⟨1, x.Loc + T.g x.A, n, 0⟩]) else .fin 3 acts)
 else if x.Op = 14 then (if 0 ≤ T.g x.A ∧ T.g x.A < x.Len then .nxt false T ans (acts ++ [⟨2, x.Loc + T.g x.A, 0, T.g x.B⟩]) else .fin 3 acts)
 else if x.Op = 15 then .nxt false T ans (acts ++ [⟨6, 0, 0, T.g x.A⟩])
 else if x.Op = 16 then .nxt (!decide (T.g x.A < T.g x.B)) T ans acts
 else if x.Op = 17 then .nxt (!decide (T.g x.A = T.g x.B)) T ans acts
 else .fin 1 acts
section
variable {i : Int} {x : api_Ins} {T : Arr Int 400} {ans : List Int} {acts : List api_Act}
def TD (i : Int) (x : api_Ins) (z : TR) (r : (Arr Int 400) × (List Int) × (List api_Act) × Int × Int) : Prop := match z with
 | .fin st ac => r.2.2.1 = ac ∧ r.2.2.2.2 = st
 | .nxt j T' ans' ac => r = (T', ans', ac, (if j = true then x.To else i + 1), 0)
theorem answer_eq (ans : List Int) : tree_runner_answer_2.m T ans acts = some (match ans with | [] => ([], 0, false) | n :: r => (r, n, true)) := by
 unfold tree_runner_answer_2.m
 cases ans with
 | nil => rfl
 | cons n r =>
  rw [if_neg (show ¬ ((n :: r).length : Int) = 0 by rw [List.length_cons]; omega), if_pos (show 0 ≤ (0 : Int) ∧ (0 : Int) < ((n :: r).length : Int) by rw [List.length_cons]; omega)]
  simp only [letC]
  rw [if_pos (show 0 ≤ (1 : Int) ∧ (1 : Int) ≤ ((n :: r).length : Int) ∧ ((n :: r).length : Int) ≤ ((n :: r).length : Int) by rw [List.length_cons]; omega)]
  have e2 : ((n :: r).drop (1 : Int).toNat).take (((n :: r).length : Int).toNat - (1 : Int).toNat) = r := by simp
  rw [e2]; rfl
theorem push1 (h : acts.length ≤ 100000) (k p v : Int) : tree_runner_do_1_2.m k p v T ans acts = some (acts ++ [⟨k, p, 0, v⟩]) := by
 unfold tree_runner_do_1_2.m
 rw [if_pos (by simp; omega)]
@[reducible] def A4 (t : Int) : Prop := 0 ≤ t ∧ t < ((400 : Nat) : Int)
theorem ask_eq (hl : acts.length ≤ 100000) (hA : A4 x.A) (hD : A4 x.D) (k p : Int) : tree_runner_ask.m x k p T ans acts = some (match ans with
 | [] => (T, [], acts, false)
 | n :: r => (T.s x.D n, r, acts ++ [⟨k, p, n, if x.Op = 10 then T.g x.A else if x.Op = 11 then wr .i64 (n + T.g x.A) else 0⟩], true)) := by
 unfold tree_runner_ask.m
 rw [answer_eq, Option.bind_some]
 cases ans with
 | nil => rfl
 | cons n r =>
  dsimp only
  rw [if_pos rfl]
  by_cases c : x.Op = 10
  ·have c2 : ¬ x.Op = 11 := by omega
   rw [if_pos c, if_pos c, if_pos hA, letC, Option.bind_some, if_neg c2, Option.bind_some, if_pos hD, letC, if_pos (by simp; omega), letC]
  ·rw [if_neg c, if_neg c, Option.bind_some]
   by_cases c2 : x.Op = 11
   ·rw [if_pos c2, if_pos c2, if_pos hA, letC, Option.bind_some, if_pos hD, letC, if_pos (by simp; omega), letC]
   ·rw [if_neg c2, if_neg c2, Option.bind_some, if_pos hD, letC, if_pos (by simp; omega), letC]
theorem do_eq (hx : isOp x.Op = true) (hl : acts.length ≤ 100000) (hA : A4 x.A) (hB : A4 x.B) (hD : A4 x.D) (hi : 0 ≤ i ∧ i < 1000) (hlo : 0 ≤ x.Loc ∧ x.Loc < 16) (hle : 0 ≤ x.Len ∧ x.Len ≤ 16) : Tot (TD i x (tstep x T ans acts)) (tree_runner_do_2.m i x T ans acts) := by
 unfold tree_runner_do_2.m
 have wi : wr .i64 (i + 1) = i + 1 := wr64 (by omega)
 rw [if_pos hA, letC, if_pos hB, letC]
 rcases isOp_c hx with c | c | c | c | c | c | c | c | c | c | c | c | c | c | c | c | c | c
 all_goals
  simp only [c, tstep, Int.reduceEq, if_true, if_false, ↓reduceIte, Option.bind_some, decide_true, decide_false, Bool.false_eq_true]
 ·rw [if_pos hD, letC, Option.bind_some]; simp only [↓reduceIte]; rw [wi]; exact .some rfl
 ·rw [if_pos hD, letC, Option.bind_some]; simp only [↓reduceIte]; rw [wi]; exact .some rfl
 ·rw [if_pos hD, letC, Option.bind_some]; simp only [↓reduceIte]; rw [wi]; exact .some rfl
 ·rw [if_pos hD, letC, Option.bind_some]; simp only [↓reduceIte]; rw [wi]; exact .some rfl
 ·by_cases z : T.g x.B = 0
  ·rw [if_pos z, if_pos z]; exact .some ⟨rfl, rfl⟩
  ·rw [if_neg z, if_neg z, if_pos z, if_pos hD, letC, Option.bind_some]; simp only [↓reduceIte]; rw [wi]; exact .some rfl
 ·rw [ask_eq hl hA hD, Option.bind_some]
  cases ans with
  | nil => exact .some ⟨rfl, rfl⟩
  | cons n r => simp only [c, Int.reduceEq, ↓reduceIte]; rw [wi]; exact .some rfl
 ·rw [push1 hl, Option.bind_some]; simp only [Option.bind_some, ↓reduceIte]; rw [wi]; exact .some rfl
 ·rw [ask_eq hl hA hD, Option.bind_some]
  cases ans with
  | nil => exact .some ⟨rfl, rfl⟩
  | cons n r => simp only [c, Int.reduceEq, ↓reduceIte]; rw [wi]; exact .some rfl
 ·rw [push1 hl, Option.bind_some]; simp only [Option.bind_some, ↓reduceIte]; rw [wi]; exact .some rfl
 ·rw [ask_eq hl hA hD, Option.bind_some]
  cases ans with
  | nil => exact .some ⟨rfl, rfl⟩
  | cons n r => simp only [c, Int.reduceEq, ↓reduceIte]; rw [wi]; exact .some rfl
 ·rw [ask_eq hl hA hD, Option.bind_some]
  cases ans with
  | nil => exact .some ⟨rfl, rfl⟩
  | cons n r => simp only [c, Int.reduceEq, ↓reduceIte]; rw [wi]; exact .some rfl
 ·unfold tree_runner_cases_2.m
  rw [answer_eq, Option.bind_some]
  cases ans with
  | nil => exact .some ⟨rfl, rfl⟩
  | cons n r =>
   simp only [↓reduceIte, tred]
   by_cases e : n = T.g x.A
   ·rw [if_pos e, if_pos e, if_pos (by simp; omega), letC, Option.bind_some, Option.bind_some, wi]; exact .some rfl
   ·rw [if_neg e, if_neg e, if_pos (by simp; omega), letC, Option.bind_some, Option.bind_some]; exact .some rfl
 ·by_cases a0 : T.g x.A < 0
  ·rw [if_pos a0, Option.bind_some, if_pos rfl, if_neg (by omega), Option.bind_some]; exact .some ⟨rfl, rfl⟩
  ·rw [if_neg a0, Option.bind_some]
   by_cases a1 : T.g x.A ≥ x.Len
   ·rw [decide_eq_true a1, if_pos rfl, if_neg (by omega), Option.bind_some]; exact .some ⟨rfl, rfl⟩
   ·have w : wr .i64 (x.Loc + T.g x.A) = x.Loc + T.g x.A := wr64 (by clear wi; omega)
    rw [if_pos (show 0 ≤ T.g x.A ∧ T.g x.A < x.Len by clear wi w; omega), decide_eq_false a1, if_neg (show ¬ (false = true) by decide), w, Option.bind_some]
    simp only [Int.reduceEq, ↓reduceIte]
    rw [ask_eq hl hA hD, Option.bind_some]
    cases ans with
    | nil => exact .some ⟨rfl, rfl⟩
    | cons n r => simp only [c, Int.reduceEq, ↓reduceIte]; rw [wi]; exact .some rfl
 ·by_cases a0 : T.g x.A < 0
  ·rw [if_pos a0, Option.bind_some, if_pos rfl, if_neg (by omega), Option.bind_some]; exact .some ⟨rfl, rfl⟩
  ·rw [if_neg a0, Option.bind_some]
   by_cases a1 : T.g x.A ≥ x.Len
   ·rw [decide_eq_true a1, if_pos rfl, if_neg (by omega), Option.bind_some]; exact .some ⟨rfl, rfl⟩
   ·have w : wr .i64 (x.Loc + T.g x.A) = x.Loc + T.g x.A := wr64 (by clear wi; omega)
    rw [if_pos (show 0 ≤ T.g x.A ∧ T.g x.A < x.Len by clear wi w; omega), decide_eq_false a1, if_neg (show ¬ (false = true) by decide), w, push1 hl, Option.bind_some, Option.bind_some]
    simp only [↓reduceIte]
    rw [wi]; exact .some rfl
 ·rw [push1 hl, Option.bind_some]; simp only [Option.bind_some, ↓reduceIte]; rw [wi]; exact .some rfl
 ·by_cases e : T.g x.A < T.g x.B
  ·rw [if_neg (by omega), Option.bind_some, decide_eq_true e]; simp only [↓reduceIte]; rw [wi]; exact .some rfl
  ·rw [if_pos (by omega), Option.bind_some, decide_eq_false e]; exact .some rfl
 ·by_cases e : T.g x.A = T.g x.B
  ·rw [if_pos e, Option.bind_some, decide_eq_true e]; simp only [↓reduceIte]; rw [wi]; exact .some rfl
  ·rw [if_neg e, Option.bind_some, decide_eq_false e]; exact .some rfl
 ·exact .some ⟨rfl, rfl⟩
end

def Beg (a all : List api_Act) : Prop := a.length ≤ all.length ∧ ∀ i : Nat, i < a.length → gi a i = gi all i ∨ (i + 1 = a.length ∧ (gi a i).Kind = 3 ∧ (gi all i).Kind = 5 ∧ (gi a i).Loc = (gi all i).Loc ∧ (gi a i).Old = (gi all i).Old)
theorem Beg.pre (a r : List api_Act) : Beg a (a ++ r) := ⟨by rw [List.length_append]; omega, fun i hi => .inl (gi_apl (by omega) (by omega)).symm⟩
theorem Beg.refl (a : List api_Act) : Beg a a := ⟨Nat.le_refl _, fun i hi => .inl rfl⟩
theorem Beg.app {a b : List api_Act} (h : Beg a b) (r : List api_Act) : Beg a (b ++ r) := ⟨by rw [List.length_append]; have := h.1; omega, fun i hi => by
 rw [gi_apl (by omega) (by have := h.1; omega)]; exact h.2 i hi⟩
theorem Beg.half (a : List api_Act) (p n v : Int) : Beg (a ++ [⟨3, p, n, 0⟩]) (a ++ [⟨5, p, n, v⟩]) := ⟨by simp, fun i hi => by
 rw [List.length_append, List.length_singleton] at hi
 by_cases c : i < a.length
 ·left; rw [gi_apl (by omega) (by omega), gi_apl (by omega) (by omega)]
 ·right
  have : i = a.length := by omega
  subst this
  rw [gi_apa rfl, gi_apa rfl]
  exact ⟨by simp, rfl, rfl, rfl, rfl⟩⟩
def tac : TR → List api_Act
 | .fin _ ac => ac
 | .nxt _ _ _ ac => ac
def SimR (l : List api_Loc) (x : api_Ins) (T : Arr Int 400) : PR → TR → Prop
 | .fin st o, z => if st = 5 then ∃ ap, AR l o ap ∧ Beg ap (tac z) else ∃ ac, z = .fin st ac ∧ AR l o ac
 | .nxt j v ans o, z => ∃ ac, z = .nxt j (if (sh x.Op).d = true then T.s x.D v else T) ans ac ∧ AR l o ac
section
variable {l : List api_Loc} {x : api_Ins} {T : Arr Int 400} {o : List Sk} {acts ap : List api_Act} {ans : List Int} {z : TR}
theorem sim_tel {e : Sk} {k : List Sk → PR} (h : AR l o ap) (hb : Beg ap (tac z)) (hk : SimR l x T (k (o ++ [e])) z) : SimR l x T (telS o e k) z := by
 unfold telS
 split
 ·exact ⟨ap, h, hb⟩
 ·exact hk
theorem sim_red {p : Int} {k : Int → List Int → List Sk → PR} {g : Int → List Int → TR} (h : AR l o acts) (hb : ∀ n r, Beg acts (tac (g n r))) (hk : ∀ n r, SimR l x T (k n r (o ++ [(1, p, n, 0)])) (g n r)) : SimR l x T (redS ans o p k) (tred ans acts g) := by
 unfold redS tred
 cases ans with
 | nil => exact ⟨acts, rfl, h⟩
 | cons n r => exact sim_tel h (hb n r) (hk n r)
theorem beg_red {g : Int → List Int → TR} (hb : ∀ n r, Beg acts (tac (g n r))) : Beg acts (tac (tred ans acts g)) := by
 unfold tred
 cases ans with
 | nil => exact Beg.refl _
 | cons n r => exact hb n r
theorem sim (hx : isOp x.Op = true) (hloc : (sh x.Op).place = true → 0 ≤ x.Loc ∧ x.Loc + wid (sh x.Op) x ≤ l.length ∧ ∀ k, x.Loc ≤ k → k < x.Loc + wid (sh x.Op) x → (gi l k).Atomic = (sh x.Op).atomic)
 {a b : Int} (ha : (sh x.Op).a = true → a = T.g x.A) (hb : (sh x.Op).b = true → b = T.g x.B) (hr : -9223372036854775808 ≤ T.g x.A ∧ T.g x.A < 9223372036854775808) (h : AR l o acts) : SimR l x T (pstep x a b ans o) (tstep x T ans acts) := by
 rcases isOp_c hx with c | c | c | c | c | c | c | c | c | c | c | c | c | c | c | c | c | c
 all_goals
  rw [c] at ha hb hloc
  simp only [sh_1, sh_2, sh_3, sh_4, sh_5, sh_6, sh_7, sh_8, sh_9, sh_10, sh_11, sh_12, sh_13, sh_14, sh_15, sh_16, sh_17, sh_18, forall_const, Bool.false_eq_true, false_implies] at ha hb hloc
  simp only [pstep, tstep, c, Int.reduceEq, ↓reduceIte]
  try rw [ha]
  try rw [hb]
  try simp only [wid, Bool.false_eq_true, ↓reduceIte] at hloc
  try have hL : 0 ≤ x.Loc ∧ x.Loc < l.length := by omega
  try have hat := hloc.2.2 x.Loc (by omega) (by omega)
 ·exact ⟨acts, by simp only [c, sh_1, ↓reduceIte], h⟩
 ·exact ⟨acts, by simp only [c, sh_2, ↓reduceIte], h⟩
 ·exact ⟨acts, by simp only [c, sh_3, ↓reduceIte], h⟩
 ·exact ⟨acts, by simp only [c, sh_4, ↓reduceIte], h⟩
 ·by_cases e : T.g x.B = 0
  ·rw [if_pos e, if_pos e]; exact ⟨acts, rfl, h⟩
  ·rw [if_neg e, if_neg e]; exact ⟨acts, by simp only [c, sh_5, ↓reduceIte], h⟩
 ·refine sim_red h (fun n r => Beg.pre _ _) fun n r => ⟨_, by simp only [c, sh_6, ↓reduceIte] <;> rfl, ?_⟩
  have := h.read (n := n) hL
  rw [hat] at this; exact this
 ·refine sim_tel h (Beg.pre _ _) ⟨_, by simp only [c, sh_7, ↓reduceIte, Bool.false_eq_true] <;> rfl, ?_⟩
  have := h.write (v := T.g x.A) hL
  rw [hat] at this; exact this
 ·refine sim_tel h (beg_red fun n r => Beg.pre _ _) (sim_red h.sync (fun n r => Beg.pre _ _) fun n r => ?_)
  have := h.sync.read (n := n) hL
  rw [hat] at this
  exact sim_tel this (Beg.refl _) ⟨_, by simp only [c, sh_8, ↓reduceIte] <;> rfl, this.sync⟩
 ·refine sim_tel h (Beg.pre _ _) (sim_tel h.sync (Beg.pre _ _) ?_)
  have := h.sync.write (v := T.g x.A) hL
  rw [hat] at this
  exact sim_tel this (Beg.refl _) ⟨_, by simp only [c, sh_9, ↓reduceIte, Bool.false_eq_true] <;> rfl, this.sync⟩
 ·refine sim_tel h (beg_red fun n r => Beg.pre _ _) (sim_red h.sync (fun n r => Beg.pre _ _) fun n r => ?_)
  have := h.sync.read (n := n) hL
  rw [hat] at this
  refine sim_tel this (Beg.half _ _ _ _) (sim_tel h.sync.pair (Beg.refl _) ⟨_, by simp only [c, sh_10, ↓reduceIte] <;> rfl, h.sync.pair.sync⟩)
 ·refine sim_tel h (beg_red fun n r => Beg.pre _ _) (sim_red h.sync (fun n r => Beg.pre _ _) fun n r => ?_)
  have := h.sync.read (n := n) hL
  rw [hat] at this
  refine sim_tel this (Beg.half _ _ _ _) (sim_tel h.sync.pair (Beg.refl _) ⟨_, by simp only [c, sh_11, ↓reduceIte] <;> rfl, h.sync.pair.sync⟩)
 ·refine sim_tel h (beg_red fun n r => ?_) (sim_red h.sync (fun n r => ?_) fun n r => ?_)
  ·split <;> exact Beg.pre _ _
  ·split <;> exact Beg.pre _ _
  ·have := h.sync.read (n := n) hL
   rw [hat] at this
   by_cases e : n = T.g x.A
   ·rw [if_pos e, if_pos e]
    exact sim_tel this (Beg.half _ _ _ _) (sim_tel h.sync.pair (Beg.refl _) ⟨_, by simp only [c, sh_12, ↓reduceIte, Bool.false_eq_true] <;> rfl, h.sync.pair.sync⟩)
   ·rw [if_neg e, if_neg e]
    exact sim_tel this (Beg.refl _) ⟨_, by simp only [c, sh_12, ↓reduceIte, Bool.false_eq_true] <;> rfl, this.sync⟩
 ·by_cases e : 0 ≤ T.g x.A ∧ T.g x.A < x.Len
  ·rw [if_pos e, if_pos e]
   refine sim_red h (fun n r => Beg.pre _ _) fun n r => ⟨_, by simp only [c, sh_13, ↓reduceIte] <;> rfl, ?_⟩
   have := h.read (n := n) (p := x.Loc + T.g x.A) (by omega)
   rw [hloc.2.2 (x.Loc + T.g x.A) (by omega) (by omega)] at this; exact this
  ·rw [if_neg e, if_neg e]; exact ⟨acts, rfl, h⟩
 ·by_cases e : 0 ≤ T.g x.A ∧ T.g x.A < x.Len
  ·rw [if_pos e, if_pos e]
   refine sim_tel h (Beg.pre _ _) ⟨_, by simp only [c, sh_14, ↓reduceIte, Bool.false_eq_true] <;> rfl, ?_⟩
   have := h.write (v := T.g x.B) (p := x.Loc + T.g x.A) (by omega)
   rw [hloc.2.2 (x.Loc + T.g x.A) (by omega) (by omega)] at this; exact this
  ·rw [if_neg e, if_neg e]; exact ⟨acts, rfl, h⟩
 ·rw [show wr .i64 (T.g x.A) = T.g x.A from wr64 hr]
  exact sim_tel h (Beg.pre _ _) ⟨_, by simp only [c, sh_15, ↓reduceIte, Bool.false_eq_true] <;> rfl, h.said _⟩
 ·exact ⟨acts, by simp only [c, sh_16, ↓reduceIte, Bool.false_eq_true], h⟩
 ·exact ⟨acts, by simp only [c, sh_17, ↓reduceIte, Bool.false_eq_true], h⟩
 ·exact ⟨acts, rfl, h⟩
end

def TOk (x : api_Ins) (acts : List api_Act) : TR → Prop
 | .fin st ac => st ≠ 0 ∧ ac = acts
 | .nxt j T' ans' ac => (j = true → isJ x = true) ∧ x.Op ≠ 18 ∧ ∃ r, ac = acts ++ r ∧ r.length ≤ 1
theorem tok_fin {x : api_Ins} {acts : List api_Act} {st : Int} (h : st ≠ 0) : TOk x acts (.fin st acts) := ⟨h, rfl⟩
theorem tok_0 {x : api_Ins} {acts : List api_Act} {j : Bool} {T : Arr Int 400} {ans : List Int} (h : j = true → isJ x = true) (k : x.Op ≠ 18) : TOk x acts (.nxt j T ans acts) := ⟨h, k, [], by simp, by simp⟩
theorem tok_1 {x : api_Ins} {acts : List api_Act} {j : Bool} {T : Arr Int 400} {ans : List Int} {e : api_Act} (h : j = true → isJ x = true) (k : x.Op ≠ 18) : TOk x acts (.nxt j T ans (acts ++ [e])) := ⟨h, k, [e], rfl, by simp⟩
theorem tok_red {x : api_Ins} {acts : List api_Act} {ans : List Int} {g : Int → List Int → TR} (h : ∀ n r, TOk x acts (g n r)) : TOk x acts (tred ans acts g) := by
 unfold tred
 cases ans with
 | nil => exact tok_fin (by decide)
 | cons n r => exact h n r
theorem tstep_ok {x : api_Ins} (hx : isOp x.Op = true) (T : Arr Int 400) (ans : List Int) (acts : List api_Act) : TOk x acts (tstep x T ans acts) := by
 rcases isOp_c hx with c | c | c | c | c | c | c | c | c | c | c | c | c | c | c | c | c | c
 all_goals
  simp only [tstep, c, Int.reduceEq, ↓reduceIte]
  repeat' with_reducible first
   | exact tok_fin (by decide)
   | refine tok_red fun n r => ?_
   | exact tok_1 (fun h => absurd h (by decide)) (by omega)
   | exact tok_0 (fun h => absurd h (by decide)) (by omega)
   | exact tok_1 (fun _ => isJ_of (by omega)) (by omega)
   | exact tok_0 (fun _ => isJ_of (by omega)) (by omega)
   | split
section
variable {code : List api_Ins} {l : List api_Loc}
theorem a4_of {u : Bool} {n : Int} (h : TempP u n) : A4 n := by
 cases u
 ·have := h.2 rfl; exact ⟨by omega, by omega⟩
 ·have := h.1 rfl; exact ⟨by omega, by omega⟩
theorem pl_b {x : api_Ins} {i n : Int} (h : PP x i n l) (hl : l.length ≤ 16) : (0 ≤ x.Loc ∧ x.Loc < 16) ∧ (0 ≤ x.Len ∧ x.Len ≤ 16) := by
 have hpl := h.pl
 unfold PlP at hpl
 cases c : (sh x.Op).place
 ·have := hpl.2 c; omega
 ·have ⟨h1, h2, h3, h4, _⟩ := hpl.1 c
  unfold wid at h2 h4
  cases c2 : (sh x.Op).row
  ·have := h1 c2
   rw [c2] at h2 h4
   simp at h2 h4
   omega
  ·rw [c2] at h2 h4
   simp at h2 h4
   omega
theorem tree_rd (hR : RP code l) (hl : l.length ≤ 16) {i : Nat} (hi : i < code.length) {T : Arr Int 400} {ans : List Int} {acts : List api_Act} (ha : acts.length ≤ 100000) :
 match tstep (gi code i) T ans acts with
 | .fin st ac => tree_Run.l1 code (T, ans, acts, (i : Int)) = some (.inr (st, ac))
 | .nxt j T' ans' ac => tree_Run.l1 code (T, ans, acts, (i : Int)) = some (.inl (T', ans', ac, if j = true then (gi code i).To else (i : Int) + 1)) := by
 have hP := (hR.p i hi).1
 have hn := hR.n
 have hb := pl_b hP hl
 obtain ⟨r, hr, ht⟩ := do_eq (i := (i : Int)) (T := T) (ans := ans) hP.op ha (a4_of hP.a) (a4_of hP.b) (a4_of hP.d) (by omega) hb.1 hb.2
 have hok := tstep_ok hP.op T ans acts
 generalize tstep (gi code i) T ans acts = z at ht hok
 unfold tree_Run.l1
 dsimp only
 rw [if_pos (by omega), letC, hr, Option.bind_some]
 cases z with
 | fin st ac =>
  have ht : r.2.2.1 = ac ∧ r.2.2.2.2 = st := ht
  dsimp only
  rw [if_neg (by rw [ht.2]; exact hok.1), ht.1, ht.2]
 | nxt j T' ans' ac =>
  have ht : r = (T', ans', ac, (if j = true then (gi code i).To else (i : Int) + 1), 0) := ht
  subst ht
  rfl
theorem tree_end (hR : RP code l) (hl : l.length ≤ 16) : ∀ (m i : Nat), code.length ≤ i + m → i < code.length → ∀ (T : Arr Int 400) (ans : List Int) (acts : List api_Act), acts.length ≤ i → ∃ st r, loop (tree_Run.l1 code) (T, ans, acts, (i : Int)) = some (st, acts ++ r)
 | 0, i, hm, hi, T, ans, acts, ha => by omega
 | m + 1, i, hm, hi, T, ans, acts, ha => by
  have hn := hR.n
  have h1 := tree_rd hR hl hi (T := T) (ans := ans) (acts := acts) (by omega)
  have hok := tstep_ok (hR.p i hi).1.op T ans acts
  have hto := (hR.p i hi).1.to1
  generalize tstep (gi code i) T ans acts = z at h1 hok
  cases z with
  | fin st ac => exact ⟨st, [], by rw [loop_out h1, hok.2, List.append_nil]⟩
  | nxt j T' ans' ac =>
   obtain ⟨k1, k2, r, rfl, hr⟩ := hok
   have hlen : (acts ++ r).length ≤ i + 1 := by rw [List.length_append]; omega
   have hz := hR.z
   have h18 : i + 1 < code.length := by
    by_cases c : i + 1 < code.length
    ·exact c
    ·rw [show ((code.length : Int) - 1) = (i : Int) by omega] at hz
     exact absurd hz k2
   cases j with
   | true =>
    have ⟨t1, t2⟩ := hto (k1 rfl)
    obtain ⟨st, r', e⟩ := tree_end hR hl m (gi code i).To.toNat (by omega) (by omega) T' ans' (acts ++ r) (by omega)
    refine ⟨st, r ++ r', ?_⟩
    rw [loop_in h1, if_pos rfl, show (gi code i).To = (((gi code i).To.toNat : Nat) : Int) by omega, e, List.append_assoc]
   | false =>
    obtain ⟨st, r', e⟩ := tree_end hR hl m (i + 1) (by omega) h18 T' ans' (acts ++ r) hlen
    refine ⟨st, r ++ r', ?_⟩
    rw [loop_in h1, if_neg (by decide), show (i : Int) + 1 = ((i + 1 : Nat) : Int) by omega, e, List.append_assoc]
end

@[reducible] def I64 (n : Int) : Prop := -9223372036854775808 ≤ n ∧ n < 9223372036854775808
def TIn (T : Arr Int 400) : Prop := ∀ t : Int, A4 t → I64 (T.g t)
theorem TIn.s {T : Arr Int 400} (h : TIn T) {d v : Int} (hd : A4 d) (hv : I64 v) : TIn (T.s d v) := fun t ht => by
 rw [arr_gs _ hd ht]
 split
 ·exact hv
 ·exact h t ht
def TOk2 (ans : List Int) : TR → Prop
 | .fin _ _ => True
 | .nxt _ T' ans' _ => TIn T' ∧ ∀ n ∈ ans', n ∈ ans
theorem t2_nxt {ans ans' : List Int} {j : Bool} {T : Arr Int 400} {ac : List api_Act} (h : TIn T) (k : ∀ n ∈ ans', n ∈ ans) : TOk2 ans (.nxt j T ans' ac) := ⟨h, k⟩
theorem t2_fin {ans : List Int} {st : Int} {ac : List api_Act} : TOk2 ans (.fin st ac) := trivial
theorem t2_red {ans : List Int} {acts : List api_Act} {g : Int → List Int → TR} (h : ∀ n r, n ∈ ans → (∀ m ∈ r, m ∈ ans) → TOk2 ans (g n r)) : TOk2 ans (tred ans acts g) := by
 unfold tred
 cases ans with
 | nil => exact t2_fin
 | cons n r => exact h n r (List.mem_cons_self ..) fun m hm => List.mem_cons_of_mem _ hm
theorem wr_in (n : Int) : I64 (wr .i64 n) := by
 show I64 (wrap64 n)
 unfold wrap64
 exact ⟨by omega, by omega⟩
theorem tstep_ok2 {x : api_Ins} (hx : isOp x.Op = true) {T : Arr Int 400} {ans : List Int} {acts : List api_Act} (hT : TIn T) (ha : ∀ n ∈ ans, I64 n) (hK : I64 x.K) (hD : A4 x.D) : TOk2 ans (tstep x T ans acts) := by
 rcases isOp_c hx with c | c | c | c | c | c | c | c | c | c | c | c | c | c | c | c | c | c
 all_goals
  simp only [tstep, c, Int.reduceEq, ↓reduceIte]
  repeat' with_reducible first
   | exact t2_fin
   | refine t2_red fun n r hn hr => ?_
   | exact t2_nxt hT (fun n hn => hn)
   | exact t2_nxt hT (by assumption)
   | exact t2_nxt (hT.s hD (wr_in _)) (fun n hn => hn)
   | exact t2_nxt (hT.s hD hK) (fun n hn => hn)
   | exact t2_nxt (hT.s hD (ha _ (by assumption))) (by assumption)
   | split
section
variable {code : List api_Ins} {l : List api_Loc} {regs : Int}
def Lv (code : List api_Ins) (regs : Int) (i : Nat) (s : M) (T : Arr Int 400) : Prop := ∀ j : Nat, Anc code i j → mks (gi code j) = true → (i : Int) ≤ (spn code j).to_ → hv (hmo code regs) s (gi code j).D = T.g (gi code j).D
theorem Lv.use {i : Nat} {s : M} {T : Arr Int 400} (h : Lv code regs i s T) (hi : i < code.length) {t : Int} (hu : UA code i t) (hn : nds (gi code i) t = true) : hv (hmo code regs) s t = T.g t := by
 obtain ⟨k, hk, hm, rfl⟩ := hu
 refine h k hk hm ?_
 exact (su_p code (gi code k).D k code.length).2.2.2.2.2.2 i hi hn
theorem Lv.next {i i' : Nat} {s s' : M} {T : Arr Int 400} {v : Int} (h : Lv code regs i s T) (hR : RP code l) (hr : 1 ≤ regs ∧ regs ≤ 8) (hI : HI code regs code.length (hs code regs code.length)) (hi : i < code.length) (hi' : i' < code.length) (hP : isP code i i' = true) (hlt : i < i')
 (hN : Nx (dq (hmo code regs) (gi code i)) (dk (hmo code regs) (gi code i)) s s') (hvv : (sh (gi code i).Op).d = true → hv (hmo code regs) s' (gi code i).D = v) : Lv code regs i' s' (if (sh (gi code i).Op).d = true then T.s (gi code i).D v else T) := fun j hj hm hto => by
 have hg := hR.good
 have hp : preds code i' = [i] := by
  have h1 := (hR.w i' hi').1 (by omega)
  have h2 : i ∈ preds code i' := List.mem_filter.2 ⟨List.mem_range.2 hlt, hP⟩
  match hq : preds code i' with
  | [] => rw [hq] at h2; cases h2
  | [k] => rw [hq] at h2; rw [List.mem_singleton.1 h2]
  | _ :: _ :: _ => rw [hq] at h1; simp at h1
 have hj' := (Anc.iff hp j).1 hj
 by_cases e : i = j
 ·subst e
  have hd : (sh (gi code i).Op).d = true := by rw [← mks_sh]; exact hm
  have hA : A4 (gi code i).D := a4_of (hR.p i hi).1.d
  rw [if_pos hd, hvv hd, arr_self _ hA]
 ·have hji : Anc code i j := hj'.resolve_left e
  have hlt' := hji.lt
  have h1 := h j hji hm (by omega)
  have hAj : A4 (gi code j).D := a4_of (hR.p j (by omega)).1.d
  have hjB := made_HB hr hR.n.2 hg hI (by omega : j < code.length) hm
  have hhj := hjB.h
  have key : hv (hmo code regs) s' (gi code j).D = hv (hmo code regs) s (gi code j).D := by
   unfold hv
   by_cases c : 0 ≤ (gi (hmo code regs) (gi code j).D).Reg
   ·rw [if_pos c, if_pos c]
    refine hN.r _ (by omega) (by omega) fun q => ?_
    unfold dq hrg at q
    by_cases hd : (sh (gi code i).Op).d = true
    ·rw [if_pos hd] at q
     have hmi : mks (gi code i) = true := by rw [mks_sh]; exact hd
     by_cases c2 : 0 ≤ (gi (hmo code regs) (gi code i).D).Reg
     ·rw [if_pos c2] at q
      have := hI.a.ap j i hlt' hi hm hmi (by unfold reg; rw [(spn_t code j).1]; exact c) (by unfold reg; rw [(spn_t code j).1, (spn_t code i).1]; exact (show (gi (hmo code regs) (gi code j).D).Reg = (gi (hmo code regs) (gi code i).D).Reg by omega))
      omega
     ·rw [if_neg c2] at q; omega
    ·rw [if_neg hd] at q; omega
   ·rw [if_neg c, if_neg c]
    refine hN.st _ (by omega) (by omega) fun q => ?_
    unfold dk hsl at q
    by_cases hd : (sh (gi code i).Op).d = true
    ·rw [if_pos hd] at q
     have hmi : mks (gi code i) = true := by rw [mks_sh]; exact hd
     by_cases c2 : 0 ≤ (gi (hmo code regs) (gi code i).D).Reg
     ·rw [if_pos c2] at q; omega
     ·rw [if_neg c2] at q
      have hiB := made_HB hr hR.n.2 hg hI hi hmi
      have := hI.o.uq (gi code j).D (gi code i).D hjB.r.1 hjB.r.2 hiB.r.1 hiB.r.2 (show (gi (hmo code regs) (gi code j).D).Reg < 0 by omega) (show (gi (hmo code regs) (gi code i).D).Reg < 0 by omega) q (show 0 ≤ (gi (hmo code regs) (gi code j).D).Slot by omega)
      exact (hR.p i hi).2 hmi j hlt' hm this
    ·rw [if_neg hd] at q; omega
  rw [key, h1]
  by_cases hd : (sh (gi code i).Op).d = true
  ·have hmi : mks (gi code i) = true := by rw [mks_sh]; exact hd
   rw [if_pos hd, arr_ne _ (a4_of (hR.p i hi).1.d) hAj ((hR.p i hi).2 hmi j hlt' hm)]
  ·rw [if_neg hd]
structure Kp (code : List api_Ins) (l : List api_Loc) (regs : Int) (ans0 : List Int) (i : Nat) (s : M) (T : Arr Int 400) (acts : List api_Act) : Prop where
 ar : AR l (s.out.map sk) acts
 len : acts.length ≤ i
 tin : TIn T
 an : ∀ n ∈ s.ans, I64 n
 lv : Lv code regs i s T
 lp : loop (tree_Run.l1 code) (((Arr.r 400 (0 : Int) : Arr Int 400), ans0, ([] : List api_Act), 0) : (Arr Int 400) × (List Int) × (List api_Act) × Int) = loop (tree_Run.l1 code) (T, s.ans, acts, (i : Int))
def RunQ (code : List api_Ins) (l : List api_Loc) (ans0 : List Int) (r : List api_Event × Int) : Prop :=
 DL l r.1 ∧ ∀ st ac, loop (tree_Run.l1 code) (((Arr.r 400 (0 : Int) : Arr Int 400), ans0, ([] : List api_Act), 0) : (Arr Int 400) × (List Int) × (List api_Act) × Int) = some (st, ac) → if r.2 = 5 then Beg (actsTo r.1 l r.1.length) ac else r.2 = st ∧ actsTo r.1 l r.1.length = ac
theorem runs_R {dom : Int} {ans : List Int} (hR : RP code l) (hr : 1 ≤ regs ∧ regs ≤ 8) (hI : HI code regs code.length (hs code regs code.length)) (hp : ∀ i : Nat, i < code.length → PB (hmo code regs) (gi code i)) (hdom : 0 ≤ dom ∧ dom < 3) (hl : l.length ≤ 16) (ha : ∀ n ∈ ans, I64 n) :
 ∃ r, thread_Do_2.m (emo code regs) (l.length : Int) dom ans = some (.inr r) ∧ RunQ code l ans r := by
 refine do_R (fun i s => ∃ T acts, Kp code l regs ans i s T acts) hR hp hdom hl ha (fun s e1 e2 => ⟨_, [], by rw [e2]; exact AR.nil, by simp, fun t ht => ?_, by rw [e1]; exact ha, fun j hj => ?_, by rw [e1]; rfl⟩) fun i s hi hJ hO => ?_
 ·show I64 (gi (List.replicate 400 (0 : Int)) t)
  rw [gi_replicate ht.1 ht.2]; exact ⟨by omega, by omega⟩
 ·have := hj.lt; omega
 obtain ⟨T, acts, hK⟩ := hJ
 have hPP := (hR.p i hi).1
 have hW := hR.w i hi
 have hn := hR.n
 have hA : (sh (gi code i).Op).a = true → hv (hmo code regs) s (gi code i).A = T.g (gi code i).A := fun c => hK.lv.use hi (hW.2.1 c) (by rw [nds_sh, c]; simp)
 have hB : (sh (gi code i).Op).b = true → hv (hmo code regs) s (gi code i).B = T.g (gi code i).B := fun c => hK.lv.use hi (hW.2.2 c) (by rw [nds_sh, c]; simp)
 have hsim := sim (l := l) (T := T) (o := s.out.map sk) (acts := acts) (ans := s.ans) hPP.op (pl_loc hPP) hA hB (hK.tin _ (a4_of hPP.a)) hK.ar
 have hrd := tree_rd hR hl hi (T := T) (ans := s.ans) (acts := acts) (by have := hK.len; omega)
 have hok := tstep_ok hPP.op T s.ans acts
 have hok2 := tstep_ok2 (acts := acts) hPP.op hK.tin hK.an (hp i hi).k (a4_of hPP.d)
 have hpok := pstep_ok hPP.op (hv (hmo code regs) s (gi code i).A) (hv (hmo code regs) s (gi code i).B) s.ans (s.out.map sk)
 generalize pstep (gi code i) (hv (hmo code regs) s (gi code i).A) (hv (hmo code regs) s (gi code i).B) s.ans (s.out.map sk) = zp at hsim hpok
 cases zp with
 | fin st o =>
  intro out ho hd
  refine ⟨hd, fun st' ac' hlp => ?_⟩
  rw [hK.lp] at hlp
  dsimp only
  have hsim : if st = 5 then ∃ ap, AR l o ap ∧ Beg ap (tac (tstep (gi code i) T s.ans acts)) else ∃ ac, tstep (gi code i) T s.ans acts = .fin st ac ∧ AR l o ac := hsim
  by_cases c5 : st = 5
  ·rw [if_pos c5] at hsim ⊢
   obtain ⟨ap, h1, h2⟩ := hsim
   rw [h1 out ho]
   -- the tree goes on from what this piece does
   generalize tstep (gi code i) T s.ans acts = z at h2 hrd hok
   cases z with
   | fin st2 ac2 =>
    rw [loop_out hrd] at hlp
    cases hlp
    exact h2
   | nxt j T' ans' ac2 =>
    obtain ⟨k1, k2, r, rfl, hr1⟩ := hok
    have hlen := hK.len
    have hz := hR.z
    have h18 : i + 1 < code.length := by
     by_cases c : i + 1 < code.length
     ·exact c
     ·rw [show ((code.length : Int) - 1) = (i : Int) by omega] at hz
      exact absurd hz k2
    have hl2 : (acts ++ r).length ≤ i + 1 := by rw [List.length_append]; omega
    rw [loop_in hrd] at hlp
    cases j with
    | true =>
     have ⟨t1, t2⟩ := hPP.to1 (k1 rfl)
     obtain ⟨st3, r3, e3⟩ := tree_end hR hl code.length (gi code i).To.toNat (by omega) (by omega) T' ans' (acts ++ r) (by omega)
     rw [if_pos rfl, show (gi code i).To = (((gi code i).To.toNat : Nat) : Int) by omega, e3] at hlp
     cases hlp
     exact h2.app _
    | false =>
     obtain ⟨st3, r3, e3⟩ := tree_end hR hl code.length (i + 1) (by omega) h18 T' ans' (acts ++ r) hl2
     rw [if_neg (by decide), show (i : Int) + 1 = ((i + 1 : Nat) : Int) by omega, e3] at hlp
     cases hlp
     exact h2.app _
  ·rw [if_neg c5] at hsim ⊢
   obtain ⟨ac, e, h1⟩ := hsim
   rw [e] at hrd
   rw [loop_out hrd] at hlp
   cases hlp
   exact ⟨rfl, h1 out ho⟩
 | nxt j v ans' o =>
  intro s' hO' hN hv' ha' ho'
  obtain ⟨ac, e, h1⟩ := (hsim : ∃ ac, tstep (gi code i) T s.ans acts = .nxt j (if (sh (gi code i).Op).d = true then T.s (gi code i).D v else T) ans' ac ∧ AR l o ac)
  rw [e] at hrd hok hok2
  obtain ⟨k1, k2, r, rfl, hr1⟩ := hok
  have hlen := hK.len
  have hz := hR.z
  have h18 : i + 1 < code.length := by
   by_cases c : i + 1 < code.length
   ·exact c
   ·rw [show ((code.length : Int) - 1) = (i : Int) by omega] at hz
    exact absurd hz k2
  have hl2 : (acts ++ r).length ≤ i + 1 := by rw [List.length_append]; omega
  have han : ∀ n ∈ s'.ans, I64 n := fun n hn => hK.an n (hok2.2 n (by rw [← ha']; exact hn))
  cases j with
  | true =>
   have ⟨t1, t2⟩ := hPP.to1 (k1 rfl)
   dsimp only at hrd
   rw [if_pos (show true = true from rfl)] at hrd ⊢
   have hto : (gi code i).To = (((gi code i).To.toNat : Nat) : Int) := by omega
   have hiP : isP code i (gi code i).To.toNat = true := by
    unfold isP
    rw [show (sh (gi code i).Op).to_ = true from k1 rfl, ← hto]; simp
   exact ⟨_, acts ++ r, by rw [ho']; exact h1, by omega, hok2.1, han, hK.lv.next hR hr hI hi (by omega) hiP (by omega) hN hv', by rw [hK.lp, loop_in hrd, ha', ← hto]⟩
  | false =>
   dsimp only at hrd
   rw [if_neg (show ¬ (false = true) by decide)] at hrd ⊢
   have hiP : isP code i (i + 1) = true := by
    unfold isP
    rw [decide_eq_true (show i + 1 = i + 1 ∧ (gi code (i : Int)).Op ≠ 18 from ⟨rfl, k2⟩)]; rfl
   exact ⟨_, acts ++ r, by rw [ho']; exact h1, hl2, hok2.1, han, hK.lv.next hR hr hI hi h18 hiP (by omega) hN hv', by rw [hK.lp, loop_in hrd, ha']; rfl⟩
end

theorem same_acts (a : List api_Act) (h : a.length ≤ 100) : selvageref08_Same_2.m a a = some true := by
 unfold selvageref08_Same_2.m
 rw [if_pos rfl]
 have := loop_st (f := selvageref08_Same_2.l1 a a) a.length (fun i => (i : Int)) (.inr ()) (fun i hi => ?_) (by unfold selvageref08_Same_2.l1; rw [if_neg (by omega)])
 ·rw [show (0 : Int) = ((0 : Nat) : Int) from rfl, this]; rfl
 ·unfold selvageref08_Same_2.l1
  rw [if_pos (by omega), if_pos (by omega)]
  simp only [letC]
  rw [if_pos (by omega), if_pos (by simp), wr64 (by omega)]
  rfl
theorem begins_eq {a b : List api_Act} (hl : a.length ≤ 100) (h : Beg a b) : selvagelaw17_begins.m a b = some true := by
 obtain ⟨h0, h1⟩ := h
 unfold selvagelaw17_begins.m
 rw [if_neg (by omega)]
 have := loop_st (f := selvagelaw17_begins.l1 a b) a.length (fun i => (i : Int)) (.inr ()) (fun i hi => ?_) (by unfold selvagelaw17_begins.l1; rw [if_neg (by omega)])
 ·rw [show (0 : Int) = ((0 : Nat) : Int) from rfl, this]; rfl
 ·unfold selvagelaw17_begins.l1
  have g1 : 0 ≤ (i : Int) ∧ (i : Int) < (a.length : Int) := by omega
  have g2 : 0 ≤ (i : Int) ∧ (i : Int) < (b.length : Int) := by omega
  have w1 : wr .i64 ((a.length : Int) - 1) = (a.length : Int) - 1 := wr64 (by omega)
  have w2 : wr .i64 ((i : Int) + 1) = ((i + 1 : Nat) : Int) := wr64 (by omega)
  rw [if_pos g1.2]
  simp only [letC, if_pos g1, if_pos g2, w1, w2]
  rcases h1 i hi with e | ⟨e1, k1, k2, k3, k4⟩
  ·rw [e]
   have key : ∀ o : Bool, (if ((gi b (i : Int)).Kind == (gi b (i : Int)).Kind && ((gi b (i : Int)).Loc == (gi b (i : Int)).Loc && ((gi b (i : Int)).Old == (gi b (i : Int)).Old && ((gi b (i : Int)).New == (gi b (i : Int)).New && true)))) = true then (some (Sum.inl ((i + 1 : Nat) : Int)) : Option (Int ⊕ (Unit ⊕ Unit))) else if o = true then some (Sum.inl ((i + 1 : Nat) : Int)) else some (Sum.inr (Sum.inl ()))) = some (Sum.inl ((i + 1 : Nat) : Int)) := fun o => by rw [if_pos (by simp)]
   have fin : ∀ E : Option Bool, (∃ o, E = some o) → (E.bind fun o => (if ((gi b (i : Int)).Kind == (gi b (i : Int)).Kind && ((gi b (i : Int)).Loc == (gi b (i : Int)).Loc && ((gi b (i : Int)).Old == (gi b (i : Int)).Old && ((gi b (i : Int)).New == (gi b (i : Int)).New && true)))) = true then (some (Sum.inl ((i + 1 : Nat) : Int)) : Option (Int ⊕ (Unit ⊕ Unit))) else if o = true then some (Sum.inl ((i + 1 : Nat) : Int)) else some (Sum.inr (Sum.inl ())))) = some (Sum.inl ((i + 1 : Nat) : Int)) := by
    rintro _ ⟨o, rfl⟩; exact key o
   apply fin
   split
   ·split
    ·split
     ·split
      ·exact ⟨_, rfl⟩
      ·exact ⟨_, rfl⟩
     ·exact ⟨_, rfl⟩
    ·exact ⟨_, rfl⟩
   ·exact ⟨_, rfl⟩
  ·have e2 : (i : Int) = (a.length : Int) - 1 := by clear w1 w2; omega
   rw [if_pos e2, if_pos k1, if_pos k2, if_pos k3, Option.bind_some, decide_eq_true k4]
   simp only [↓reduceIte, ite_self]
theorem pureEmitRuns (a : List api_Ins) (l : List api_Loc) (regs dom : Int) (ans : List Int) {p q r t u : Prop} (w0 : p ∧ ∀ x ∈ a, InsW x) (w1 : q) (w2 : r) (w3 : t) (w4 : u ∧ ∀ x ∈ ans, (fun n => (Lit.int .i64 n).wf = true) x) : selvagelaw17_EmitRuns.m a l regs dom ans = some true := by
 suffices h : Tot (fun b => b = true) (selvagelaw17_EmitRuns.m a l regs dom ans) by
  obtain ⟨b, e, rfl⟩ := h; exact e
 unfold selvagelaw17_EmitRuns.m
 refine .bindE selvagelaw17_awake_eq (.tt rfl ?_)
 refine .bind (R := fun b => b = false → (a.length ≤ 410 ∧ l.length ≤ 16) ∧ 0 ≤ dom ∧ dom < 3) (.let fun v hv => .ite (fun h => .ite (fun _ => .some fun e => by cases e) fun h2 => .some fun e => ?_) fun _ => .some fun e => by cases e) fun b hb => .ite (fun _ => .some rfl) fun hbf => ?_
 ·have := of_decide_eq_false e
  rw [hv] at h
  unfold selvagelaw17_small.m at h
  refine ⟨?_, by omega⟩
  split at h
  ·split at h
   ·omega
   ·cases h
  ·cases h
 obtain ⟨⟨ha, hl⟩, hdom⟩ := hb (by simpa using hbf)
 rw [emit2 a l regs 0]
 by_cases hn : a.length ≤ 400
 ·rcases emit_R (code := a) (l := l) (regs := regs) hn hl (InsW.ks w0.2) 0 with ⟨e, he, h1, h2⟩ | ⟨hR, hr, hi, hp, h1, h2⟩
  ·exact .bindE h2 (.ff (by omega) (.some (by simp)))
  ·obtain ⟨r, hr1, hd, hr2⟩ := runs_R (ans := ans) hR hr hi hp hdom hl (fun n hn => wf_in (w4.2 n hn))
   have h64 := hd.len
   obtain ⟨b, hb1, hb2⟩ := tree_right a l hn hl
   have hbt : b = true := hb2.2 hR
   subst hbt
   obtain ⟨st, ac, hlp⟩ := tree_end hR hl a.length 0 (by omega) (by have := hR.n; omega) (Arr.r 400 (0 : Int)) ans [] (by simp)
   rw [List.nil_append] at hlp
   have hq := hr2 st ac hlp
   have hrun : tree_Run.m a l ans = some (.inl (ac, st)) := by
    unfold tree_Run.m
    rw [hb1, Option.bind_some, if_pos rfl]
    rw [show loop (tree_Run.l1 a) (((Arr.r 400 (0 : Int) : Arr Int 400), ans, ([] : List api_Act), 0) : (Arr Int 400) × (List Int) × (List api_Act) × Int) = some (st, ac) from hlp]; rfl
   refine .bindE h2 (.bindE hr1 (.bindE (acts_eq (by omega)) (.bindE hrun ?_)))
   have hal := actsTo_len r.1 l r.1.length
   by_cases c5 : r.2 = 5
   ·rw [if_pos c5] at hq
    exact .tt c5 (.bindE (begins_eq (by omega) hq) (.some rfl))
   ·rw [if_neg c5] at hq
    refine .ff c5 (.bindE (y := true) ?_ (.some rfl))
    unfold selvageref08_SameTrace.m
    dsimp only
    rw [if_pos hq.1, hq.2, same_acts ac (by rw [← hq.2]; omega)]
    rfl
 ·exact .bindE (emit_long (by omega) 0).2 (.ff (by decide) (.some (by simp)))
end Go.Proofs.Ytbhekpcimmaijaa.W
