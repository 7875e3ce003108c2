/- Chapter 16: what the document reckons. -/
import Derived.Test.YtcnchjlomcafeaaPK
import Derived.Test.YtcnchjlomcafeaaPU
set_option linter.unusedVariables false
set_option linter.unusedSimpArgs false
namespace Go.Proofs.Ytcnchjlomcafeaa.W
open Go Go.RowKit Go.Proofs.Ytcnchjlomcafeaa.B
theorem wrap_i64 (n : Int) : -9223372036854775808 ≤ IntKind.i64.wrap n ∧ IntKind.i64.wrap n < 9223372036854775808 := by
  have : IntKind.i64.wrap n = wrap64 n := by simp only [IntKind.wrap, IntKind.bits, IntKind.signed, wrap64]; simp; split <;> omega
  rw [this]; exact w_in n
theorem or_in (a b : Int) : -9223372036854775808 ≤ bits .or .i64 a b ∧ bits .or .i64 a b < 9223372036854775808 := wrap_i64 _
theorem ww (a b : Int) : wrap64 (wrap64 a + wrap64 b) = wrap64 (a + b) := by unfold wrap64; omega
theorem shl_loop (x : api_Inst) (a : Int) (ha : -9223372036854775808 ≤ a ∧ a < 9223372036854775808) (hi : 0 ≤ x.Imm ∧ x.Imm ≤ 63) :
    loop (selvageref16_state_reckon.l0 x) (a, 0) = some (wrap64 (a * 2 ^ (min (x.Imm % 18446744073709551616).toNat 64))) := by
  have hm : min (x.Imm % 18446744073709551616).toNat 64 = x.Imm.toNat := by omega
  rw [hm]
  refine loop_to _ (fun s : Int × Int => 0 ≤ s.2 ∧ s.2 ≤ x.Imm ∧ s.1 = wrap64 (a * 2 ^ s.2.toNat)) (fun s : Int × Int => (x.Imm - s.2).toNat) ?_ (a, 0) ⟨by simp, by simp only []; omega, by simp only [Int.toNat_zero, Int.pow_zero, Int.mul_one]; rw [w64 ha]⟩
  rintro ⟨m, i⟩ ⟨h0, h1, h2⟩
  simp only at h0 h1 h2
  unfold selvageref16_state_reckon.l0
  simp only []
  by_cases h : i < x.Imm
  · left
    rw [if_pos (by simpa using h)]
    refine ⟨(wrap64 (m + m), i + 1), by rw [w64 (show -9223372036854775808 ≤ i + 1 ∧ i + 1 < 9223372036854775808 by omega)], ⟨by simp only []; omega, by simp only []; omega, ?_⟩, by simp only []; omega⟩
    simp only []
    rw [h2, ww, show (i + 1).toNat = i.toNat + 1 by omega, Int.pow_succ, ← Int.mul_assoc]
    congr 1; omega
  · right
    rw [if_neg (by simpa using h), h2, show i = x.Imm by omega]; rfl
theorem sign_lt (a b : Int) : decide (selvageref16_sign.m a b < 0) = decide (a < b) ∧ decide (selvageref16_sign.m a b = 0) = decide (a = b) := by
  unfold selvageref16_sign.m
  by_cases h : a < b
  · rw [if_pos (by simpa using h)]; simp [h]; omega
  · rw [if_neg (by simpa using h)]
    by_cases h2 : a > b
    · rw [if_pos (by simpa using h2)]; simp; omega
    · rw [if_neg (by simpa using h2)]; simp; omega
theorem setR_rel {t : Thr} {s : St} (v : Rel t s) {i : Int} (hi : 0 ≤ i ∧ i < 32) {c : thread_cell} {d : selvageref16_Cell} (hc : CR c d) : Rel (setR t i c) { s with regs := vp s.regs i d } := { v with regs := cr_regs v hi hc }
set_option maxHeartbeats 1000000 in
theorem reckon_eq {t : Thr} {s : St} {x : api_Inst} (v : Rel t s) (hx : OkI x) (ho : x.Op < 10 ∨ x.Op = 16 ∨ x.Op = 17) :
    ∃ s' u, selvageref16_state_reckon.m s x = some s' ∧ cstep t x = .inr (1, u) ∧ Rel u s' := by
  unfold selvageref16_state_reckon.m
  have ca := v.regs _ hx.A.1 hx.A.2
  have cb := v.regs _ hx.B.1 hx.B.2
  have hz : ∃ z : selvageref16_Cell, CR (zof t x) z ∧ (if (decide (x.A = 0)) = true then (some (0, ([] : List Int))) else (some ((vg s.regs x.A).N, (vg s.regs x.A).Hang)) : Option (Int × (List Int))) = some (z.N, z.Hang) := by
    unfold zof
    by_cases h : x.A = 0
    · exact ⟨⟨0, []⟩, by rw [if_pos h]; exact ⟨rfl, .nil, by decide⟩, by rw [if_pos (by simp [h])]⟩
    · exact ⟨vg s.regs x.A, by rw [if_neg h]; exact ca, by rw [if_neg (by simp [h])]⟩
  obtain ⟨z, cz, ez⟩ := hz
  obtain ⟨r, hr, hh⟩ := join_eq ca.hl cb.hl
  rw [if_pos hx.A, if_pos hx.B, ez, Option.bind_some, hr, Option.bind_some]
  simp only [cz.n, ca.n, cb.n]
  have hop := hx.Op
  have hsh := hx.sh
  unfold cstep
  simp only []
  have hT := hx.T
  by_cases h1 : x.Op = 1
  · rw [if_pos (by simpa using h1), if_pos hT, if_pos h1]; exact ⟨_, _, rfl, rfl, setR_rel v hT ⟨rfl, cz.hl, w_in _⟩⟩
  rw [if_neg (by simpa using h1), if_neg h1]
  by_cases h1 : x.Op = 2
  · rw [if_pos (by simpa using h1), if_pos hT, if_pos h1]; exact ⟨_, _, rfl, rfl, setR_rel v hT ⟨rfl, cz.hl, w_in _⟩⟩
  rw [if_neg (by simpa using h1), if_neg h1]
  by_cases h1 : x.Op = 3
  · rw [if_pos (by simpa using h1), if_pos hT, if_pos h1]; exact ⟨_, _, rfl, rfl, setR_rel v hT ⟨rfl, ca.hl, or_in _ _⟩⟩
  rw [if_neg (by simpa using h1), if_neg h1]
  by_cases h1 : x.Op = 4
  · rw [if_pos (by simpa using h1), if_pos hT, if_pos h1]; exact ⟨_, _, rfl, rfl, setR_rel v hT ⟨rfl, ca.hl, or_in _ _⟩⟩
  rw [if_neg (by simpa using h1), if_neg h1]
  by_cases h1 : x.Op = 5
  · rw [if_pos (by simpa using h1), shl_loop x _ ca.rg (hsh h1), Option.bind_some, if_pos hT, if_pos h1]; exact ⟨_, _, rfl, rfl, setR_rel v hT ⟨rfl, ca.hl, w_in _⟩⟩
  rw [if_neg (by simpa using h1), if_neg h1]
  by_cases h1 : x.Op = 6
  · rw [if_pos (by simpa using h1), if_pos hT, if_pos h1]; exact ⟨_, _, rfl, rfl, setR_rel v hT ⟨rfl, hh, w_in _⟩⟩
  rw [if_neg (by simpa using h1), if_neg h1]
  by_cases h1 : x.Op = 7
  · rw [if_pos (by simpa using h1), if_pos hT, if_pos h1]; exact ⟨_, _, rfl, rfl, setR_rel v hT ⟨rfl, hh, w_in _⟩⟩
  rw [if_neg (by simpa using h1), if_neg h1]
  by_cases h1 : x.Op = 8
  · rw [if_pos (by simpa using h1), if_pos hT, if_pos h1]; exact ⟨_, _, rfl, rfl, setR_rel v hT ⟨rfl, hh, w_in _⟩⟩
  rw [if_neg (by simpa using h1), if_neg h1]
  by_cases h1 : x.Op = 9
  · have e : (if (decide (((vg t.regs x.B).n) = (-1))) = true then (some (wrap64 (0 - ((vg t.regs x.A).n)))) else (if (!decide (((vg t.regs x.B).n) = 0)) = true then (if ((vg t.regs x.B).n) ≠ 0 then (some (wrap64 (Int.tdiv ((vg t.regs x.A).n) ((vg t.regs x.B).n)))) else none) else (some 0)) : Option Int) = some (quo (vg t.regs x.A).n (vg t.regs x.B).n) := by
      unfold quo
      by_cases g1 : (vg t.regs x.B).n = -1
      · rw [if_pos (by simp [g1]), g1, if_neg (by decide)]
        congr 2
        rw [Int.tdiv_neg, Int.tdiv_one]; omega
      · rw [if_neg (by simpa using g1)]
        by_cases g2 : (vg t.regs x.B).n = 0
        · rw [if_neg (by simp [g2]), if_pos g2]
        · rw [if_pos (by simpa using g2), if_pos g2, if_neg g2]
    have hq : -9223372036854775808 ≤ quo (vg t.regs x.A).n (vg t.regs x.B).n ∧ quo (vg t.regs x.A).n (vg t.regs x.B).n < 9223372036854775808 := by
      unfold quo; split
      · decide
      · exact w_in _
    rw [if_pos (by simpa using h1), e, Option.bind_some, if_pos hT, if_pos h1]; exact ⟨_, _, rfl, rfl, setR_rel v hT ⟨rfl, hh, hq⟩⟩
  rw [if_neg (by simpa using h1), if_neg h1]
  by_cases h1 : x.Op = 16
  · rw [if_pos (by simpa using h1), if_pos h1]
    exact ⟨_, _, rfl, rfl, { v with less := (sign_lt _ _).1.symm, same := (sign_lt _ _).2.symm, held := hh }⟩
  rw [if_neg (by simpa using h1), if_neg h1]
  have h1 : x.Op = 17 := by omega
  · rw [if_pos (by simpa using h1), if_pos h1]
    exact ⟨_, _, rfl, rfl, { v with less := (sign_lt _ _).1.symm, same := (sign_lt _ _).2.symm, held := ca.hl }⟩
theorem taken_eq {t : Thr} {s : St} {x : api_Inst} (v : Rel t s) (ho : x.Op = 18) :
    ∃ s', selvageref16_state_taken.m s x = some (brc t x.T, s') ∧ Rel { t with ctrl := uni t.ctrl t.held } s' := by
  unfold selvageref16_state_taken.m
  obtain ⟨r, hr, hh⟩ := join_eq v.ctrl v.held
  rw [if_neg (by simp [ho]), hr, Option.bind_some]
  have hR : Rel { t with ctrl := uni t.ctrl t.held } { s with ctrl := r } := { v with ctrl := hh }
  refine ⟨_, ?_, hR⟩
  unfold brc
  have e1 := v.less
  have e2 := v.same
  have e3 : decide (s.cmp.N ≥ 0) = !t.less := by rw [e1, ← decide_not]; exact decide_eq_decide.2 (by omega)
  by_cases h0 : x.T = 0
  · rw [if_pos (by simpa using h0), if_pos h0, e1]
  rw [if_neg (by simpa using h0), if_neg h0]
  by_cases h0 : x.T = 1
  · rw [if_pos (by simpa using h0), if_pos h0, e3]
  rw [if_neg (by simpa using h0), if_neg h0]
  by_cases h0 : x.T = 2
  · rw [if_pos (by simpa using h0), if_pos h0, e2]
  rw [if_neg (by simpa using h0), if_neg h0, e2]
end Go.Proofs.Ytcnchjlomcafeaa.W
