/- ThreadWords: words do what the instructions do that they are; no condition. -/
import Derived.Test.YtcnchjlomcafeaaRows
import Derived.Test.YtcnchjlomcafeaaOpen
import Derived.Test.YtcnchjlomcafeaaPWords
import Derived.WalkKit
import Derived.ProofKit
import Derived.OpenShut
import Derived.ShutString
import Derived.ChangeOld
import Derived.Below
import Derived.SizedLaws
set_option linter.unusedVariables false
set_option linter.unusedSimpArgs false
namespace Go.Proofs.Ytcnchjlomcafeaa.threadWords
open Go.ChangeShapes Go.WideShapes Go.ChangeAt Go.RowKit Go.Proofs.Ytcnchjlomcafeaa.B Go.Proofs.Ytcnchjlomcafeaa.W
theorem own : ownKnob Try.prog.godebug = none := by kernel_rfl
theorem laidOut : laidOutB Try.prog = true := by kernel_rfl
set_option maxRecDepth 100000 in
theorem lifted (os : Os) (started : os.Started) (H : Type) (enc : TypeId × Value → H) :
    ReturnsInHanded {} Try.checked os 8 .any (Rows.threadWordsSpec.pre6 enc Try.prog Try.f8 Rows.threadWordsRow.domain false) (Rows.threadWordsSpec.post enc Try.prog Try.f8 false true false false) := by
  refine returnsInHanded_of_change_sized (C := Try.checked) own started (by kernel_rfl) Try.func8
    (ChangeSpec.witness6 (enc := enc) (C := Try.checked) false ⟨#[], #[.slice none 0 0, .int .i64 0, .int .i64 0, .slice none 0 0], []⟩ 8 (by kernel_rfl) (by kernel_rfl) (by kernel_rfl) (by kernel_rfl)) ?_
  intro W base args ds gs before hval0 hW hcnd hsz0 _
  have hsz : (DataW.weightsEach Try.prog (Try.f8.params.toList ++ Rows.threadWordsSpec.plain.varTypes Try.prog) (ds ++ gs)).all (· ≤ reachBytes) = true := hsz0
  have hval : ∀ (j : Nat) t v, Try.f8.params[j]? = some t → args[j]? = some v → Value.okWide Try.prog W .any base t v := hval0
  have hW' := hW
  obtain ⟨p, q, hA0, hV, rfl, hfz, hnd⟩ := hW
  have hA : DataW.TrodAll enc Try.prog W 0 (fun _ => true) true Try.f8.params.toList args.toList ds p := hA0
  rw [Try.params8] at hA hval hsz
  obtain ⟨v0, vs0, d0, ds0, p0, q0, hargs, rfl, rfl, h0, r0⟩ := trodAll_cons hA
  obtain ⟨v1, vs1, d1, ds1, p1, q1, rfl, rfl, rfl, h1, r1⟩ := trodAll_cons r0
  obtain ⟨v2, vs2, d2, ds2, p2, q2, rfl, rfl, rfl, h2, r2⟩ := trodAll_cons r1
  obtain ⟨v3, vs3, d3, ds3, p3, q3, rfl, rfl, rfl, h3, r3⟩ := trodAll_cons r2
  obtain ⟨rfl, rfl, rfl⟩ := trodAll_nil r3
  obtain rfl : args = #[v0, v1, v2, v3] := by cases args; simp_all
  obtain ⟨rfl, rfl⟩ := trodVars_none hV
  have k0 := h0
  have lt0 := trod_lt' k0
  obtain ⟨a0, e0, w0⟩ := open_arg (j := 0) (opSl (opInt Try.underlying47) Try.underlying42 (by kernel_rfl) (of_decide_eq_true (by kernel_rfl))) h0 hsz rfl rfl
  obtain ⟨x0, len0, cap0, rfl⟩ := okWide_slice Try.underlying42 (hval 0 42 v0 rfl rfl)
  obtain ⟨A0, c0, e0, y0⟩ := e0
  obtain ⟨rfl, rfl, rfl⟩ : x0 = A0 ∧ len0 = a0.length ∧ cap0 = c0 := by have := arg_one e0 rfl; injection this with z1 z2 z3; exact ⟨z1, z2, z3⟩
  have k1 := h1
  have lt1 := trod_lt' k1
  obtain ⟨a1, e1, w1⟩ := open_arg (j := 1) (opInt Try.underlying3) h1 hsz rfl rfl
  obtain ⟨b1, rfl⟩ := okWide_int Try.underlying3 (hval 1 3 v1 rfl rfl)
  obtain rfl : b1 = a1 := by have := arg_one e1 rfl; injection this
  have k2 := h2
  have lt2 := trod_lt' k2
  obtain ⟨a2, e2, w2⟩ := open_arg (j := 2) (opInt Try.underlying3) h2 hsz rfl rfl
  obtain ⟨b2, rfl⟩ := okWide_int Try.underlying3 (hval 2 3 v2 rfl rfl)
  obtain rfl : b2 = a2 := by have := arg_one e2 rfl; injection this
  have k3 := h3
  have lt3 := trod_lt' k3
  obtain ⟨a3, e3, w3⟩ := open_arg (j := 3) (opSl (opInt Try.underlying2) Try.underlying23 (by kernel_rfl) (of_decide_eq_true (by kernel_rfl))) h3 hsz rfl rfl
  obtain ⟨x3, len3, cap3, rfl⟩ := okWide_slice Try.underlying23 (hval 3 23 v3 rfl rfl)
  obtain ⟨A3, c3, e3, y3⟩ := e3
  obtain ⟨rfl, rfl, rfl⟩ : x3 = A3 ∧ len3 = a3.length ∧ cap3 = c3 := by have := arg_one e3 rfl; injection this with z1 z2 z3; exact ⟨z1, z2, z3⟩
  clear hA0 hval0 hsz0
  have hK : selvagelaw16_ThreadWords.m a0 b1 b2 a3 = some true := by first | exact pureThreadWords a0 b1 b2 a3 | exact pureThreadWords a0 b1 b2 a3 w0 w1 w2 w3
  refine Calls.mono (selvagelaw16_ThreadWords.calls a0 x0 cap0 b1 b2 a3 x3 cap3 true W (Blk W) (hAll W) y0 y3 hK) fun e W' ⟨v, he, h_⟩ => ?_
  obtain ⟨I_, hv, fz_, af⟩ := h_
  have bel := af.below
  subst hv
  subst he
  exact ⟨_, rfl, _, _, _, [], _, [], hW', trodAll_mk1 (shut_bool Try.underlying4 _), (trodAll_cons_mk (Below.trod laidOut (by kernel_rfl) (of_decide_eq_true (by kernel_rfl)) k0 bel lt0) (trodAll_cons_mk (Below.trod laidOut (by kernel_rfl) (of_decide_eq_true (by kernel_rfl)) k1 bel lt1) (trodAll_cons_mk (Below.trod laidOut (by kernel_rfl) (of_decide_eq_true (by kernel_rfl)) k2 bel lt2) (trodAll_cons_mk (Below.trod laidOut (by kernel_rfl) (of_decide_eq_true (by kernel_rfl)) k3 bel lt3) trodAll_mk0)))), rfl, bel.frame _, fun h => by cases h⟩
theorem over : Rows.threadWordsRow.holds Try.pinned (OpenSpec.ofChange Rows.threadWordsSpec) :=
  OpenClaim.holds_of_wide 8 Try.f8 rfl rfl rfl rfl rfl rfl rfl ⟨rfl, rfl, rfl, rfl, rfl⟩ rfl rfl rfl rfl rfl (by kernel_rfl) Try.func8 (by kernel_rfl)
    (of_decide_eq_true (by kernel_rfl)) (by unfold Func.isWrapper; first | (rw [if_pos (by decide +kernel)]; kernel_rfl) | (rw [if_neg (by decide +kernel)]; exact ⟨rfl, rfl⟩))
    (fun os started H enc _ => lifted os started H enc)
end Go.Proofs.Ytcnchjlomcafeaa.threadWords
namespace Go.Proofs.Ytcnchjlomcafeaa
/-- The row, for the claim. -/
theorem threadWords_holds : Rows.ThreadWordsSaid := threadWords.over
#print axioms threadWords_holds
end Go.Proofs.Ytcnchjlomcafeaa
