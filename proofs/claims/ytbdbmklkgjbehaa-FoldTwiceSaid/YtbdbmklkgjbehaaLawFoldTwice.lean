/- FoldTwice: folded once more code does the same, and has no more pieces: for all code, locations and answers. -/
import Derived.Test.YtbdbmklkgjbehaaRows
import Derived.Test.YtbdbmklkgjbehaaLF
import Derived.Test.YtbdbmklkgjbehaaPA
import Derived.WalkKit
import Derived.ProofKit
import Derived.OpenShut
import Derived.ShutString
import Derived.ChangeOld
import Derived.Below
import Derived.SizedLaws
set_option linter.unusedVariables false
set_option linter.unusedSimpArgs false
namespace Go.Proofs.Ytbdbmklkgjbehaa.foldTwice
open Go.ChangeShapes Go.WideShapes Go.ChangeAt Go.RowKit Go.Proofs.Ytbdbmklkgjbehaa.B Go.Proofs.Ytbdbmklkgjbehaa.X Go.Proofs.Ytbdbmklkgjbehaa.W
theorem own : ownKnob Try.prog.godebug = none := by kernel_rfl
theorem laidOut : laidOutB Try.prog = true := by kernel_rfl
def api_Ins_ok (s : api_Ins) : Prop := (fun n => (Lit.int .i64 n).wf = true) s.Op ∧ (fun n => (Lit.int .i64 n).wf = true) s.D ∧ (fun n => (Lit.int .i64 n).wf = true) s.A ∧ (fun n => (Lit.int .i64 n).wf = true) s.B ∧ (fun n => (Lit.int .i64 n).wf = true) s.Loc ∧ (fun n => (Lit.int .i64 n).wf = true) s.Len ∧ (fun n => (Lit.int .i64 n).wf = true) s.K ∧ (fun n => (Lit.int .i64 n).wf = true) s.To
theorem api_Ins_op : OpA Try.prog api_Ins.c 8 api_Ins_ok 39 := by
  intro H enc w base spare held fuel cs x h hw
  obtain ⟨xs, n, _, rfl, hl, hlen, hf⟩ := DataW.trod_struct Try.underlying39 h
  obtain ⟨y0, hy0, hz0⟩ := fld hlen hf 0 _ rfl
  obtain ⟨a0, e0, l0, o0, k0⟩ := (opIntA (k := .i64) Try.underlying3) H enc w base spare held n _ _ hy0 (fldw Try.underlying39 hw rfl hz0)
  obtain ⟨y1, hy1, hz1⟩ := fld hlen hf 1 _ rfl
  obtain ⟨a1, e1, l1, o1, k1⟩ := (opIntA (k := .i64) Try.underlying3) H enc w base spare held n _ _ hy1 (fldw Try.underlying39 hw rfl hz1)
  obtain ⟨y2, hy2, hz2⟩ := fld hlen hf 2 _ rfl
  obtain ⟨a2, e2, l2, o2, k2⟩ := (opIntA (k := .i64) Try.underlying3) H enc w base spare held n _ _ hy2 (fldw Try.underlying39 hw rfl hz2)
  obtain ⟨y3, hy3, hz3⟩ := fld hlen hf 3 _ rfl
  obtain ⟨a3, e3, l3, o3, k3⟩ := (opIntA (k := .i64) Try.underlying3) H enc w base spare held n _ _ hy3 (fldw Try.underlying39 hw rfl hz3)
  obtain ⟨y4, hy4, hz4⟩ := fld hlen hf 4 _ rfl
  obtain ⟨a4, e4, l4, o4, k4⟩ := (opIntA (k := .i64) Try.underlying3) H enc w base spare held n _ _ hy4 (fldw Try.underlying39 hw rfl hz4)
  obtain ⟨y5, hy5, hz5⟩ := fld hlen hf 5 _ rfl
  obtain ⟨a5, e5, l5, o5, k5⟩ := (opIntA (k := .i64) Try.underlying3) H enc w base spare held n _ _ hy5 (fldw Try.underlying39 hw rfl hz5)
  obtain ⟨y6, hy6, hz6⟩ := fld hlen hf 6 _ rfl
  obtain ⟨a6, e6, l6, o6, k6⟩ := (opIntA (k := .i64) Try.underlying2) H enc w base spare held n _ _ hy6 (fldw Try.underlying39 hw rfl hz6)
  obtain ⟨y7, hy7, hz7⟩ := fld hlen hf 7 _ rfl
  obtain ⟨a7, e7, l7, o7, k7⟩ := (opIntA (k := .i64) Try.underlying3) H enc w base spare held n _ _ hy7 (fldw Try.underlying39 hw rfl hz7)
  have hc := (Cel.cons (o := 0) (o' := 1) e0 o0 (by kernel_rfl) (Cel.cons (o := 1) (o' := 2) e1 o1 (by kernel_rfl) (Cel.cons (o := 2) (o' := 3) e2 o2 (by kernel_rfl) (Cel.cons (o := 3) (o' := 4) e3 o3 (by kernel_rfl) (Cel.cons (o := 4) (o' := 5) e4 o4 (by kernel_rfl) (Cel.cons (o := 5) (o' := 6) e5 o5 (by kernel_rfl) (Cel.cons (o := 6) (o' := 7) e6 o6 (by kernel_rfl) (Cel.cons (o := 7) (o' := 8) e7 o7 (by kernel_rfl) (Cel.nil (o := 8) hl (by kernel_rfl))))))))))
  exact ⟨⟨a0, a1, a2, a3, a4, a5, a6, a7⟩, hc.1, rfl, hc.2, ⟨k0, k1, k2, k3, k4, k5, k6, k7⟩⟩
def api_Loc_ok (s : api_Loc) : Prop := (fun _ => True) s.Atomic ∧ (fun n => (Lit.int .i64 n).wf = true) s.Init
theorem api_Loc_op : OpA Try.prog api_Loc.c 2 api_Loc_ok 80 := by
  intro H enc w base spare held fuel cs x h hw
  obtain ⟨xs, n, _, rfl, hl, hlen, hf⟩ := DataW.trod_struct Try.underlying80 h
  obtain ⟨y0, hy0, hz0⟩ := fld hlen hf 0 _ rfl
  obtain ⟨a0, e0, l0, o0, k0⟩ := (opBoolA Try.underlying4) H enc w base spare held n _ _ hy0 (fldw Try.underlying80 hw rfl hz0)
  obtain ⟨y1, hy1, hz1⟩ := fld hlen hf 1 _ rfl
  obtain ⟨a1, e1, l1, o1, k1⟩ := (opIntA (k := .i64) Try.underlying2) H enc w base spare held n _ _ hy1 (fldw Try.underlying80 hw rfl hz1)
  have hc := (Cel.cons (o := 0) (o' := 1) e0 o0 (by kernel_rfl) (Cel.cons (o := 1) (o' := 2) e1 o1 (by kernel_rfl) (Cel.nil (o := 2) hl (by kernel_rfl))))
  exact ⟨⟨a0, a1⟩, hc.1, rfl, hc.2, ⟨k0, k1⟩⟩
set_option maxRecDepth 100000 in
theorem lifted (os : Os) (started : os.Started) (H : Type) (enc : TypeId × Value → H) :
    ReturnsInHanded {} Try.checked os 6 .any (Rows.foldTwiceSpec.pre6 enc Try.prog Try.f6 Rows.foldTwiceRow.domain false) (Rows.foldTwiceSpec.post enc Try.prog Try.f6 false true false false) := by
  refine returnsInHanded_of_change_sized (C := Try.checked) own started (by kernel_rfl) Try.func6
    (ChangeSpec.witness6 (enc := enc) (C := Try.checked) false ⟨#[], #[.slice none 0 0, .slice none 0 0, .slice none 0 0], []⟩ 8 (by kernel_rfl) (by kernel_rfl) (by kernel_rfl) (by kernel_rfl)) ?_
  intro W base args ds gs before hval0 hW hcnd hsz0 _
  have hsz : (DataW.weightsEach Try.prog (Try.f6.params.toList ++ Rows.foldTwiceSpec.plain.varTypes Try.prog) (ds ++ gs)).all (· ≤ reachBytes) = true := hsz0
  have hval : ∀ (j : Nat) t v, Try.f6.params[j]? = some t → args[j]? = some v → Value.okWide Try.prog W .any base t v := hval0
  have hW' := hW
  obtain ⟨p, q, hA0, hV, rfl, hfz, hnd⟩ := hW
  have hA : DataW.TrodAll enc Try.prog W 0 (fun _ => true) true Try.f6.params.toList args.toList ds p := hA0
  rw [Try.params6] at hA hval hsz
  obtain ⟨v0, vs0, d0, ds0, p0, q0, hargs, rfl, rfl, h0, r0⟩ := trodAll_cons hA
  obtain ⟨v1, vs1, d1, ds1, p1, q1, rfl, rfl, rfl, h1, r1⟩ := trodAll_cons r0
  obtain ⟨v2, vs2, d2, ds2, p2, q2, rfl, rfl, rfl, h2, r2⟩ := trodAll_cons r1
  obtain ⟨rfl, rfl, rfl⟩ := trodAll_nil r2
  obtain rfl : args = #[v0, v1, v2] := by cases args; simp_all
  obtain ⟨rfl, rfl⟩ := trodVars_none hV
  have k0 := h0
  have lt0 := trod_lt' k0
  obtain ⟨a0, e0, w0⟩ := open_argA (j := 0) (opSlA api_Ins_op Try.underlying22 (by kernel_rfl) (of_decide_eq_true (by kernel_rfl)) (of_decide_eq_true (by kernel_rfl))) h0 hsz rfl rfl
  obtain ⟨x0, len0, cap0, rfl⟩ := okWide_slice Try.underlying22 (hval 0 22 v0 rfl rfl)
  have g0 := arg_oneA e0 rfl
  have k1 := h1
  have lt1 := trod_lt' k1
  obtain ⟨a1, e1, w1⟩ := open_argA (j := 1) (opSlA api_Loc_op Try.underlying23 (by kernel_rfl) (of_decide_eq_true (by kernel_rfl)) (of_decide_eq_true (by kernel_rfl))) h1 hsz rfl rfl
  obtain ⟨x1, len1, cap1, rfl⟩ := okWide_slice Try.underlying23 (hval 1 23 v1 rfl rfl)
  have g1 := arg_oneA e1 rfl
  have k2 := h2
  have lt2 := trod_lt' k2
  obtain ⟨a2, e2, w2⟩ := open_argA (j := 2) (opSlA (opIntA (k := .i64) Try.underlying2) Try.underlying24 (by kernel_rfl) (of_decide_eq_true (by kernel_rfl)) (of_decide_eq_true (by kernel_rfl))) h2 hsz rfl rfl
  obtain ⟨x2, len2, cap2, rfl⟩ := okWide_slice Try.underlying24 (hval 2 24 v2 rfl rfl)
  have g2 := arg_oneA e2 rfl
  clear hA0 hval0 hsz0
  have hK : selvagelaw12_FoldTwice.m a0 a1 a2 = some true := by first | exact pureFoldTwice a0 a1 a2 | exact pureFoldTwice a0 a1 a2 w0 w1 w2
  refine Calls.mono (ev_law (selvagelaw12_FoldTwice.ev hK) (L2.cons g0 (L2.cons g1 (L2.cons g2 L2.nil)))) fun e W' ⟨he, bel⟩ => ?_
  subst he
  exact ⟨_, rfl, _, _, _, [], _, [], hW', trodAll_mk1 (shut_bool Try.underlying4 _), (trodAll_cons_mk (Below.trod laidOut (by kernel_rfl) (of_decide_eq_true (by kernel_rfl)) k0 bel lt0) (trodAll_cons_mk (Below.trod laidOut (by kernel_rfl) (of_decide_eq_true (by kernel_rfl)) k1 bel lt1) (trodAll_cons_mk (Below.trod laidOut (by kernel_rfl) (of_decide_eq_true (by kernel_rfl)) k2 bel lt2) trodAll_mk0))), rfl, bel.frame _, fun h => by cases h⟩
theorem over : Rows.foldTwiceRow.holds Try.pinned (OpenSpec.ofChange Rows.foldTwiceSpec) :=
  OpenClaim.holds_of_wide 6 Try.f6 rfl rfl rfl rfl rfl rfl rfl ⟨rfl, rfl, rfl, rfl, rfl⟩ rfl rfl rfl rfl rfl (by kernel_rfl) Try.func6 (by kernel_rfl)
    (of_decide_eq_true (by kernel_rfl)) (by unfold Func.isWrapper; first | (rw [if_pos (by decide +kernel)]; kernel_rfl) | (rw [if_neg (by decide +kernel)]; exact ⟨rfl, rfl⟩))
    (fun os started H enc _ => lifted os started H enc)
end Go.Proofs.Ytbdbmklkgjbehaa.foldTwice
namespace Go.Proofs.Ytbdbmklkgjbehaa
/-- The row, for the claim. -/
theorem foldTwice_holds : Rows.FoldTwiceSaid := foldTwice.over
#print axioms foldTwice_holds
end Go.Proofs.Ytbdbmklkgjbehaa
