/- ThreadActs: what the law says holds of any input; no condition. -/
import Derived.Test.YtcnchjlomcafeaaRows
import Derived.Test.YtcnchjlomcafeaaOpen
import Derived.Test.YtcnchjlomcafeaaPActs
import Derived.WalkKit
import Derived.ProofKit
import Derived.OpenShut
import Derived.ShutString
import Derived.ChangeOld
import Derived.Below
import Derived.SizedLaws
set_option linter.unusedVariables false
set_option linter.unusedSimpArgs false
namespace Go.Proofs.Ytcnchjlomcafeaa.threadActs
open Go.ChangeShapes Go.WideShapes Go.ChangeAt Go.RowKit Go.Proofs.Ytcnchjlomcafeaa.B Go.Proofs.Ytcnchjlomcafeaa.W
theorem own : ownKnob Try.prog.godebug = none := by kernel_rfl
theorem laidOut : laidOutB Try.prog = true := by kernel_rfl
def api_Event_ok (s : api_Event) : Prop := (fun n => (Lit.int .i64 n).wf = true) s.Kind ∧ (fun n => (Lit.int .i64 n).wf = true) s.Loc ∧ (fun n => (Lit.int .i64 n).wf = true) s.Val ∧ (fun n => (Lit.int .i64 n).wf = true) s.Pair ∧ (fun n => (Lit.int .u64 n).wf = true) s.Addr ∧ (fun n => (Lit.int .u64 n).wf = true) s.Data ∧ (fun n => (Lit.int .u64 n).wf = true) s.Ctrl ∧ (fun n => (Lit.int .u64 n).wf = true) s.Fenced
theorem api_Event_op : OpF Try.prog api_Event_E api_Event_ok 33 := by
  intro H enc w base spare held fuel cs x h hw
  obtain ⟨xs, n, _, rfl, hl, hlen, hf⟩ := DataW.trod_struct Try.underlying33 h
  obtain ⟨y0, hy0, hz0⟩ := fld hlen hf 0 _ rfl
  obtain ⟨a0, e0, k0⟩ := (opInt Try.underlying3) H enc w base spare held n _ _ hy0 (fldw Try.underlying33 hw rfl hz0)
  have z0 := dsplit (o := 0) (c := 1) (o' := 1) e0 (by kernel_rfl) rfl
  obtain ⟨y1, hy1, hz1⟩ := fld hlen hf 1 _ rfl
  obtain ⟨a1, e1, k1⟩ := (opInt Try.underlying3) H enc w base spare held n _ _ hy1 (fldw Try.underlying33 hw rfl hz1)
  have z1 := dsplit (o := 1) (c := 1) (o' := 2) e1 (by kernel_rfl) rfl
  obtain ⟨y2, hy2, hz2⟩ := fld hlen hf 2 _ rfl
  obtain ⟨a2, e2, k2⟩ := (opInt Try.underlying2) H enc w base spare held n _ _ hy2 (fldw Try.underlying33 hw rfl hz2)
  have z2 := dsplit (o := 2) (c := 1) (o' := 3) e2 (by kernel_rfl) rfl
  obtain ⟨y3, hy3, hz3⟩ := fld hlen hf 3 _ rfl
  obtain ⟨a3, e3, k3⟩ := (opInt Try.underlying3) H enc w base spare held n _ _ hy3 (fldw Try.underlying33 hw rfl hz3)
  have z3 := dsplit (o := 3) (c := 1) (o' := 4) e3 (by kernel_rfl) rfl
  obtain ⟨y4, hy4, hz4⟩ := fld hlen hf 4 _ rfl
  obtain ⟨a4, e4, k4⟩ := (opInt Try.underlying31) H enc w base spare held n _ _ hy4 (fldw Try.underlying33 hw rfl hz4)
  have z4 := dsplit (o := 4) (c := 1) (o' := 5) e4 (by kernel_rfl) rfl
  obtain ⟨y5, hy5, hz5⟩ := fld hlen hf 5 _ rfl
  obtain ⟨a5, e5, k5⟩ := (opInt Try.underlying31) H enc w base spare held n _ _ hy5 (fldw Try.underlying33 hw rfl hz5)
  have z5 := dsplit (o := 5) (c := 1) (o' := 6) e5 (by kernel_rfl) rfl
  obtain ⟨y6, hy6, hz6⟩ := fld hlen hf 6 _ rfl
  obtain ⟨a6, e6, k6⟩ := (opInt Try.underlying31) H enc w base spare held n _ _ hy6 (fldw Try.underlying33 hw rfl hz6)
  have z6 := dsplit (o := 6) (c := 1) (o' := 7) e6 (by kernel_rfl) rfl
  obtain ⟨y7, hy7, hz7⟩ := fld hlen hf 7 _ rfl
  obtain ⟨a7, e7, k7⟩ := (opInt Try.underlying31) H enc w base spare held n _ _ hy7 (fldw Try.underlying33 hw rfl hz7)
  have z7 := dsplit (o := 7) (c := 1) (o' := 8) e7 (by kernel_rfl) rfl
  have zz := dlast (o := 8) hl (by kernel_rfl)
  refine ⟨⟨a0, a1, a2, a3, a4, a5, a6, a7⟩, ?_, ⟨k0, k1, k2, k3, k4, k5, k6, k7⟩⟩
  have : cs = cs.drop 0 := rfl
  rw [this, z0, z1, z2, z3, z4, z5, z6, z7, zz]
  rfl
def api_Loc_ok (s : api_Loc) : Prop := (fun _ => True) s.Atomic ∧ (fun n => (Lit.int .i64 n).wf = true) s.Init
theorem api_Loc_op : OpF Try.prog api_Loc_E api_Loc_ok 81 := by
  intro H enc w base spare held fuel cs x h hw
  obtain ⟨xs, n, _, rfl, hl, hlen, hf⟩ := DataW.trod_struct Try.underlying81 h
  obtain ⟨y0, hy0, hz0⟩ := fld hlen hf 0 _ rfl
  obtain ⟨a0, e0, k0⟩ := (opBool Try.underlying4) H enc w base spare held n _ _ hy0 (fldw Try.underlying81 hw rfl hz0)
  have z0 := dsplit (o := 0) (c := 1) (o' := 1) e0 (by kernel_rfl) rfl
  obtain ⟨y1, hy1, hz1⟩ := fld hlen hf 1 _ rfl
  obtain ⟨a1, e1, k1⟩ := (opInt Try.underlying2) H enc w base spare held n _ _ hy1 (fldw Try.underlying81 hw rfl hz1)
  have z1 := dsplit (o := 1) (c := 1) (o' := 2) e1 (by kernel_rfl) rfl
  have zz := dlast (o := 2) hl (by kernel_rfl)
  refine ⟨⟨a0, a1⟩, ?_, ⟨k0, k1⟩⟩
  have : cs = cs.drop 0 := rfl
  rw [this, z0, z1, zz]
  rfl
set_option maxRecDepth 100000 in
theorem lifted (os : Os) (started : os.Started) (H : Type) (enc : TypeId × Value → H) :
    ReturnsInHanded {} Try.checked os 7 .any (Rows.threadActsSpec.pre6 enc Try.prog Try.f7 Rows.threadActsRow.domain false) (Rows.threadActsSpec.post enc Try.prog Try.f7 false true false false) := by
  refine returnsInHanded_of_change_sized (C := Try.checked) own started (by kernel_rfl) Try.func7
    (ChangeSpec.witness6 (enc := enc) (C := Try.checked) false ⟨#[], #[.slice none 0 0, .slice none 0 0], []⟩ 8 (by kernel_rfl) (by kernel_rfl) (by kernel_rfl) (by kernel_rfl)) ?_
  intro W base args ds gs before hval0 hW hcnd hsz0 _
  have hsz : (DataW.weightsEach Try.prog (Try.f7.params.toList ++ Rows.threadActsSpec.plain.varTypes Try.prog) (ds ++ gs)).all (· ≤ reachBytes) = true := hsz0
  have hval : ∀ (j : Nat) t v, Try.f7.params[j]? = some t → args[j]? = some v → Value.okWide Try.prog W .any base t v := hval0
  have hW' := hW
  obtain ⟨p, q, hA0, hV, rfl, hfz, hnd⟩ := hW
  have hA : DataW.TrodAll enc Try.prog W 0 (fun _ => true) true Try.f7.params.toList args.toList ds p := hA0
  rw [Try.params7] at hA hval hsz
  obtain ⟨v0, vs0, d0, ds0, p0, q0, hargs, rfl, rfl, h0, r0⟩ := trodAll_cons hA
  obtain ⟨v1, vs1, d1, ds1, p1, q1, rfl, rfl, rfl, h1, r1⟩ := trodAll_cons r0
  obtain ⟨rfl, rfl, rfl⟩ := trodAll_nil r1
  obtain rfl : args = #[v0, v1] := by cases args; simp_all
  obtain ⟨rfl, rfl⟩ := trodVars_none hV
  have k0 := h0
  have lt0 := trod_lt' k0
  obtain ⟨a0, e0, w0⟩ := open_arg (j := 0) (opSl api_Event_op Try.underlying26 (by kernel_rfl) (of_decide_eq_true (by kernel_rfl))) h0 hsz rfl rfl
  obtain ⟨x0, len0, cap0, rfl⟩ := okWide_slice Try.underlying26 (hval 0 26 v0 rfl rfl)
  obtain ⟨A0, c0, e0, y0⟩ := e0
  obtain ⟨rfl, rfl, rfl⟩ : x0 = A0 ∧ len0 = a0.length ∧ cap0 = c0 := by have := arg_one e0 rfl; injection this with z1 z2 z3; exact ⟨z1, z2, z3⟩
  have k1 := h1
  have lt1 := trod_lt' k1
  obtain ⟨a1, e1, w1⟩ := open_arg (j := 1) (opSl api_Loc_op Try.underlying37 (by kernel_rfl) (of_decide_eq_true (by kernel_rfl))) h1 hsz rfl rfl
  obtain ⟨x1, len1, cap1, rfl⟩ := okWide_slice Try.underlying37 (hval 1 37 v1 rfl rfl)
  obtain ⟨A1, c1, e1, y1⟩ := e1
  obtain ⟨rfl, rfl, rfl⟩ : x1 = A1 ∧ len1 = a1.length ∧ cap1 = c1 := by have := arg_one e1 rfl; injection this with z1 z2 z3; exact ⟨z1, z2, z3⟩
  clear hA0 hval0 hsz0
  have hK : selvagelaw16_ThreadActs.m a0 a1 = some true := by first | exact pureThreadActs a0 a1 | exact pureThreadActs a0 a1 w0 w1
  refine Calls.mono (selvagelaw16_ThreadActs.calls a0 x0 cap0 a1 x1 cap1 true W (Blk W) (hAll W) y0 y1 hK) fun e W' ⟨v, he, h_⟩ => ?_
  obtain ⟨hv, af⟩ := h_
  have bel := af.below
  subst hv
  subst he
  exact ⟨_, rfl, _, _, _, [], _, [], hW', trodAll_mk1 (shut_bool Try.underlying4 _), (trodAll_cons_mk (Below.trod laidOut (by kernel_rfl) (of_decide_eq_true (by kernel_rfl)) k0 bel lt0) (trodAll_cons_mk (Below.trod laidOut (by kernel_rfl) (of_decide_eq_true (by kernel_rfl)) k1 bel lt1) trodAll_mk0)), rfl, bel.frame _, fun h => by cases h⟩
theorem over : Rows.threadActsRow.holds Try.pinned (OpenSpec.ofChange Rows.threadActsSpec) :=
  OpenClaim.holds_of_wide 7 Try.f7 rfl rfl rfl rfl rfl rfl rfl ⟨rfl, rfl, rfl, rfl, rfl⟩ rfl rfl rfl rfl rfl (by kernel_rfl) Try.func7 (by kernel_rfl)
    (of_decide_eq_true (by kernel_rfl)) (by unfold Func.isWrapper; first | (rw [if_pos (by decide +kernel)]; kernel_rfl) | (rw [if_neg (by decide +kernel)]; exact ⟨rfl, rfl⟩))
    (fun os started H enc _ => lifted os started H enc)
end Go.Proofs.Ytcnchjlomcafeaa.threadActs
namespace Go.Proofs.Ytcnchjlomcafeaa
/-- The row, for the claim. -/
theorem threadActs_holds : Rows.ThreadActsSaid := threadActs.over
#print axioms threadActs_holds
end Go.Proofs.Ytcnchjlomcafeaa
