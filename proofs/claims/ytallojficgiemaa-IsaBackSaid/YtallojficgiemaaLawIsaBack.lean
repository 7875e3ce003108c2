/- IsaBack: what the law says holds of any input; no condition. -/
import Derived.Test.YtallojficgiemaaRows
import Derived.Test.YtallojficgiemaaOpen
import Derived.Test.YtallojficgiemaaPureIsaF
import Derived.WalkKit
import Derived.ProofKit
import Derived.OpenShut
import Derived.ShutString
import Derived.ChangeOld
import Derived.Below
import Derived.SizedLaws
set_option linter.unusedVariables false
set_option linter.unusedSimpArgs false
namespace Go.Proofs.Ytallojficgiemaa.isaBack
open Go.ChangeShapes Go.WideShapes Go.ChangeAt Go.RowKit Go.Proofs.Ytallojficgiemaa.B Go.Proofs.Ytallojficgiemaa.W
theorem own : ownKnob Try.prog.godebug = none := by kernel_rfl
theorem laidOut : laidOutB Try.prog = true := by kernel_rfl
def api_Inst_ok (s : api_Inst) : Prop := (fun n => (Lit.int .i64 n).wf = true) s.Op ∧ (fun n => (Lit.int .i64 n).wf = true) s.T ∧ (fun n => (Lit.int .i64 n).wf = true) s.A ∧ (fun n => (Lit.int .i64 n).wf = true) s.B ∧ (fun n => (Lit.int .i64 n).wf = true) s.Imm
theorem api_Inst_op : OpF Try.prog api_Inst_E api_Inst_ok 23 := by
  intro H enc w base spare held fuel cs x h
  obtain ⟨xs, n, _, _, hl, hlen, hf⟩ := DataW.trod_struct Try.underlying23 h
  obtain ⟨y0, hy0⟩ := fld hlen hf 0 _ rfl
  obtain ⟨a0, e0, k0⟩ := (opInt Try.underlying3) H enc w base spare held n _ _ hy0
  have z0 := dsplit (o := 0) (c := 1) (o' := 1) e0 (by kernel_rfl) rfl
  obtain ⟨y1, hy1⟩ := fld hlen hf 1 _ rfl
  obtain ⟨a1, e1, k1⟩ := (opInt Try.underlying3) H enc w base spare held n _ _ hy1
  have z1 := dsplit (o := 1) (c := 1) (o' := 2) e1 (by kernel_rfl) rfl
  obtain ⟨y2, hy2⟩ := fld hlen hf 2 _ rfl
  obtain ⟨a2, e2, k2⟩ := (opInt Try.underlying3) H enc w base spare held n _ _ hy2
  have z2 := dsplit (o := 2) (c := 1) (o' := 3) e2 (by kernel_rfl) rfl
  obtain ⟨y3, hy3⟩ := fld hlen hf 3 _ rfl
  obtain ⟨a3, e3, k3⟩ := (opInt Try.underlying3) H enc w base spare held n _ _ hy3
  have z3 := dsplit (o := 3) (c := 1) (o' := 4) e3 (by kernel_rfl) rfl
  obtain ⟨y4, hy4⟩ := fld hlen hf 4 _ rfl
  obtain ⟨a4, e4, k4⟩ := (opInt Try.underlying3) H enc w base spare held n _ _ hy4
  have z4 := dsplit (o := 4) (c := 1) (o' := 5) e4 (by kernel_rfl) rfl
  have zz := dlast (o := 5) hl (by kernel_rfl)
  refine ⟨⟨a0, a1, a2, a3, a4⟩, ?_, ⟨k0, k1, k2, k3, k4⟩⟩
  have : cs = cs.drop 0 := rfl
  rw [this, z0, z1, z2, z3, z4, zz]
  rfl
set_option maxRecDepth 100000 in
theorem lifted (os : Os) (started : os.Started) (H : Type) (enc : TypeId × Value → H) :
    ReturnsInHanded {} Try.checked os 5 .any (Rows.isaBackSpec.pre6 enc Try.prog Try.f5 Rows.isaBackRow.domain false) (Rows.isaBackSpec.post enc Try.prog Try.f5 false true false false) := by
  refine returnsInHanded_of_change_sized (C := Try.checked) own started (by kernel_rfl) Try.func5
    (ChangeSpec.witness6 (enc := enc) (C := Try.checked) false ⟨#[], #[.agg #[.int .i64 0, .int .i64 0, .int .i64 0, .int .i64 0, .int .i64 0], .int .u32 0], []⟩ 8 (by kernel_rfl) (by kernel_rfl) (by kernel_rfl) (by kernel_rfl)) ?_
  intro W base args ds gs before hval0 hW hcnd hsz0 _
  have hval : ∀ (j : Nat) t v, Try.f5.params[j]? = some t → args[j]? = some v → Value.okWide Try.prog W .any base t v := hval0
  have hW' := hW
  obtain ⟨p, q, hA0, hV, rfl, hfz, hnd⟩ := hW
  have hA : DataW.TrodAll enc Try.prog W 0 (fun _ => true) true Try.f5.params.toList args.toList ds p := hA0
  rw [Try.params5] at hA hval
  obtain ⟨v0, vs0, d0, ds0, p0, q0, hargs, rfl, rfl, h0, r0⟩ := trodAll_cons hA
  obtain ⟨v1, vs1, d1, ds1, p1, q1, rfl, rfl, rfl, h1, r1⟩ := trodAll_cons r0
  obtain ⟨rfl, rfl, rfl⟩ := trodAll_nil r1
  obtain rfl : args = #[v0, v1] := by cases args; simp_all
  obtain ⟨rfl, rfl⟩ := trodVars_none hV
  have k0 := h0
  have lt0 := trod_lt' k0
  obtain ⟨a0, rfl, w0⟩ := open_struct' api_Inst_op Try.underlying23 (hval 0 23 v0 rfl rfl) h0
  have k1 := h1
  have lt1 := trod_lt' k1
  obtain ⟨a1, rfl, w1⟩ := open_int' Try.underlying25 (hval 1 25 v1 rfl rfl) h1
  clear hA0 hval0 hsz0
  obtain ⟨K, hK⟩ := pureIsaBack a0 a1 w0 w1
  refine Calls.mono (selvagelaw15_IsaBack.calls K a0 a1 true W hK) fun e W' ⟨v, he, hv, bel⟩ => ?_
  subst hv
  subst he
  exact ⟨_, rfl, _, _, _, [], _, [], hW', trodAll_mk1 (shut_bool Try.underlying4 _), (trodAll_cons_mk (Below.trod laidOut (by kernel_rfl) (of_decide_eq_true (by kernel_rfl)) k0 bel lt0) (trodAll_cons_mk (Below.trod laidOut (by kernel_rfl) (of_decide_eq_true (by kernel_rfl)) k1 bel lt1) trodAll_mk0)), rfl, bel.frame _, fun h => by cases h⟩
theorem over : Rows.isaBackRow.holds Try.pinned (OpenSpec.ofChange Rows.isaBackSpec) :=
  OpenClaim.holds_of_wide 5 Try.f5 rfl rfl rfl rfl rfl rfl rfl ⟨rfl, rfl, rfl, rfl, rfl⟩ rfl rfl rfl rfl rfl (by kernel_rfl) Try.func5 (by kernel_rfl)
    (of_decide_eq_true (by kernel_rfl)) (by unfold Func.isWrapper; first | (rw [if_pos (by decide +kernel)]; kernel_rfl) | (rw [if_neg (by decide +kernel)]; exact ⟨rfl, rfl⟩))
    (fun os started H enc _ => lifted os started H enc)
end Go.Proofs.Ytallojficgiemaa.isaBack
namespace Go.Proofs.Ytallojficgiemaa
/-- The row, for the claim. -/
theorem isaBack_holds : Rows.IsaBackSaid := isaBack.over
#print axioms isaBack_holds
end Go.Proofs.Ytallojficgiemaa
