/- Functions of the program as plain Lean functions, and that the calls do what they say: written by wip/tools/walk.py. -/
import Derived.Test.YtallojficgiemaaTy
import Derived.Test.YtallojficgiemaaF0
import Derived.Test.YtallojficgiemaaF1
import Derived.Test.YtallojficgiemaaF2
set_option linter.unusedVariables false
set_option linter.unusedSimpArgs false
set_option linter.unusedSectionVars false
namespace Go.Proofs.Ytallojficgiemaa.W
open Go Go.RowKit Go.Proofs.Ytallojficgiemaa.B
attribute [local irreducible] Go.wpList Go.Code.wp Go.Region.wanted Go.yielded
/-! ### selvage/isa.check: function 13 -/
def isa_check.m (a0 : Int) (a1 : api_Inst) : Option (Int) := if (((((decide (a0 = 0)) || ((!((isa_used.m a0).1)) && (!decide (a1.T = 0)))) || ((!((isa_used.m a0).2.1)) && (!decide (a1.A = 0)))) || ((!((isa_used.m a0).2.2.1)) && (!decide (a1.B = 0)))) || ((!(!decide (((isa_used.m a0).2.2.2.1) = ((isa_used.m a0).2.2.2.2.1)))) && (!decide (a1.Imm = 0)))) = true then (some 3) else ((if (((((((decide (a0 = 8)) && ((decide (a1.T < 0)) || (decide (a1.T > 3)))) || ((!decide (a0 = 8)) && (!(isa_reg.m a1.T)))) || (!(isa_reg.m a1.A))) || (!(isa_reg.m a1.B))) || (decide (a1.Imm < ((isa_used.m a0).2.2.2.1)))) || (decide (a1.Imm > ((isa_used.m a0).2.2.2.2.1)))) = true then (some true) else (if ((isa_used.m a0).2.2.2.2.2) ≠ 0 then (some (!decide ((Int.tmod a1.Imm ((isa_used.m a0).2.2.2.2.2)) = 0))) else none)).bind fun o8 => (if o8 = true then (some 2) else (some 0)))
set_option maxHeartbeats 4000000 in
set_option maxRecDepth 100000 in
theorem isa_check.calls (a0 : Int) (a1 : api_Inst) (r : Int) (w : World) (H : isa_check.m a0 a1 = some r) :
    Ret Try.prog 13 [.int .i64 a0, .agg #[.int .i64 a1.Op, .int .i64 a1.T, .int .i64 a1.A, .int .i64 a1.B, .int .i64 a1.Imm]] w fun v w' => v = .int .i64 r ∧ Below w.heap.size w w' := by
  unfold isa_check.m at H
  have hp0 := Hp.start w
  refine enter (L := [(0, .int .i64 a0), (1, .agg #[.int .i64 a1.Op, .int .i64 a1.T, .int .i64 a1.A, .int .i64 a1.B, .int .i64 a1.Imm])]) Try.func13 rfl Try.ntmps13 rfl rfl ?_
  refine k_seq ?_
  refine k_region ?_
  refine s_box hp0 (tm rfl rfl) rfl rfl (fun b1 w2 hp3 => ?_)
  refine sv (v := .int .i64 0) rfl rfl rfl (e_assign rfl) ?_
  refine k_nil ?_
  refine k_seq ?_
  refine k_region ?_
  refine sv (v := .int .i64 a0) rfl rfl rfl (e_move (tm rfl rfl)) ?_
  refine s_call (.cons (tm rfl rfl) .nil) Try.call23 (isa_used.calls a0 _) rfl ?_
  rintro v_ w4 ⟨rfl, hb5⟩
  have hp6 := hp3.grow hb5
  refine sv (v := .tuple #[.bool ((isa_used.m a0).1), .bool ((isa_used.m a0).2.1), .bool ((isa_used.m a0).2.2.1), .int .i64 ((isa_used.m a0).2.2.2.1), .int .i64 ((isa_used.m a0).2.2.2.2.1), .int .i64 ((isa_used.m a0).2.2.2.2.2)]) rfl rfl rfl (e_move (tm rfl rfl)) ?_
  refine sv (v := .bool ((isa_used.m a0).1)) rfl rfl rfl (e_extract (tm rfl rfl) rfl) ?_
  refine sv (v := .bool ((isa_used.m a0).2.1)) rfl rfl rfl (e_extract (tm rfl rfl) rfl) ?_
  refine sv (v := .bool ((isa_used.m a0).2.2.1)) rfl rfl rfl (e_extract (tm rfl rfl) rfl) ?_
  refine sv (v := .int .i64 ((isa_used.m a0).2.2.2.1)) rfl rfl rfl (e_extract (tm rfl rfl) rfl) ?_
  refine sv (v := .int .i64 ((isa_used.m a0).2.2.2.2.1)) rfl rfl rfl (e_extract (tm rfl rfl) rfl) ?_
  refine sv (v := .int .i64 ((isa_used.m a0).2.2.2.2.2)) rfl rfl rfl (e_extract (tm rfl rfl) rfl) ?_
  refine sv (v := .bool ((isa_used.m a0).1)) rfl rfl rfl (e_assign (tm rfl rfl)) ?_
  refine sv (v := .bool ((isa_used.m a0).2.1)) rfl rfl rfl (e_assign (tm rfl rfl)) ?_
  refine sv (v := .bool ((isa_used.m a0).2.2.1)) rfl rfl rfl (e_assign (tm rfl rfl)) ?_
  refine sv (v := .int .i64 ((isa_used.m a0).2.2.2.1)) rfl rfl rfl (e_assign (tm rfl rfl)) ?_
  refine sv (v := .int .i64 ((isa_used.m a0).2.2.2.2.1)) rfl rfl rfl (e_assign (tm rfl rfl)) ?_
  refine sv (v := .int .i64 ((isa_used.m a0).2.2.2.2.2)) rfl rfl rfl (e_assign (tm rfl rfl)) ?_
  refine k_nil ?_
  refine k_seq ?_
  refine k_region ?_
  refine sv (v := .int .i64 ((isa_used.m a0).2.2.2.1)) rfl rfl rfl (e_move (tm rfl rfl)) ?_
  refine sv (v := .int .i64 ((isa_used.m a0).2.2.2.2.1)) rfl rfl rfl (e_move (tm rfl rfl)) ?_
  refine sv (v := .bool (!decide (((isa_used.m a0).2.2.2.1) = ((isa_used.m a0).2.2.2.2.1)))) rfl rfl rfl (e_bin (tm rfl rfl) (tm rfl rfl) (r_neq rfl)) ?_
  refine sv (v := .bool (!decide (((isa_used.m a0).2.2.2.1) = ((isa_used.m a0).2.2.2.2.1)))) rfl rfl rfl (e_assign (tm rfl rfl)) ?_
  refine k_nil ?_
  refine k_seq ?_
  refine k_seq ?_
  refine k_region ?_
  refine sv (v := .int .i64 a0) rfl rfl rfl (e_move (tm rfl rfl)) ?_
  refine sv (v := .bool (decide (a0 = 0))) rfl rfl rfl (e_bin (tm rfl rfl) rfl (r_eql rfl)) ?_
  refine sv (v := .bool (decide (a0 = 0))) rfl rfl rfl (e_move (tm rfl rfl)) ?_
  refine s_gp (v := .bool ((isa_used.m a0).1)) rfl rfl rfl (beq_f _) (fun g_ => e_move (tm rfl rfl)) rfl ?_
  refine s_gp (v := .bool (!((isa_used.m a0).1))) rfl rfl rfl (beq_f _) (fun g_ => e_un (tmg (!(decide (a0 = 0))) (.bool ((isa_used.m a0).1)) rfl rfl g_) (r_not rfl)) rfl ?_
  refine s_gp (v := .bool (!((isa_used.m a0).1))) rfl rfl rfl (beq_f _) (fun g_ => e_move (tmg (!(decide (a0 = 0))) (.bool (!((isa_used.m a0).1))) rfl rfl g_)) rfl ?_
  refine s_gpg (v := .pointer (some ⟨b1, 1, none⟩)) (G0 := (!(decide (a0 = 0)))) (b := (!((isa_used.m a0).1))) rfl rfl rfl (beq_t _) (fun g_ => e_fieldAddr (tm rfl rfl) Try.runUnderlying23 rfl Try.sizeOf3 rfl rfl) rfl ?_
  refine s_gpg (v := .int .i64 a1.T) (G0 := (!(decide (a0 = 0)))) (b := (!((isa_used.m a0).1))) rfl rfl rfl (beq_t _) (fun g_ => e_load1 (tmg ((!(decide (a0 = 0))) && (!((isa_used.m a0).1))) (.pointer (some ⟨b1, 1, none⟩)) rfl rfl (and_i (and_l g_) (and_r g_))) Try.isAgg3 (cell_at (hp6.get (i := 0) (j := 0) rfl rfl) rfl)) rfl ?_
  refine s_gpg (v := .bool (!decide (a1.T = 0))) (G0 := (!(decide (a0 = 0)))) (b := (!((isa_used.m a0).1))) rfl rfl rfl (beq_t _) (fun g_ => e_bin (tmg ((!(decide (a0 = 0))) && (!((isa_used.m a0).1))) (.int .i64 a1.T) rfl rfl (and_i (and_l g_) (and_r g_))) rfl (r_neq rfl)) rfl ?_
  refine s_gp (v := .bool ((!((isa_used.m a0).1)) && (!decide (a1.T = 0)))) rfl rfl rfl (beq_f _) (fun g_ => e_pick (v1 := .bool (!decide (a1.T = 0))) (v2 := .bool false) (tmg (!(decide (a0 = 0))) (.bool (!((isa_used.m a0).1))) rfl rfl g_) (fun h_ => tmg ((!(decide (a0 = 0))) && (!((isa_used.m a0).1))) (.bool (!decide (a1.T = 0))) rfl rfl (and_i g_ h_)) (fun _ => rfl) (pk_and (!((isa_used.m a0).1)))) rfl ?_
  refine sv (v := .bool ((decide (a0 = 0)) || ((!((isa_used.m a0).1)) && (!decide (a1.T = 0))))) rfl rfl rfl (e_pick (v1 := .bool true) (v2 := .bool ((!((isa_used.m a0).1)) && (!decide (a1.T = 0)))) (tm rfl rfl) (fun _ => rfl) (fun h_ => tmg (!(decide (a0 = 0))) (.bool ((!((isa_used.m a0).1)) && (!decide (a1.T = 0)))) rfl rfl (nt h_)) (pk_or (decide (a0 = 0)))) ?_
  refine sv (v := .bool ((decide (a0 = 0)) || ((!((isa_used.m a0).1)) && (!decide (a1.T = 0))))) rfl rfl rfl (e_move (tm rfl rfl)) ?_
  refine s_gp (v := .bool ((isa_used.m a0).2.1)) rfl rfl rfl (beq_f _) (fun g_ => e_move (tm rfl rfl)) rfl ?_
  refine s_gp (v := .bool (!((isa_used.m a0).2.1))) rfl rfl rfl (beq_f _) (fun g_ => e_un (tmg (!((decide (a0 = 0)) || ((!((isa_used.m a0).1)) && (!decide (a1.T = 0))))) (.bool ((isa_used.m a0).2.1)) rfl rfl g_) (r_not rfl)) rfl ?_
  refine s_gp (v := .bool (!((isa_used.m a0).2.1))) rfl rfl rfl (beq_f _) (fun g_ => e_move (tmg (!((decide (a0 = 0)) || ((!((isa_used.m a0).1)) && (!decide (a1.T = 0))))) (.bool (!((isa_used.m a0).2.1))) rfl rfl g_)) rfl ?_
  refine s_gpg (v := .pointer (some ⟨b1, 2, none⟩)) (G0 := (!((decide (a0 = 0)) || ((!((isa_used.m a0).1)) && (!decide (a1.T = 0)))))) (b := (!((isa_used.m a0).2.1))) rfl rfl rfl (beq_t _) (fun g_ => e_fieldAddr (tm rfl rfl) Try.runUnderlying23 rfl Try.sizeOf3 rfl rfl) rfl ?_
  refine s_gpg (v := .int .i64 a1.A) (G0 := (!((decide (a0 = 0)) || ((!((isa_used.m a0).1)) && (!decide (a1.T = 0)))))) (b := (!((isa_used.m a0).2.1))) rfl rfl rfl (beq_t _) (fun g_ => e_load1 (tmg ((!((decide (a0 = 0)) || ((!((isa_used.m a0).1)) && (!decide (a1.T = 0))))) && (!((isa_used.m a0).2.1))) (.pointer (some ⟨b1, 2, none⟩)) rfl rfl (and_i (and_l g_) (and_r g_))) Try.isAgg3 (cell_at (hp6.get (i := 0) (j := 0) rfl rfl) rfl)) rfl ?_
  refine s_gpg (v := .bool (!decide (a1.A = 0))) (G0 := (!((decide (a0 = 0)) || ((!((isa_used.m a0).1)) && (!decide (a1.T = 0)))))) (b := (!((isa_used.m a0).2.1))) rfl rfl rfl (beq_t _) (fun g_ => e_bin (tmg ((!((decide (a0 = 0)) || ((!((isa_used.m a0).1)) && (!decide (a1.T = 0))))) && (!((isa_used.m a0).2.1))) (.int .i64 a1.A) rfl rfl (and_i (and_l g_) (and_r g_))) rfl (r_neq rfl)) rfl ?_
  refine s_gp (v := .bool ((!((isa_used.m a0).2.1)) && (!decide (a1.A = 0)))) rfl rfl rfl (beq_f _) (fun g_ => e_pick (v1 := .bool (!decide (a1.A = 0))) (v2 := .bool false) (tmg (!((decide (a0 = 0)) || ((!((isa_used.m a0).1)) && (!decide (a1.T = 0))))) (.bool (!((isa_used.m a0).2.1))) rfl rfl g_) (fun h_ => tmg ((!((decide (a0 = 0)) || ((!((isa_used.m a0).1)) && (!decide (a1.T = 0))))) && (!((isa_used.m a0).2.1))) (.bool (!decide (a1.A = 0))) rfl rfl (and_i g_ h_)) (fun _ => rfl) (pk_and (!((isa_used.m a0).2.1)))) rfl ?_
  refine sv (v := .bool (((decide (a0 = 0)) || ((!((isa_used.m a0).1)) && (!decide (a1.T = 0)))) || ((!((isa_used.m a0).2.1)) && (!decide (a1.A = 0))))) rfl rfl rfl (e_pick (v1 := .bool true) (v2 := .bool ((!((isa_used.m a0).2.1)) && (!decide (a1.A = 0)))) (tm rfl rfl) (fun _ => rfl) (fun h_ => tmg (!((decide (a0 = 0)) || ((!((isa_used.m a0).1)) && (!decide (a1.T = 0))))) (.bool ((!((isa_used.m a0).2.1)) && (!decide (a1.A = 0)))) rfl rfl (nt h_)) (pk_or ((decide (a0 = 0)) || ((!((isa_used.m a0).1)) && (!decide (a1.T = 0)))))) ?_
  refine sv (v := .bool (((decide (a0 = 0)) || ((!((isa_used.m a0).1)) && (!decide (a1.T = 0)))) || ((!((isa_used.m a0).2.1)) && (!decide (a1.A = 0))))) rfl rfl rfl (e_move (tm rfl rfl)) ?_
  refine s_gp (v := .bool ((isa_used.m a0).2.2.1)) rfl rfl rfl (beq_f _) (fun g_ => e_move (tm rfl rfl)) rfl ?_
  refine s_gp (v := .bool (!((isa_used.m a0).2.2.1))) rfl rfl rfl (beq_f _) (fun g_ => e_un (tmg (!(((decide (a0 = 0)) || ((!((isa_used.m a0).1)) && (!decide (a1.T = 0)))) || ((!((isa_used.m a0).2.1)) && (!decide (a1.A = 0))))) (.bool ((isa_used.m a0).2.2.1)) rfl rfl g_) (r_not rfl)) rfl ?_
  refine s_gp (v := .bool (!((isa_used.m a0).2.2.1))) rfl rfl rfl (beq_f _) (fun g_ => e_move (tmg (!(((decide (a0 = 0)) || ((!((isa_used.m a0).1)) && (!decide (a1.T = 0)))) || ((!((isa_used.m a0).2.1)) && (!decide (a1.A = 0))))) (.bool (!((isa_used.m a0).2.2.1))) rfl rfl g_)) rfl ?_
  refine s_gpg (v := .pointer (some ⟨b1, 3, none⟩)) (G0 := (!(((decide (a0 = 0)) || ((!((isa_used.m a0).1)) && (!decide (a1.T = 0)))) || ((!((isa_used.m a0).2.1)) && (!decide (a1.A = 0)))))) (b := (!((isa_used.m a0).2.2.1))) rfl rfl rfl (beq_t _) (fun g_ => e_fieldAddr (tm rfl rfl) Try.runUnderlying23 rfl Try.sizeOf3 rfl rfl) rfl ?_
  refine s_gpg (v := .int .i64 a1.B) (G0 := (!(((decide (a0 = 0)) || ((!((isa_used.m a0).1)) && (!decide (a1.T = 0)))) || ((!((isa_used.m a0).2.1)) && (!decide (a1.A = 0)))))) (b := (!((isa_used.m a0).2.2.1))) rfl rfl rfl (beq_t _) (fun g_ => e_load1 (tmg ((!(((decide (a0 = 0)) || ((!((isa_used.m a0).1)) && (!decide (a1.T = 0)))) || ((!((isa_used.m a0).2.1)) && (!decide (a1.A = 0))))) && (!((isa_used.m a0).2.2.1))) (.pointer (some ⟨b1, 3, none⟩)) rfl rfl (and_i (and_l g_) (and_r g_))) Try.isAgg3 (cell_at (hp6.get (i := 0) (j := 0) rfl rfl) rfl)) rfl ?_
  refine s_gpg (v := .bool (!decide (a1.B = 0))) (G0 := (!(((decide (a0 = 0)) || ((!((isa_used.m a0).1)) && (!decide (a1.T = 0)))) || ((!((isa_used.m a0).2.1)) && (!decide (a1.A = 0)))))) (b := (!((isa_used.m a0).2.2.1))) rfl rfl rfl (beq_t _) (fun g_ => e_bin (tmg ((!(((decide (a0 = 0)) || ((!((isa_used.m a0).1)) && (!decide (a1.T = 0)))) || ((!((isa_used.m a0).2.1)) && (!decide (a1.A = 0))))) && (!((isa_used.m a0).2.2.1))) (.int .i64 a1.B) rfl rfl (and_i (and_l g_) (and_r g_))) rfl (r_neq rfl)) rfl ?_
  refine s_gp (v := .bool ((!((isa_used.m a0).2.2.1)) && (!decide (a1.B = 0)))) rfl rfl rfl (beq_f _) (fun g_ => e_pick (v1 := .bool (!decide (a1.B = 0))) (v2 := .bool false) (tmg (!(((decide (a0 = 0)) || ((!((isa_used.m a0).1)) && (!decide (a1.T = 0)))) || ((!((isa_used.m a0).2.1)) && (!decide (a1.A = 0))))) (.bool (!((isa_used.m a0).2.2.1))) rfl rfl g_) (fun h_ => tmg ((!(((decide (a0 = 0)) || ((!((isa_used.m a0).1)) && (!decide (a1.T = 0)))) || ((!((isa_used.m a0).2.1)) && (!decide (a1.A = 0))))) && (!((isa_used.m a0).2.2.1))) (.bool (!decide (a1.B = 0))) rfl rfl (and_i g_ h_)) (fun _ => rfl) (pk_and (!((isa_used.m a0).2.2.1)))) rfl ?_
  refine sv (v := .bool ((((decide (a0 = 0)) || ((!((isa_used.m a0).1)) && (!decide (a1.T = 0)))) || ((!((isa_used.m a0).2.1)) && (!decide (a1.A = 0)))) || ((!((isa_used.m a0).2.2.1)) && (!decide (a1.B = 0))))) rfl rfl rfl (e_pick (v1 := .bool true) (v2 := .bool ((!((isa_used.m a0).2.2.1)) && (!decide (a1.B = 0)))) (tm rfl rfl) (fun _ => rfl) (fun h_ => tmg (!(((decide (a0 = 0)) || ((!((isa_used.m a0).1)) && (!decide (a1.T = 0)))) || ((!((isa_used.m a0).2.1)) && (!decide (a1.A = 0))))) (.bool ((!((isa_used.m a0).2.2.1)) && (!decide (a1.B = 0)))) rfl rfl (nt h_)) (pk_or (((decide (a0 = 0)) || ((!((isa_used.m a0).1)) && (!decide (a1.T = 0)))) || ((!((isa_used.m a0).2.1)) && (!decide (a1.A = 0)))))) ?_
  refine sv (v := .bool ((((decide (a0 = 0)) || ((!((isa_used.m a0).1)) && (!decide (a1.T = 0)))) || ((!((isa_used.m a0).2.1)) && (!decide (a1.A = 0)))) || ((!((isa_used.m a0).2.2.1)) && (!decide (a1.B = 0))))) rfl rfl rfl (e_move (tm rfl rfl)) ?_
  refine s_gp (v := .bool (!decide (((isa_used.m a0).2.2.2.1) = ((isa_used.m a0).2.2.2.2.1)))) rfl rfl rfl (beq_f _) (fun g_ => e_move (tm rfl rfl)) rfl ?_
  refine s_gp (v := .bool (!(!decide (((isa_used.m a0).2.2.2.1) = ((isa_used.m a0).2.2.2.2.1))))) rfl rfl rfl (beq_f _) (fun g_ => e_un (tmg (!((((decide (a0 = 0)) || ((!((isa_used.m a0).1)) && (!decide (a1.T = 0)))) || ((!((isa_used.m a0).2.1)) && (!decide (a1.A = 0)))) || ((!((isa_used.m a0).2.2.1)) && (!decide (a1.B = 0))))) (.bool (!decide (((isa_used.m a0).2.2.2.1) = ((isa_used.m a0).2.2.2.2.1)))) rfl rfl g_) (r_not rfl)) rfl ?_
  refine s_gp (v := .bool (!(!decide (((isa_used.m a0).2.2.2.1) = ((isa_used.m a0).2.2.2.2.1))))) rfl rfl rfl (beq_f _) (fun g_ => e_move (tmg (!((((decide (a0 = 0)) || ((!((isa_used.m a0).1)) && (!decide (a1.T = 0)))) || ((!((isa_used.m a0).2.1)) && (!decide (a1.A = 0)))) || ((!((isa_used.m a0).2.2.1)) && (!decide (a1.B = 0))))) (.bool (!(!decide (((isa_used.m a0).2.2.2.1) = ((isa_used.m a0).2.2.2.2.1))))) rfl rfl g_)) rfl ?_
  refine s_gpg (v := .pointer (some ⟨b1, 4, none⟩)) (G0 := (!((((decide (a0 = 0)) || ((!((isa_used.m a0).1)) && (!decide (a1.T = 0)))) || ((!((isa_used.m a0).2.1)) && (!decide (a1.A = 0)))) || ((!((isa_used.m a0).2.2.1)) && (!decide (a1.B = 0)))))) (b := (!(!decide (((isa_used.m a0).2.2.2.1) = ((isa_used.m a0).2.2.2.2.1))))) rfl rfl rfl (beq_t _) (fun g_ => e_fieldAddr (tm rfl rfl) Try.runUnderlying23 rfl Try.sizeOf3 rfl rfl) rfl ?_
  refine s_gpg (v := .int .i64 a1.Imm) (G0 := (!((((decide (a0 = 0)) || ((!((isa_used.m a0).1)) && (!decide (a1.T = 0)))) || ((!((isa_used.m a0).2.1)) && (!decide (a1.A = 0)))) || ((!((isa_used.m a0).2.2.1)) && (!decide (a1.B = 0)))))) (b := (!(!decide (((isa_used.m a0).2.2.2.1) = ((isa_used.m a0).2.2.2.2.1))))) rfl rfl rfl (beq_t _) (fun g_ => e_load1 (tmg ((!((((decide (a0 = 0)) || ((!((isa_used.m a0).1)) && (!decide (a1.T = 0)))) || ((!((isa_used.m a0).2.1)) && (!decide (a1.A = 0)))) || ((!((isa_used.m a0).2.2.1)) && (!decide (a1.B = 0))))) && (!(!decide (((isa_used.m a0).2.2.2.1) = ((isa_used.m a0).2.2.2.2.1))))) (.pointer (some ⟨b1, 4, none⟩)) rfl rfl (and_i (and_l g_) (and_r g_))) Try.isAgg3 (cell_at (hp6.get (i := 0) (j := 0) rfl rfl) rfl)) rfl ?_
  refine s_gpg (v := .bool (!decide (a1.Imm = 0))) (G0 := (!((((decide (a0 = 0)) || ((!((isa_used.m a0).1)) && (!decide (a1.T = 0)))) || ((!((isa_used.m a0).2.1)) && (!decide (a1.A = 0)))) || ((!((isa_used.m a0).2.2.1)) && (!decide (a1.B = 0)))))) (b := (!(!decide (((isa_used.m a0).2.2.2.1) = ((isa_used.m a0).2.2.2.2.1))))) rfl rfl rfl (beq_t _) (fun g_ => e_bin (tmg ((!((((decide (a0 = 0)) || ((!((isa_used.m a0).1)) && (!decide (a1.T = 0)))) || ((!((isa_used.m a0).2.1)) && (!decide (a1.A = 0)))) || ((!((isa_used.m a0).2.2.1)) && (!decide (a1.B = 0))))) && (!(!decide (((isa_used.m a0).2.2.2.1) = ((isa_used.m a0).2.2.2.2.1))))) (.int .i64 a1.Imm) rfl rfl (and_i (and_l g_) (and_r g_))) rfl (r_neq rfl)) rfl ?_
  refine s_gp (v := .bool ((!(!decide (((isa_used.m a0).2.2.2.1) = ((isa_used.m a0).2.2.2.2.1)))) && (!decide (a1.Imm = 0)))) rfl rfl rfl (beq_f _) (fun g_ => e_pick (v1 := .bool (!decide (a1.Imm = 0))) (v2 := .bool false) (tmg (!((((decide (a0 = 0)) || ((!((isa_used.m a0).1)) && (!decide (a1.T = 0)))) || ((!((isa_used.m a0).2.1)) && (!decide (a1.A = 0)))) || ((!((isa_used.m a0).2.2.1)) && (!decide (a1.B = 0))))) (.bool (!(!decide (((isa_used.m a0).2.2.2.1) = ((isa_used.m a0).2.2.2.2.1))))) rfl rfl g_) (fun h_ => tmg ((!((((decide (a0 = 0)) || ((!((isa_used.m a0).1)) && (!decide (a1.T = 0)))) || ((!((isa_used.m a0).2.1)) && (!decide (a1.A = 0)))) || ((!((isa_used.m a0).2.2.1)) && (!decide (a1.B = 0))))) && (!(!decide (((isa_used.m a0).2.2.2.1) = ((isa_used.m a0).2.2.2.2.1))))) (.bool (!decide (a1.Imm = 0))) rfl rfl (and_i g_ h_)) (fun _ => rfl) (pk_and (!(!decide (((isa_used.m a0).2.2.2.1) = ((isa_used.m a0).2.2.2.2.1)))))) rfl ?_
  refine sv (v := .bool (((((decide (a0 = 0)) || ((!((isa_used.m a0).1)) && (!decide (a1.T = 0)))) || ((!((isa_used.m a0).2.1)) && (!decide (a1.A = 0)))) || ((!((isa_used.m a0).2.2.1)) && (!decide (a1.B = 0)))) || ((!(!decide (((isa_used.m a0).2.2.2.1) = ((isa_used.m a0).2.2.2.2.1)))) && (!decide (a1.Imm = 0))))) rfl rfl rfl (e_pick (v1 := .bool true) (v2 := .bool ((!(!decide (((isa_used.m a0).2.2.2.1) = ((isa_used.m a0).2.2.2.2.1)))) && (!decide (a1.Imm = 0)))) (tm rfl rfl) (fun _ => rfl) (fun h_ => tmg (!((((decide (a0 = 0)) || ((!((isa_used.m a0).1)) && (!decide (a1.T = 0)))) || ((!((isa_used.m a0).2.1)) && (!decide (a1.A = 0)))) || ((!((isa_used.m a0).2.2.1)) && (!decide (a1.B = 0))))) (.bool ((!(!decide (((isa_used.m a0).2.2.2.1) = ((isa_used.m a0).2.2.2.2.1)))) && (!decide (a1.Imm = 0)))) rfl rfl (nt h_)) (pk_or ((((decide (a0 = 0)) || ((!((isa_used.m a0).1)) && (!decide (a1.T = 0)))) || ((!((isa_used.m a0).2.1)) && (!decide (a1.A = 0)))) || ((!((isa_used.m a0).2.2.1)) && (!decide (a1.B = 0)))))) ?_
  refine k_nil ?_
  refine k_if (tm rfl rfl) (fun h7 => ?_) (fun h7 => ?_)
  · have H := ift h7 H
    refine k_seq ?_
    refine k_region ?_
    refine sv (v := .int .i64 3) rfl rfl rfl (e_assign rfl) ?_
    refine k_nil ?_
    refine k_ret ?_
    obtain rfl := Option.some.inj H
    exact k_end rfl (.tmp rfl rfl .nil) rfl ⟨rfl, hp6.below⟩
  have H := iff_ h7 H
  refine k_skip ?_
  refine k_seq ?_
  refine k_seq ?_
  obtain ⟨o8, H, G9⟩ := bindSome H
  refine k_cut (fun a w' => ∃ (σ27 : Nat → Value), a = st 115 [(114, .bool o8)] σ27 [] ∧ Hp0 w w' []) ?_ ?_
  · refine k_region ?_
    refine sv (v := .int .i64 a0) rfl rfl rfl (e_move (tm rfl rfl)) ?_
    refine sv (v := .bool (decide (a0 = 8))) rfl rfl rfl (e_bin (tm rfl rfl) rfl (r_eql rfl)) ?_
    refine sv (v := .bool (decide (a0 = 8))) rfl rfl rfl (e_move (tm rfl rfl)) ?_
    refine s_gp (v := .pointer (some ⟨b1, 1, none⟩)) rfl rfl rfl (beq_t _) (fun g_ => e_fieldAddr (tm rfl rfl) Try.runUnderlying23 rfl Try.sizeOf3 rfl rfl) rfl ?_
    refine s_gp (v := .int .i64 a1.T) rfl rfl rfl (beq_t _) (fun g_ => e_load1 (tmg (decide (a0 = 8)) (.pointer (some ⟨b1, 1, none⟩)) rfl rfl g_) Try.isAgg3 (cell_at (hp6.get (i := 0) (j := 0) rfl rfl) rfl)) rfl ?_
    refine s_gp (v := .bool (decide (a1.T < 0))) rfl rfl rfl (beq_t _) (fun g_ => e_bin (tmg (decide (a0 = 8)) (.int .i64 a1.T) rfl rfl g_) rfl (r_lss rfl)) rfl ?_
    refine s_gp (v := .bool (decide (a1.T < 0))) rfl rfl rfl (beq_t _) (fun g_ => e_move (tmg (decide (a0 = 8)) (.bool (decide (a1.T < 0))) rfl rfl g_)) rfl ?_
    refine s_gpg (v := .pointer (some ⟨b1, 1, none⟩)) (G0 := (decide (a0 = 8))) (b := decide (a1.T < 0)) rfl rfl rfl (beq_f _) (fun g_ => e_fieldAddr (tm rfl rfl) Try.runUnderlying23 rfl Try.sizeOf3 rfl rfl) rfl ?_
    refine s_gpg (v := .int .i64 a1.T) (G0 := (decide (a0 = 8))) (b := decide (a1.T < 0)) rfl rfl rfl (beq_f _) (fun g_ => e_load1 (tmg ((decide (a0 = 8)) && (!(decide (a1.T < 0)))) (.pointer (some ⟨b1, 1, none⟩)) rfl rfl (and_i (and_l g_) (and_r g_))) Try.isAgg3 (cell_at (hp6.get (i := 0) (j := 0) rfl rfl) rfl)) rfl ?_
    refine s_gpg (v := .bool (decide (a1.T > 3))) (G0 := (decide (a0 = 8))) (b := decide (a1.T < 0)) rfl rfl rfl (beq_f _) (fun g_ => e_bin (tmg ((decide (a0 = 8)) && (!(decide (a1.T < 0)))) (.int .i64 a1.T) rfl rfl (and_i (and_l g_) (and_r g_))) rfl (r_gtr rfl)) rfl ?_
    refine s_gp (v := .bool ((decide (a1.T < 0)) || (decide (a1.T > 3)))) rfl rfl rfl (beq_t _) (fun g_ => e_pick (v1 := .bool true) (v2 := .bool (decide (a1.T > 3))) (tmg (decide (a0 = 8)) (.bool (decide (a1.T < 0))) rfl rfl g_) (fun _ => rfl) (fun h_ => tmg ((decide (a0 = 8)) && (!(decide (a1.T < 0)))) (.bool (decide (a1.T > 3))) rfl rfl (and_i g_ (nt h_))) (pk_or (decide (a1.T < 0)))) rfl ?_
    refine sv (v := .bool ((decide (a0 = 8)) && ((decide (a1.T < 0)) || (decide (a1.T > 3))))) rfl rfl rfl (e_pick (v1 := .bool ((decide (a1.T < 0)) || (decide (a1.T > 3)))) (v2 := .bool false) (tm rfl rfl) (fun h_ => tmg (decide (a0 = 8)) (.bool ((decide (a1.T < 0)) || (decide (a1.T > 3)))) rfl rfl h_) (fun _ => rfl) (pk_and (decide (a0 = 8)))) ?_
    refine sv (v := .bool ((decide (a0 = 8)) && ((decide (a1.T < 0)) || (decide (a1.T > 3))))) rfl rfl rfl (e_move (tm rfl rfl)) ?_
    refine s_gp (v := .int .i64 a0) rfl rfl rfl (beq_f _) (fun g_ => e_move (tm rfl rfl)) rfl ?_
    refine s_gp (v := .bool (!decide (a0 = 8))) rfl rfl rfl (beq_f _) (fun g_ => e_bin (tmg (!((decide (a0 = 8)) && ((decide (a1.T < 0)) || (decide (a1.T > 3))))) (.int .i64 a0) rfl rfl g_) rfl (r_neq rfl)) rfl ?_
    refine s_gp (v := .bool (!decide (a0 = 8))) rfl rfl rfl (beq_f _) (fun g_ => e_move (tmg (!((decide (a0 = 8)) && ((decide (a1.T < 0)) || (decide (a1.T > 3))))) (.bool (!decide (a0 = 8))) rfl rfl g_)) rfl ?_
    refine s_gpg (v := .pointer (some ⟨b1, 1, none⟩)) (G0 := (!((decide (a0 = 8)) && ((decide (a1.T < 0)) || (decide (a1.T > 3)))))) (b := (!decide (a0 = 8))) rfl rfl rfl (beq_t _) (fun g_ => e_fieldAddr (tm rfl rfl) Try.runUnderlying23 rfl Try.sizeOf3 rfl rfl) rfl ?_
    refine s_gpg (v := .int .i64 a1.T) (G0 := (!((decide (a0 = 8)) && ((decide (a1.T < 0)) || (decide (a1.T > 3)))))) (b := (!decide (a0 = 8))) rfl rfl rfl (beq_t _) (fun g_ => e_load1 (tmg ((!((decide (a0 = 8)) && ((decide (a1.T < 0)) || (decide (a1.T > 3))))) && (!decide (a0 = 8))) (.pointer (some ⟨b1, 1, none⟩)) rfl rfl (and_i (and_l g_) (and_r g_))) Try.isAgg3 (cell_at (hp6.get (i := 0) (j := 0) rfl rfl) rfl)) rfl ?_
    refine s_gcallg (v := .bool (isa_reg.m a1.T)) (G0 := (!((decide (a0 = 8)) && ((decide (a1.T < 0)) || (decide (a1.T > 3)))))) (b := (!decide (a0 = 8))) rfl rfl rfl (beq_t _) hp6 (fun g_ => (.cons (tmg ((!((decide (a0 = 8)) && ((decide (a1.T < 0)) || (decide (a1.T > 3))))) && (!decide (a0 = 8))) (.int .i64 a1.T) rfl rfl (and_i (and_l g_) (and_r g_))) .nil)) Try.call24 (isa_reg.calls a1.T _) rfl (fun w10 hp11 => ?_)
    refine s_gpg (v := .bool (!(isa_reg.m a1.T))) (G0 := (!((decide (a0 = 8)) && ((decide (a1.T < 0)) || (decide (a1.T > 3)))))) (b := (!decide (a0 = 8))) rfl rfl rfl (beq_t _) (fun g_ => e_un (tmg ((!((decide (a0 = 8)) && ((decide (a1.T < 0)) || (decide (a1.T > 3))))) && (!decide (a0 = 8))) (.bool (isa_reg.m a1.T)) rfl rfl (and_i (and_l g_) (and_r g_))) (r_not rfl)) rfl ?_
    refine s_gp (v := .bool ((!decide (a0 = 8)) && (!(isa_reg.m a1.T)))) rfl rfl rfl (beq_f _) (fun g_ => e_pick (v1 := .bool (!(isa_reg.m a1.T))) (v2 := .bool false) (tmg (!((decide (a0 = 8)) && ((decide (a1.T < 0)) || (decide (a1.T > 3))))) (.bool (!decide (a0 = 8))) rfl rfl g_) (fun h_ => tmg ((!((decide (a0 = 8)) && ((decide (a1.T < 0)) || (decide (a1.T > 3))))) && (!decide (a0 = 8))) (.bool (!(isa_reg.m a1.T))) rfl rfl (and_i g_ h_)) (fun _ => rfl) (pk_and (!decide (a0 = 8)))) rfl ?_
    refine sv (v := .bool (((decide (a0 = 8)) && ((decide (a1.T < 0)) || (decide (a1.T > 3)))) || ((!decide (a0 = 8)) && (!(isa_reg.m a1.T))))) rfl rfl rfl (e_pick (v1 := .bool true) (v2 := .bool ((!decide (a0 = 8)) && (!(isa_reg.m a1.T)))) (tm rfl rfl) (fun _ => rfl) (fun h_ => tmg (!((decide (a0 = 8)) && ((decide (a1.T < 0)) || (decide (a1.T > 3))))) (.bool ((!decide (a0 = 8)) && (!(isa_reg.m a1.T)))) rfl rfl (nt h_)) (pk_or ((decide (a0 = 8)) && ((decide (a1.T < 0)) || (decide (a1.T > 3)))))) ?_
    refine sv (v := .bool (((decide (a0 = 8)) && ((decide (a1.T < 0)) || (decide (a1.T > 3)))) || ((!decide (a0 = 8)) && (!(isa_reg.m a1.T))))) rfl rfl rfl (e_move (tm rfl rfl)) ?_
    refine s_gp (v := .pointer (some ⟨b1, 2, none⟩)) rfl rfl rfl (beq_f _) (fun g_ => e_fieldAddr (tm rfl rfl) Try.runUnderlying23 rfl Try.sizeOf3 rfl rfl) rfl ?_
    refine s_gp (v := .int .i64 a1.A) rfl rfl rfl (beq_f _) (fun g_ => e_load1 (tmg (!(((decide (a0 = 8)) && ((decide (a1.T < 0)) || (decide (a1.T > 3)))) || ((!decide (a0 = 8)) && (!(isa_reg.m a1.T))))) (.pointer (some ⟨b1, 2, none⟩)) rfl rfl g_) Try.isAgg3 (cell_at (hp11.get (i := 0) (j := 0) rfl rfl) rfl)) rfl ?_
    refine s_gcall (v := .bool (isa_reg.m a1.A)) rfl rfl rfl (beq_f _) hp11 (fun g_ => (.cons (tmg (!(((decide (a0 = 8)) && ((decide (a1.T < 0)) || (decide (a1.T > 3)))) || ((!decide (a0 = 8)) && (!(isa_reg.m a1.T))))) (.int .i64 a1.A) rfl rfl g_) .nil)) Try.call24 (isa_reg.calls a1.A _) rfl (fun w12 hp13 => ?_)
    refine s_gp (v := .bool (!(isa_reg.m a1.A))) rfl rfl rfl (beq_f _) (fun g_ => e_un (tmg (!(((decide (a0 = 8)) && ((decide (a1.T < 0)) || (decide (a1.T > 3)))) || ((!decide (a0 = 8)) && (!(isa_reg.m a1.T))))) (.bool (isa_reg.m a1.A)) rfl rfl g_) (r_not rfl)) rfl ?_
    refine sv (v := .bool ((((decide (a0 = 8)) && ((decide (a1.T < 0)) || (decide (a1.T > 3)))) || ((!decide (a0 = 8)) && (!(isa_reg.m a1.T)))) || (!(isa_reg.m a1.A)))) rfl rfl rfl (e_pick (v1 := .bool true) (v2 := .bool (!(isa_reg.m a1.A))) (tm rfl rfl) (fun _ => rfl) (fun h_ => tmg (!(((decide (a0 = 8)) && ((decide (a1.T < 0)) || (decide (a1.T > 3)))) || ((!decide (a0 = 8)) && (!(isa_reg.m a1.T))))) (.bool (!(isa_reg.m a1.A))) rfl rfl (nt h_)) (pk_or (((decide (a0 = 8)) && ((decide (a1.T < 0)) || (decide (a1.T > 3)))) || ((!decide (a0 = 8)) && (!(isa_reg.m a1.T)))))) ?_
    refine sv (v := .bool ((((decide (a0 = 8)) && ((decide (a1.T < 0)) || (decide (a1.T > 3)))) || ((!decide (a0 = 8)) && (!(isa_reg.m a1.T)))) || (!(isa_reg.m a1.A)))) rfl rfl rfl (e_move (tm rfl rfl)) ?_
    refine s_gp (v := .pointer (some ⟨b1, 3, none⟩)) rfl rfl rfl (beq_f _) (fun g_ => e_fieldAddr (tm rfl rfl) Try.runUnderlying23 rfl Try.sizeOf3 rfl rfl) rfl ?_
    refine s_gp (v := .int .i64 a1.B) rfl rfl rfl (beq_f _) (fun g_ => e_load1 (tmg (!((((decide (a0 = 8)) && ((decide (a1.T < 0)) || (decide (a1.T > 3)))) || ((!decide (a0 = 8)) && (!(isa_reg.m a1.T)))) || (!(isa_reg.m a1.A)))) (.pointer (some ⟨b1, 3, none⟩)) rfl rfl g_) Try.isAgg3 (cell_at (hp13.get (i := 0) (j := 0) rfl rfl) rfl)) rfl ?_
    refine s_gcall (v := .bool (isa_reg.m a1.B)) rfl rfl rfl (beq_f _) hp13 (fun g_ => (.cons (tmg (!((((decide (a0 = 8)) && ((decide (a1.T < 0)) || (decide (a1.T > 3)))) || ((!decide (a0 = 8)) && (!(isa_reg.m a1.T)))) || (!(isa_reg.m a1.A)))) (.int .i64 a1.B) rfl rfl g_) .nil)) Try.call24 (isa_reg.calls a1.B _) rfl (fun w14 hp15 => ?_)
    refine s_gp (v := .bool (!(isa_reg.m a1.B))) rfl rfl rfl (beq_f _) (fun g_ => e_un (tmg (!((((decide (a0 = 8)) && ((decide (a1.T < 0)) || (decide (a1.T > 3)))) || ((!decide (a0 = 8)) && (!(isa_reg.m a1.T)))) || (!(isa_reg.m a1.A)))) (.bool (isa_reg.m a1.B)) rfl rfl g_) (r_not rfl)) rfl ?_
    refine sv (v := .bool (((((decide (a0 = 8)) && ((decide (a1.T < 0)) || (decide (a1.T > 3)))) || ((!decide (a0 = 8)) && (!(isa_reg.m a1.T)))) || (!(isa_reg.m a1.A))) || (!(isa_reg.m a1.B)))) rfl rfl rfl (e_pick (v1 := .bool true) (v2 := .bool (!(isa_reg.m a1.B))) (tm rfl rfl) (fun _ => rfl) (fun h_ => tmg (!((((decide (a0 = 8)) && ((decide (a1.T < 0)) || (decide (a1.T > 3)))) || ((!decide (a0 = 8)) && (!(isa_reg.m a1.T)))) || (!(isa_reg.m a1.A)))) (.bool (!(isa_reg.m a1.B))) rfl rfl (nt h_)) (pk_or ((((decide (a0 = 8)) && ((decide (a1.T < 0)) || (decide (a1.T > 3)))) || ((!decide (a0 = 8)) && (!(isa_reg.m a1.T)))) || (!(isa_reg.m a1.A))))) ?_
    refine sv (v := .bool (((((decide (a0 = 8)) && ((decide (a1.T < 0)) || (decide (a1.T > 3)))) || ((!decide (a0 = 8)) && (!(isa_reg.m a1.T)))) || (!(isa_reg.m a1.A))) || (!(isa_reg.m a1.B)))) rfl rfl rfl (e_move (tm rfl rfl)) ?_
    refine s_gp (v := .pointer (some ⟨b1, 4, none⟩)) rfl rfl rfl (beq_f _) (fun g_ => e_fieldAddr (tm rfl rfl) Try.runUnderlying23 rfl Try.sizeOf3 rfl rfl) rfl ?_
    refine s_gp (v := .int .i64 a1.Imm) rfl rfl rfl (beq_f _) (fun g_ => e_load1 (tmg (!(((((decide (a0 = 8)) && ((decide (a1.T < 0)) || (decide (a1.T > 3)))) || ((!decide (a0 = 8)) && (!(isa_reg.m a1.T)))) || (!(isa_reg.m a1.A))) || (!(isa_reg.m a1.B)))) (.pointer (some ⟨b1, 4, none⟩)) rfl rfl g_) Try.isAgg3 (cell_at (hp15.get (i := 0) (j := 0) rfl rfl) rfl)) rfl ?_
    refine s_gp (v := .int .i64 ((isa_used.m a0).2.2.2.1)) rfl rfl rfl (beq_f _) (fun g_ => e_move (tm rfl rfl)) rfl ?_
    refine s_gp (v := .bool (decide (a1.Imm < ((isa_used.m a0).2.2.2.1)))) rfl rfl rfl (beq_f _) (fun g_ => e_bin (tmg (!(((((decide (a0 = 8)) && ((decide (a1.T < 0)) || (decide (a1.T > 3)))) || ((!decide (a0 = 8)) && (!(isa_reg.m a1.T)))) || (!(isa_reg.m a1.A))) || (!(isa_reg.m a1.B)))) (.int .i64 a1.Imm) rfl rfl g_) (tmg (!(((((decide (a0 = 8)) && ((decide (a1.T < 0)) || (decide (a1.T > 3)))) || ((!decide (a0 = 8)) && (!(isa_reg.m a1.T)))) || (!(isa_reg.m a1.A))) || (!(isa_reg.m a1.B)))) (.int .i64 ((isa_used.m a0).2.2.2.1)) rfl rfl g_) (r_lss rfl)) rfl ?_
    refine sv (v := .bool ((((((decide (a0 = 8)) && ((decide (a1.T < 0)) || (decide (a1.T > 3)))) || ((!decide (a0 = 8)) && (!(isa_reg.m a1.T)))) || (!(isa_reg.m a1.A))) || (!(isa_reg.m a1.B))) || (decide (a1.Imm < ((isa_used.m a0).2.2.2.1))))) rfl rfl rfl (e_pick (v1 := .bool true) (v2 := .bool (decide (a1.Imm < ((isa_used.m a0).2.2.2.1)))) (tm rfl rfl) (fun _ => rfl) (fun h_ => tmg (!(((((decide (a0 = 8)) && ((decide (a1.T < 0)) || (decide (a1.T > 3)))) || ((!decide (a0 = 8)) && (!(isa_reg.m a1.T)))) || (!(isa_reg.m a1.A))) || (!(isa_reg.m a1.B)))) (.bool (decide (a1.Imm < ((isa_used.m a0).2.2.2.1)))) rfl rfl (nt h_)) (pk_or (((((decide (a0 = 8)) && ((decide (a1.T < 0)) || (decide (a1.T > 3)))) || ((!decide (a0 = 8)) && (!(isa_reg.m a1.T)))) || (!(isa_reg.m a1.A))) || (!(isa_reg.m a1.B))))) ?_
    refine sv (v := .bool ((((((decide (a0 = 8)) && ((decide (a1.T < 0)) || (decide (a1.T > 3)))) || ((!decide (a0 = 8)) && (!(isa_reg.m a1.T)))) || (!(isa_reg.m a1.A))) || (!(isa_reg.m a1.B))) || (decide (a1.Imm < ((isa_used.m a0).2.2.2.1))))) rfl rfl rfl (e_move (tm rfl rfl)) ?_
    refine s_gp (v := .pointer (some ⟨b1, 4, none⟩)) rfl rfl rfl (beq_f _) (fun g_ => e_fieldAddr (tm rfl rfl) Try.runUnderlying23 rfl Try.sizeOf3 rfl rfl) rfl ?_
    refine s_gp (v := .int .i64 a1.Imm) rfl rfl rfl (beq_f _) (fun g_ => e_load1 (tmg (!((((((decide (a0 = 8)) && ((decide (a1.T < 0)) || (decide (a1.T > 3)))) || ((!decide (a0 = 8)) && (!(isa_reg.m a1.T)))) || (!(isa_reg.m a1.A))) || (!(isa_reg.m a1.B))) || (decide (a1.Imm < ((isa_used.m a0).2.2.2.1))))) (.pointer (some ⟨b1, 4, none⟩)) rfl rfl g_) Try.isAgg3 (cell_at (hp15.get (i := 0) (j := 0) rfl rfl) rfl)) rfl ?_
    refine s_gp (v := .int .i64 ((isa_used.m a0).2.2.2.2.1)) rfl rfl rfl (beq_f _) (fun g_ => e_move (tm rfl rfl)) rfl ?_
    refine s_gp (v := .bool (decide (a1.Imm > ((isa_used.m a0).2.2.2.2.1)))) rfl rfl rfl (beq_f _) (fun g_ => e_bin (tmg (!((((((decide (a0 = 8)) && ((decide (a1.T < 0)) || (decide (a1.T > 3)))) || ((!decide (a0 = 8)) && (!(isa_reg.m a1.T)))) || (!(isa_reg.m a1.A))) || (!(isa_reg.m a1.B))) || (decide (a1.Imm < ((isa_used.m a0).2.2.2.1))))) (.int .i64 a1.Imm) rfl rfl g_) (tmg (!((((((decide (a0 = 8)) && ((decide (a1.T < 0)) || (decide (a1.T > 3)))) || ((!decide (a0 = 8)) && (!(isa_reg.m a1.T)))) || (!(isa_reg.m a1.A))) || (!(isa_reg.m a1.B))) || (decide (a1.Imm < ((isa_used.m a0).2.2.2.1))))) (.int .i64 ((isa_used.m a0).2.2.2.2.1)) rfl rfl g_) (r_gtr rfl)) rfl ?_
    refine sv (v := .bool (((((((decide (a0 = 8)) && ((decide (a1.T < 0)) || (decide (a1.T > 3)))) || ((!decide (a0 = 8)) && (!(isa_reg.m a1.T)))) || (!(isa_reg.m a1.A))) || (!(isa_reg.m a1.B))) || (decide (a1.Imm < ((isa_used.m a0).2.2.2.1)))) || (decide (a1.Imm > ((isa_used.m a0).2.2.2.2.1))))) rfl rfl rfl (e_pick (v1 := .bool true) (v2 := .bool (decide (a1.Imm > ((isa_used.m a0).2.2.2.2.1)))) (tm rfl rfl) (fun _ => rfl) (fun h_ => tmg (!((((((decide (a0 = 8)) && ((decide (a1.T < 0)) || (decide (a1.T > 3)))) || ((!decide (a0 = 8)) && (!(isa_reg.m a1.T)))) || (!(isa_reg.m a1.A))) || (!(isa_reg.m a1.B))) || (decide (a1.Imm < ((isa_used.m a0).2.2.2.1))))) (.bool (decide (a1.Imm > ((isa_used.m a0).2.2.2.2.1)))) rfl rfl (nt h_)) (pk_or ((((((decide (a0 = 8)) && ((decide (a1.T < 0)) || (decide (a1.T > 3)))) || ((!decide (a0 = 8)) && (!(isa_reg.m a1.T)))) || (!(isa_reg.m a1.A))) || (!(isa_reg.m a1.B))) || (decide (a1.Imm < ((isa_used.m a0).2.2.2.1)))))) ?_
    refine sv (v := .bool (((((((decide (a0 = 8)) && ((decide (a1.T < 0)) || (decide (a1.T > 3)))) || ((!decide (a0 = 8)) && (!(isa_reg.m a1.T)))) || (!(isa_reg.m a1.A))) || (!(isa_reg.m a1.B))) || (decide (a1.Imm < ((isa_used.m a0).2.2.2.1)))) || (decide (a1.Imm > ((isa_used.m a0).2.2.2.2.1))))) rfl rfl rfl (e_move (tm rfl rfl)) ?_
    refine s_gp (v := .pointer (some ⟨b1, 4, none⟩)) rfl rfl rfl (beq_f _) (fun g_ => e_fieldAddr (tm rfl rfl) Try.runUnderlying23 rfl Try.sizeOf3 rfl rfl) rfl ?_
    refine s_gp (v := .int .i64 a1.Imm) rfl rfl rfl (beq_f _) (fun g_ => e_load1 (tmg (!(((((((decide (a0 = 8)) && ((decide (a1.T < 0)) || (decide (a1.T > 3)))) || ((!decide (a0 = 8)) && (!(isa_reg.m a1.T)))) || (!(isa_reg.m a1.A))) || (!(isa_reg.m a1.B))) || (decide (a1.Imm < ((isa_used.m a0).2.2.2.1)))) || (decide (a1.Imm > ((isa_used.m a0).2.2.2.2.1))))) (.pointer (some ⟨b1, 4, none⟩)) rfl rfl g_) Try.isAgg3 (cell_at (hp15.get (i := 0) (j := 0) rfl rfl) rfl)) rfl ?_
    refine s_gp (v := .int .i64 ((isa_used.m a0).2.2.2.2.2)) rfl rfl rfl (beq_f _) (fun g_ => e_move (tm rfl rfl)) rfl ?_
    rcases Bool.eq_false_or_eq_true (((((((decide (a0 = 8)) && ((decide (a1.T < 0)) || (decide (a1.T > 3)))) || ((!decide (a0 = 8)) && (!(isa_reg.m a1.T)))) || (!(isa_reg.m a1.A))) || (!(isa_reg.m a1.B))) || (decide (a1.Imm < ((isa_used.m a0).2.2.2.1)))) || (decide (a1.Imm > ((isa_used.m a0).2.2.2.2.1)))) with h16 | h16
    · have H := ift h16 H
      refine goff rfl rfl (congrArg Value.bool h16) rfl ?_
      refine goff rfl rfl (congrArg Value.bool h16) rfl ?_
      refine sv (v := .bool true) rfl rfl rfl (e_pick (v1 := .bool true) (v2 := .bool true) (tm rfl rfl) (fun _ => rfl) (fun h_ => by rw [h16] at h_; cases h_) (by rw [h16]; rfl)) ?_
      refine k_nil ?_
      obtain rfl := Option.some.inj H
      exact ⟨_, seenF ⟨rfl, trivial⟩, hp15.pick [] (by decide) rfl⟩
    have H := iff_ h16 H
    refine gon rfl rfl (congrArg Value.bool h16) ?_
    obtain ⟨g17, H⟩ := grd H
    refine sv (v := .int .i64 (Int.tmod a1.Imm ((isa_used.m a0).2.2.2.2.2))) rfl rfl rfl (e_bin (tmg (!(((((((decide (a0 = 8)) && ((decide (a1.T < 0)) || (decide (a1.T > 3)))) || ((!decide (a0 = 8)) && (!(isa_reg.m a1.T)))) || (!(isa_reg.m a1.A))) || (!(isa_reg.m a1.B))) || (decide (a1.Imm < ((isa_used.m a0).2.2.2.1)))) || (decide (a1.Imm > ((isa_used.m a0).2.2.2.2.1))))) (.int .i64 a1.Imm) rfl rfl (nt h16)) (tmg (!(((((((decide (a0 = 8)) && ((decide (a1.T < 0)) || (decide (a1.T > 3)))) || ((!decide (a0 = 8)) && (!(isa_reg.m a1.T)))) || (!(isa_reg.m a1.A))) || (!(isa_reg.m a1.B))) || (decide (a1.Imm < ((isa_used.m a0).2.2.2.1)))) || (decide (a1.Imm > ((isa_used.m a0).2.2.2.2.1))))) (.int .i64 ((isa_used.m a0).2.2.2.2.2)) rfl rfl (nt h16)) (r_rem g17 rfl)) ?_
    refine gon rfl rfl (congrArg Value.bool h16) ?_
    refine sv (v := .bool (!decide ((Int.tmod a1.Imm ((isa_used.m a0).2.2.2.2.2)) = 0))) rfl rfl rfl (e_bin (tm rfl rfl) rfl (r_neq rfl)) ?_
    refine sv (v := .bool (!decide ((Int.tmod a1.Imm ((isa_used.m a0).2.2.2.2.2)) = 0))) rfl rfl rfl (e_pick (v1 := .bool (!decide ((Int.tmod a1.Imm ((isa_used.m a0).2.2.2.2.2)) = 0))) (v2 := .bool (!decide ((Int.tmod a1.Imm ((isa_used.m a0).2.2.2.2.2)) = 0))) (tm rfl rfl) (fun h_ => by rw [h16] at h_; cases h_) (fun _ => (tm rfl rfl)) (by rw [h16]; rfl)) ?_
    refine k_nil ?_
    obtain rfl := Option.some.inj H
    exact ⟨_, seenF ⟨rfl, trivial⟩, hp15.pick [] (by decide) rfl⟩
  clear H
  rintro a w' ⟨σ21, rfl, hp19⟩
  have H := G9
  refine k_if (tm rfl rfl) (fun h22 => ?_) (fun h22 => ?_)
  · have H := ift h22 H
    refine k_seq ?_
    refine k_region ?_
    refine sv (v := .int .i64 2) rfl rfl rfl (e_assign rfl) ?_
    refine k_nil ?_
    refine k_ret ?_
    obtain rfl := Option.some.inj H
    exact k_end rfl (.tmp rfl rfl .nil) rfl ⟨rfl, hp19.below⟩
  have H := iff_ h22 H
  refine k_skip ?_
  refine k_seq ?_
  refine k_region ?_
  refine sv (v := .int .i64 0) rfl rfl rfl (e_assign rfl) ?_
  refine k_nil ?_
  refine k_ret ?_
  obtain rfl := Option.some.inj H
  exact k_end rfl (.tmp rfl rfl .nil) rfl ⟨rfl, hp19.below⟩

end Go.Proofs.Ytallojficgiemaa.W
