/- Functions of the program as plain Lean functions, and that the calls do what they say: written by w2.py. -/
import Derived.Test.YtcnchjlomcafeaaDefer
import Derived.Test.YtcnchjlomcafeaaTy
import Derived.Test.YtcnchjlomcafeaaF1
import Derived.Test.YtcnchjlomcafeaaF2
set_option linter.unusedVariables false
set_option linter.unusedSimpArgs false
set_option linter.unusedSectionVars false
namespace Go.Proofs.Ytcnchjlomcafeaa.W
open Go Go.RowKit Go.Proofs.Ytcnchjlomcafeaa.B
attribute [local irreducible] Go.wpList Go.Code.wp Go.Region.wanted Go.yielded
/-! ### selvage/isa.check: function 32 -/
def isa_check.m (a0 : Int) (a1 : api_Inst) : Option Int :=
  if (((((decide (a0 = 0)) || ((!((isa_used.m a0).1)) && (!decide (a1.T = 0)))) || ((!((isa_used.m a0).2.1)) && (!decide (a1.A = 0)))) || ((!((isa_used.m a0).2.2.1)) && (!decide (a1.B = 0)))) || ((!(!decide (((isa_used.m a0).2.2.2.1) = ((isa_used.m a0).2.2.2.2.1)))) && (!decide (a1.Imm = 0)))) = true then (some 3) else ((if ((decide (a0 = 8)) && ((decide (a1.T < 0)) || (decide (a1.T > 3)))) = true then (some true) else (if (decide (a0 = 8)) = true then (if (isa_reg.m a1.A) = true then (if (((!(isa_reg.m a1.B)) || (decide (a1.Imm < ((isa_used.m a0).2.2.2.1)))) || (decide (a1.Imm > ((isa_used.m a0).2.2.2.2.1)))) = true then (some true) else (if ((isa_used.m a0).2.2.2.2.2) ≠ 0 then (some (!decide ((Int.tmod a1.Imm ((isa_used.m a0).2.2.2.2.2)) = 0))) else none)) else (some true)) else (if (isa_reg.m a1.T) = true then (if (isa_reg.m a1.A) = true then (if (((!(isa_reg.m a1.B)) || (decide (a1.Imm < ((isa_used.m a0).2.2.2.1)))) || (decide (a1.Imm > ((isa_used.m a0).2.2.2.2.1)))) = true then (some true) else (if ((isa_used.m a0).2.2.2.2.2) ≠ 0 then (some (!decide ((Int.tmod a1.Imm ((isa_used.m a0).2.2.2.2.2)) = 0))) else none)) else (some true)) else (some true))) : Option Bool).bind fun o_12 => if o_12 = true then (some 2) else (some 0))
set_option maxHeartbeats 4000000 in
set_option maxRecDepth 100000 in
theorem isa_check.calls (a0 : Int) (a1 : api_Inst) (r : Int) (w : World) (H : isa_check.m a0 a1 = some r) :
    Ret Try.prog 32 [.int .i64 a0, .agg #[.int .i64 a1.Op, .int .i64 a1.T, .int .i64 a1.A, .int .i64 a1.B, .int .i64 a1.Imm]] w fun v w' => v = .int .i64 r ∧ Aft w w' [] [] := by
  unfold isa_check.m at H
  have hp0 := Hp.startR (F := no) (R := []) (Have.nil w) (fun _ h => h.elim)
  have ep0 := Ep.refl no [] w
  refine enter (L := [(0, .int .i64 a0), (1, .agg #[.int .i64 a1.Op, .int .i64 a1.T, .int .i64 a1.A, .int .i64 a1.B, .int .i64 a1.Imm])]) Try.func32 rfl Try.ntmps32 rfl rfl ?_
  refine k_seq ?_
  refine k_region ?_
  refine s_box (l := [.int .i64 a1.Op, .int .i64 a1.T, .int .i64 a1.A, .int .i64 a1.B, .int .i64 a1.Imm]) hp0 (tm rfl rfl) rfl rfl (fun b_1 w_2 hp_3 => ?_)
  refine sv (v := .int .i64 0) rfl rfl rfl (e_assign rfl) ?_
  refine k_nil ?_
  refine k_seq ?_
  refine k_region ?_
  refine sv (v := .int .i64 a0) rfl rfl rfl (e_move (tm rfl rfl)) ?_
  refine s_call (.cons (tm rfl rfl) .nil) Try.call54 (isa_used.calls a0 _) rfl ?_
  rintro v_ w_7 ⟨rfl, af_10⟩
  have hp_8 := Hp.callA af_10 hp_3
  refine sv (v := .tuple #[.bool ((isa_used.m a0).1), .bool ((isa_used.m a0).2.1), .bool ((isa_used.m a0).2.2.1), .int .i64 ((isa_used.m a0).2.2.2.1), .int .i64 ((isa_used.m a0).2.2.2.2.1), .int .i64 ((isa_used.m a0).2.2.2.2.2)]) rfl rfl rfl (e_move (tm rfl rfl)) ?_
  refine sv (v := .bool ((isa_used.m a0).1)) rfl rfl rfl (e_extract (tm rfl rfl) rfl) ?_
  refine sv (v := .bool ((isa_used.m a0).2.1)) rfl rfl rfl (e_extract (tm rfl rfl) rfl) ?_
  refine sv (v := .bool ((isa_used.m a0).2.2.1)) rfl rfl rfl (e_extract (tm rfl rfl) rfl) ?_
  refine sv (v := .int .i64 ((isa_used.m a0).2.2.2.1)) rfl rfl rfl (e_extract (tm rfl rfl) rfl) ?_
  refine sv (v := .int .i64 ((isa_used.m a0).2.2.2.2.1)) rfl rfl rfl (e_extract (tm rfl rfl) rfl) ?_
  refine sv (v := .int .i64 ((isa_used.m a0).2.2.2.2.2)) rfl rfl rfl (e_extract (tm rfl rfl) rfl) ?_
  refine sv (v := .bool ((isa_used.m a0).1)) rfl rfl rfl (e_assign (tm rfl rfl)) ?_
  refine sv (v := .bool ((isa_used.m a0).2.1)) rfl rfl rfl (e_assign (tm rfl rfl)) ?_
  refine sv (v := .bool ((isa_used.m a0).2.2.1)) rfl rfl rfl (e_assign (tm rfl rfl)) ?_
  refine sv (v := .int .i64 ((isa_used.m a0).2.2.2.1)) rfl rfl rfl (e_assign (tm rfl rfl)) ?_
  refine sv (v := .int .i64 ((isa_used.m a0).2.2.2.2.1)) rfl rfl rfl (e_assign (tm rfl rfl)) ?_
  refine sv (v := .int .i64 ((isa_used.m a0).2.2.2.2.2)) rfl rfl rfl (e_assign (tm rfl rfl)) ?_
  refine k_nil ?_
  refine k_seq ?_
  refine k_region ?_
  refine sv (v := .int .i64 ((isa_used.m a0).2.2.2.1)) rfl rfl rfl (e_move (tm rfl rfl)) ?_
  refine sv (v := .int .i64 ((isa_used.m a0).2.2.2.2.1)) rfl rfl rfl (e_move (tm rfl rfl)) ?_
  refine sv (v := .bool (!decide (((isa_used.m a0).2.2.2.1) = ((isa_used.m a0).2.2.2.2.1)))) rfl rfl rfl (e_bin (tm rfl rfl) (tm rfl rfl) (r_neq rfl)) ?_
  refine sv (v := .bool (!decide (((isa_used.m a0).2.2.2.1) = ((isa_used.m a0).2.2.2.2.1)))) rfl rfl rfl (e_assign (tm rfl rfl)) ?_
  refine k_nil ?_
  refine k_seq ?_
  refine k_seq ?_
  refine k_region ?_
  refine sv (v := .int .i64 a0) rfl rfl rfl (e_move (tm rfl rfl)) ?_
  refine sv (v := .bool (decide (a0 = 0))) rfl rfl rfl (e_bin (tm rfl rfl) rfl (r_eql rfl)) ?_
  refine sv (v := .bool (decide (a0 = 0))) rfl rfl rfl (e_move (tm rfl rfl)) ?_
  refine s_gp (v := .bool ((isa_used.m a0).1)) rfl rfl rfl (beq_f _) (fun g_ => e_move (tm rfl rfl)) rfl ?_
  refine s_gp (v := .bool (!((isa_used.m a0).1))) rfl rfl rfl (beq_f _) (fun g_ => e_un (tmg (!(decide (a0 = 0))) (.bool ((isa_used.m a0).1)) rfl rfl g_) (r_not rfl)) rfl ?_
  refine s_gp (v := .bool (!((isa_used.m a0).1))) rfl rfl rfl (beq_f _) (fun g_ => e_move (tmg (!(decide (a0 = 0))) (.bool (!((isa_used.m a0).1))) rfl rfl g_)) rfl ?_
  refine s_gpg (v := .pointer (some ⟨b_1, 1, none⟩)) (G0 := (!(decide (a0 = 0)))) (b := (!((isa_used.m a0).1))) rfl rfl rfl (beq_t _) (fun g_ => e_fieldAddr (tm rfl rfl) Try.runUnderlying44 rfl Try.sizeOf3 rfl rfl) rfl ?_
  refine s_gpg (v := .int .i64 a1.T) (G0 := (!(decide (a0 = 0)))) (b := (!((isa_used.m a0).1))) rfl rfl rfl (beq_t _) (fun g_ => e_load1 (tmg ((!(decide (a0 = 0))) && (!((isa_used.m a0).1))) (.pointer (some ⟨b_1, 1, none⟩)) rfl rfl (and_i (and_l g_) (and_r g_))) Try.isAgg3 (cell_atL (hp_8.get (i := 0) (j := 0) rfl rfl) rfl)) rfl ?_
  refine s_gpg (v := .bool (!decide (a1.T = 0))) (G0 := (!(decide (a0 = 0)))) (b := (!((isa_used.m a0).1))) rfl rfl rfl (beq_t _) (fun g_ => e_bin (tmg ((!(decide (a0 = 0))) && (!((isa_used.m a0).1))) (.int .i64 a1.T) rfl rfl (and_i (and_l g_) (and_r g_))) rfl (r_neq rfl)) rfl ?_
  refine s_gp (v := .bool ((!((isa_used.m a0).1)) && (!decide (a1.T = 0)))) rfl rfl rfl (beq_f _) (fun g_ => e_pick (v1 := .bool (!decide (a1.T = 0))) (v2 := .bool false) (tmg (!(decide (a0 = 0))) (.bool (!((isa_used.m a0).1))) rfl rfl g_) (fun h_ => tmg ((!(decide (a0 = 0))) && (!((isa_used.m a0).1))) (.bool (!decide (a1.T = 0))) rfl rfl (and_i g_ h_)) (fun _ => rfl) (pk_and (!((isa_used.m a0).1)))) rfl ?_
  refine sv (v := .bool ((decide (a0 = 0)) || ((!((isa_used.m a0).1)) && (!decide (a1.T = 0))))) rfl rfl rfl (e_pick (v1 := .bool true) (v2 := .bool ((!((isa_used.m a0).1)) && (!decide (a1.T = 0)))) (tm rfl rfl) (fun _ => rfl) (fun h_ => tmg (!(decide (a0 = 0))) (.bool ((!((isa_used.m a0).1)) && (!decide (a1.T = 0)))) rfl rfl (nt h_)) (pk_or (decide (a0 = 0)))) ?_
  refine sv (v := .bool ((decide (a0 = 0)) || ((!((isa_used.m a0).1)) && (!decide (a1.T = 0))))) rfl rfl rfl (e_move (tm rfl rfl)) ?_
  refine s_gp (v := .bool ((isa_used.m a0).2.1)) rfl rfl rfl (beq_f _) (fun g_ => e_move (tm rfl rfl)) rfl ?_
  refine s_gp (v := .bool (!((isa_used.m a0).2.1))) rfl rfl rfl (beq_f _) (fun g_ => e_un (tmg (!((decide (a0 = 0)) || ((!((isa_used.m a0).1)) && (!decide (a1.T = 0))))) (.bool ((isa_used.m a0).2.1)) rfl rfl g_) (r_not rfl)) rfl ?_
  refine s_gp (v := .bool (!((isa_used.m a0).2.1))) rfl rfl rfl (beq_f _) (fun g_ => e_move (tmg (!((decide (a0 = 0)) || ((!((isa_used.m a0).1)) && (!decide (a1.T = 0))))) (.bool (!((isa_used.m a0).2.1))) rfl rfl g_)) rfl ?_
  refine s_gpg (v := .pointer (some ⟨b_1, 2, none⟩)) (G0 := (!((decide (a0 = 0)) || ((!((isa_used.m a0).1)) && (!decide (a1.T = 0)))))) (b := (!((isa_used.m a0).2.1))) rfl rfl rfl (beq_t _) (fun g_ => e_fieldAddr (tm rfl rfl) Try.runUnderlying44 rfl Try.sizeOf3 rfl rfl) rfl ?_
  refine s_gpg (v := .int .i64 a1.A) (G0 := (!((decide (a0 = 0)) || ((!((isa_used.m a0).1)) && (!decide (a1.T = 0)))))) (b := (!((isa_used.m a0).2.1))) rfl rfl rfl (beq_t _) (fun g_ => e_load1 (tmg ((!((decide (a0 = 0)) || ((!((isa_used.m a0).1)) && (!decide (a1.T = 0))))) && (!((isa_used.m a0).2.1))) (.pointer (some ⟨b_1, 2, none⟩)) rfl rfl (and_i (and_l g_) (and_r g_))) Try.isAgg3 (cell_atL (hp_8.get (i := 0) (j := 0) rfl rfl) rfl)) rfl ?_
  refine s_gpg (v := .bool (!decide (a1.A = 0))) (G0 := (!((decide (a0 = 0)) || ((!((isa_used.m a0).1)) && (!decide (a1.T = 0)))))) (b := (!((isa_used.m a0).2.1))) rfl rfl rfl (beq_t _) (fun g_ => e_bin (tmg ((!((decide (a0 = 0)) || ((!((isa_used.m a0).1)) && (!decide (a1.T = 0))))) && (!((isa_used.m a0).2.1))) (.int .i64 a1.A) rfl rfl (and_i (and_l g_) (and_r g_))) rfl (r_neq rfl)) rfl ?_
  refine s_gp (v := .bool ((!((isa_used.m a0).2.1)) && (!decide (a1.A = 0)))) rfl rfl rfl (beq_f _) (fun g_ => e_pick (v1 := .bool (!decide (a1.A = 0))) (v2 := .bool false) (tmg (!((decide (a0 = 0)) || ((!((isa_used.m a0).1)) && (!decide (a1.T = 0))))) (.bool (!((isa_used.m a0).2.1))) rfl rfl g_) (fun h_ => tmg ((!((decide (a0 = 0)) || ((!((isa_used.m a0).1)) && (!decide (a1.T = 0))))) && (!((isa_used.m a0).2.1))) (.bool (!decide (a1.A = 0))) rfl rfl (and_i g_ h_)) (fun _ => rfl) (pk_and (!((isa_used.m a0).2.1)))) rfl ?_
  refine sv (v := .bool (((decide (a0 = 0)) || ((!((isa_used.m a0).1)) && (!decide (a1.T = 0)))) || ((!((isa_used.m a0).2.1)) && (!decide (a1.A = 0))))) rfl rfl rfl (e_pick (v1 := .bool true) (v2 := .bool ((!((isa_used.m a0).2.1)) && (!decide (a1.A = 0)))) (tm rfl rfl) (fun _ => rfl) (fun h_ => tmg (!((decide (a0 = 0)) || ((!((isa_used.m a0).1)) && (!decide (a1.T = 0))))) (.bool ((!((isa_used.m a0).2.1)) && (!decide (a1.A = 0)))) rfl rfl (nt h_)) (pk_or ((decide (a0 = 0)) || ((!((isa_used.m a0).1)) && (!decide (a1.T = 0)))))) ?_
  refine sv (v := .bool (((decide (a0 = 0)) || ((!((isa_used.m a0).1)) && (!decide (a1.T = 0)))) || ((!((isa_used.m a0).2.1)) && (!decide (a1.A = 0))))) rfl rfl rfl (e_move (tm rfl rfl)) ?_
  refine s_gp (v := .bool ((isa_used.m a0).2.2.1)) rfl rfl rfl (beq_f _) (fun g_ => e_move (tm rfl rfl)) rfl ?_
  refine s_gp (v := .bool (!((isa_used.m a0).2.2.1))) rfl rfl rfl (beq_f _) (fun g_ => e_un (tmg (!(((decide (a0 = 0)) || ((!((isa_used.m a0).1)) && (!decide (a1.T = 0)))) || ((!((isa_used.m a0).2.1)) && (!decide (a1.A = 0))))) (.bool ((isa_used.m a0).2.2.1)) rfl rfl g_) (r_not rfl)) rfl ?_
  refine s_gp (v := .bool (!((isa_used.m a0).2.2.1))) rfl rfl rfl (beq_f _) (fun g_ => e_move (tmg (!(((decide (a0 = 0)) || ((!((isa_used.m a0).1)) && (!decide (a1.T = 0)))) || ((!((isa_used.m a0).2.1)) && (!decide (a1.A = 0))))) (.bool (!((isa_used.m a0).2.2.1))) rfl rfl g_)) rfl ?_
  refine s_gpg (v := .pointer (some ⟨b_1, 3, none⟩)) (G0 := (!(((decide (a0 = 0)) || ((!((isa_used.m a0).1)) && (!decide (a1.T = 0)))) || ((!((isa_used.m a0).2.1)) && (!decide (a1.A = 0)))))) (b := (!((isa_used.m a0).2.2.1))) rfl rfl rfl (beq_t _) (fun g_ => e_fieldAddr (tm rfl rfl) Try.runUnderlying44 rfl Try.sizeOf3 rfl rfl) rfl ?_
  refine s_gpg (v := .int .i64 a1.B) (G0 := (!(((decide (a0 = 0)) || ((!((isa_used.m a0).1)) && (!decide (a1.T = 0)))) || ((!((isa_used.m a0).2.1)) && (!decide (a1.A = 0)))))) (b := (!((isa_used.m a0).2.2.1))) rfl rfl rfl (beq_t _) (fun g_ => e_load1 (tmg ((!(((decide (a0 = 0)) || ((!((isa_used.m a0).1)) && (!decide (a1.T = 0)))) || ((!((isa_used.m a0).2.1)) && (!decide (a1.A = 0))))) && (!((isa_used.m a0).2.2.1))) (.pointer (some ⟨b_1, 3, none⟩)) rfl rfl (and_i (and_l g_) (and_r g_))) Try.isAgg3 (cell_atL (hp_8.get (i := 0) (j := 0) rfl rfl) rfl)) rfl ?_
  refine s_gpg (v := .bool (!decide (a1.B = 0))) (G0 := (!(((decide (a0 = 0)) || ((!((isa_used.m a0).1)) && (!decide (a1.T = 0)))) || ((!((isa_used.m a0).2.1)) && (!decide (a1.A = 0)))))) (b := (!((isa_used.m a0).2.2.1))) rfl rfl rfl (beq_t _) (fun g_ => e_bin (tmg ((!(((decide (a0 = 0)) || ((!((isa_used.m a0).1)) && (!decide (a1.T = 0)))) || ((!((isa_used.m a0).2.1)) && (!decide (a1.A = 0))))) && (!((isa_used.m a0).2.2.1))) (.int .i64 a1.B) rfl rfl (and_i (and_l g_) (and_r g_))) rfl (r_neq rfl)) rfl ?_
  refine s_gp (v := .bool ((!((isa_used.m a0).2.2.1)) && (!decide (a1.B = 0)))) rfl rfl rfl (beq_f _) (fun g_ => e_pick (v1 := .bool (!decide (a1.B = 0))) (v2 := .bool false) (tmg (!(((decide (a0 = 0)) || ((!((isa_used.m a0).1)) && (!decide (a1.T = 0)))) || ((!((isa_used.m a0).2.1)) && (!decide (a1.A = 0))))) (.bool (!((isa_used.m a0).2.2.1))) rfl rfl g_) (fun h_ => tmg ((!(((decide (a0 = 0)) || ((!((isa_used.m a0).1)) && (!decide (a1.T = 0)))) || ((!((isa_used.m a0).2.1)) && (!decide (a1.A = 0))))) && (!((isa_used.m a0).2.2.1))) (.bool (!decide (a1.B = 0))) rfl rfl (and_i g_ h_)) (fun _ => rfl) (pk_and (!((isa_used.m a0).2.2.1)))) rfl ?_
  refine sv (v := .bool ((((decide (a0 = 0)) || ((!((isa_used.m a0).1)) && (!decide (a1.T = 0)))) || ((!((isa_used.m a0).2.1)) && (!decide (a1.A = 0)))) || ((!((isa_used.m a0).2.2.1)) && (!decide (a1.B = 0))))) rfl rfl rfl (e_pick (v1 := .bool true) (v2 := .bool ((!((isa_used.m a0).2.2.1)) && (!decide (a1.B = 0)))) (tm rfl rfl) (fun _ => rfl) (fun h_ => tmg (!(((decide (a0 = 0)) || ((!((isa_used.m a0).1)) && (!decide (a1.T = 0)))) || ((!((isa_used.m a0).2.1)) && (!decide (a1.A = 0))))) (.bool ((!((isa_used.m a0).2.2.1)) && (!decide (a1.B = 0)))) rfl rfl (nt h_)) (pk_or (((decide (a0 = 0)) || ((!((isa_used.m a0).1)) && (!decide (a1.T = 0)))) || ((!((isa_used.m a0).2.1)) && (!decide (a1.A = 0)))))) ?_
  refine sv (v := .bool ((((decide (a0 = 0)) || ((!((isa_used.m a0).1)) && (!decide (a1.T = 0)))) || ((!((isa_used.m a0).2.1)) && (!decide (a1.A = 0)))) || ((!((isa_used.m a0).2.2.1)) && (!decide (a1.B = 0))))) rfl rfl rfl (e_move (tm rfl rfl)) ?_
  refine s_gp (v := .bool (!decide (((isa_used.m a0).2.2.2.1) = ((isa_used.m a0).2.2.2.2.1)))) rfl rfl rfl (beq_f _) (fun g_ => e_move (tm rfl rfl)) rfl ?_
  refine s_gp (v := .bool (!(!decide (((isa_used.m a0).2.2.2.1) = ((isa_used.m a0).2.2.2.2.1))))) rfl rfl rfl (beq_f _) (fun g_ => e_un (tmg (!((((decide (a0 = 0)) || ((!((isa_used.m a0).1)) && (!decide (a1.T = 0)))) || ((!((isa_used.m a0).2.1)) && (!decide (a1.A = 0)))) || ((!((isa_used.m a0).2.2.1)) && (!decide (a1.B = 0))))) (.bool (!decide (((isa_used.m a0).2.2.2.1) = ((isa_used.m a0).2.2.2.2.1)))) rfl rfl g_) (r_not rfl)) rfl ?_
  refine s_gp (v := .bool (!(!decide (((isa_used.m a0).2.2.2.1) = ((isa_used.m a0).2.2.2.2.1))))) rfl rfl rfl (beq_f _) (fun g_ => e_move (tmg (!((((decide (a0 = 0)) || ((!((isa_used.m a0).1)) && (!decide (a1.T = 0)))) || ((!((isa_used.m a0).2.1)) && (!decide (a1.A = 0)))) || ((!((isa_used.m a0).2.2.1)) && (!decide (a1.B = 0))))) (.bool (!(!decide (((isa_used.m a0).2.2.2.1) = ((isa_used.m a0).2.2.2.2.1))))) rfl rfl g_)) rfl ?_
  refine s_gpg (v := .pointer (some ⟨b_1, 4, none⟩)) (G0 := (!((((decide (a0 = 0)) || ((!((isa_used.m a0).1)) && (!decide (a1.T = 0)))) || ((!((isa_used.m a0).2.1)) && (!decide (a1.A = 0)))) || ((!((isa_used.m a0).2.2.1)) && (!decide (a1.B = 0)))))) (b := (!(!decide (((isa_used.m a0).2.2.2.1) = ((isa_used.m a0).2.2.2.2.1))))) rfl rfl rfl (beq_t _) (fun g_ => e_fieldAddr (tm rfl rfl) Try.runUnderlying44 rfl Try.sizeOf3 rfl rfl) rfl ?_
  refine s_gpg (v := .int .i64 a1.Imm) (G0 := (!((((decide (a0 = 0)) || ((!((isa_used.m a0).1)) && (!decide (a1.T = 0)))) || ((!((isa_used.m a0).2.1)) && (!decide (a1.A = 0)))) || ((!((isa_used.m a0).2.2.1)) && (!decide (a1.B = 0)))))) (b := (!(!decide (((isa_used.m a0).2.2.2.1) = ((isa_used.m a0).2.2.2.2.1))))) rfl rfl rfl (beq_t _) (fun g_ => e_load1 (tmg ((!((((decide (a0 = 0)) || ((!((isa_used.m a0).1)) && (!decide (a1.T = 0)))) || ((!((isa_used.m a0).2.1)) && (!decide (a1.A = 0)))) || ((!((isa_used.m a0).2.2.1)) && (!decide (a1.B = 0))))) && (!(!decide (((isa_used.m a0).2.2.2.1) = ((isa_used.m a0).2.2.2.2.1))))) (.pointer (some ⟨b_1, 4, none⟩)) rfl rfl (and_i (and_l g_) (and_r g_))) Try.isAgg3 (cell_atL (hp_8.get (i := 0) (j := 0) rfl rfl) rfl)) rfl ?_
  refine s_gpg (v := .bool (!decide (a1.Imm = 0))) (G0 := (!((((decide (a0 = 0)) || ((!((isa_used.m a0).1)) && (!decide (a1.T = 0)))) || ((!((isa_used.m a0).2.1)) && (!decide (a1.A = 0)))) || ((!((isa_used.m a0).2.2.1)) && (!decide (a1.B = 0)))))) (b := (!(!decide (((isa_used.m a0).2.2.2.1) = ((isa_used.m a0).2.2.2.2.1))))) rfl rfl rfl (beq_t _) (fun g_ => e_bin (tmg ((!((((decide (a0 = 0)) || ((!((isa_used.m a0).1)) && (!decide (a1.T = 0)))) || ((!((isa_used.m a0).2.1)) && (!decide (a1.A = 0)))) || ((!((isa_used.m a0).2.2.1)) && (!decide (a1.B = 0))))) && (!(!decide (((isa_used.m a0).2.2.2.1) = ((isa_used.m a0).2.2.2.2.1))))) (.int .i64 a1.Imm) rfl rfl (and_i (and_l g_) (and_r g_))) rfl (r_neq rfl)) rfl ?_
  refine s_gp (v := .bool ((!(!decide (((isa_used.m a0).2.2.2.1) = ((isa_used.m a0).2.2.2.2.1)))) && (!decide (a1.Imm = 0)))) rfl rfl rfl (beq_f _) (fun g_ => e_pick (v1 := .bool (!decide (a1.Imm = 0))) (v2 := .bool false) (tmg (!((((decide (a0 = 0)) || ((!((isa_used.m a0).1)) && (!decide (a1.T = 0)))) || ((!((isa_used.m a0).2.1)) && (!decide (a1.A = 0)))) || ((!((isa_used.m a0).2.2.1)) && (!decide (a1.B = 0))))) (.bool (!(!decide (((isa_used.m a0).2.2.2.1) = ((isa_used.m a0).2.2.2.2.1))))) rfl rfl g_) (fun h_ => tmg ((!((((decide (a0 = 0)) || ((!((isa_used.m a0).1)) && (!decide (a1.T = 0)))) || ((!((isa_used.m a0).2.1)) && (!decide (a1.A = 0)))) || ((!((isa_used.m a0).2.2.1)) && (!decide (a1.B = 0))))) && (!(!decide (((isa_used.m a0).2.2.2.1) = ((isa_used.m a0).2.2.2.2.1))))) (.bool (!decide (a1.Imm = 0))) rfl rfl (and_i g_ h_)) (fun _ => rfl) (pk_and (!(!decide (((isa_used.m a0).2.2.2.1) = ((isa_used.m a0).2.2.2.2.1)))))) rfl ?_
  refine sv (v := .bool (((((decide (a0 = 0)) || ((!((isa_used.m a0).1)) && (!decide (a1.T = 0)))) || ((!((isa_used.m a0).2.1)) && (!decide (a1.A = 0)))) || ((!((isa_used.m a0).2.2.1)) && (!decide (a1.B = 0)))) || ((!(!decide (((isa_used.m a0).2.2.2.1) = ((isa_used.m a0).2.2.2.2.1)))) && (!decide (a1.Imm = 0))))) rfl rfl rfl (e_pick (v1 := .bool true) (v2 := .bool ((!(!decide (((isa_used.m a0).2.2.2.1) = ((isa_used.m a0).2.2.2.2.1)))) && (!decide (a1.Imm = 0)))) (tm rfl rfl) (fun _ => rfl) (fun h_ => tmg (!((((decide (a0 = 0)) || ((!((isa_used.m a0).1)) && (!decide (a1.T = 0)))) || ((!((isa_used.m a0).2.1)) && (!decide (a1.A = 0)))) || ((!((isa_used.m a0).2.2.1)) && (!decide (a1.B = 0))))) (.bool ((!(!decide (((isa_used.m a0).2.2.2.1) = ((isa_used.m a0).2.2.2.2.1)))) && (!decide (a1.Imm = 0)))) rfl rfl (nt h_)) (pk_or ((((decide (a0 = 0)) || ((!((isa_used.m a0).1)) && (!decide (a1.T = 0)))) || ((!((isa_used.m a0).2.1)) && (!decide (a1.A = 0)))) || ((!((isa_used.m a0).2.2.1)) && (!decide (a1.B = 0)))))) ?_
  refine k_nil ?_
  refine k_if (tm rfl rfl) (fun h_11 => ?_) (fun h_11 => ?_)
  · have H := ift h_11 H
    refine k_seq ?_
    refine k_region ?_
    refine sv (v := .int .i64 3) rfl rfl rfl (e_assign rfl) ?_
    refine k_nil ?_
    refine k_ret ?_
    obtain rfl := Option.some.inj H
    exact k_end rfl (.tmp rfl rfl .nil) rfl ⟨rfl, (hp_8.pick [] (by decide) rfl).aft⟩
  have H := iff_ h_11 H
  refine k_skip ?_
  refine k_seq ?_
  refine k_seq ?_
  obtain ⟨o_12, H, G_13⟩ := bindSome H
  refine k_cut (fun a w' => ∃ (σ_66 : Nat → Value), a = st 115 [(114, .bool o_12)] σ_66 [] ∧ Hp (On []) no w w w' []) ?_ ?_
  · as_aux_lemma =>
      refine k_region ?_
      refine sv (v := .int .i64 a0) rfl rfl rfl (e_move (tm rfl rfl)) ?_
      refine sv (v := .bool (decide (a0 = 8))) rfl rfl rfl (e_bin (tm rfl rfl) rfl (r_eql rfl)) ?_
      refine sv (v := .bool (decide (a0 = 8))) rfl rfl rfl (e_move (tm rfl rfl)) ?_
      refine s_gp (v := .pointer (some ⟨b_1, 1, none⟩)) rfl rfl rfl (beq_t _) (fun g_ => e_fieldAddr (tm rfl rfl) Try.runUnderlying44 rfl Try.sizeOf3 rfl rfl) rfl ?_
      refine s_gp (v := .int .i64 a1.T) rfl rfl rfl (beq_t _) (fun g_ => e_load1 (tmg (decide (a0 = 8)) (.pointer (some ⟨b_1, 1, none⟩)) rfl rfl g_) Try.isAgg3 (cell_atL (hp_8.get (i := 0) (j := 0) rfl rfl) rfl)) rfl ?_
      refine s_gp (v := .bool (decide (a1.T < 0))) rfl rfl rfl (beq_t _) (fun g_ => e_bin (tmg (decide (a0 = 8)) (.int .i64 a1.T) rfl rfl g_) rfl (r_lss rfl)) rfl ?_
      refine s_gp (v := .bool (decide (a1.T < 0))) rfl rfl rfl (beq_t _) (fun g_ => e_move (tmg (decide (a0 = 8)) (.bool (decide (a1.T < 0))) rfl rfl g_)) rfl ?_
      refine s_gpg (v := .pointer (some ⟨b_1, 1, none⟩)) (G0 := (decide (a0 = 8))) (b := decide (a1.T < 0)) rfl rfl rfl (beq_f _) (fun g_ => e_fieldAddr (tm rfl rfl) Try.runUnderlying44 rfl Try.sizeOf3 rfl rfl) rfl ?_
      refine s_gpg (v := .int .i64 a1.T) (G0 := (decide (a0 = 8))) (b := decide (a1.T < 0)) rfl rfl rfl (beq_f _) (fun g_ => e_load1 (tmg ((decide (a0 = 8)) && (!(decide (a1.T < 0)))) (.pointer (some ⟨b_1, 1, none⟩)) rfl rfl (and_i (and_l g_) (and_r g_))) Try.isAgg3 (cell_atL (hp_8.get (i := 0) (j := 0) rfl rfl) rfl)) rfl ?_
      refine s_gpg (v := .bool (decide (a1.T > 3))) (G0 := (decide (a0 = 8))) (b := decide (a1.T < 0)) rfl rfl rfl (beq_f _) (fun g_ => e_bin (tmg ((decide (a0 = 8)) && (!(decide (a1.T < 0)))) (.int .i64 a1.T) rfl rfl (and_i (and_l g_) (and_r g_))) rfl (r_gtr rfl)) rfl ?_
      refine s_gp (v := .bool ((decide (a1.T < 0)) || (decide (a1.T > 3)))) rfl rfl rfl (beq_t _) (fun g_ => e_pick (v1 := .bool true) (v2 := .bool (decide (a1.T > 3))) (tmg (decide (a0 = 8)) (.bool (decide (a1.T < 0))) rfl rfl g_) (fun _ => rfl) (fun h_ => tmg ((decide (a0 = 8)) && (!(decide (a1.T < 0)))) (.bool (decide (a1.T > 3))) rfl rfl (and_i g_ (nt h_))) (pk_or (decide (a1.T < 0)))) rfl ?_
      refine sv (v := .bool ((decide (a0 = 8)) && ((decide (a1.T < 0)) || (decide (a1.T > 3))))) rfl rfl rfl (e_pick (v1 := .bool ((decide (a1.T < 0)) || (decide (a1.T > 3)))) (v2 := .bool false) (tm rfl rfl) (fun h_ => tmg (decide (a0 = 8)) (.bool ((decide (a1.T < 0)) || (decide (a1.T > 3)))) rfl rfl h_) (fun _ => rfl) (pk_and (decide (a0 = 8)))) ?_
      refine sv (v := .bool ((decide (a0 = 8)) && ((decide (a1.T < 0)) || (decide (a1.T > 3))))) rfl rfl rfl (e_move (tm rfl rfl)) ?_
      refine s_gp (v := .int .i64 a0) rfl rfl rfl (beq_f _) (fun g_ => e_move (tm rfl rfl)) rfl ?_
      refine s_gp (v := .bool (!decide (a0 = 8))) rfl rfl rfl (beq_f _) (fun g_ => e_bin (tmg (!((decide (a0 = 8)) && ((decide (a1.T < 0)) || (decide (a1.T > 3))))) (.int .i64 a0) rfl rfl g_) rfl (r_neq rfl)) rfl ?_
      refine s_gp (v := .bool (!decide (a0 = 8))) rfl rfl rfl (beq_f _) (fun g_ => e_move (tmg (!((decide (a0 = 8)) && ((decide (a1.T < 0)) || (decide (a1.T > 3))))) (.bool (!decide (a0 = 8))) rfl rfl g_)) rfl ?_
      refine s_gpg (v := .pointer (some ⟨b_1, 1, none⟩)) (G0 := (!((decide (a0 = 8)) && ((decide (a1.T < 0)) || (decide (a1.T > 3)))))) (b := (!decide (a0 = 8))) rfl rfl rfl (beq_t _) (fun g_ => e_fieldAddr (tm rfl rfl) Try.runUnderlying44 rfl Try.sizeOf3 rfl rfl) rfl ?_
      refine s_gpg (v := .int .i64 a1.T) (G0 := (!((decide (a0 = 8)) && ((decide (a1.T < 0)) || (decide (a1.T > 3)))))) (b := (!decide (a0 = 8))) rfl rfl rfl (beq_t _) (fun g_ => e_load1 (tmg ((!((decide (a0 = 8)) && ((decide (a1.T < 0)) || (decide (a1.T > 3))))) && (!decide (a0 = 8))) (.pointer (some ⟨b_1, 1, none⟩)) rfl rfl (and_i (and_l g_) (and_r g_))) Try.isAgg3 (cell_atL (hp_8.get (i := 0) (j := 0) rfl rfl) rfl)) rfl ?_
      rcases Bool.eq_false_or_eq_true ((decide (a0 = 8)) && ((decide (a1.T < 0)) || (decide (a1.T > 3)))) with h_14 | h_14
      · have H := ift h_14 H
        refine goffu rfl rfl (gvu (v := .bool (!decide (a0 = 8))) (!((decide (a0 = 8)) && ((decide (a1.T < 0)) || (decide (a1.T > 3))))) rfl (by simp [(nf h_14)])) rfl ?_
        refine goffu rfl rfl (gvu (v := .bool (!decide (a0 = 8))) (!((decide (a0 = 8)) && ((decide (a1.T < 0)) || (decide (a1.T > 3))))) rfl (by simp [(nf h_14)])) rfl ?_
        refine goff rfl rfl (congrArg Value.bool h_14) rfl ?_
        refine sv (v := .bool true) rfl rfl rfl (e_pick (b := ((decide (a0 = 8)) && ((decide (a1.T < 0)) || (decide (a1.T > 3))))) (v1 := .bool true) (v2 := .bool true) (tm rfl rfl) (fun _ => rfl) (fun h_ => pk_no h_ h_14) (pk_same _ _)) ?_
        refine sv (v := .bool true) rfl rfl rfl (e_move (tm rfl rfl)) ?_
        refine goff rfl rfl rfl rfl ?_
        refine goff rfl rfl rfl rfl ?_
        refine goff rfl rfl rfl rfl ?_
        refine goff rfl rfl rfl rfl ?_
        refine sv (v := .bool true) rfl rfl rfl (e_pick (v1 := .bool true) (v2 := .bool true) (tm rfl rfl) (fun _ => rfl) (fun h_ => by cases h_) rfl) ?_
        refine sv (v := .bool true) rfl rfl rfl (e_move (tm rfl rfl)) ?_
        refine goff rfl rfl rfl rfl ?_
        refine goff rfl rfl rfl rfl ?_
        refine goff rfl rfl rfl rfl ?_
        refine goff rfl rfl rfl rfl ?_
        refine sv (v := .bool true) rfl rfl rfl (e_pick (v1 := .bool true) (v2 := .bool true) (tm rfl rfl) (fun _ => rfl) (fun h_ => by cases h_) rfl) ?_
        refine sv (v := .bool true) rfl rfl rfl (e_move (tm rfl rfl)) ?_
        refine goff rfl rfl rfl rfl ?_
        refine goff rfl rfl rfl rfl ?_
        refine goff rfl rfl rfl rfl ?_
        refine goff rfl rfl rfl rfl ?_
        refine sv (v := .bool true) rfl rfl rfl (e_pick (v1 := .bool true) (v2 := .bool true) (tm rfl rfl) (fun _ => rfl) (fun h_ => by cases h_) rfl) ?_
        refine sv (v := .bool true) rfl rfl rfl (e_move (tm rfl rfl)) ?_
        refine goff rfl rfl rfl rfl ?_
        refine goff rfl rfl rfl rfl ?_
        refine goff rfl rfl rfl rfl ?_
        refine goff rfl rfl rfl rfl ?_
        refine sv (v := .bool true) rfl rfl rfl (e_pick (v1 := .bool true) (v2 := .bool true) (tm rfl rfl) (fun _ => rfl) (fun h_ => by cases h_) rfl) ?_
        refine sv (v := .bool true) rfl rfl rfl (e_move (tm rfl rfl)) ?_
        refine goff rfl rfl rfl rfl ?_
        refine goff rfl rfl rfl rfl ?_
        refine goff rfl rfl rfl rfl ?_
        refine goff rfl rfl rfl rfl ?_
        refine goff rfl rfl rfl rfl ?_
        refine sv (v := .bool true) rfl rfl rfl (e_pick (v1 := .bool true) (v2 := .bool true) (tm rfl rfl) (fun _ => rfl) (fun h_ => by cases h_) rfl) ?_
        refine k_nil ?_
        obtain rfl := Option.some.inj H
        exact ⟨_, seenF ⟨rfl, trivial⟩, hp_8.pick [] (by decide) rfl⟩
      have H := iff_ h_14 H
      rcases Bool.eq_false_or_eq_true (decide (a0 = 8)) with h_15 | h_15
      · have H := ift h_15 H
        refine goff rfl rfl ((gvv (v := .bool (!decide (a0 = 8))) (!((decide (a0 = 8)) && ((decide (a1.T < 0)) || (decide (a1.T > 3))))) rfl (nt h_14)).trans (congrArg Value.bool (nf h_15))) rfl ?_
        refine goff rfl rfl ((gvv (v := .bool (!decide (a0 = 8))) (!((decide (a0 = 8)) && ((decide (a1.T < 0)) || (decide (a1.T > 3))))) rfl (nt h_14)).trans (congrArg Value.bool (nf h_15))) rfl ?_
        refine gon rfl rfl (congrArg Value.bool h_14) ?_
        refine sv (v := .bool false) rfl rfl rfl (e_pick (b := (!decide (a0 = 8))) (v1 := .bool false) (v2 := .bool false) (tmg (!((decide (a0 = 8)) && ((decide (a1.T < 0)) || (decide (a1.T > 3))))) (.bool (!decide (a0 = 8))) rfl rfl (nt h_14)) (fun h_ => pk_no (nf h_15) h_) (fun _ => rfl) (pk_same _ _)) ?_
        refine sv (v := .bool false) rfl rfl rfl (e_pick (b := ((decide (a0 = 8)) && ((decide (a1.T < 0)) || (decide (a1.T > 3))))) (v1 := .bool false) (v2 := .bool false) (tm rfl rfl) (fun h_ => pk_no h_14 h_) (fun _ => (tm rfl rfl)) (pk_same _ _)) ?_
        refine sv (v := .bool false) rfl rfl rfl (e_move (tm rfl rfl)) ?_
        refine gon rfl rfl rfl ?_
        refine sv (v := .pointer (some ⟨b_1, 2, none⟩)) rfl rfl rfl (e_fieldAddr (tm rfl rfl) Try.runUnderlying44 rfl Try.sizeOf3 rfl rfl) ?_
        refine gon rfl rfl rfl ?_
        refine sv (v := .int .i64 a1.A) rfl rfl rfl (e_load1 (tm rfl rfl) Try.isAgg3 (cell_atL (hp_8.get (i := 0) (j := 0) rfl rfl) rfl)) ?_
        refine gon rfl rfl rfl ?_
        refine s_call (.cons (tm rfl rfl) .nil) Try.call55 (isa_reg.calls a1.A _) rfl ?_
        rintro v_ w_19 ⟨rfl, af_22⟩
        have hp_20 := Hp.callA af_22 hp_8
        refine gon rfl rfl rfl ?_
        refine sv (v := .bool (!(isa_reg.m a1.A))) rfl rfl rfl (e_un (tm rfl rfl) (r_not rfl)) ?_
        refine sv (v := .bool (!(isa_reg.m a1.A))) rfl rfl rfl (e_pick (v1 := .bool (!(isa_reg.m a1.A))) (v2 := .bool (!(isa_reg.m a1.A))) (tm rfl rfl) (fun h_ => by cases h_) (fun _ => (tm rfl rfl)) rfl) ?_
        refine sv (v := .bool (!(isa_reg.m a1.A))) rfl rfl rfl (e_move (tm rfl rfl)) ?_
        refine s_gp (v := .pointer (some ⟨b_1, 3, none⟩)) rfl rfl rfl (beq_f _) (fun g_ => e_fieldAddr (tm rfl rfl) Try.runUnderlying44 rfl Try.sizeOf3 rfl rfl) rfl ?_
        refine s_gp (v := .int .i64 a1.B) rfl rfl rfl (beq_f _) (fun g_ => e_load1 (tmg (!(!(isa_reg.m a1.A))) (.pointer (some ⟨b_1, 3, none⟩)) rfl rfl g_) Try.isAgg3 (cell_atL (hp_20.get (i := 0) (j := 0) rfl rfl) rfl)) rfl ?_
        rcases Bool.eq_false_or_eq_true (isa_reg.m a1.A) with h_23 | h_23
        · have H := ift h_23 H
          refine gon rfl rfl (congrArg Value.bool (nf h_23)) ?_
          refine s_call (.cons (tmg (!(!(isa_reg.m a1.A))) (.int .i64 a1.B) rfl rfl (nt (nf h_23))) .nil) Try.call55 (isa_reg.calls a1.B _) rfl ?_
          rintro v_ w_27 ⟨rfl, af_30⟩
          have hp_28 := Hp.callA af_30 hp_20
          refine gon rfl rfl (congrArg Value.bool (nf h_23)) ?_
          refine sv (v := .bool (!(isa_reg.m a1.B))) rfl rfl rfl (e_un (tm rfl rfl) (r_not rfl)) ?_
          refine sv (v := .bool (!(isa_reg.m a1.B))) rfl rfl rfl (e_pick (b := (!(isa_reg.m a1.A))) (v1 := .bool (!(isa_reg.m a1.B))) (v2 := .bool (!(isa_reg.m a1.B))) (tm rfl rfl) (fun h_ => pk_no (nf h_23) h_) (fun _ => (tm rfl rfl)) (pk_same _ _)) ?_
          refine sv (v := .bool (!(isa_reg.m a1.B))) rfl rfl rfl (e_move (tm rfl rfl)) ?_
          refine s_gp (v := .pointer (some ⟨b_1, 4, none⟩)) rfl rfl rfl (beq_f _) (fun g_ => e_fieldAddr (tm rfl rfl) Try.runUnderlying44 rfl Try.sizeOf3 rfl rfl) rfl ?_
          refine s_gp (v := .int .i64 a1.Imm) rfl rfl rfl (beq_f _) (fun g_ => e_load1 (tmg (!(!(isa_reg.m a1.B))) (.pointer (some ⟨b_1, 4, none⟩)) rfl rfl g_) Try.isAgg3 (cell_atL (hp_28.get (i := 0) (j := 0) rfl rfl) rfl)) rfl ?_
          refine s_gp (v := .int .i64 ((isa_used.m a0).2.2.2.1)) rfl rfl rfl (beq_f _) (fun g_ => e_move (tm rfl rfl)) rfl ?_
          refine s_gp (v := .bool (decide (a1.Imm < ((isa_used.m a0).2.2.2.1)))) rfl rfl rfl (beq_f _) (fun g_ => e_bin (tmg (!(!(isa_reg.m a1.B))) (.int .i64 a1.Imm) rfl rfl g_) (tmg (!(!(isa_reg.m a1.B))) (.int .i64 ((isa_used.m a0).2.2.2.1)) rfl rfl g_) (r_lss rfl)) rfl ?_
          refine sv (v := .bool ((!(isa_reg.m a1.B)) || (decide (a1.Imm < ((isa_used.m a0).2.2.2.1))))) rfl rfl rfl (e_pick (v1 := .bool true) (v2 := .bool (decide (a1.Imm < ((isa_used.m a0).2.2.2.1)))) (tm rfl rfl) (fun _ => rfl) (fun h_ => tmg (!(!(isa_reg.m a1.B))) (.bool (decide (a1.Imm < ((isa_used.m a0).2.2.2.1)))) rfl rfl (nt h_)) (pk_or (!(isa_reg.m a1.B)))) ?_
          refine sv (v := .bool ((!(isa_reg.m a1.B)) || (decide (a1.Imm < ((isa_used.m a0).2.2.2.1))))) rfl rfl rfl (e_move (tm rfl rfl)) ?_
          refine s_gp (v := .pointer (some ⟨b_1, 4, none⟩)) rfl rfl rfl (beq_f _) (fun g_ => e_fieldAddr (tm rfl rfl) Try.runUnderlying44 rfl Try.sizeOf3 rfl rfl) rfl ?_
          refine s_gp (v := .int .i64 a1.Imm) rfl rfl rfl (beq_f _) (fun g_ => e_load1 (tmg (!((!(isa_reg.m a1.B)) || (decide (a1.Imm < ((isa_used.m a0).2.2.2.1))))) (.pointer (some ⟨b_1, 4, none⟩)) rfl rfl g_) Try.isAgg3 (cell_atL (hp_28.get (i := 0) (j := 0) rfl rfl) rfl)) rfl ?_
          refine s_gp (v := .int .i64 ((isa_used.m a0).2.2.2.2.1)) rfl rfl rfl (beq_f _) (fun g_ => e_move (tm rfl rfl)) rfl ?_
          refine s_gp (v := .bool (decide (a1.Imm > ((isa_used.m a0).2.2.2.2.1)))) rfl rfl rfl (beq_f _) (fun g_ => e_bin (tmg (!((!(isa_reg.m a1.B)) || (decide (a1.Imm < ((isa_used.m a0).2.2.2.1))))) (.int .i64 a1.Imm) rfl rfl g_) (tmg (!((!(isa_reg.m a1.B)) || (decide (a1.Imm < ((isa_used.m a0).2.2.2.1))))) (.int .i64 ((isa_used.m a0).2.2.2.2.1)) rfl rfl g_) (r_gtr rfl)) rfl ?_
          refine sv (v := .bool (((!(isa_reg.m a1.B)) || (decide (a1.Imm < ((isa_used.m a0).2.2.2.1)))) || (decide (a1.Imm > ((isa_used.m a0).2.2.2.2.1))))) rfl rfl rfl (e_pick (v1 := .bool true) (v2 := .bool (decide (a1.Imm > ((isa_used.m a0).2.2.2.2.1)))) (tm rfl rfl) (fun _ => rfl) (fun h_ => tmg (!((!(isa_reg.m a1.B)) || (decide (a1.Imm < ((isa_used.m a0).2.2.2.1))))) (.bool (decide (a1.Imm > ((isa_used.m a0).2.2.2.2.1)))) rfl rfl (nt h_)) (pk_or ((!(isa_reg.m a1.B)) || (decide (a1.Imm < ((isa_used.m a0).2.2.2.1)))))) ?_
          refine sv (v := .bool (((!(isa_reg.m a1.B)) || (decide (a1.Imm < ((isa_used.m a0).2.2.2.1)))) || (decide (a1.Imm > ((isa_used.m a0).2.2.2.2.1))))) rfl rfl rfl (e_move (tm rfl rfl)) ?_
          refine s_gp (v := .pointer (some ⟨b_1, 4, none⟩)) rfl rfl rfl (beq_f _) (fun g_ => e_fieldAddr (tm rfl rfl) Try.runUnderlying44 rfl Try.sizeOf3 rfl rfl) rfl ?_
          refine s_gp (v := .int .i64 a1.Imm) rfl rfl rfl (beq_f _) (fun g_ => e_load1 (tmg (!(((!(isa_reg.m a1.B)) || (decide (a1.Imm < ((isa_used.m a0).2.2.2.1)))) || (decide (a1.Imm > ((isa_used.m a0).2.2.2.2.1))))) (.pointer (some ⟨b_1, 4, none⟩)) rfl rfl g_) Try.isAgg3 (cell_atL (hp_28.get (i := 0) (j := 0) rfl rfl) rfl)) rfl ?_
          refine s_gp (v := .int .i64 ((isa_used.m a0).2.2.2.2.2)) rfl rfl rfl (beq_f _) (fun g_ => e_move (tm rfl rfl)) rfl ?_
          rcases Bool.eq_false_or_eq_true (((!(isa_reg.m a1.B)) || (decide (a1.Imm < ((isa_used.m a0).2.2.2.1)))) || (decide (a1.Imm > ((isa_used.m a0).2.2.2.2.1)))) with h_32 | h_32
          · have H := ift h_32 H
            refine goff rfl rfl (congrArg Value.bool h_32) rfl ?_
            refine goff rfl rfl (congrArg Value.bool h_32) rfl ?_
            refine sv (v := .bool true) rfl rfl rfl (e_pick (b := (((!(isa_reg.m a1.B)) || (decide (a1.Imm < ((isa_used.m a0).2.2.2.1)))) || (decide (a1.Imm > ((isa_used.m a0).2.2.2.2.1))))) (v1 := .bool true) (v2 := .bool true) (tm rfl rfl) (fun _ => rfl) (fun h_ => pk_no h_ h_32) (pk_same _ _)) ?_
            refine k_nil ?_
            obtain rfl := Option.some.inj H
            exact ⟨_, seenF ⟨rfl, trivial⟩, hp_28.pick [] (by decide) rfl⟩
          have H := iff_ h_32 H
          refine gon rfl rfl (congrArg Value.bool h_32) ?_
          obtain ⟨g_33, H⟩ := grd H
          refine sv (v := .int .i64 (Int.tmod a1.Imm ((isa_used.m a0).2.2.2.2.2))) rfl rfl rfl (e_bin (tmg (!(((!(isa_reg.m a1.B)) || (decide (a1.Imm < ((isa_used.m a0).2.2.2.1)))) || (decide (a1.Imm > ((isa_used.m a0).2.2.2.2.1))))) (.int .i64 a1.Imm) rfl rfl (nt h_32)) (tmg (!(((!(isa_reg.m a1.B)) || (decide (a1.Imm < ((isa_used.m a0).2.2.2.1)))) || (decide (a1.Imm > ((isa_used.m a0).2.2.2.2.1))))) (.int .i64 ((isa_used.m a0).2.2.2.2.2)) rfl rfl (nt h_32)) (r_rem g_33 rfl)) ?_
          refine gon rfl rfl (congrArg Value.bool h_32) ?_
          refine sv (v := .bool (!decide ((Int.tmod a1.Imm ((isa_used.m a0).2.2.2.2.2)) = 0))) rfl rfl rfl (e_bin (tm rfl rfl) rfl (r_neq rfl)) ?_
          refine sv (v := .bool (!decide ((Int.tmod a1.Imm ((isa_used.m a0).2.2.2.2.2)) = 0))) rfl rfl rfl (e_pick (b := (((!(isa_reg.m a1.B)) || (decide (a1.Imm < ((isa_used.m a0).2.2.2.1)))) || (decide (a1.Imm > ((isa_used.m a0).2.2.2.2.1))))) (v1 := .bool (!decide ((Int.tmod a1.Imm ((isa_used.m a0).2.2.2.2.2)) = 0))) (v2 := .bool (!decide ((Int.tmod a1.Imm ((isa_used.m a0).2.2.2.2.2)) = 0))) (tm rfl rfl) (fun h_ => pk_no h_32 h_) (fun _ => (tm rfl rfl)) (pk_same _ _)) ?_
          refine k_nil ?_
          obtain rfl := Option.some.inj H
          exact ⟨_, seenF ⟨rfl, trivial⟩, hp_28.pick [] (by decide) rfl⟩
        have H := iff_ h_23 H
        refine goff rfl rfl (congrArg Value.bool (nt h_23)) rfl ?_
        refine goff rfl rfl (congrArg Value.bool (nt h_23)) rfl ?_
        refine sv (v := .bool true) rfl rfl rfl (e_pick (b := (!(isa_reg.m a1.A))) (v1 := .bool true) (v2 := .bool true) (tm rfl rfl) (fun _ => rfl) (fun h_ => pk_no h_ (nt h_23)) (pk_same _ _)) ?_
        refine sv (v := .bool true) rfl rfl rfl (e_move (tm rfl rfl)) ?_
        refine goff rfl rfl rfl rfl ?_
        refine goff rfl rfl rfl rfl ?_
        refine goff rfl rfl rfl rfl ?_
        refine goff rfl rfl rfl rfl ?_
        refine sv (v := .bool true) rfl rfl rfl (e_pick (v1 := .bool true) (v2 := .bool true) (tm rfl rfl) (fun _ => rfl) (fun h_ => by cases h_) rfl) ?_
        refine sv (v := .bool true) rfl rfl rfl (e_move (tm rfl rfl)) ?_
        refine goff rfl rfl rfl rfl ?_
        refine goff rfl rfl rfl rfl ?_
        refine goff rfl rfl rfl rfl ?_
        refine goff rfl rfl rfl rfl ?_
        refine sv (v := .bool true) rfl rfl rfl (e_pick (v1 := .bool true) (v2 := .bool true) (tm rfl rfl) (fun _ => rfl) (fun h_ => by cases h_) rfl) ?_
        refine sv (v := .bool true) rfl rfl rfl (e_move (tm rfl rfl)) ?_
        refine goff rfl rfl rfl rfl ?_
        refine goff rfl rfl rfl rfl ?_
        refine goff rfl rfl rfl rfl ?_
        refine goff rfl rfl rfl rfl ?_
        refine goff rfl rfl rfl rfl ?_
        refine sv (v := .bool true) rfl rfl rfl (e_pick (v1 := .bool true) (v2 := .bool true) (tm rfl rfl) (fun _ => rfl) (fun h_ => by cases h_) rfl) ?_
        refine k_nil ?_
        obtain rfl := Option.some.inj H
        exact ⟨_, seenF ⟨rfl, trivial⟩, hp_20.pick [] (by decide) rfl⟩
      have H := iff_ h_15 H
      refine gon rfl rfl ((gvv (v := .bool (!decide (a0 = 8))) (!((decide (a0 = 8)) && ((decide (a1.T < 0)) || (decide (a1.T > 3))))) rfl (nt h_14)).trans (congrArg Value.bool (nt h_15))) ?_
      refine s_call (.cons (tmg ((!((decide (a0 = 8)) && ((decide (a1.T < 0)) || (decide (a1.T > 3))))) && (!decide (a0 = 8))) (.int .i64 a1.T) rfl rfl (and_i (nt h_14) (nt h_15))) .nil) Try.call55 (isa_reg.calls a1.T _) rfl ?_
      rintro v_ w_37 ⟨rfl, af_40⟩
      have hp_38 := Hp.callA af_40 hp_8
      refine gon rfl rfl ((gvv (v := .bool (!decide (a0 = 8))) (!((decide (a0 = 8)) && ((decide (a1.T < 0)) || (decide (a1.T > 3))))) rfl (nt h_14)).trans (congrArg Value.bool (nt h_15))) ?_
      refine sv (v := .bool (!(isa_reg.m a1.T))) rfl rfl rfl (e_un (tm rfl rfl) (r_not rfl)) ?_
      refine gon rfl rfl (congrArg Value.bool h_14) ?_
      refine sv (v := .bool (!(isa_reg.m a1.T))) rfl rfl rfl (e_pick (b := (!decide (a0 = 8))) (v1 := .bool (!(isa_reg.m a1.T))) (v2 := .bool (!(isa_reg.m a1.T))) (tmg (!((decide (a0 = 8)) && ((decide (a1.T < 0)) || (decide (a1.T > 3))))) (.bool (!decide (a0 = 8))) rfl rfl (nt h_14)) (fun _ => (tm rfl rfl)) (fun h_ => pk_no h_ (nt h_15)) (pk_same _ _)) ?_
      refine sv (v := .bool (!(isa_reg.m a1.T))) rfl rfl rfl (e_pick (b := ((decide (a0 = 8)) && ((decide (a1.T < 0)) || (decide (a1.T > 3))))) (v1 := .bool (!(isa_reg.m a1.T))) (v2 := .bool (!(isa_reg.m a1.T))) (tm rfl rfl) (fun h_ => pk_no h_14 h_) (fun _ => (tm rfl rfl)) (pk_same _ _)) ?_
      refine sv (v := .bool (!(isa_reg.m a1.T))) rfl rfl rfl (e_move (tm rfl rfl)) ?_
      refine s_gp (v := .pointer (some ⟨b_1, 2, none⟩)) rfl rfl rfl (beq_f _) (fun g_ => e_fieldAddr (tm rfl rfl) Try.runUnderlying44 rfl Try.sizeOf3 rfl rfl) rfl ?_
      refine s_gp (v := .int .i64 a1.A) rfl rfl rfl (beq_f _) (fun g_ => e_load1 (tmg (!(!(isa_reg.m a1.T))) (.pointer (some ⟨b_1, 2, none⟩)) rfl rfl g_) Try.isAgg3 (cell_atL (hp_38.get (i := 0) (j := 0) rfl rfl) rfl)) rfl ?_
      rcases Bool.eq_false_or_eq_true (isa_reg.m a1.T) with h_41 | h_41
      · have H := ift h_41 H
        refine gon rfl rfl (congrArg Value.bool (nf h_41)) ?_
        refine s_call (.cons (tmg (!(!(isa_reg.m a1.T))) (.int .i64 a1.A) rfl rfl (nt (nf h_41))) .nil) Try.call55 (isa_reg.calls a1.A _) rfl ?_
        rintro v_ w_45 ⟨rfl, af_48⟩
        have hp_46 := Hp.callA af_48 hp_38
        refine gon rfl rfl (congrArg Value.bool (nf h_41)) ?_
        refine sv (v := .bool (!(isa_reg.m a1.A))) rfl rfl rfl (e_un (tm rfl rfl) (r_not rfl)) ?_
        refine sv (v := .bool (!(isa_reg.m a1.A))) rfl rfl rfl (e_pick (b := (!(isa_reg.m a1.T))) (v1 := .bool (!(isa_reg.m a1.A))) (v2 := .bool (!(isa_reg.m a1.A))) (tm rfl rfl) (fun h_ => pk_no (nf h_41) h_) (fun _ => (tm rfl rfl)) (pk_same _ _)) ?_
        refine sv (v := .bool (!(isa_reg.m a1.A))) rfl rfl rfl (e_move (tm rfl rfl)) ?_
        refine s_gp (v := .pointer (some ⟨b_1, 3, none⟩)) rfl rfl rfl (beq_f _) (fun g_ => e_fieldAddr (tm rfl rfl) Try.runUnderlying44 rfl Try.sizeOf3 rfl rfl) rfl ?_
        refine s_gp (v := .int .i64 a1.B) rfl rfl rfl (beq_f _) (fun g_ => e_load1 (tmg (!(!(isa_reg.m a1.A))) (.pointer (some ⟨b_1, 3, none⟩)) rfl rfl g_) Try.isAgg3 (cell_atL (hp_46.get (i := 0) (j := 0) rfl rfl) rfl)) rfl ?_
        rcases Bool.eq_false_or_eq_true (isa_reg.m a1.A) with h_49 | h_49
        · have H := ift h_49 H
          refine gon rfl rfl (congrArg Value.bool (nf h_49)) ?_
          refine s_call (.cons (tmg (!(!(isa_reg.m a1.A))) (.int .i64 a1.B) rfl rfl (nt (nf h_49))) .nil) Try.call55 (isa_reg.calls a1.B _) rfl ?_
          rintro v_ w_53 ⟨rfl, af_56⟩
          have hp_54 := Hp.callA af_56 hp_46
          refine gon rfl rfl (congrArg Value.bool (nf h_49)) ?_
          refine sv (v := .bool (!(isa_reg.m a1.B))) rfl rfl rfl (e_un (tm rfl rfl) (r_not rfl)) ?_
          refine sv (v := .bool (!(isa_reg.m a1.B))) rfl rfl rfl (e_pick (b := (!(isa_reg.m a1.A))) (v1 := .bool (!(isa_reg.m a1.B))) (v2 := .bool (!(isa_reg.m a1.B))) (tm rfl rfl) (fun h_ => pk_no (nf h_49) h_) (fun _ => (tm rfl rfl)) (pk_same _ _)) ?_
          refine sv (v := .bool (!(isa_reg.m a1.B))) rfl rfl rfl (e_move (tm rfl rfl)) ?_
          refine s_gp (v := .pointer (some ⟨b_1, 4, none⟩)) rfl rfl rfl (beq_f _) (fun g_ => e_fieldAddr (tm rfl rfl) Try.runUnderlying44 rfl Try.sizeOf3 rfl rfl) rfl ?_
          refine s_gp (v := .int .i64 a1.Imm) rfl rfl rfl (beq_f _) (fun g_ => e_load1 (tmg (!(!(isa_reg.m a1.B))) (.pointer (some ⟨b_1, 4, none⟩)) rfl rfl g_) Try.isAgg3 (cell_atL (hp_54.get (i := 0) (j := 0) rfl rfl) rfl)) rfl ?_
          refine s_gp (v := .int .i64 ((isa_used.m a0).2.2.2.1)) rfl rfl rfl (beq_f _) (fun g_ => e_move (tm rfl rfl)) rfl ?_
          refine s_gp (v := .bool (decide (a1.Imm < ((isa_used.m a0).2.2.2.1)))) rfl rfl rfl (beq_f _) (fun g_ => e_bin (tmg (!(!(isa_reg.m a1.B))) (.int .i64 a1.Imm) rfl rfl g_) (tmg (!(!(isa_reg.m a1.B))) (.int .i64 ((isa_used.m a0).2.2.2.1)) rfl rfl g_) (r_lss rfl)) rfl ?_
          refine sv (v := .bool ((!(isa_reg.m a1.B)) || (decide (a1.Imm < ((isa_used.m a0).2.2.2.1))))) rfl rfl rfl (e_pick (v1 := .bool true) (v2 := .bool (decide (a1.Imm < ((isa_used.m a0).2.2.2.1)))) (tm rfl rfl) (fun _ => rfl) (fun h_ => tmg (!(!(isa_reg.m a1.B))) (.bool (decide (a1.Imm < ((isa_used.m a0).2.2.2.1)))) rfl rfl (nt h_)) (pk_or (!(isa_reg.m a1.B)))) ?_
          refine sv (v := .bool ((!(isa_reg.m a1.B)) || (decide (a1.Imm < ((isa_used.m a0).2.2.2.1))))) rfl rfl rfl (e_move (tm rfl rfl)) ?_
          refine s_gp (v := .pointer (some ⟨b_1, 4, none⟩)) rfl rfl rfl (beq_f _) (fun g_ => e_fieldAddr (tm rfl rfl) Try.runUnderlying44 rfl Try.sizeOf3 rfl rfl) rfl ?_
          refine s_gp (v := .int .i64 a1.Imm) rfl rfl rfl (beq_f _) (fun g_ => e_load1 (tmg (!((!(isa_reg.m a1.B)) || (decide (a1.Imm < ((isa_used.m a0).2.2.2.1))))) (.pointer (some ⟨b_1, 4, none⟩)) rfl rfl g_) Try.isAgg3 (cell_atL (hp_54.get (i := 0) (j := 0) rfl rfl) rfl)) rfl ?_
          refine s_gp (v := .int .i64 ((isa_used.m a0).2.2.2.2.1)) rfl rfl rfl (beq_f _) (fun g_ => e_move (tm rfl rfl)) rfl ?_
          refine s_gp (v := .bool (decide (a1.Imm > ((isa_used.m a0).2.2.2.2.1)))) rfl rfl rfl (beq_f _) (fun g_ => e_bin (tmg (!((!(isa_reg.m a1.B)) || (decide (a1.Imm < ((isa_used.m a0).2.2.2.1))))) (.int .i64 a1.Imm) rfl rfl g_) (tmg (!((!(isa_reg.m a1.B)) || (decide (a1.Imm < ((isa_used.m a0).2.2.2.1))))) (.int .i64 ((isa_used.m a0).2.2.2.2.1)) rfl rfl g_) (r_gtr rfl)) rfl ?_
          refine sv (v := .bool (((!(isa_reg.m a1.B)) || (decide (a1.Imm < ((isa_used.m a0).2.2.2.1)))) || (decide (a1.Imm > ((isa_used.m a0).2.2.2.2.1))))) rfl rfl rfl (e_pick (v1 := .bool true) (v2 := .bool (decide (a1.Imm > ((isa_used.m a0).2.2.2.2.1)))) (tm rfl rfl) (fun _ => rfl) (fun h_ => tmg (!((!(isa_reg.m a1.B)) || (decide (a1.Imm < ((isa_used.m a0).2.2.2.1))))) (.bool (decide (a1.Imm > ((isa_used.m a0).2.2.2.2.1)))) rfl rfl (nt h_)) (pk_or ((!(isa_reg.m a1.B)) || (decide (a1.Imm < ((isa_used.m a0).2.2.2.1)))))) ?_
          refine sv (v := .bool (((!(isa_reg.m a1.B)) || (decide (a1.Imm < ((isa_used.m a0).2.2.2.1)))) || (decide (a1.Imm > ((isa_used.m a0).2.2.2.2.1))))) rfl rfl rfl (e_move (tm rfl rfl)) ?_
          refine s_gp (v := .pointer (some ⟨b_1, 4, none⟩)) rfl rfl rfl (beq_f _) (fun g_ => e_fieldAddr (tm rfl rfl) Try.runUnderlying44 rfl Try.sizeOf3 rfl rfl) rfl ?_
          refine s_gp (v := .int .i64 a1.Imm) rfl rfl rfl (beq_f _) (fun g_ => e_load1 (tmg (!(((!(isa_reg.m a1.B)) || (decide (a1.Imm < ((isa_used.m a0).2.2.2.1)))) || (decide (a1.Imm > ((isa_used.m a0).2.2.2.2.1))))) (.pointer (some ⟨b_1, 4, none⟩)) rfl rfl g_) Try.isAgg3 (cell_atL (hp_54.get (i := 0) (j := 0) rfl rfl) rfl)) rfl ?_
          refine s_gp (v := .int .i64 ((isa_used.m a0).2.2.2.2.2)) rfl rfl rfl (beq_f _) (fun g_ => e_move (tm rfl rfl)) rfl ?_
          rcases Bool.eq_false_or_eq_true (((!(isa_reg.m a1.B)) || (decide (a1.Imm < ((isa_used.m a0).2.2.2.1)))) || (decide (a1.Imm > ((isa_used.m a0).2.2.2.2.1)))) with h_58 | h_58
          · have H := ift h_58 H
            refine goff rfl rfl (congrArg Value.bool h_58) rfl ?_
            refine goff rfl rfl (congrArg Value.bool h_58) rfl ?_
            refine sv (v := .bool true) rfl rfl rfl (e_pick (b := (((!(isa_reg.m a1.B)) || (decide (a1.Imm < ((isa_used.m a0).2.2.2.1)))) || (decide (a1.Imm > ((isa_used.m a0).2.2.2.2.1))))) (v1 := .bool true) (v2 := .bool true) (tm rfl rfl) (fun _ => rfl) (fun h_ => pk_no h_ h_58) (pk_same _ _)) ?_
            refine k_nil ?_
            obtain rfl := Option.some.inj H
            exact ⟨_, seenF ⟨rfl, trivial⟩, hp_54.pick [] (by decide) rfl⟩
          have H := iff_ h_58 H
          refine gon rfl rfl (congrArg Value.bool h_58) ?_
          obtain ⟨g_59, H⟩ := grd H
          refine sv (v := .int .i64 (Int.tmod a1.Imm ((isa_used.m a0).2.2.2.2.2))) rfl rfl rfl (e_bin (tmg (!(((!(isa_reg.m a1.B)) || (decide (a1.Imm < ((isa_used.m a0).2.2.2.1)))) || (decide (a1.Imm > ((isa_used.m a0).2.2.2.2.1))))) (.int .i64 a1.Imm) rfl rfl (nt h_58)) (tmg (!(((!(isa_reg.m a1.B)) || (decide (a1.Imm < ((isa_used.m a0).2.2.2.1)))) || (decide (a1.Imm > ((isa_used.m a0).2.2.2.2.1))))) (.int .i64 ((isa_used.m a0).2.2.2.2.2)) rfl rfl (nt h_58)) (r_rem g_59 rfl)) ?_
          refine gon rfl rfl (congrArg Value.bool h_58) ?_
          refine sv (v := .bool (!decide ((Int.tmod a1.Imm ((isa_used.m a0).2.2.2.2.2)) = 0))) rfl rfl rfl (e_bin (tm rfl rfl) rfl (r_neq rfl)) ?_
          refine sv (v := .bool (!decide ((Int.tmod a1.Imm ((isa_used.m a0).2.2.2.2.2)) = 0))) rfl rfl rfl (e_pick (b := (((!(isa_reg.m a1.B)) || (decide (a1.Imm < ((isa_used.m a0).2.2.2.1)))) || (decide (a1.Imm > ((isa_used.m a0).2.2.2.2.1))))) (v1 := .bool (!decide ((Int.tmod a1.Imm ((isa_used.m a0).2.2.2.2.2)) = 0))) (v2 := .bool (!decide ((Int.tmod a1.Imm ((isa_used.m a0).2.2.2.2.2)) = 0))) (tm rfl rfl) (fun h_ => pk_no h_58 h_) (fun _ => (tm rfl rfl)) (pk_same _ _)) ?_
          refine k_nil ?_
          obtain rfl := Option.some.inj H
          exact ⟨_, seenF ⟨rfl, trivial⟩, hp_54.pick [] (by decide) rfl⟩
        have H := iff_ h_49 H
        refine goff rfl rfl (congrArg Value.bool (nt h_49)) rfl ?_
        refine goff rfl rfl (congrArg Value.bool (nt h_49)) rfl ?_
        refine sv (v := .bool true) rfl rfl rfl (e_pick (b := (!(isa_reg.m a1.A))) (v1 := .bool true) (v2 := .bool true) (tm rfl rfl) (fun _ => rfl) (fun h_ => pk_no h_ (nt h_49)) (pk_same _ _)) ?_
        refine sv (v := .bool true) rfl rfl rfl (e_move (tm rfl rfl)) ?_
        refine goff rfl rfl rfl rfl ?_
        refine goff rfl rfl rfl rfl ?_
        refine goff rfl rfl rfl rfl ?_
        refine goff rfl rfl rfl rfl ?_
        refine sv (v := .bool true) rfl rfl rfl (e_pick (v1 := .bool true) (v2 := .bool true) (tm rfl rfl) (fun _ => rfl) (fun h_ => by cases h_) rfl) ?_
        refine sv (v := .bool true) rfl rfl rfl (e_move (tm rfl rfl)) ?_
        refine goff rfl rfl rfl rfl ?_
        refine goff rfl rfl rfl rfl ?_
        refine goff rfl rfl rfl rfl ?_
        refine goff rfl rfl rfl rfl ?_
        refine sv (v := .bool true) rfl rfl rfl (e_pick (v1 := .bool true) (v2 := .bool true) (tm rfl rfl) (fun _ => rfl) (fun h_ => by cases h_) rfl) ?_
        refine sv (v := .bool true) rfl rfl rfl (e_move (tm rfl rfl)) ?_
        refine goff rfl rfl rfl rfl ?_
        refine goff rfl rfl rfl rfl ?_
        refine goff rfl rfl rfl rfl ?_
        refine goff rfl rfl rfl rfl ?_
        refine goff rfl rfl rfl rfl ?_
        refine sv (v := .bool true) rfl rfl rfl (e_pick (v1 := .bool true) (v2 := .bool true) (tm rfl rfl) (fun _ => rfl) (fun h_ => by cases h_) rfl) ?_
        refine k_nil ?_
        obtain rfl := Option.some.inj H
        exact ⟨_, seenF ⟨rfl, trivial⟩, hp_46.pick [] (by decide) rfl⟩
      have H := iff_ h_41 H
      refine goff rfl rfl (congrArg Value.bool (nt h_41)) rfl ?_
      refine goff rfl rfl (congrArg Value.bool (nt h_41)) rfl ?_
      refine sv (v := .bool true) rfl rfl rfl (e_pick (b := (!(isa_reg.m a1.T))) (v1 := .bool true) (v2 := .bool true) (tm rfl rfl) (fun _ => rfl) (fun h_ => pk_no h_ (nt h_41)) (pk_same _ _)) ?_
      refine sv (v := .bool true) rfl rfl rfl (e_move (tm rfl rfl)) ?_
      refine goff rfl rfl rfl rfl ?_
      refine goff rfl rfl rfl rfl ?_
      refine goff rfl rfl rfl rfl ?_
      refine goff rfl rfl rfl rfl ?_
      refine sv (v := .bool true) rfl rfl rfl (e_pick (v1 := .bool true) (v2 := .bool true) (tm rfl rfl) (fun _ => rfl) (fun h_ => by cases h_) rfl) ?_
      refine sv (v := .bool true) rfl rfl rfl (e_move (tm rfl rfl)) ?_
      refine goff rfl rfl rfl rfl ?_
      refine goff rfl rfl rfl rfl ?_
      refine goff rfl rfl rfl rfl ?_
      refine goff rfl rfl rfl rfl ?_
      refine sv (v := .bool true) rfl rfl rfl (e_pick (v1 := .bool true) (v2 := .bool true) (tm rfl rfl) (fun _ => rfl) (fun h_ => by cases h_) rfl) ?_
      refine sv (v := .bool true) rfl rfl rfl (e_move (tm rfl rfl)) ?_
      refine goff rfl rfl rfl rfl ?_
      refine goff rfl rfl rfl rfl ?_
      refine goff rfl rfl rfl rfl ?_
      refine goff rfl rfl rfl rfl ?_
      refine sv (v := .bool true) rfl rfl rfl (e_pick (v1 := .bool true) (v2 := .bool true) (tm rfl rfl) (fun _ => rfl) (fun h_ => by cases h_) rfl) ?_
      refine sv (v := .bool true) rfl rfl rfl (e_move (tm rfl rfl)) ?_
      refine goff rfl rfl rfl rfl ?_
      refine goff rfl rfl rfl rfl ?_
      refine goff rfl rfl rfl rfl ?_
      refine goff rfl rfl rfl rfl ?_
      refine goff rfl rfl rfl rfl ?_
      refine sv (v := .bool true) rfl rfl rfl (e_pick (v1 := .bool true) (v2 := .bool true) (tm rfl rfl) (fun _ => rfl) (fun h_ => by cases h_) rfl) ?_
      refine k_nil ?_
      obtain rfl := Option.some.inj H
      exact ⟨_, seenF ⟨rfl, trivial⟩, hp_38.pick [] (by decide) rfl⟩
  clear H
  rintro a w' ⟨σ_60, rfl, hp_61⟩
  have H := G_13
  refine k_if (tm rfl rfl) (fun h_64 => ?_) (fun h_64 => ?_)
  · have H := ift h_64 H
    refine k_seq ?_
    refine k_region ?_
    refine sv (v := .int .i64 2) rfl rfl rfl (e_assign rfl) ?_
    refine k_nil ?_
    refine k_ret ?_
    obtain rfl := Option.some.inj H
    exact k_end rfl (.tmp rfl rfl .nil) rfl ⟨rfl, (hp_61).aft⟩
  have H := iff_ h_64 H
  refine k_skip ?_
  refine k_seq ?_
  refine k_region ?_
  refine sv (v := .int .i64 0) rfl rfl rfl (e_assign rfl) ?_
  refine k_nil ?_
  refine k_ret ?_
  obtain rfl := Option.some.inj H
  exact k_end rfl (.tmp rfl rfl .nil) rfl ⟨rfl, (hp_61).aft⟩

end Go.Proofs.Ytcnchjlomcafeaa.W
