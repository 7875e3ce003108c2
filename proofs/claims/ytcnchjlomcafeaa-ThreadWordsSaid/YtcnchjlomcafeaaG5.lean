/- Functions of the program as plain Lean functions, and that the calls do what they say: written by w3.py. -/
import Derived.Test.YtcnchjlomcafeaaRun
import Derived.Test.YtcnchjlomcafeaaTy
set_option linter.unusedVariables false
set_option linter.unusedSimpArgs false
set_option linter.unusedSectionVars false
namespace Go.Proofs.Ytcnchjlomcafeaa.W
open Go Go.RowKit Go.Proofs.Ytcnchjlomcafeaa.B
attribute [local irreducible] Go.wpList Go.Code.wp Go.Region.wanted Go.yielded
/-! ### selvage/selvageref15.bits: function 52 -/
def selvageref15_bits.m (a0 : Int) (a1 : Int) (a2 : Int) : Int :=
 wrap64 (((a0 * 2 ^ (min ((a1) % 18446744073709551616).toNat 32)) % 4294967296) / 2 ^ (min ((wrap64 (32 - a2)) % 18446744073709551616).toNat 32))
set_option maxHeartbeats 4000000 in
set_option maxRecDepth 100000 in
theorem selvageref15_bits.calls (a0 : Int) (a1 : Int) (a2 : Int) (w : World) :
 Ret Try.prog 52 [.int .u32 a0, .int .i64 a1, .int .i64 a2] w fun v w' => v = .int .i64 (selvageref15_bits.m a0 a1 a2) ∧ Aft w w' [] [] := by
 obtain ⟨r, H⟩ : ∃ r, selvageref15_bits.m a0 a1 a2 = r := ⟨_, rfl⟩
 rw [H]
 unfold selvageref15_bits.m at H
 have hp0 := Hp.startR (F := no) (R := []) (Have.nil w) (fun _ h => h.elim)
 have ep0 := Ep.refl no [] w
 refine enter (L := [(0, .int .u32 a0), (1, .int .i64 a1), (2, .int .i64 a2)]) Try.func52 rfl Try.ntmps52 rfl rfl ?_
 refine kq tb hp0 [] [] (by kernel_rfl) fun σ => ?_
 refine k_seq ?_
 refine k_region ?_
 refine sr tb hp0 [] 3 [(7, .int .u32 a0), (9, .int .u64 ((a1) % 18446744073709551616))] (by kernel_rfl) fun σ => ?_
 refine sv (v := .int .u32 ((a0 * 2 ^ (min ((a1) % 18446744073709551616).toNat 32)) % 4294967296)) rfl rfl rfl (e_bin (tm rfl rfl) (tm rfl rfl) (r_shl (Int.emod_nonneg _ (by decide)) (wrap_u32 _))) ?_
 refine sr tb hp0 [] 3 [(13, .int .u64 ((wrap64 (32 - a2)) % 18446744073709551616))] (by kernel_rfl) fun σ => ?_
 refine sv (v := .int .u32 (((a0 * 2 ^ (min ((a1) % 18446744073709551616).toNat 32)) % 4294967296) / 2 ^ (min ((wrap64 (32 - a2)) % 18446744073709551616).toNat 32))) rfl rfl rfl (e_bin (tm rfl rfl) (tm rfl rfl) (r_shr (Int.emod_nonneg _ (by decide)) (fdp _ _ rfl))) ?_
 refine sr tb hp0 [] 2 [(6, .int .i64 (wrap64 (((a0 * 2 ^ (min ((a1) % 18446744073709551616).toNat 32)) % 4294967296) / 2 ^ (min ((wrap64 (32 - a2)) % 18446744073709551616).toNat 32))))] (by kernel_rfl) fun σ => ?_
 refine k_nil ?_
 refine k_ret ?_
 obtain rfl := id H
 exact k_end rfl (.tmp rfl rfl .nil) rfl ⟨rfl, (hp0).aft⟩

/-! ### selvage/selvageref15.signed: function 53 -/
def selvageref15_signed.m (a0 : Int) (a1 : Int) : Int :=
 if (decide (a0 ≥ (wrap64 (1 * 2 ^ (min ((wrap64 (a1 - 1)) % 18446744073709551616).toNat 64))))) = true then (wrap64 (a0 - (wrap64 (1 * 2 ^ (min ((a1) % 18446744073709551616).toNat 64))))) else (a0)
set_option maxHeartbeats 4000000 in
set_option maxRecDepth 100000 in
theorem selvageref15_signed.calls (a0 : Int) (a1 : Int) (w : World) :
 Ret Try.prog 53 [.int .i64 a0, .int .i64 a1] w fun v w' => v = .int .i64 (selvageref15_signed.m a0 a1) ∧ Aft w w' [] [] := by
 obtain ⟨r, H⟩ : ∃ r, selvageref15_signed.m a0 a1 = r := ⟨_, rfl⟩
 rw [H]
 unfold selvageref15_signed.m at H
 have hp0 := Hp.startR (F := no) (R := []) (Have.nil w) (fun _ h => h.elim)
 have ep0 := Ep.refl no [] w
 refine enter (L := [(0, .int .i64 a0), (1, .int .i64 a1)]) Try.func53 rfl Try.ntmps53 rfl rfl ?_
 refine kq tb hp0 [] [] (by kernel_rfl) fun σ => ?_
 refine k_seq ?_
 refine k_seq ?_
 refine k_region ?_
 refine sr tb hp0 [] 4 [(5, .int .i64 a0), (8, .int .u64 ((wrap64 (a1 - 1)) % 18446744073709551616))] (by kernel_rfl) fun σ => ?_
 refine sv (v := .int .i64 (wrap64 (1 * 2 ^ (min ((wrap64 (a1 - 1)) % 18446744073709551616).toNat 64)))) rfl rfl rfl (e_bin rfl (tm rfl rfl) (r_shl (Int.emod_nonneg _ (by decide)) (wrap_i64 _))) ?_
 refine sv (v := .bool (decide (a0 ≥ (wrap64 (1 * 2 ^ (min ((wrap64 (a1 - 1)) % 18446744073709551616).toNat 64)))))) rfl rfl rfl (e_bin (tm rfl rfl) (tm rfl rfl) (r_geq rfl)) ?_
 refine k_nil ?_
 refine k_if (tm rfl rfl) (fun h_1 => ?_) (fun h_1 => ?_)
 ·have H := ift h_1 H
  refine k_seq ?_
  refine k_region ?_
  refine sr tb hp0 [] 3 [(11, .int .i64 a0), (13, .int .u64 ((a1) % 18446744073709551616))] (by kernel_rfl) fun σ => ?_
  refine sv (v := .int .i64 (wrap64 (1 * 2 ^ (min ((a1) % 18446744073709551616).toNat 64)))) rfl rfl rfl (e_bin rfl (tm rfl rfl) (r_shl (Int.emod_nonneg _ (by decide)) (wrap_i64 _))) ?_
  refine sr tb hp0 [] 2 [(4, .int .i64 (wrap64 (a0 - (wrap64 (1 * 2 ^ (min ((a1) % 18446744073709551616).toNat 64))))))] (by kernel_rfl) fun σ => ?_
  refine k_nil ?_
  refine k_ret ?_
  obtain rfl := id H
  exact k_end rfl (.tmp rfl rfl .nil) rfl ⟨rfl, (hp0).aft⟩
 have H := iff_ h_1 H
 refine k_skip ?_
 refine kq tb hp0 [] [(4, .int .i64 a0)] (by kernel_rfl) fun σ => ?_
 refine k_ret ?_
 obtain rfl := id H
 exact k_end rfl (.tmp rfl rfl .nil) rfl ⟨rfl, (hp0).aft⟩

end Go.Proofs.Ytcnchjlomcafeaa.W
