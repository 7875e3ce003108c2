/- Functions of the program as plain Lean functions, and that the calls do what they say: written by wip/tools/walk.py. -/
import Derived.Test.YtallojficgiemaaTy
import Derived.Test.YtallojficgiemaaF0
import Derived.Test.YtallojficgiemaaF1
import Derived.Test.YtallojficgiemaaF2
import Derived.Test.YtallojficgiemaaF3
import Derived.Test.YtallojficgiemaaF4
import Derived.Test.YtallojficgiemaaF5
import Derived.Test.YtallojficgiemaaF6
import Derived.Test.YtallojficgiemaaF7
import Derived.Test.YtallojficgiemaaF8
import Derived.Test.YtallojficgiemaaF9
import Derived.Test.YtallojficgiemaaF10
import Derived.Test.YtallojficgiemaaF11
import Derived.Test.YtallojficgiemaaF12
import Derived.Test.YtallojficgiemaaF13
import Derived.Test.YtallojficgiemaaF14
set_option linter.unusedVariables false
set_option linter.unusedSimpArgs false
set_option linter.unusedSectionVars false
namespace Go.Proofs.Ytallojficgiemaa.W
open Go Go.RowKit Go.Proofs.Ytallojficgiemaa.B
attribute [local irreducible] Go.wpList Go.Code.wp Go.Region.wanted Go.yielded
/-! ### selvage/isa.Decode: function 10 -/
def isa_Decode.l1 (a0 : Int) : Nat → Int → Option Int
  | 0, _ => none
  | k + 1, x102 => if ((decide (x102 < 3)) && (!decide ((isa_cond.m x102) = (bits .and .u32 a0 67043328)))) = true then (isa_Decode.l1 a0 k (wrap64 (x102 + 1))) else (some x102)
def isa_Decode.l0 (a0 : Int) : Nat → Int → Option (Unit ⊕ (api_Inst × Int))
  | 0, _ => none
  | k + 1, x18 => if (decide (x18 ≤ 23)) = true then ((if (!decide (((bits .xor .u32 a0 ((isa_formOf.m x18).2)) / 67108864) = 0)) = true then (some (Sum.inl ())) else ((if (decide (((isa_formOf.m x18).1) = 1)) = true then (some (wrap64 (bits .and .u32 (a0 / 2097152) 31), wrap64 (bits .and .u32 (a0 / 65536) 31), 0, wrap64 (wrap16 (a0)))) else (if (decide (((isa_formOf.m x18).1) = 2)) = true then (some (wrap64 (bits .and .u32 (a0 / 65536) 31), wrap64 (bits .and .u32 (a0 / 2097152) 31), 0, wrap64 (bits .and .u32 a0 65535))) else (if (decide (((isa_formOf.m x18).1) = 3)) = true then (some (wrap64 (bits .and .u32 (a0 / 65536) 31), wrap64 (bits .and .u32 (a0 / 2097152) 31), 0, wrap64 (bits .or .u32 (bits .and .u32 (a0 / 2048) 31) (((bits .and .u32 (a0 / 2) 1) * 32) % 4294967296)))) else (if (decide (((isa_formOf.m x18).1) = 4)) = true then (some (wrap64 (bits .and .u32 (a0 / 2097152) 31), wrap64 (bits .and .u32 (a0 / 65536) 31), wrap64 (bits .and .u32 (a0 / 2048) 31), 0)) else (if (decide (((isa_formOf.m x18).1) = 5)) = true then (some (wrap64 (bits .and .u32 (a0 / 2097152) 31), wrap64 (bits .and .u32 (a0 / 65536) 31), 0, wrap64 (wrap16 (bits .and .u32 a0 65532)))) else (if (decide (((isa_formOf.m x18).1) = 6)) = true then (some (0, wrap64 (bits .and .u32 (a0 / 65536) 31), wrap64 (bits .and .u32 (a0 / 2048) 31), 0)) else (if (decide (((isa_formOf.m x18).1) = 7)) = true then (some (0, wrap64 (bits .and .u32 (a0 / 65536) 31), 0, wrap64 (wrap16 (a0)))) else (if (decide (((isa_formOf.m x18).1) = 8)) = true then ((isa_Decode.l1 a0 k 0).bind fun o87 => (some (o87, 0, 0, wrap64 (wrap16 (bits .and .u32 a0 65532))))) else (if (decide (((isa_formOf.m x18).1) = 9)) = true then (some (0, 0, 0, wrap64 ((wrap32 (((bits .and .u32 a0 67108860) * 64) % 4294967296)) / 64))) else (some (0, 0, 0, 0))))))))))).bind fun o37 => ((isa_Encode.m (⟨x18, o37.1, o37.2.1, o37.2.2.1, o37.2.2.2⟩ : api_Inst)).bind fun r133 => (if ((decide (r133.2 = 0)) && (decide (r133.1 = a0))) = true then (some (Sum.inr ((⟨x18, o37.1, o37.2.1, o37.2.2.1, o37.2.2.2⟩ : api_Inst), 0))) else (some (Sum.inl ())))))).bind fun o25 => Sum.elim (fun s27 => (isa_Decode.l0 a0 k (wrap64 (x18 + 1)))) (fun r145 => some (Sum.inr r145)) o25) else (some (Sum.inl ()))
def isa_Decode.m (k : Nat) (a0 : Int) : Option (api_Inst × Int) := (isa_Decode.l0 a0 k 1).bind fun o4 => Sum.elim (fun s6 => (some ((⟨0, 0, 0, 0, 0⟩ : api_Inst), 3))) (fun r153 => some r153) o4
set_option maxHeartbeats 4000000 in
set_option maxRecDepth 100000 in
theorem isa_Decode.calls (k : Nat) (a0 : Int) (r : api_Inst × Int) (w : World) (H : isa_Decode.m k a0 = some r) :
    Ret Try.prog 10 [.int .u32 a0] w fun v w' => v = .tuple #[.agg #[.int .i64 r.1.Op, .int .i64 r.1.T, .int .i64 r.1.A, .int .i64 r.1.B, .int .i64 r.1.Imm], .int .i64 r.2] ∧ Below w.heap.size w w' := by
  unfold isa_Decode.m at H
  have hp0 := Hp.start w
  refine enter (L := [(0, .int .u32 a0)]) Try.func10 rfl Try.ntmps10 rfl rfl ?_
  refine k_seq ?_
  refine k_region ?_
  refine s_alloc (zv := .agg #[.int .i64 0, .int .i64 0, .int .i64 0, .int .i64 0, .int .i64 0]) (l := [.int .i64 0, .int .i64 0, .int .i64 0, .int .i64 0, .int .i64 0]) hp0 (by intro w_; kernel_rfl) rfl rfl (fun b1 w2 hp3 => ?_)
  refine sv (v := .int .i64 0) rfl rfl rfl (e_assign rfl) ?_
  refine k_nil ?_
  refine k_seq ?_
  refine k_seq ?_
  refine k_region ?_
  refine sv (v := .int .i64 1) rfl rfl rfl (e_assign rfl) ?_
  refine k_nil ?_
  obtain ⟨o4, H, G5⟩ := bindSome H
  refine k_cut (fun a w' => ∃ (s6 : Unit) (σ157 : Nat → Value) (b158 : Nat), o4 = Sum.inl s6 ∧ a = st 156 [(2, .pointer (some ⟨b158, 0, none⟩))] σ157 [] ∧ Hp0 w w' [[(b158, .cells #[.int .i64 0, .int .i64 0, .int .i64 0, .int .i64 0, .int .i64 0] 23 (0, 0))]]) ?_ ?_
  · refine k_block ?_
    refine k_loopg (fun m a w' => ∃ (x18 : Int) (σ149 : Nat → Value) (b150 : Nat), a = st 156 [(0, .int .u32 a0), (2, .pointer (some ⟨b150, 0, none⟩)), (4, .int .i64 x18)] σ149 [] ∧ Hp0 w w' [[(b150, .cells #[.int .i64 0, .int .i64 0, .int .i64 0, .int .i64 0, .int .i64 0] 23 (0, 0))]] ∧ isa_Decode.l0 a0 m x18 = some o4) k ⟨1, _, b1, seenF ⟨rfl, rfl, rfl, trivial⟩, hp3, H⟩ ?_
    clear H
    rintro m a w' ⟨x18, σ22, b23, rfl, hp20, H⟩
    obtain ⟨k, rfl⟩ := fuel (f := fun k => isa_Decode.l0 a0 k x18) rfl H
    rw [isa_Decode.l0] at H
    refine k_seq ?_
    refine k_seq ?_
    refine k_region ?_
    refine sv (v := .int .i64 x18) rfl rfl rfl (e_move (tm rfl rfl)) ?_
    refine sv (v := .bool (decide (x18 ≤ 23))) rfl rfl rfl (e_bin (tm rfl rfl) rfl (r_leq rfl)) ?_
    refine k_nil ?_
    refine k_if (tm rfl rfl) (fun h24 => ?_) (fun h24 => ?_)
    · have H := ift h24 H
      refine k_skip ?_
      refine k_seq ?_
      obtain ⟨o25, H, G26⟩ := bindSome H
      refine k_cut (fun a w' => ∃ (s27 : Unit) (σ149 : Nat → Value) (b150 : Nat), o25 = Sum.inl s27 ∧ a = st 156 [(0, .int .u32 a0), (2, .pointer (some ⟨b150, 0, none⟩)), (4, .int .i64 x18)] σ149 [] ∧ Hp0 w w' [[(b150, .cells #[.int .i64 0, .int .i64 0, .int .i64 0, .int .i64 0, .int .i64 0] 23 (0, 0))]]) ?_ ?_
      · refine k_block ?_
        refine k_seq ?_
        refine k_region ?_
        refine sv (v := .int .i64 x18) rfl rfl rfl (e_move (tm rfl rfl)) ?_
        refine s_call (.cons (tm rfl rfl) .nil) Try.call12 (isa_formOf.calls x18 _) rfl ?_
        rintro v_ w28 ⟨rfl, hb29⟩
        have hp30 := hp20.grow hb29
        refine sv (v := .tuple #[.int .i64 ((isa_formOf.m x18).1), .int .u32 ((isa_formOf.m x18).2)]) rfl rfl rfl (e_move (tm rfl rfl)) ?_
        refine sv (v := .int .i64 ((isa_formOf.m x18).1)) rfl rfl rfl (e_extract (tm rfl rfl) rfl) ?_
        refine sv (v := .int .u32 ((isa_formOf.m x18).2)) rfl rfl rfl (e_extract (tm rfl rfl) rfl) ?_
        refine sv (v := .int .i64 ((isa_formOf.m x18).1)) rfl rfl rfl (e_assign (tm rfl rfl)) ?_
        refine sv (v := .int .u32 ((isa_formOf.m x18).2)) rfl rfl rfl (e_assign (tm rfl rfl)) ?_
        refine k_nil ?_
        refine k_seq ?_
        refine k_seq ?_
        refine k_region ?_
        refine sv (v := .int .u32 a0) rfl rfl rfl (e_move (tm rfl rfl)) ?_
        refine sv (v := .int .u32 ((isa_formOf.m x18).2)) rfl rfl rfl (e_move (tm rfl rfl)) ?_
        refine sv (v := .int .u32 (bits .xor .u32 a0 ((isa_formOf.m x18).2))) rfl rfl rfl (e_bin (tm rfl rfl) (tm rfl rfl) (r_bits (by simp) rfl)) ?_
        refine sv (v := .int .u32 ((bits .xor .u32 a0 ((isa_formOf.m x18).2)) / 67108864)) rfl rfl rfl (e_bin (tm rfl rfl) rfl (r_shr (by decide) (fdv _ _ rfl))) ?_
        refine sv (v := .bool (!decide (((bits .xor .u32 a0 ((isa_formOf.m x18).2)) / 67108864) = 0))) rfl rfl rfl (e_bin (tm rfl rfl) rfl (r_neq rfl)) ?_
        refine k_nil ?_
        refine k_if (tm rfl rfl) (fun h31 => ?_) (fun h31 => ?_)
        · have H := ift h31 H
          refine k_exit ?_
          refine q_here ?_
          obtain rfl := Option.some.inj H
          exact ⟨(), _, b23, rfl, seenF ⟨rfl, rfl, rfl, trivial⟩, hp30⟩
        have H := iff_ h31 H
        refine k_skip ?_
        refine k_seq ?_
        refine k_region ?_
        refine sv (v := .int .i64 x18) rfl rfl rfl (e_move (tm rfl rfl)) ?_
        refine sv (v := .agg #[.int .i64 x18, .int .i64 0, .int .i64 0, .int .i64 0, .int .i64 0]) rfl rfl rfl (e_build (vs := [(0, .int .i64 x18)]) (.cons (tm rfl rfl) .nil) (by kernel_rfl)) ?_
        refine s_alloc (zv := .agg #[.int .i64 0, .int .i64 0, .int .i64 0, .int .i64 0, .int .i64 0]) (l := [.int .i64 0, .int .i64 0, .int .i64 0, .int .i64 0, .int .i64 0]) hp30 (by intro w_; kernel_rfl) rfl rfl (fun b32 w33 hp34 => ?_)
        refine s_store (i := 1) (j := 0) (vs := [.int .i64 x18, .int .i64 0, .int .i64 0, .int .i64 0, .int .i64 0]) (l' := [.int .i64 x18, .int .i64 0, .int .i64 0, .int .i64 0, .int .i64 0]) hp34 (tm rfl rfl) (tm rfl rfl) rfl Try.sizeOf23 rfl rfl rfl rfl rfl rfl (fun w35 hp36 => ?_)
        refine k_nil ?_
        refine k_seq ?_
        refine k_region ?_
        refine sv (v := .int .u32 a0) rfl rfl rfl (e_move (tm rfl rfl)) ?_
        refine sv (v := .int .u32 (a0 / 2097152)) rfl rfl rfl (e_bin (tm rfl rfl) rfl (r_shr (by decide) (fdv _ _ rfl))) ?_
        refine sv (v := .int .u32 (bits .and .u32 (a0 / 2097152) 31)) rfl rfl rfl (e_bin (tm rfl rfl) rfl (r_bits (by simp) rfl)) ?_
        refine sv (v := .int .i64 (wrap64 (bits .and .u32 (a0 / 2097152) 31))) rfl rfl rfl (e_conv (tm rfl rfl) Try.runUnderlying25 Try.runUnderlying3 (wrap_i64 _)) ?_
        refine sv (v := .int .u32 a0) rfl rfl rfl (e_move (tm rfl rfl)) ?_
        refine sv (v := .int .u32 (a0 / 65536)) rfl rfl rfl (e_bin (tm rfl rfl) rfl (r_shr (by decide) (fdv _ _ rfl))) ?_
        refine sv (v := .int .u32 (bits .and .u32 (a0 / 65536) 31)) rfl rfl rfl (e_bin (tm rfl rfl) rfl (r_bits (by simp) rfl)) ?_
        refine sv (v := .int .i64 (wrap64 (bits .and .u32 (a0 / 65536) 31))) rfl rfl rfl (e_conv (tm rfl rfl) Try.runUnderlying25 Try.runUnderlying3 (wrap_i64 _)) ?_
        refine sv (v := .int .u32 a0) rfl rfl rfl (e_move (tm rfl rfl)) ?_
        refine sv (v := .int .u32 (a0 / 2048)) rfl rfl rfl (e_bin (tm rfl rfl) rfl (r_shr (by decide) (fdv _ _ rfl))) ?_
        refine sv (v := .int .u32 (bits .and .u32 (a0 / 2048) 31)) rfl rfl rfl (e_bin (tm rfl rfl) rfl (r_bits (by simp) rfl)) ?_
        refine sv (v := .int .i64 (wrap64 (bits .and .u32 (a0 / 2048) 31))) rfl rfl rfl (e_conv (tm rfl rfl) Try.runUnderlying25 Try.runUnderlying3 (wrap_i64 _)) ?_
        refine sv (v := .int .i64 (wrap64 (bits .and .u32 (a0 / 2097152) 31))) rfl rfl rfl (e_assign (tm rfl rfl)) ?_
        refine sv (v := .int .i64 (wrap64 (bits .and .u32 (a0 / 65536) 31))) rfl rfl rfl (e_assign (tm rfl rfl)) ?_
        refine sv (v := .int .i64 (wrap64 (bits .and .u32 (a0 / 2048) 31))) rfl rfl rfl (e_assign (tm rfl rfl)) ?_
        refine k_nil ?_
        refine k_seq ?_
        refine k_seq ?_
        refine k_region ?_
        refine sv (v := .int .i64 ((isa_formOf.m x18).1)) rfl rfl rfl (e_move (tm rfl rfl)) ?_
        refine k_nil ?_
        obtain ⟨o37, H, G38⟩ := bindSome H
        refine k_cut (fun a w' => ∃ (σ142 : Nat → Value) (b143 : Nat) (b144 : Nat), a = st 156 [(0, .int .u32 a0), (2, .pointer (some ⟨b143, 0, none⟩)), (4, .int .i64 x18), (7, .pointer (some ⟨b144, 0, none⟩))] σ142 [] ∧ Hp0 w w' [[(b143, .cells #[.int .i64 0, .int .i64 0, .int .i64 0, .int .i64 0, .int .i64 0] 23 (0, 0))], [(b144, .cells #[.int .i64 x18, .int .i64 o37.1, .int .i64 o37.2.1, .int .i64 o37.2.2.1, .int .i64 o37.2.2.2] 23 (0, 0))]]) ?_ ?_
        · refine k_block ?_
          refine k_seq ?_
          refine k_region ?_
          refine sv (v := .bool (decide (((isa_formOf.m x18).1) = 1))) rfl rfl rfl (e_bin (tm rfl rfl) rfl (r_eql rfl)) ?_
          refine sv (v := .bool (decide (((isa_formOf.m x18).1) = 1))) rfl rfl rfl (e_assign (tm rfl rfl)) ?_
          refine k_nil ?_
          refine k_if (tm rfl rfl) (fun h39 => ?_) (fun h39 => ?_)
          · have H := ift h39 H
            refine k_region ?_
            refine sv (v := .int .i64 (wrap64 (bits .and .u32 (a0 / 2097152) 31))) rfl rfl rfl (e_move (tm rfl rfl)) ?_
            refine sv (v := .int .i64 (wrap64 (bits .and .u32 (a0 / 65536) 31))) rfl rfl rfl (e_move (tm rfl rfl)) ?_
            refine sv (v := .int .u32 a0) rfl rfl rfl (e_move (tm rfl rfl)) ?_
            refine sv (v := .int .i16 (wrap16 (a0))) rfl rfl rfl (e_conv (tm rfl rfl) Try.runUnderlying25 Try.runUnderlying56 (wrap_i16 _)) ?_
            refine sv (v := .int .i64 (wrap64 (wrap16 (a0)))) rfl rfl rfl (e_conv (tm rfl rfl) Try.runUnderlying56 Try.runUnderlying3 (wrap_i64 _)) ?_
            refine sv (v := .pointer (some ⟨b32, 1, none⟩)) rfl rfl rfl (e_fieldAddr (tm rfl rfl) Try.runUnderlying23 rfl Try.sizeOf3 rfl rfl) ?_
            refine s_store (i := 1) (j := 0) (vs := [.int .i64 (wrap64 (bits .and .u32 (a0 / 2097152) 31))]) (l' := [.int .i64 x18, .int .i64 (wrap64 (bits .and .u32 (a0 / 2097152) 31)), .int .i64 0, .int .i64 0, .int .i64 0]) hp36 (tm rfl rfl) (tm rfl rfl) rfl Try.sizeOf3 rfl rfl rfl rfl rfl rfl (fun w40 hp41 => ?_)
            refine sv (v := .pointer (some ⟨b32, 2, none⟩)) rfl rfl rfl (e_fieldAddr (tm rfl rfl) Try.runUnderlying23 rfl Try.sizeOf3 rfl rfl) ?_
            refine s_store (i := 1) (j := 0) (vs := [.int .i64 (wrap64 (bits .and .u32 (a0 / 65536) 31))]) (l' := [.int .i64 x18, .int .i64 (wrap64 (bits .and .u32 (a0 / 2097152) 31)), .int .i64 (wrap64 (bits .and .u32 (a0 / 65536) 31)), .int .i64 0, .int .i64 0]) hp41 (tm rfl rfl) (tm rfl rfl) rfl Try.sizeOf3 rfl rfl rfl rfl rfl rfl (fun w42 hp43 => ?_)
            refine sv (v := .pointer (some ⟨b32, 4, none⟩)) rfl rfl rfl (e_fieldAddr (tm rfl rfl) Try.runUnderlying23 rfl Try.sizeOf3 rfl rfl) ?_
            refine s_store (i := 1) (j := 0) (vs := [.int .i64 (wrap64 (wrap16 (a0)))]) (l' := [.int .i64 x18, .int .i64 (wrap64 (bits .and .u32 (a0 / 2097152) 31)), .int .i64 (wrap64 (bits .and .u32 (a0 / 65536) 31)), .int .i64 0, .int .i64 (wrap64 (wrap16 (a0)))]) hp43 (tm rfl rfl) (tm rfl rfl) rfl Try.sizeOf3 rfl rfl rfl rfl rfl rfl (fun w44 hp45 => ?_)
            refine k_nil ?_
            obtain rfl := Option.some.inj H
            exact ⟨_, b23, b32, seenF ⟨rfl, rfl, rfl, rfl, trivial⟩, hp45⟩
          have H := iff_ h39 H
          refine k_seq ?_
          refine k_region ?_
          refine sv (v := .bool (decide (((isa_formOf.m x18).1) = 2))) rfl rfl rfl (e_bin (tm rfl rfl) rfl (r_eql rfl)) ?_
          refine sv (v := .bool (decide (((isa_formOf.m x18).1) = 2))) rfl rfl rfl (e_assign (tm rfl rfl)) ?_
          refine k_nil ?_
          refine k_if (tm rfl rfl) (fun h46 => ?_) (fun h46 => ?_)
          · have H := ift h46 H
            refine k_region ?_
            refine sv (v := .int .i64 (wrap64 (bits .and .u32 (a0 / 65536) 31))) rfl rfl rfl (e_move (tm rfl rfl)) ?_
            refine sv (v := .int .i64 (wrap64 (bits .and .u32 (a0 / 2097152) 31))) rfl rfl rfl (e_move (tm rfl rfl)) ?_
            refine sv (v := .int .u32 a0) rfl rfl rfl (e_move (tm rfl rfl)) ?_
            refine sv (v := .int .u32 (bits .and .u32 a0 65535)) rfl rfl rfl (e_bin (tm rfl rfl) rfl (r_bits (by simp) rfl)) ?_
            refine sv (v := .int .i64 (wrap64 (bits .and .u32 a0 65535))) rfl rfl rfl (e_conv (tm rfl rfl) Try.runUnderlying25 Try.runUnderlying3 (wrap_i64 _)) ?_
            refine sv (v := .pointer (some ⟨b32, 1, none⟩)) rfl rfl rfl (e_fieldAddr (tm rfl rfl) Try.runUnderlying23 rfl Try.sizeOf3 rfl rfl) ?_
            refine s_store (i := 1) (j := 0) (vs := [.int .i64 (wrap64 (bits .and .u32 (a0 / 65536) 31))]) (l' := [.int .i64 x18, .int .i64 (wrap64 (bits .and .u32 (a0 / 65536) 31)), .int .i64 0, .int .i64 0, .int .i64 0]) hp36 (tm rfl rfl) (tm rfl rfl) rfl Try.sizeOf3 rfl rfl rfl rfl rfl rfl (fun w47 hp48 => ?_)
            refine sv (v := .pointer (some ⟨b32, 2, none⟩)) rfl rfl rfl (e_fieldAddr (tm rfl rfl) Try.runUnderlying23 rfl Try.sizeOf3 rfl rfl) ?_
            refine s_store (i := 1) (j := 0) (vs := [.int .i64 (wrap64 (bits .and .u32 (a0 / 2097152) 31))]) (l' := [.int .i64 x18, .int .i64 (wrap64 (bits .and .u32 (a0 / 65536) 31)), .int .i64 (wrap64 (bits .and .u32 (a0 / 2097152) 31)), .int .i64 0, .int .i64 0]) hp48 (tm rfl rfl) (tm rfl rfl) rfl Try.sizeOf3 rfl rfl rfl rfl rfl rfl (fun w49 hp50 => ?_)
            refine sv (v := .pointer (some ⟨b32, 4, none⟩)) rfl rfl rfl (e_fieldAddr (tm rfl rfl) Try.runUnderlying23 rfl Try.sizeOf3 rfl rfl) ?_
            refine s_store (i := 1) (j := 0) (vs := [.int .i64 (wrap64 (bits .and .u32 a0 65535))]) (l' := [.int .i64 x18, .int .i64 (wrap64 (bits .and .u32 (a0 / 65536) 31)), .int .i64 (wrap64 (bits .and .u32 (a0 / 2097152) 31)), .int .i64 0, .int .i64 (wrap64 (bits .and .u32 a0 65535))]) hp50 (tm rfl rfl) (tm rfl rfl) rfl Try.sizeOf3 rfl rfl rfl rfl rfl rfl (fun w51 hp52 => ?_)
            refine k_nil ?_
            obtain rfl := Option.some.inj H
            exact ⟨_, b23, b32, seenF ⟨rfl, rfl, rfl, rfl, trivial⟩, hp52⟩
          have H := iff_ h46 H
          refine k_seq ?_
          refine k_region ?_
          refine sv (v := .bool (decide (((isa_formOf.m x18).1) = 3))) rfl rfl rfl (e_bin (tm rfl rfl) rfl (r_eql rfl)) ?_
          refine sv (v := .bool (decide (((isa_formOf.m x18).1) = 3))) rfl rfl rfl (e_assign (tm rfl rfl)) ?_
          refine k_nil ?_
          refine k_if (tm rfl rfl) (fun h53 => ?_) (fun h53 => ?_)
          · have H := ift h53 H
            refine k_region ?_
            refine sv (v := .int .i64 (wrap64 (bits .and .u32 (a0 / 65536) 31))) rfl rfl rfl (e_move (tm rfl rfl)) ?_
            refine sv (v := .int .i64 (wrap64 (bits .and .u32 (a0 / 2097152) 31))) rfl rfl rfl (e_move (tm rfl rfl)) ?_
            refine sv (v := .int .u32 a0) rfl rfl rfl (e_move (tm rfl rfl)) ?_
            refine sv (v := .int .u32 (a0 / 2048)) rfl rfl rfl (e_bin (tm rfl rfl) rfl (r_shr (by decide) (fdv _ _ rfl))) ?_
            refine sv (v := .int .u32 (bits .and .u32 (a0 / 2048) 31)) rfl rfl rfl (e_bin (tm rfl rfl) rfl (r_bits (by simp) rfl)) ?_
            refine sv (v := .int .u32 a0) rfl rfl rfl (e_move (tm rfl rfl)) ?_
            refine sv (v := .int .u32 (a0 / 2)) rfl rfl rfl (e_bin (tm rfl rfl) rfl (r_shr (by decide) (fdv _ _ rfl))) ?_
            refine sv (v := .int .u32 (bits .and .u32 (a0 / 2) 1)) rfl rfl rfl (e_bin (tm rfl rfl) rfl (r_bits (by simp) rfl)) ?_
            refine sv (v := .int .u32 (((bits .and .u32 (a0 / 2) 1) * 32) % 4294967296)) rfl rfl rfl (e_bin (tm rfl rfl) rfl (r_shl (by decide) (wrap_u32 _))) ?_
            refine sv (v := .int .u32 (bits .or .u32 (bits .and .u32 (a0 / 2048) 31) (((bits .and .u32 (a0 / 2) 1) * 32) % 4294967296))) rfl rfl rfl (e_bin (tm rfl rfl) (tm rfl rfl) (r_bits (by simp) rfl)) ?_
            refine sv (v := .int .i64 (wrap64 (bits .or .u32 (bits .and .u32 (a0 / 2048) 31) (((bits .and .u32 (a0 / 2) 1) * 32) % 4294967296)))) rfl rfl rfl (e_conv (tm rfl rfl) Try.runUnderlying25 Try.runUnderlying3 (wrap_i64 _)) ?_
            refine sv (v := .pointer (some ⟨b32, 1, none⟩)) rfl rfl rfl (e_fieldAddr (tm rfl rfl) Try.runUnderlying23 rfl Try.sizeOf3 rfl rfl) ?_
            refine s_store (i := 1) (j := 0) (vs := [.int .i64 (wrap64 (bits .and .u32 (a0 / 65536) 31))]) (l' := [.int .i64 x18, .int .i64 (wrap64 (bits .and .u32 (a0 / 65536) 31)), .int .i64 0, .int .i64 0, .int .i64 0]) hp36 (tm rfl rfl) (tm rfl rfl) rfl Try.sizeOf3 rfl rfl rfl rfl rfl rfl (fun w54 hp55 => ?_)
            refine sv (v := .pointer (some ⟨b32, 2, none⟩)) rfl rfl rfl (e_fieldAddr (tm rfl rfl) Try.runUnderlying23 rfl Try.sizeOf3 rfl rfl) ?_
            refine s_store (i := 1) (j := 0) (vs := [.int .i64 (wrap64 (bits .and .u32 (a0 / 2097152) 31))]) (l' := [.int .i64 x18, .int .i64 (wrap64 (bits .and .u32 (a0 / 65536) 31)), .int .i64 (wrap64 (bits .and .u32 (a0 / 2097152) 31)), .int .i64 0, .int .i64 0]) hp55 (tm rfl rfl) (tm rfl rfl) rfl Try.sizeOf3 rfl rfl rfl rfl rfl rfl (fun w56 hp57 => ?_)
            refine sv (v := .pointer (some ⟨b32, 4, none⟩)) rfl rfl rfl (e_fieldAddr (tm rfl rfl) Try.runUnderlying23 rfl Try.sizeOf3 rfl rfl) ?_
            refine s_store (i := 1) (j := 0) (vs := [.int .i64 (wrap64 (bits .or .u32 (bits .and .u32 (a0 / 2048) 31) (((bits .and .u32 (a0 / 2) 1) * 32) % 4294967296)))]) (l' := [.int .i64 x18, .int .i64 (wrap64 (bits .and .u32 (a0 / 65536) 31)), .int .i64 (wrap64 (bits .and .u32 (a0 / 2097152) 31)), .int .i64 0, .int .i64 (wrap64 (bits .or .u32 (bits .and .u32 (a0 / 2048) 31) (((bits .and .u32 (a0 / 2) 1) * 32) % 4294967296)))]) hp57 (tm rfl rfl) (tm rfl rfl) rfl Try.sizeOf3 rfl rfl rfl rfl rfl rfl (fun w58 hp59 => ?_)
            refine k_nil ?_
            obtain rfl := Option.some.inj H
            exact ⟨_, b23, b32, seenF ⟨rfl, rfl, rfl, rfl, trivial⟩, hp59⟩
          have H := iff_ h53 H
          refine k_seq ?_
          refine k_region ?_
          refine sv (v := .bool (decide (((isa_formOf.m x18).1) = 4))) rfl rfl rfl (e_bin (tm rfl rfl) rfl (r_eql rfl)) ?_
          refine sv (v := .bool (decide (((isa_formOf.m x18).1) = 4))) rfl rfl rfl (e_assign (tm rfl rfl)) ?_
          refine k_nil ?_
          refine k_if (tm rfl rfl) (fun h60 => ?_) (fun h60 => ?_)
          · have H := ift h60 H
            refine k_region ?_
            refine sv (v := .int .i64 (wrap64 (bits .and .u32 (a0 / 2097152) 31))) rfl rfl rfl (e_move (tm rfl rfl)) ?_
            refine sv (v := .int .i64 (wrap64 (bits .and .u32 (a0 / 65536) 31))) rfl rfl rfl (e_move (tm rfl rfl)) ?_
            refine sv (v := .int .i64 (wrap64 (bits .and .u32 (a0 / 2048) 31))) rfl rfl rfl (e_move (tm rfl rfl)) ?_
            refine sv (v := .pointer (some ⟨b32, 1, none⟩)) rfl rfl rfl (e_fieldAddr (tm rfl rfl) Try.runUnderlying23 rfl Try.sizeOf3 rfl rfl) ?_
            refine s_store (i := 1) (j := 0) (vs := [.int .i64 (wrap64 (bits .and .u32 (a0 / 2097152) 31))]) (l' := [.int .i64 x18, .int .i64 (wrap64 (bits .and .u32 (a0 / 2097152) 31)), .int .i64 0, .int .i64 0, .int .i64 0]) hp36 (tm rfl rfl) (tm rfl rfl) rfl Try.sizeOf3 rfl rfl rfl rfl rfl rfl (fun w61 hp62 => ?_)
            refine sv (v := .pointer (some ⟨b32, 2, none⟩)) rfl rfl rfl (e_fieldAddr (tm rfl rfl) Try.runUnderlying23 rfl Try.sizeOf3 rfl rfl) ?_
            refine s_store (i := 1) (j := 0) (vs := [.int .i64 (wrap64 (bits .and .u32 (a0 / 65536) 31))]) (l' := [.int .i64 x18, .int .i64 (wrap64 (bits .and .u32 (a0 / 2097152) 31)), .int .i64 (wrap64 (bits .and .u32 (a0 / 65536) 31)), .int .i64 0, .int .i64 0]) hp62 (tm rfl rfl) (tm rfl rfl) rfl Try.sizeOf3 rfl rfl rfl rfl rfl rfl (fun w63 hp64 => ?_)
            refine sv (v := .pointer (some ⟨b32, 3, none⟩)) rfl rfl rfl (e_fieldAddr (tm rfl rfl) Try.runUnderlying23 rfl Try.sizeOf3 rfl rfl) ?_
            refine s_store (i := 1) (j := 0) (vs := [.int .i64 (wrap64 (bits .and .u32 (a0 / 2048) 31))]) (l' := [.int .i64 x18, .int .i64 (wrap64 (bits .and .u32 (a0 / 2097152) 31)), .int .i64 (wrap64 (bits .and .u32 (a0 / 65536) 31)), .int .i64 (wrap64 (bits .and .u32 (a0 / 2048) 31)), .int .i64 0]) hp64 (tm rfl rfl) (tm rfl rfl) rfl Try.sizeOf3 rfl rfl rfl rfl rfl rfl (fun w65 hp66 => ?_)
            refine k_nil ?_
            obtain rfl := Option.some.inj H
            exact ⟨_, b23, b32, seenF ⟨rfl, rfl, rfl, rfl, trivial⟩, hp66⟩
          have H := iff_ h60 H
          refine k_seq ?_
          refine k_region ?_
          refine sv (v := .bool (decide (((isa_formOf.m x18).1) = 5))) rfl rfl rfl (e_bin (tm rfl rfl) rfl (r_eql rfl)) ?_
          refine sv (v := .bool (decide (((isa_formOf.m x18).1) = 5))) rfl rfl rfl (e_assign (tm rfl rfl)) ?_
          refine k_nil ?_
          refine k_if (tm rfl rfl) (fun h67 => ?_) (fun h67 => ?_)
          · have H := ift h67 H
            refine k_region ?_
            refine sv (v := .int .i64 (wrap64 (bits .and .u32 (a0 / 2097152) 31))) rfl rfl rfl (e_move (tm rfl rfl)) ?_
            refine sv (v := .int .i64 (wrap64 (bits .and .u32 (a0 / 65536) 31))) rfl rfl rfl (e_move (tm rfl rfl)) ?_
            refine sv (v := .int .u32 a0) rfl rfl rfl (e_move (tm rfl rfl)) ?_
            refine sv (v := .int .u32 (bits .and .u32 a0 65532)) rfl rfl rfl (e_bin (tm rfl rfl) rfl (r_bits (by simp) rfl)) ?_
            refine sv (v := .int .i16 (wrap16 (bits .and .u32 a0 65532))) rfl rfl rfl (e_conv (tm rfl rfl) Try.runUnderlying25 Try.runUnderlying56 (wrap_i16 _)) ?_
            refine sv (v := .int .i64 (wrap64 (wrap16 (bits .and .u32 a0 65532)))) rfl rfl rfl (e_conv (tm rfl rfl) Try.runUnderlying56 Try.runUnderlying3 (wrap_i64 _)) ?_
            refine sv (v := .pointer (some ⟨b32, 1, none⟩)) rfl rfl rfl (e_fieldAddr (tm rfl rfl) Try.runUnderlying23 rfl Try.sizeOf3 rfl rfl) ?_
            refine s_store (i := 1) (j := 0) (vs := [.int .i64 (wrap64 (bits .and .u32 (a0 / 2097152) 31))]) (l' := [.int .i64 x18, .int .i64 (wrap64 (bits .and .u32 (a0 / 2097152) 31)), .int .i64 0, .int .i64 0, .int .i64 0]) hp36 (tm rfl rfl) (tm rfl rfl) rfl Try.sizeOf3 rfl rfl rfl rfl rfl rfl (fun w68 hp69 => ?_)
            refine sv (v := .pointer (some ⟨b32, 2, none⟩)) rfl rfl rfl (e_fieldAddr (tm rfl rfl) Try.runUnderlying23 rfl Try.sizeOf3 rfl rfl) ?_
            refine s_store (i := 1) (j := 0) (vs := [.int .i64 (wrap64 (bits .and .u32 (a0 / 65536) 31))]) (l' := [.int .i64 x18, .int .i64 (wrap64 (bits .and .u32 (a0 / 2097152) 31)), .int .i64 (wrap64 (bits .and .u32 (a0 / 65536) 31)), .int .i64 0, .int .i64 0]) hp69 (tm rfl rfl) (tm rfl rfl) rfl Try.sizeOf3 rfl rfl rfl rfl rfl rfl (fun w70 hp71 => ?_)
            refine sv (v := .pointer (some ⟨b32, 4, none⟩)) rfl rfl rfl (e_fieldAddr (tm rfl rfl) Try.runUnderlying23 rfl Try.sizeOf3 rfl rfl) ?_
            refine s_store (i := 1) (j := 0) (vs := [.int .i64 (wrap64 (wrap16 (bits .and .u32 a0 65532)))]) (l' := [.int .i64 x18, .int .i64 (wrap64 (bits .and .u32 (a0 / 2097152) 31)), .int .i64 (wrap64 (bits .and .u32 (a0 / 65536) 31)), .int .i64 0, .int .i64 (wrap64 (wrap16 (bits .and .u32 a0 65532)))]) hp71 (tm rfl rfl) (tm rfl rfl) rfl Try.sizeOf3 rfl rfl rfl rfl rfl rfl (fun w72 hp73 => ?_)
            refine k_nil ?_
            obtain rfl := Option.some.inj H
            exact ⟨_, b23, b32, seenF ⟨rfl, rfl, rfl, rfl, trivial⟩, hp73⟩
          have H := iff_ h67 H
          refine k_seq ?_
          refine k_region ?_
          refine sv (v := .bool (decide (((isa_formOf.m x18).1) = 6))) rfl rfl rfl (e_bin (tm rfl rfl) rfl (r_eql rfl)) ?_
          refine sv (v := .bool (decide (((isa_formOf.m x18).1) = 6))) rfl rfl rfl (e_assign (tm rfl rfl)) ?_
          refine k_nil ?_
          refine k_if (tm rfl rfl) (fun h74 => ?_) (fun h74 => ?_)
          · have H := ift h74 H
            refine k_region ?_
            refine sv (v := .int .i64 (wrap64 (bits .and .u32 (a0 / 65536) 31))) rfl rfl rfl (e_move (tm rfl rfl)) ?_
            refine sv (v := .int .i64 (wrap64 (bits .and .u32 (a0 / 2048) 31))) rfl rfl rfl (e_move (tm rfl rfl)) ?_
            refine sv (v := .pointer (some ⟨b32, 2, none⟩)) rfl rfl rfl (e_fieldAddr (tm rfl rfl) Try.runUnderlying23 rfl Try.sizeOf3 rfl rfl) ?_
            refine s_store (i := 1) (j := 0) (vs := [.int .i64 (wrap64 (bits .and .u32 (a0 / 65536) 31))]) (l' := [.int .i64 x18, .int .i64 0, .int .i64 (wrap64 (bits .and .u32 (a0 / 65536) 31)), .int .i64 0, .int .i64 0]) hp36 (tm rfl rfl) (tm rfl rfl) rfl Try.sizeOf3 rfl rfl rfl rfl rfl rfl (fun w75 hp76 => ?_)
            refine sv (v := .pointer (some ⟨b32, 3, none⟩)) rfl rfl rfl (e_fieldAddr (tm rfl rfl) Try.runUnderlying23 rfl Try.sizeOf3 rfl rfl) ?_
            refine s_store (i := 1) (j := 0) (vs := [.int .i64 (wrap64 (bits .and .u32 (a0 / 2048) 31))]) (l' := [.int .i64 x18, .int .i64 0, .int .i64 (wrap64 (bits .and .u32 (a0 / 65536) 31)), .int .i64 (wrap64 (bits .and .u32 (a0 / 2048) 31)), .int .i64 0]) hp76 (tm rfl rfl) (tm rfl rfl) rfl Try.sizeOf3 rfl rfl rfl rfl rfl rfl (fun w77 hp78 => ?_)
            refine k_nil ?_
            obtain rfl := Option.some.inj H
            exact ⟨_, b23, b32, seenF ⟨rfl, rfl, rfl, rfl, trivial⟩, hp78⟩
          have H := iff_ h74 H
          refine k_seq ?_
          refine k_region ?_
          refine sv (v := .bool (decide (((isa_formOf.m x18).1) = 7))) rfl rfl rfl (e_bin (tm rfl rfl) rfl (r_eql rfl)) ?_
          refine sv (v := .bool (decide (((isa_formOf.m x18).1) = 7))) rfl rfl rfl (e_assign (tm rfl rfl)) ?_
          refine k_nil ?_
          refine k_if (tm rfl rfl) (fun h79 => ?_) (fun h79 => ?_)
          · have H := ift h79 H
            refine k_region ?_
            refine sv (v := .int .i64 (wrap64 (bits .and .u32 (a0 / 65536) 31))) rfl rfl rfl (e_move (tm rfl rfl)) ?_
            refine sv (v := .int .u32 a0) rfl rfl rfl (e_move (tm rfl rfl)) ?_
            refine sv (v := .int .i16 (wrap16 (a0))) rfl rfl rfl (e_conv (tm rfl rfl) Try.runUnderlying25 Try.runUnderlying56 (wrap_i16 _)) ?_
            refine sv (v := .int .i64 (wrap64 (wrap16 (a0)))) rfl rfl rfl (e_conv (tm rfl rfl) Try.runUnderlying56 Try.runUnderlying3 (wrap_i64 _)) ?_
            refine sv (v := .pointer (some ⟨b32, 2, none⟩)) rfl rfl rfl (e_fieldAddr (tm rfl rfl) Try.runUnderlying23 rfl Try.sizeOf3 rfl rfl) ?_
            refine s_store (i := 1) (j := 0) (vs := [.int .i64 (wrap64 (bits .and .u32 (a0 / 65536) 31))]) (l' := [.int .i64 x18, .int .i64 0, .int .i64 (wrap64 (bits .and .u32 (a0 / 65536) 31)), .int .i64 0, .int .i64 0]) hp36 (tm rfl rfl) (tm rfl rfl) rfl Try.sizeOf3 rfl rfl rfl rfl rfl rfl (fun w80 hp81 => ?_)
            refine sv (v := .pointer (some ⟨b32, 4, none⟩)) rfl rfl rfl (e_fieldAddr (tm rfl rfl) Try.runUnderlying23 rfl Try.sizeOf3 rfl rfl) ?_
            refine s_store (i := 1) (j := 0) (vs := [.int .i64 (wrap64 (wrap16 (a0)))]) (l' := [.int .i64 x18, .int .i64 0, .int .i64 (wrap64 (bits .and .u32 (a0 / 65536) 31)), .int .i64 0, .int .i64 (wrap64 (wrap16 (a0)))]) hp81 (tm rfl rfl) (tm rfl rfl) rfl Try.sizeOf3 rfl rfl rfl rfl rfl rfl (fun w82 hp83 => ?_)
            refine k_nil ?_
            obtain rfl := Option.some.inj H
            exact ⟨_, b23, b32, seenF ⟨rfl, rfl, rfl, rfl, trivial⟩, hp83⟩
          have H := iff_ h79 H
          refine k_seq ?_
          refine k_region ?_
          refine sv (v := .bool (decide (((isa_formOf.m x18).1) = 8))) rfl rfl rfl (e_bin (tm rfl rfl) rfl (r_eql rfl)) ?_
          refine sv (v := .bool (decide (((isa_formOf.m x18).1) = 8))) rfl rfl rfl (e_assign (tm rfl rfl)) ?_
          refine k_nil ?_
          refine k_if (tm rfl rfl) (fun h84 => ?_) (fun h84 => ?_)
          · have H := ift h84 H
            refine k_seq ?_
            refine k_region ?_
            refine sv (v := .int .u32 a0) rfl rfl rfl (e_move (tm rfl rfl)) ?_
            refine sv (v := .int .u32 (bits .and .u32 a0 65532)) rfl rfl rfl (e_bin (tm rfl rfl) rfl (r_bits (by simp) rfl)) ?_
            refine sv (v := .int .i16 (wrap16 (bits .and .u32 a0 65532))) rfl rfl rfl (e_conv (tm rfl rfl) Try.runUnderlying25 Try.runUnderlying56 (wrap_i16 _)) ?_
            refine sv (v := .int .i64 (wrap64 (wrap16 (bits .and .u32 a0 65532)))) rfl rfl rfl (e_conv (tm rfl rfl) Try.runUnderlying56 Try.runUnderlying3 (wrap_i64 _)) ?_
            refine sv (v := .pointer (some ⟨b32, 4, none⟩)) rfl rfl rfl (e_fieldAddr (tm rfl rfl) Try.runUnderlying23 rfl Try.sizeOf3 rfl rfl) ?_
            refine s_store (i := 1) (j := 0) (vs := [.int .i64 (wrap64 (wrap16 (bits .and .u32 a0 65532)))]) (l' := [.int .i64 x18, .int .i64 0, .int .i64 0, .int .i64 0, .int .i64 (wrap64 (wrap16 (bits .and .u32 a0 65532)))]) hp36 (tm rfl rfl) (tm rfl rfl) rfl Try.sizeOf3 rfl rfl rfl rfl rfl rfl (fun w85 hp86 => ?_)
            refine k_nil ?_
            obtain ⟨o87, H, G88⟩ := bindSome H
            refine k_cut (fun a w' => ∃ (σ124 : Nat → Value) (b125 : Nat) (b126 : Nat), a = st 156 [(0, .int .u32 a0), (2, .pointer (some ⟨b125, 0, none⟩)), (4, .int .i64 x18), (7, .pointer (some ⟨b126, 0, none⟩))] σ124 [] ∧ Hp0 w w' [[(b125, .cells #[.int .i64 0, .int .i64 0, .int .i64 0, .int .i64 0, .int .i64 0] 23 (0, 0))], [(b126, .cells #[.int .i64 x18, .int .i64 o87, .int .i64 0, .int .i64 0, .int .i64 (wrap64 (wrap16 (bits .and .u32 a0 65532)))] 23 (0, 0))]]) ?_ ?_
            · refine k_block ?_
              refine k_loopg (fun m a w' => ∃ (x102 : Int) (σ117 : Nat → Value) (b118 : Nat) (b119 : Nat), a = st 156 [(0, .int .u32 a0), (2, .pointer (some ⟨b118, 0, none⟩)), (4, .int .i64 x18), (7, .pointer (some ⟨b119, 0, none⟩))] σ117 [] ∧ Hp0 w w' [[(b118, .cells #[.int .i64 0, .int .i64 0, .int .i64 0, .int .i64 0, .int .i64 0] 23 (0, 0))], [(b119, .cells #[.int .i64 x18, .int .i64 x102, .int .i64 0, .int .i64 0, .int .i64 (wrap64 (wrap16 (bits .and .u32 a0 65532)))] 23 (0, 0))]] ∧ isa_Decode.l1 a0 m x102 = some o87) k ⟨0, _, b23, b32, seenF ⟨rfl, rfl, rfl, rfl, trivial⟩, hp86, H⟩ ?_
              clear H
              rintro m a w' ⟨x102, σ106, b107, b108, rfl, hp104, H⟩
              obtain ⟨k, rfl⟩ := fuel (f := fun k => isa_Decode.l1 a0 k x102) rfl H
              rw [isa_Decode.l1] at H
              refine k_seq ?_
              refine k_seq ?_
              refine k_region ?_
              refine sv (v := .pointer (some ⟨b108, 1, none⟩)) rfl rfl rfl (e_fieldAddr (tm rfl rfl) Try.runUnderlying23 rfl Try.sizeOf3 rfl rfl) ?_
              refine sv (v := .int .i64 x102) rfl rfl rfl (e_load1 (tm rfl rfl) Try.isAgg3 (cell_at (hp104.get (i := 1) (j := 0) rfl rfl) rfl)) ?_
              refine sv (v := .bool (decide (x102 < 3))) rfl rfl rfl (e_bin (tm rfl rfl) rfl (r_lss rfl)) ?_
              refine sv (v := .bool (decide (x102 < 3))) rfl rfl rfl (e_move (tm rfl rfl)) ?_
              refine s_gp (v := .pointer (some ⟨b108, 1, none⟩)) rfl rfl rfl (beq_t _) (fun g_ => e_fieldAddr (tm rfl rfl) Try.runUnderlying23 rfl Try.sizeOf3 rfl rfl) rfl ?_
              refine s_gp (v := .int .i64 x102) rfl rfl rfl (beq_t _) (fun g_ => e_load1 (tmg (decide (x102 < 3)) (.pointer (some ⟨b108, 1, none⟩)) rfl rfl g_) Try.isAgg3 (cell_at (hp104.get (i := 1) (j := 0) rfl rfl) rfl)) rfl ?_
              refine s_gcall (v := .int .u32 (isa_cond.m x102)) rfl rfl rfl (beq_t _) hp104 (fun g_ => (.cons (tmg (decide (x102 < 3)) (.int .i64 x102) rfl rfl g_) .nil)) Try.call14 (isa_cond.calls x102 _) rfl (fun w109 hp110 => ?_)
              refine s_gp (v := .int .u32 a0) rfl rfl rfl (beq_t _) (fun g_ => e_move (tm rfl rfl)) rfl ?_
              refine s_gp (v := .int .u32 (bits .and .u32 a0 67043328)) rfl rfl rfl (beq_t _) (fun g_ => e_bin (tmg (decide (x102 < 3)) (.int .u32 a0) rfl rfl g_) rfl (r_bits (by simp) rfl)) rfl ?_
              refine s_gp (v := .bool (!decide ((isa_cond.m x102) = (bits .and .u32 a0 67043328)))) rfl rfl rfl (beq_t _) (fun g_ => e_bin (tmg (decide (x102 < 3)) (.int .u32 (isa_cond.m x102)) rfl rfl g_) (tmg (decide (x102 < 3)) (.int .u32 (bits .and .u32 a0 67043328)) rfl rfl g_) (r_neq rfl)) rfl ?_
              refine sv (v := .bool ((decide (x102 < 3)) && (!decide ((isa_cond.m x102) = (bits .and .u32 a0 67043328))))) rfl rfl rfl (e_pick (v1 := .bool (!decide ((isa_cond.m x102) = (bits .and .u32 a0 67043328)))) (v2 := .bool false) (tm rfl rfl) (fun h_ => tmg (decide (x102 < 3)) (.bool (!decide ((isa_cond.m x102) = (bits .and .u32 a0 67043328)))) rfl rfl h_) (fun _ => rfl) (pk_and (decide (x102 < 3)))) ?_
              refine k_nil ?_
              refine k_if (tm rfl rfl) (fun h111 => ?_) (fun h111 => ?_)
              · have H := ift h111 H
                refine k_skip ?_
                refine k_block ?_
                refine k_region ?_
                refine sv (v := .pointer (some ⟨b108, 1, none⟩)) rfl rfl rfl (e_fieldAddr (tm rfl rfl) Try.runUnderlying23 rfl Try.sizeOf3 rfl rfl) ?_
                refine sv (v := .int .i64 x102) rfl rfl rfl (e_load1 (tm rfl rfl) Try.isAgg3 (cell_at (hp110.get (i := 1) (j := 0) rfl rfl) rfl)) ?_
                refine sv (v := .int .i64 (wrap64 (x102 + 1))) rfl rfl rfl (e_bin (tm rfl rfl) rfl (r_add (wrap_i64 _))) ?_
                refine sv (v := .pointer (some ⟨b108, 1, none⟩)) rfl rfl rfl (e_fieldAddr (tm rfl rfl) Try.runUnderlying23 rfl Try.sizeOf3 rfl rfl) ?_
                refine s_store (i := 1) (j := 0) (vs := [.int .i64 (wrap64 (x102 + 1))]) (l' := [.int .i64 x18, .int .i64 (wrap64 (x102 + 1)), .int .i64 0, .int .i64 0, .int .i64 (wrap64 (wrap16 (bits .and .u32 a0 65532)))]) hp110 (tm rfl rfl) (tm rfl rfl) rfl Try.sizeOf3 rfl rfl rfl rfl rfl rfl (fun w112 hp113 => ?_)
                refine k_nil ?_
                exact ⟨_, Nat.lt_succ_self _, ⟨wrap64 (x102 + 1), _, b107, b108, seenF ⟨rfl, rfl, rfl, rfl, trivial⟩, hp113, H⟩⟩
              have H := iff_ h111 H
              refine k_exit ?_
              refine q_here ?_
              obtain rfl := Option.some.inj H
              exact ⟨_, b107, b108, seenF ⟨rfl, rfl, rfl, rfl, trivial⟩, hp110⟩
            clear H
            rintro a w' ⟨σ117, b118, b119, rfl, hp115⟩
            have H := G88
            obtain rfl := Option.some.inj H
            exact ⟨_, b118, b119, seenF ⟨rfl, rfl, rfl, rfl, trivial⟩, hp115⟩
          have H := iff_ h84 H
          refine k_seq ?_
          refine k_region ?_
          refine sv (v := .bool (decide (((isa_formOf.m x18).1) = 9))) rfl rfl rfl (e_bin (tm rfl rfl) rfl (r_eql rfl)) ?_
          refine sv (v := .bool (decide (((isa_formOf.m x18).1) = 9))) rfl rfl rfl (e_assign (tm rfl rfl)) ?_
          refine k_nil ?_
          refine k_if (tm rfl rfl) (fun h121 => ?_) (fun h121 => ?_)
          · have H := ift h121 H
            refine k_region ?_
            refine sv (v := .int .u32 a0) rfl rfl rfl (e_move (tm rfl rfl)) ?_
            refine sv (v := .int .u32 (bits .and .u32 a0 67108860)) rfl rfl rfl (e_bin (tm rfl rfl) rfl (r_bits (by simp) rfl)) ?_
            refine sv (v := .int .u32 (((bits .and .u32 a0 67108860) * 64) % 4294967296)) rfl rfl rfl (e_bin (tm rfl rfl) rfl (r_shl (by decide) (wrap_u32 _))) ?_
            refine sv (v := .int .i32 (wrap32 (((bits .and .u32 a0 67108860) * 64) % 4294967296))) rfl rfl rfl (e_conv (tm rfl rfl) Try.runUnderlying25 Try.runUnderlying21 (wrap_i32 _)) ?_
            refine sv (v := .int .i32 ((wrap32 (((bits .and .u32 a0 67108860) * 64) % 4294967296)) / 64)) rfl rfl rfl (e_bin (tm rfl rfl) rfl (r_shr (by decide) (fdv _ _ rfl))) ?_
            refine sv (v := .int .i64 (wrap64 ((wrap32 (((bits .and .u32 a0 67108860) * 64) % 4294967296)) / 64))) rfl rfl rfl (e_conv (tm rfl rfl) Try.runUnderlying21 Try.runUnderlying3 (wrap_i64 _)) ?_
            refine sv (v := .pointer (some ⟨b32, 4, none⟩)) rfl rfl rfl (e_fieldAddr (tm rfl rfl) Try.runUnderlying23 rfl Try.sizeOf3 rfl rfl) ?_
            refine s_store (i := 1) (j := 0) (vs := [.int .i64 (wrap64 ((wrap32 (((bits .and .u32 a0 67108860) * 64) % 4294967296)) / 64))]) (l' := [.int .i64 x18, .int .i64 0, .int .i64 0, .int .i64 0, .int .i64 (wrap64 ((wrap32 (((bits .and .u32 a0 67108860) * 64) % 4294967296)) / 64))]) hp36 (tm rfl rfl) (tm rfl rfl) rfl Try.sizeOf3 rfl rfl rfl rfl rfl rfl (fun w122 hp123 => ?_)
            refine k_nil ?_
            obtain rfl := Option.some.inj H
            exact ⟨_, b23, b32, seenF ⟨rfl, rfl, rfl, rfl, trivial⟩, hp123⟩
          have H := iff_ h121 H
          refine k_skip ?_
          obtain rfl := Option.some.inj H
          exact ⟨_, b23, b32, seenF ⟨rfl, rfl, rfl, rfl, trivial⟩, hp36⟩
        clear H
        rintro a w' ⟨σ127, b128, b129, rfl, hp125⟩
        have H := G38
        refine k_seq ?_
        refine k_region ?_
        refine sv (v := .agg #[.int .i64 x18, .int .i64 o37.1, .int .i64 o37.2.1, .int .i64 o37.2.2.1, .int .i64 o37.2.2.2]) rfl rfl rfl (e_loadA (tm rfl rfl) Try.isAgg23 Try.sizeOf23 rfl (cells_box (sz := 5) (hp125.get (i := 1) (j := 0) rfl rfl) rfl)) ?_
        obtain ⟨r133, hx137, H⟩ := bindSome H
        refine s_call (.cons (tm rfl rfl) .nil) Try.call8 (isa_Encode.calls (⟨x18, o37.1, o37.2.1, o37.2.2.1, o37.2.2.2⟩ : api_Inst) r133 _ hx137) rfl ?_
        rintro v_ w130 ⟨rfl, hb131⟩
        have hp132 := hp125.grow hb131
        refine sv (v := .tuple #[.int .u32 r133.1, .int .i64 r133.2]) rfl rfl rfl (e_move (tm rfl rfl)) ?_
        refine sv (v := .int .u32 r133.1) rfl rfl rfl (e_extract (tm rfl rfl) rfl) ?_
        refine sv (v := .int .i64 r133.2) rfl rfl rfl (e_extract (tm rfl rfl) rfl) ?_
        refine sv (v := .int .u32 r133.1) rfl rfl rfl (e_assign (tm rfl rfl)) ?_
        refine sv (v := .int .i64 r133.2) rfl rfl rfl (e_assign (tm rfl rfl)) ?_
        refine k_nil ?_
        refine k_seq ?_
        refine k_region ?_
        refine sv (v := .int .i64 r133.2) rfl rfl rfl (e_move (tm rfl rfl)) ?_
        refine sv (v := .bool (decide (r133.2 = 0))) rfl rfl rfl (e_bin (tm rfl rfl) rfl (r_eql rfl)) ?_
        refine sv (v := .bool (decide (r133.2 = 0))) rfl rfl rfl (e_move (tm rfl rfl)) ?_
        refine s_gp (v := .int .u32 r133.1) rfl rfl rfl (beq_t _) (fun g_ => e_move (tm rfl rfl)) rfl ?_
        refine s_gp (v := .int .u32 a0) rfl rfl rfl (beq_t _) (fun g_ => e_move (tm rfl rfl)) rfl ?_
        refine s_gp (v := .bool (decide (r133.1 = a0))) rfl rfl rfl (beq_t _) (fun g_ => e_bin (tmg (decide (r133.2 = 0)) (.int .u32 r133.1) rfl rfl g_) (tmg (decide (r133.2 = 0)) (.int .u32 a0) rfl rfl g_) (r_eql rfl)) rfl ?_
        refine sv (v := .bool ((decide (r133.2 = 0)) && (decide (r133.1 = a0)))) rfl rfl rfl (e_pick (v1 := .bool (decide (r133.1 = a0))) (v2 := .bool false) (tm rfl rfl) (fun h_ => tmg (decide (r133.2 = 0)) (.bool (decide (r133.1 = a0))) rfl rfl h_) (fun _ => rfl) (pk_and (decide (r133.2 = 0)))) ?_
        refine k_nil ?_
        refine k_if (tm rfl rfl) (fun h134 => ?_) (fun h134 => ?_)
        · have H := ift h134 H
          refine k_seq ?_
          refine k_region ?_
          refine sv (v := .agg #[.int .i64 x18, .int .i64 o37.1, .int .i64 o37.2.1, .int .i64 o37.2.2.1, .int .i64 o37.2.2.2]) rfl rfl rfl (e_loadA (tm rfl rfl) Try.isAgg23 Try.sizeOf23 rfl (cells_box (sz := 5) (hp132.get (i := 1) (j := 0) rfl rfl) rfl)) ?_
          refine s_store (i := 0) (j := 0) (vs := [.int .i64 x18, .int .i64 o37.1, .int .i64 o37.2.1, .int .i64 o37.2.2.1, .int .i64 o37.2.2.2]) (l' := [.int .i64 x18, .int .i64 o37.1, .int .i64 o37.2.1, .int .i64 o37.2.2.1, .int .i64 o37.2.2.2]) hp132 (tm rfl rfl) (tm rfl rfl) rfl Try.sizeOf23 rfl rfl rfl rfl rfl rfl (fun w135 hp136 => ?_)
          refine sv (v := .int .i64 0) rfl rfl rfl (e_assign rfl) ?_
          refine k_nil ?_
          refine k_ret ?_
          refine q_ret ?_
          refine q_ret ?_
          obtain rfl := Option.some.inj H
          have H := G26
          obtain rfl := Option.some.inj H
          have H := G5
          obtain rfl := Option.some.inj H
          exact k_end rfl (.cell rfl rfl (r_loadA Try.isAgg23 Try.sizeOf23 rfl (cells_box (sz := 5) (hp136.get (i := 0) (j := 0) rfl rfl) rfl)) (.tmp rfl rfl .nil)) rfl ⟨rfl, hp136.below⟩
        have H := iff_ h134 H
        refine k_skip ?_
        obtain rfl := Option.some.inj H
        exact ⟨(), _, b128, rfl, seenF ⟨rfl, rfl, rfl, trivial⟩, hp132.pick [0] (by decide) rfl⟩
      clear H
      rintro a w' ⟨s27, σ143, b144, rfl, rfl, hp141⟩
      have H := G26
      rw [Sum.elim_inl] at H
      refine k_region ?_
      refine sv (v := .int .i64 x18) rfl rfl rfl (e_move (tm rfl rfl)) ?_
      refine sv (v := .int .i64 (wrap64 (x18 + 1))) rfl rfl rfl (e_bin (tm rfl rfl) rfl (r_add (wrap_i64 _))) ?_
      refine sv (v := .int .i64 (wrap64 (x18 + 1))) rfl rfl rfl (e_assign (tm rfl rfl)) ?_
      refine k_nil ?_
      exact ⟨_, Nat.lt_succ_self _, ⟨wrap64 (x18 + 1), _, b144, seenF ⟨rfl, rfl, rfl, trivial⟩, hp141, H⟩⟩
    have H := iff_ h24 H
    refine k_exit ?_
    refine q_here ?_
    obtain rfl := Option.some.inj H
    exact ⟨(), _, b23, rfl, seenF ⟨rfl, trivial⟩, hp20⟩
  clear H
  rintro a w' ⟨s6, σ149, b150, rfl, rfl, hp147⟩
  have H := G5
  rw [Sum.elim_inl] at H
  refine k_seq ?_
  refine k_region ?_
  refine sv (v := .agg #[.int .i64 0, .int .i64 0, .int .i64 0, .int .i64 0, .int .i64 0]) rfl rfl rfl (e_build (vs := []) .nil (by kernel_rfl)) ?_
  refine s_store (i := 0) (j := 0) (vs := [.int .i64 0, .int .i64 0, .int .i64 0, .int .i64 0, .int .i64 0]) (l' := [.int .i64 0, .int .i64 0, .int .i64 0, .int .i64 0, .int .i64 0]) hp147 (tm rfl rfl) (tm rfl rfl) rfl Try.sizeOf23 rfl rfl rfl rfl rfl rfl (fun w151 hp152 => ?_)
  refine sv (v := .int .i64 3) rfl rfl rfl (e_assign rfl) ?_
  refine k_nil ?_
  refine k_ret ?_
  obtain rfl := Option.some.inj H
  exact k_end rfl (.cell rfl rfl (r_loadA Try.isAgg23 Try.sizeOf23 rfl (cells_box (sz := 5) (hp152.get (i := 0) (j := 0) rfl rfl) rfl)) (.tmp rfl rfl .nil)) rfl ⟨rfl, hp152.below⟩

end Go.Proofs.Ytallojficgiemaa.W
