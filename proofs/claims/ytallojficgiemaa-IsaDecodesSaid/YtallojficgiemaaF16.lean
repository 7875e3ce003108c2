/- Functions of the program as plain Lean functions, and that the calls do what they say: written by wip/tools/walk.py. -/
import Derived.Test.YtallojficgiemaaTy
import Derived.Test.YtallojficgiemaaF0
import Derived.Test.YtallojficgiemaaF1
import Derived.Test.YtallojficgiemaaF2
import Derived.Test.YtallojficgiemaaF3
import Derived.Test.YtallojficgiemaaF4
import Derived.Test.YtallojficgiemaaF5
import Derived.Test.YtallojficgiemaaF6
import Derived.Test.YtallojficgiemaaF7
import Derived.Test.YtallojficgiemaaF8
import Derived.Test.YtallojficgiemaaF9
import Derived.Test.YtallojficgiemaaF10
import Derived.Test.YtallojficgiemaaF11
import Derived.Test.YtallojficgiemaaF12
import Derived.Test.YtallojficgiemaaF13
import Derived.Test.YtallojficgiemaaF14
import Derived.Test.YtallojficgiemaaF15
set_option linter.unusedVariables false
set_option linter.unusedSimpArgs false
set_option linter.unusedSectionVars false
namespace Go.Proofs.Ytallojficgiemaa.W
open Go Go.RowKit Go.Proofs.Ytallojficgiemaa.B
attribute [local irreducible] Go.wpList Go.Code.wp Go.Region.wanted Go.yielded
/-! ### selvage/selvageref15.Decode: function 11 -/
def selvageref15_Decode.l1 (a0 : Int) (x30 : Int) : Nat → (List api_Inst) × Int → Option (List api_Inst)
  | 0, _ => none
  | k + 1, x127 => if (decide (x127.2 < 4)) = true then (if ((x127.1.length) + (([(⟨x30, x127.2, 0, 0, wrap64 (4 * (selvageref15_signed.m (selvageref15_bits.m a0 16 14) 14))⟩ : api_Inst)] : List api_Inst).length)) * 40 ≤ 140737488355328 then (selvageref15_Decode.l1 a0 x30 k ((x127.1 ++ ([(⟨x30, x127.2, 0, 0, wrap64 (4 * (selvageref15_signed.m (selvageref15_bits.m a0 16 14) 14))⟩ : api_Inst)] : List api_Inst)), wrap64 (x127.2 + 1))) else none) else (some x127.1)
def selvageref15_Decode.l2 (a0 : Int) : Nat → (List api_Inst) × Int → Option (Unit ⊕ (api_Inst × Int))
  | 0, _ => none
  | k + 1, x222 => if (decide (x222.2 < ((x222.1.length) : Int))) = true then (if 0 ≤ x222.2 ∧ x222.2 < ((x222.1.length) : Int) then ((selvageref15_Encode.m k (gi api_Inst_E x222.1 x222.2)).bind fun r239 => (if ((decide (r239.2 = 0)) && (decide (r239.1 = a0))) = true then (some (Sum.inr ((gi api_Inst_E x222.1 x222.2), 0))) else (selvageref15_Decode.l2 a0 k (x222.1, wrap64 (x222.2 + 1))))) else none) else (some (Sum.inl ()))
def selvageref15_Decode.l0 (a0 : Int) : Nat → Int → Option (Unit ⊕ (api_Inst × Int))
  | 0, _ => none
  | k + 1, x30 => if (decide (x30 ≤ 23)) = true then ((selvageref15_sort.m x30).bind fun r40 => ((if (decide (r40 = 1)) = true then (some ([(⟨x30, (selvageref15_bits.m a0 6 5), (selvageref15_bits.m a0 11 5), 0, (selvageref15_signed.m (selvageref15_bits.m a0 16 16) 16)⟩ : api_Inst)] : List api_Inst)) else (if (decide (r40 = 2)) = true then (some ([(⟨x30, (selvageref15_bits.m a0 11 5), (selvageref15_bits.m a0 6 5), 0, (selvageref15_bits.m a0 16 16)⟩ : api_Inst)] : List api_Inst)) else (if (decide (r40 = 3)) = true then (some ([(⟨x30, (selvageref15_bits.m a0 11 5), (selvageref15_bits.m a0 6 5), 0, (selvageref15_bits.m a0 16 5)⟩ : api_Inst), (⟨x30, (selvageref15_bits.m a0 11 5), (selvageref15_bits.m a0 6 5), 0, wrap64 ((selvageref15_bits.m a0 16 5) + 32)⟩ : api_Inst)] : List api_Inst)) else (if (decide (r40 = 4)) = true then (some ([(⟨x30, (selvageref15_bits.m a0 6 5), (selvageref15_bits.m a0 11 5), (selvageref15_bits.m a0 16 5), 0⟩ : api_Inst)] : List api_Inst)) else (if (decide (r40 = 5)) = true then (some ([(⟨x30, (selvageref15_bits.m a0 6 5), (selvageref15_bits.m a0 11 5), 0, wrap64 (4 * (selvageref15_signed.m (selvageref15_bits.m a0 16 14) 14))⟩ : api_Inst)] : List api_Inst)) else (if (decide (r40 = 6)) = true then (some ([(⟨x30, 0, (selvageref15_bits.m a0 11 5), (selvageref15_bits.m a0 16 5), 0⟩ : api_Inst)] : List api_Inst)) else (if (decide (r40 = 7)) = true then (some ([(⟨x30, 0, (selvageref15_bits.m a0 11 5), 0, (selvageref15_signed.m (selvageref15_bits.m a0 16 16) 16)⟩ : api_Inst)] : List api_Inst)) else (if (decide (r40 = 8)) = true then ((selvageref15_Decode.l1 a0 x30 k (([] : List api_Inst), 0)).bind fun o109 => (some o109)) else (if (decide (r40 = 9)) = true then (some ([(⟨x30, 0, 0, 0, wrap64 (4 * (selvageref15_signed.m (selvageref15_bits.m a0 6 24) 24))⟩ : api_Inst)] : List api_Inst)) else (some ([(⟨x30, 0, 0, 0, 0⟩ : api_Inst)] : List api_Inst))))))))))).bind fun o41 => ((selvageref15_Decode.l2 a0 k (o41, 0)).bind fun o199 => Sum.elim (fun s201 => (selvageref15_Decode.l0 a0 k (wrap64 (x30 + 1)))) (fun r251 => some (Sum.inr r251)) o199))) else (some (Sum.inl ()))
def selvageref15_Decode.m (k : Nat) (a0 : Int) : Option (api_Inst × Int) := (selvageref15_Decode.l0 a0 k 1).bind fun o16 => Sum.elim (fun s18 => (some ((⟨0, 0, 0, 0, 0⟩ : api_Inst), 3))) (fun r261 => some r261) o16
set_option maxHeartbeats 4000000 in
set_option maxRecDepth 100000 in
theorem selvageref15_Decode.calls (k : Nat) (a0 : Int) (r : api_Inst × Int) (w : World) (H : selvageref15_Decode.m k a0 = some r) :
    Ret Try.prog 11 [.int .u32 a0] w fun v w' => v = .tuple #[.agg #[.int .i64 r.1.Op, .int .i64 r.1.T, .int .i64 r.1.A, .int .i64 r.1.B, .int .i64 r.1.Imm], .int .i64 r.2] ∧ Below w.heap.size w w' := by
  unfold selvageref15_Decode.m at H
  have hp0 := Hp.start w
  refine enter (L := [(0, .int .u32 a0)]) Try.func11 rfl Try.ntmps11 rfl rfl ?_
  refine k_seq ?_
  refine k_region ?_
  refine s_alloc (zv := .agg #[.int .i64 0, .int .i64 0, .int .i64 0, .int .i64 0, .int .i64 0]) (l := [.int .i64 0, .int .i64 0, .int .i64 0, .int .i64 0, .int .i64 0]) hp0 (by intro w_; kernel_rfl) rfl rfl (fun b1 w2 hp3 => ?_)
  refine sv (v := .int .i64 0) rfl rfl rfl (e_assign rfl) ?_
  refine k_nil ?_
  refine k_seq ?_
  refine k_region ?_
  refine sv (v := .int .u32 a0) rfl rfl rfl (e_move (tm rfl rfl)) ?_
  refine s_call (.cons (tm rfl rfl) (.cons rfl (.cons rfl .nil))) Try.call21 (selvageref15_bits.calls a0 6 5 _) rfl ?_
  rintro v_ w4 ⟨rfl, hb5⟩
  have hp6 := hp3.grow hb5
  refine sv (v := .int .u32 a0) rfl rfl rfl (e_move (tm rfl rfl)) ?_
  refine s_call (.cons (tm rfl rfl) (.cons rfl (.cons rfl .nil))) Try.call21 (selvageref15_bits.calls a0 11 5 _) rfl ?_
  rintro v_ w7 ⟨rfl, hb8⟩
  have hp9 := hp6.grow hb8
  refine sv (v := .int .u32 a0) rfl rfl rfl (e_move (tm rfl rfl)) ?_
  refine s_call (.cons (tm rfl rfl) (.cons rfl (.cons rfl .nil))) Try.call21 (selvageref15_bits.calls a0 16 5 _) rfl ?_
  rintro v_ w10 ⟨rfl, hb11⟩
  have hp12 := hp9.grow hb11
  refine sv (v := .int .i64 (selvageref15_bits.m a0 6 5)) rfl rfl rfl (e_assign (tm rfl rfl)) ?_
  refine sv (v := .int .i64 (selvageref15_bits.m a0 11 5)) rfl rfl rfl (e_assign (tm rfl rfl)) ?_
  refine sv (v := .int .i64 (selvageref15_bits.m a0 16 5)) rfl rfl rfl (e_assign (tm rfl rfl)) ?_
  refine k_nil ?_
  refine k_seq ?_
  refine k_region ?_
  refine sv (v := .int .u32 a0) rfl rfl rfl (e_move (tm rfl rfl)) ?_
  refine s_call (.cons (tm rfl rfl) (.cons rfl (.cons rfl .nil))) Try.call21 (selvageref15_bits.calls a0 16 16 _) rfl ?_
  rintro v_ w13 ⟨rfl, hb14⟩
  have hp15 := hp12.grow hb14
  refine sv (v := .int .i64 (selvageref15_bits.m a0 16 16)) rfl rfl rfl (e_assign (tm rfl rfl)) ?_
  refine k_nil ?_
  refine k_seq ?_
  refine k_seq ?_
  refine k_region ?_
  refine sv (v := .int .i64 1) rfl rfl rfl (e_assign rfl) ?_
  refine k_nil ?_
  obtain ⟨o16, H, G17⟩ := bindSome H
  refine k_cut (fun a w' => ∃ (s18 : Unit) (σ265 : Nat → Value) (b266 : Nat), o16 = Sum.inl s18 ∧ a = st 147 [(2, .pointer (some ⟨b266, 0, none⟩))] σ265 [] ∧ Hp0 w w' [[(b266, .cells #[.int .i64 0, .int .i64 0, .int .i64 0, .int .i64 0, .int .i64 0] 23 (0, 0))]]) ?_ ?_
  · refine k_block ?_
    refine k_loopg (fun m a w' => ∃ (x30 : Int) (σ257 : Nat → Value) (b258 : Nat), a = st 147 [(0, .int .u32 a0), (2, .pointer (some ⟨b258, 0, none⟩)), (4, .int .i64 (selvageref15_bits.m a0 6 5)), (5, .int .i64 (selvageref15_bits.m a0 11 5)), (6, .int .i64 (selvageref15_bits.m a0 16 5)), (7, .int .i64 (selvageref15_bits.m a0 16 16)), (8, .int .i64 x30)] σ257 [] ∧ Hp0 w w' [[(b258, .cells #[.int .i64 0, .int .i64 0, .int .i64 0, .int .i64 0, .int .i64 0] 23 (0, 0))]] ∧ selvageref15_Decode.l0 a0 m x30 = some o16) k ⟨1, _, b1, seenF ⟨rfl, rfl, rfl, rfl, rfl, rfl, rfl, trivial⟩, hp15, H⟩ ?_
    clear H
    rintro m a w' ⟨x30, σ34, b35, rfl, hp32, H⟩
    obtain ⟨k, rfl⟩ := fuel (f := fun k => selvageref15_Decode.l0 a0 k x30) rfl H
    rw [selvageref15_Decode.l0] at H
    refine k_seq ?_
    refine k_seq ?_
    refine k_region ?_
    refine sv (v := .int .i64 x30) rfl rfl rfl (e_move (tm rfl rfl)) ?_
    refine sv (v := .bool (decide (x30 ≤ 23))) rfl rfl rfl (e_bin (tm rfl rfl) rfl (r_leq rfl)) ?_
    refine k_nil ?_
    refine k_if (tm rfl rfl) (fun h36 => ?_) (fun h36 => ?_)
    · have H := ift h36 H
      refine k_skip ?_
      refine k_seq ?_
      refine k_block ?_
      refine k_seq ?_
      refine k_region ?_
      refine sv (v := .slice none 0 0) rfl rfl rfl (e_assign rfl) ?_
      refine k_nil ?_
      refine k_seq ?_
      refine k_seq ?_
      refine k_region ?_
      refine sv (v := .int .i64 x30) rfl rfl rfl (e_move (tm rfl rfl)) ?_
      obtain ⟨r40, hx253, H⟩ := bindSome H
      refine s_call (.cons (tm rfl rfl) .nil) Try.call15 (selvageref15_sort.calls x30 r40 _ hx253) rfl ?_
      rintro v_ w37 ⟨rfl, hb38⟩
      have hp39 := hp32.grow hb38
      refine k_nil ?_
      obtain ⟨o41, H, G42⟩ := bindSome H
      refine k_cut (fun a w' => ∃ (σ256 : Nat → Value) (b257 : Nat) (A258 : Option Addr) (c259 : Nat) (X260 : Rsc), a = st 147 [(0, .int .u32 a0), (2, .pointer (some ⟨b257, 0, none⟩)), (4, .int .i64 (selvageref15_bits.m a0 6 5)), (5, .int .i64 (selvageref15_bits.m a0 11 5)), (6, .int .i64 (selvageref15_bits.m a0 16 5)), (7, .int .i64 (selvageref15_bits.m a0 16 16)), (8, .int .i64 x30), (9, .slice A258 (o41.length) c259)] σ256 [] ∧ Hp0 w w' [[(b257, .cells #[.int .i64 0, .int .i64 0, .int .i64 0, .int .i64 0, .int .i64 0] 23 (0, 0))], X260] ∧ Own api_Inst_E 23 A258 c259 o41 X260) ?_ ?_
      · refine k_block ?_
        refine k_seq ?_
        refine k_region ?_
        refine sv (v := .bool (decide (r40 = 1))) rfl rfl rfl (e_bin (tm rfl rfl) rfl (r_eql rfl)) ?_
        refine sv (v := .bool (decide (r40 = 1))) rfl rfl rfl (e_assign (tm rfl rfl)) ?_
        refine k_nil ?_
        refine k_if (tm rfl rfl) (fun h43 => ?_) (fun h43 => ?_)
        · have H := ift h43 H
          refine k_region ?_
          refine sv (v := .int .i64 x30) rfl rfl rfl (e_move (tm rfl rfl)) ?_
          refine sv (v := .int .i64 (selvageref15_bits.m a0 6 5)) rfl rfl rfl (e_move (tm rfl rfl)) ?_
          refine sv (v := .int .i64 (selvageref15_bits.m a0 11 5)) rfl rfl rfl (e_move (tm rfl rfl)) ?_
          refine sv (v := .int .i64 (selvageref15_bits.m a0 16 16)) rfl rfl rfl (e_move (tm rfl rfl)) ?_
          refine s_call (.cons (tm rfl rfl) (.cons rfl .nil)) Try.call22 (selvageref15_signed.calls (selvageref15_bits.m a0 16 16) 16 _) rfl ?_
          rintro v_ w44 ⟨rfl, hb45⟩
          have hp46 := hp39.grow hb45
          refine sv (v := .agg #[.int .i64 x30, .int .i64 (selvageref15_bits.m a0 6 5), .int .i64 (selvageref15_bits.m a0 11 5), .int .i64 0, .int .i64 (selvageref15_signed.m (selvageref15_bits.m a0 16 16) 16)]) rfl rfl rfl (e_build (vs := [(0, .int .i64 x30), (1, .int .i64 (selvageref15_bits.m a0 6 5)), (2, .int .i64 (selvageref15_bits.m a0 11 5)), (4, .int .i64 (selvageref15_signed.m (selvageref15_bits.m a0 16 16) 16))]) (.cons (tm rfl rfl) (.cons (tm rfl rfl) (.cons (tm rfl rfl) (.cons (tm rfl rfl) .nil)))) (by kernel_rfl)) ?_
          refine s_buildSlice (zv := .agg #[.int .i64 0, .int .i64 0, .int .i64 0, .int .i64 0, .int .i64 0]) (E := api_Inst_E) (vs := [(0, .agg #[.int .i64 x30, .int .i64 (selvageref15_bits.m a0 6 5), .int .i64 (selvageref15_bits.m a0 11 5), .int .i64 0, .int .i64 (selvageref15_signed.m (selvageref15_bits.m a0 16 16) 16)])]) (xs := ([(⟨x30, (selvageref15_bits.m a0 6 5), (selvageref15_bits.m a0 11 5), 0, (selvageref15_signed.m (selvageref15_bits.m a0 16 16) 16)⟩ : api_Inst)] : List api_Inst)) hp46 (.cons (tm rfl rfl) .nil) Try.runUnderlying58 Try.sizeOf23 (by intro w_; kernel_rfl) rfl rfl rfl (by kernel_rfl) rfl (fun A47 c48 w49 X50 hp51 O52 => ?_)
          refine sv (v := .slice A47 (([(⟨x30, (selvageref15_bits.m a0 6 5), (selvageref15_bits.m a0 11 5), 0, (selvageref15_signed.m (selvageref15_bits.m a0 16 16) 16)⟩ : api_Inst)] : List api_Inst).length) c48) rfl rfl rfl (e_assign (tm rfl rfl)) ?_
          refine k_nil ?_
          obtain rfl := Option.some.inj H
          exact ⟨_, b35, A47, c48, X50, seenF ⟨rfl, rfl, rfl, rfl, rfl, rfl, rfl, rfl, trivial⟩, hp51, O52⟩
        have H := iff_ h43 H
        refine k_seq ?_
        refine k_region ?_
        refine sv (v := .bool (decide (r40 = 2))) rfl rfl rfl (e_bin (tm rfl rfl) rfl (r_eql rfl)) ?_
        refine sv (v := .bool (decide (r40 = 2))) rfl rfl rfl (e_assign (tm rfl rfl)) ?_
        refine k_nil ?_
        refine k_if (tm rfl rfl) (fun h54 => ?_) (fun h54 => ?_)
        · have H := ift h54 H
          refine k_region ?_
          refine sv (v := .int .i64 x30) rfl rfl rfl (e_move (tm rfl rfl)) ?_
          refine sv (v := .int .i64 (selvageref15_bits.m a0 11 5)) rfl rfl rfl (e_move (tm rfl rfl)) ?_
          refine sv (v := .int .i64 (selvageref15_bits.m a0 6 5)) rfl rfl rfl (e_move (tm rfl rfl)) ?_
          refine sv (v := .int .i64 (selvageref15_bits.m a0 16 16)) rfl rfl rfl (e_move (tm rfl rfl)) ?_
          refine sv (v := .agg #[.int .i64 x30, .int .i64 (selvageref15_bits.m a0 11 5), .int .i64 (selvageref15_bits.m a0 6 5), .int .i64 0, .int .i64 (selvageref15_bits.m a0 16 16)]) rfl rfl rfl (e_build (vs := [(0, .int .i64 x30), (1, .int .i64 (selvageref15_bits.m a0 11 5)), (2, .int .i64 (selvageref15_bits.m a0 6 5)), (4, .int .i64 (selvageref15_bits.m a0 16 16))]) (.cons (tm rfl rfl) (.cons (tm rfl rfl) (.cons (tm rfl rfl) (.cons (tm rfl rfl) .nil)))) (by kernel_rfl)) ?_
          refine s_buildSlice (zv := .agg #[.int .i64 0, .int .i64 0, .int .i64 0, .int .i64 0, .int .i64 0]) (E := api_Inst_E) (vs := [(0, .agg #[.int .i64 x30, .int .i64 (selvageref15_bits.m a0 11 5), .int .i64 (selvageref15_bits.m a0 6 5), .int .i64 0, .int .i64 (selvageref15_bits.m a0 16 16)])]) (xs := ([(⟨x30, (selvageref15_bits.m a0 11 5), (selvageref15_bits.m a0 6 5), 0, (selvageref15_bits.m a0 16 16)⟩ : api_Inst)] : List api_Inst)) hp39 (.cons (tm rfl rfl) .nil) Try.runUnderlying58 Try.sizeOf23 (by intro w_; kernel_rfl) rfl rfl rfl (by kernel_rfl) rfl (fun A55 c56 w57 X58 hp59 O60 => ?_)
          refine sv (v := .slice A55 (([(⟨x30, (selvageref15_bits.m a0 11 5), (selvageref15_bits.m a0 6 5), 0, (selvageref15_bits.m a0 16 16)⟩ : api_Inst)] : List api_Inst).length) c56) rfl rfl rfl (e_assign (tm rfl rfl)) ?_
          refine k_nil ?_
          obtain rfl := Option.some.inj H
          exact ⟨_, b35, A55, c56, X58, seenF ⟨rfl, rfl, rfl, rfl, rfl, rfl, rfl, rfl, trivial⟩, hp59, O60⟩
        have H := iff_ h54 H
        refine k_seq ?_
        refine k_region ?_
        refine sv (v := .bool (decide (r40 = 3))) rfl rfl rfl (e_bin (tm rfl rfl) rfl (r_eql rfl)) ?_
        refine sv (v := .bool (decide (r40 = 3))) rfl rfl rfl (e_assign (tm rfl rfl)) ?_
        refine k_nil ?_
        refine k_if (tm rfl rfl) (fun h61 => ?_) (fun h61 => ?_)
        · have H := ift h61 H
          refine k_region ?_
          refine sv (v := .int .i64 x30) rfl rfl rfl (e_move (tm rfl rfl)) ?_
          refine sv (v := .int .i64 (selvageref15_bits.m a0 11 5)) rfl rfl rfl (e_move (tm rfl rfl)) ?_
          refine sv (v := .int .i64 (selvageref15_bits.m a0 6 5)) rfl rfl rfl (e_move (tm rfl rfl)) ?_
          refine sv (v := .int .i64 (selvageref15_bits.m a0 16 5)) rfl rfl rfl (e_move (tm rfl rfl)) ?_
          refine sv (v := .agg #[.int .i64 x30, .int .i64 (selvageref15_bits.m a0 11 5), .int .i64 (selvageref15_bits.m a0 6 5), .int .i64 0, .int .i64 (selvageref15_bits.m a0 16 5)]) rfl rfl rfl (e_build (vs := [(0, .int .i64 x30), (1, .int .i64 (selvageref15_bits.m a0 11 5)), (2, .int .i64 (selvageref15_bits.m a0 6 5)), (4, .int .i64 (selvageref15_bits.m a0 16 5))]) (.cons (tm rfl rfl) (.cons (tm rfl rfl) (.cons (tm rfl rfl) (.cons (tm rfl rfl) .nil)))) (by kernel_rfl)) ?_
          refine sv (v := .int .i64 x30) rfl rfl rfl (e_move (tm rfl rfl)) ?_
          refine sv (v := .int .i64 (selvageref15_bits.m a0 11 5)) rfl rfl rfl (e_move (tm rfl rfl)) ?_
          refine sv (v := .int .i64 (selvageref15_bits.m a0 6 5)) rfl rfl rfl (e_move (tm rfl rfl)) ?_
          refine sv (v := .int .i64 (selvageref15_bits.m a0 16 5)) rfl rfl rfl (e_move (tm rfl rfl)) ?_
          refine sv (v := .int .i64 (wrap64 ((selvageref15_bits.m a0 16 5) + 32))) rfl rfl rfl (e_bin (tm rfl rfl) rfl (r_add (wrap_i64 _))) ?_
          refine sv (v := .agg #[.int .i64 x30, .int .i64 (selvageref15_bits.m a0 11 5), .int .i64 (selvageref15_bits.m a0 6 5), .int .i64 0, .int .i64 (wrap64 ((selvageref15_bits.m a0 16 5) + 32))]) rfl rfl rfl (e_build (vs := [(0, .int .i64 x30), (1, .int .i64 (selvageref15_bits.m a0 11 5)), (2, .int .i64 (selvageref15_bits.m a0 6 5)), (4, .int .i64 (wrap64 ((selvageref15_bits.m a0 16 5) + 32)))]) (.cons (tm rfl rfl) (.cons (tm rfl rfl) (.cons (tm rfl rfl) (.cons (tm rfl rfl) .nil)))) (by kernel_rfl)) ?_
          refine s_buildSlice (zv := .agg #[.int .i64 0, .int .i64 0, .int .i64 0, .int .i64 0, .int .i64 0]) (E := api_Inst_E) (vs := [(0, .agg #[.int .i64 x30, .int .i64 (selvageref15_bits.m a0 11 5), .int .i64 (selvageref15_bits.m a0 6 5), .int .i64 0, .int .i64 (selvageref15_bits.m a0 16 5)]), (1, .agg #[.int .i64 x30, .int .i64 (selvageref15_bits.m a0 11 5), .int .i64 (selvageref15_bits.m a0 6 5), .int .i64 0, .int .i64 (wrap64 ((selvageref15_bits.m a0 16 5) + 32))])]) (xs := ([(⟨x30, (selvageref15_bits.m a0 11 5), (selvageref15_bits.m a0 6 5), 0, (selvageref15_bits.m a0 16 5)⟩ : api_Inst), (⟨x30, (selvageref15_bits.m a0 11 5), (selvageref15_bits.m a0 6 5), 0, wrap64 ((selvageref15_bits.m a0 16 5) + 32)⟩ : api_Inst)] : List api_Inst)) hp39 (.cons (tm rfl rfl) (.cons (tm rfl rfl) .nil)) Try.runUnderlying58 Try.sizeOf23 (by intro w_; kernel_rfl) rfl rfl rfl (by kernel_rfl) rfl (fun A62 c63 w64 X65 hp66 O67 => ?_)
          refine sv (v := .slice A62 (([(⟨x30, (selvageref15_bits.m a0 11 5), (selvageref15_bits.m a0 6 5), 0, (selvageref15_bits.m a0 16 5)⟩ : api_Inst), (⟨x30, (selvageref15_bits.m a0 11 5), (selvageref15_bits.m a0 6 5), 0, wrap64 ((selvageref15_bits.m a0 16 5) + 32)⟩ : api_Inst)] : List api_Inst).length) c63) rfl rfl rfl (e_assign (tm rfl rfl)) ?_
          refine k_nil ?_
          obtain rfl := Option.some.inj H
          exact ⟨_, b35, A62, c63, X65, seenF ⟨rfl, rfl, rfl, rfl, rfl, rfl, rfl, rfl, trivial⟩, hp66, O67⟩
        have H := iff_ h61 H
        refine k_seq ?_
        refine k_region ?_
        refine sv (v := .bool (decide (r40 = 4))) rfl rfl rfl (e_bin (tm rfl rfl) rfl (r_eql rfl)) ?_
        refine sv (v := .bool (decide (r40 = 4))) rfl rfl rfl (e_assign (tm rfl rfl)) ?_
        refine k_nil ?_
        refine k_if (tm rfl rfl) (fun h68 => ?_) (fun h68 => ?_)
        · have H := ift h68 H
          refine k_region ?_
          refine sv (v := .int .i64 x30) rfl rfl rfl (e_move (tm rfl rfl)) ?_
          refine sv (v := .int .i64 (selvageref15_bits.m a0 6 5)) rfl rfl rfl (e_move (tm rfl rfl)) ?_
          refine sv (v := .int .i64 (selvageref15_bits.m a0 11 5)) rfl rfl rfl (e_move (tm rfl rfl)) ?_
          refine sv (v := .int .i64 (selvageref15_bits.m a0 16 5)) rfl rfl rfl (e_move (tm rfl rfl)) ?_
          refine sv (v := .agg #[.int .i64 x30, .int .i64 (selvageref15_bits.m a0 6 5), .int .i64 (selvageref15_bits.m a0 11 5), .int .i64 (selvageref15_bits.m a0 16 5), .int .i64 0]) rfl rfl rfl (e_build (vs := [(0, .int .i64 x30), (1, .int .i64 (selvageref15_bits.m a0 6 5)), (2, .int .i64 (selvageref15_bits.m a0 11 5)), (3, .int .i64 (selvageref15_bits.m a0 16 5))]) (.cons (tm rfl rfl) (.cons (tm rfl rfl) (.cons (tm rfl rfl) (.cons (tm rfl rfl) .nil)))) (by kernel_rfl)) ?_
          refine s_buildSlice (zv := .agg #[.int .i64 0, .int .i64 0, .int .i64 0, .int .i64 0, .int .i64 0]) (E := api_Inst_E) (vs := [(0, .agg #[.int .i64 x30, .int .i64 (selvageref15_bits.m a0 6 5), .int .i64 (selvageref15_bits.m a0 11 5), .int .i64 (selvageref15_bits.m a0 16 5), .int .i64 0])]) (xs := ([(⟨x30, (selvageref15_bits.m a0 6 5), (selvageref15_bits.m a0 11 5), (selvageref15_bits.m a0 16 5), 0⟩ : api_Inst)] : List api_Inst)) hp39 (.cons (tm rfl rfl) .nil) Try.runUnderlying58 Try.sizeOf23 (by intro w_; kernel_rfl) rfl rfl rfl (by kernel_rfl) rfl (fun A69 c70 w71 X72 hp73 O74 => ?_)
          refine sv (v := .slice A69 (([(⟨x30, (selvageref15_bits.m a0 6 5), (selvageref15_bits.m a0 11 5), (selvageref15_bits.m a0 16 5), 0⟩ : api_Inst)] : List api_Inst).length) c70) rfl rfl rfl (e_assign (tm rfl rfl)) ?_
          refine k_nil ?_
          obtain rfl := Option.some.inj H
          exact ⟨_, b35, A69, c70, X72, seenF ⟨rfl, rfl, rfl, rfl, rfl, rfl, rfl, rfl, trivial⟩, hp73, O74⟩
        have H := iff_ h68 H
        refine k_seq ?_
        refine k_region ?_
        refine sv (v := .bool (decide (r40 = 5))) rfl rfl rfl (e_bin (tm rfl rfl) rfl (r_eql rfl)) ?_
        refine sv (v := .bool (decide (r40 = 5))) rfl rfl rfl (e_assign (tm rfl rfl)) ?_
        refine k_nil ?_
        refine k_if (tm rfl rfl) (fun h75 => ?_) (fun h75 => ?_)
        · have H := ift h75 H
          refine k_region ?_
          refine sv (v := .int .i64 x30) rfl rfl rfl (e_move (tm rfl rfl)) ?_
          refine sv (v := .int .i64 (selvageref15_bits.m a0 6 5)) rfl rfl rfl (e_move (tm rfl rfl)) ?_
          refine sv (v := .int .i64 (selvageref15_bits.m a0 11 5)) rfl rfl rfl (e_move (tm rfl rfl)) ?_
          refine sv (v := .int .u32 a0) rfl rfl rfl (e_move (tm rfl rfl)) ?_
          refine s_call (.cons (tm rfl rfl) (.cons rfl (.cons rfl .nil))) Try.call21 (selvageref15_bits.calls a0 16 14 _) rfl ?_
          rintro v_ w76 ⟨rfl, hb77⟩
          have hp78 := hp39.grow hb77
          refine s_call (.cons (tm rfl rfl) (.cons rfl .nil)) Try.call22 (selvageref15_signed.calls (selvageref15_bits.m a0 16 14) 14 _) rfl ?_
          rintro v_ w79 ⟨rfl, hb80⟩
          have hp81 := hp78.grow hb80
          refine sv (v := .int .i64 (wrap64 (4 * (selvageref15_signed.m (selvageref15_bits.m a0 16 14) 14)))) rfl rfl rfl (e_bin rfl (tm rfl rfl) (r_mul (wrap_i64 _))) ?_
          refine sv (v := .agg #[.int .i64 x30, .int .i64 (selvageref15_bits.m a0 6 5), .int .i64 (selvageref15_bits.m a0 11 5), .int .i64 0, .int .i64 (wrap64 (4 * (selvageref15_signed.m (selvageref15_bits.m a0 16 14) 14)))]) rfl rfl rfl (e_build (vs := [(0, .int .i64 x30), (1, .int .i64 (selvageref15_bits.m a0 6 5)), (2, .int .i64 (selvageref15_bits.m a0 11 5)), (4, .int .i64 (wrap64 (4 * (selvageref15_signed.m (selvageref15_bits.m a0 16 14) 14))))]) (.cons (tm rfl rfl) (.cons (tm rfl rfl) (.cons (tm rfl rfl) (.cons (tm rfl rfl) .nil)))) (by kernel_rfl)) ?_
          refine s_buildSlice (zv := .agg #[.int .i64 0, .int .i64 0, .int .i64 0, .int .i64 0, .int .i64 0]) (E := api_Inst_E) (vs := [(0, .agg #[.int .i64 x30, .int .i64 (selvageref15_bits.m a0 6 5), .int .i64 (selvageref15_bits.m a0 11 5), .int .i64 0, .int .i64 (wrap64 (4 * (selvageref15_signed.m (selvageref15_bits.m a0 16 14) 14)))])]) (xs := ([(⟨x30, (selvageref15_bits.m a0 6 5), (selvageref15_bits.m a0 11 5), 0, wrap64 (4 * (selvageref15_signed.m (selvageref15_bits.m a0 16 14) 14))⟩ : api_Inst)] : List api_Inst)) hp81 (.cons (tm rfl rfl) .nil) Try.runUnderlying58 Try.sizeOf23 (by intro w_; kernel_rfl) rfl rfl rfl (by kernel_rfl) rfl (fun A82 c83 w84 X85 hp86 O87 => ?_)
          refine sv (v := .slice A82 (([(⟨x30, (selvageref15_bits.m a0 6 5), (selvageref15_bits.m a0 11 5), 0, wrap64 (4 * (selvageref15_signed.m (selvageref15_bits.m a0 16 14) 14))⟩ : api_Inst)] : List api_Inst).length) c83) rfl rfl rfl (e_assign (tm rfl rfl)) ?_
          refine k_nil ?_
          obtain rfl := Option.some.inj H
          exact ⟨_, b35, A82, c83, X85, seenF ⟨rfl, rfl, rfl, rfl, rfl, rfl, rfl, rfl, trivial⟩, hp86, O87⟩
        have H := iff_ h75 H
        refine k_seq ?_
        refine k_region ?_
        refine sv (v := .bool (decide (r40 = 6))) rfl rfl rfl (e_bin (tm rfl rfl) rfl (r_eql rfl)) ?_
        refine sv (v := .bool (decide (r40 = 6))) rfl rfl rfl (e_assign (tm rfl rfl)) ?_
        refine k_nil ?_
        refine k_if (tm rfl rfl) (fun h90 => ?_) (fun h90 => ?_)
        · have H := ift h90 H
          refine k_region ?_
          refine sv (v := .int .i64 x30) rfl rfl rfl (e_move (tm rfl rfl)) ?_
          refine sv (v := .int .i64 (selvageref15_bits.m a0 11 5)) rfl rfl rfl (e_move (tm rfl rfl)) ?_
          refine sv (v := .int .i64 (selvageref15_bits.m a0 16 5)) rfl rfl rfl (e_move (tm rfl rfl)) ?_
          refine sv (v := .agg #[.int .i64 x30, .int .i64 0, .int .i64 (selvageref15_bits.m a0 11 5), .int .i64 (selvageref15_bits.m a0 16 5), .int .i64 0]) rfl rfl rfl (e_build (vs := [(0, .int .i64 x30), (2, .int .i64 (selvageref15_bits.m a0 11 5)), (3, .int .i64 (selvageref15_bits.m a0 16 5))]) (.cons (tm rfl rfl) (.cons (tm rfl rfl) (.cons (tm rfl rfl) .nil))) (by kernel_rfl)) ?_
          refine s_buildSlice (zv := .agg #[.int .i64 0, .int .i64 0, .int .i64 0, .int .i64 0, .int .i64 0]) (E := api_Inst_E) (vs := [(0, .agg #[.int .i64 x30, .int .i64 0, .int .i64 (selvageref15_bits.m a0 11 5), .int .i64 (selvageref15_bits.m a0 16 5), .int .i64 0])]) (xs := ([(⟨x30, 0, (selvageref15_bits.m a0 11 5), (selvageref15_bits.m a0 16 5), 0⟩ : api_Inst)] : List api_Inst)) hp39 (.cons (tm rfl rfl) .nil) Try.runUnderlying58 Try.sizeOf23 (by intro w_; kernel_rfl) rfl rfl rfl (by kernel_rfl) rfl (fun A91 c92 w93 X94 hp95 O96 => ?_)
          refine sv (v := .slice A91 (([(⟨x30, 0, (selvageref15_bits.m a0 11 5), (selvageref15_bits.m a0 16 5), 0⟩ : api_Inst)] : List api_Inst).length) c92) rfl rfl rfl (e_assign (tm rfl rfl)) ?_
          refine k_nil ?_
          obtain rfl := Option.some.inj H
          exact ⟨_, b35, A91, c92, X94, seenF ⟨rfl, rfl, rfl, rfl, rfl, rfl, rfl, rfl, trivial⟩, hp95, O96⟩
        have H := iff_ h90 H
        refine k_seq ?_
        refine k_region ?_
        refine sv (v := .bool (decide (r40 = 7))) rfl rfl rfl (e_bin (tm rfl rfl) rfl (r_eql rfl)) ?_
        refine sv (v := .bool (decide (r40 = 7))) rfl rfl rfl (e_assign (tm rfl rfl)) ?_
        refine k_nil ?_
        refine k_if (tm rfl rfl) (fun h97 => ?_) (fun h97 => ?_)
        · have H := ift h97 H
          refine k_region ?_
          refine sv (v := .int .i64 x30) rfl rfl rfl (e_move (tm rfl rfl)) ?_
          refine sv (v := .int .i64 (selvageref15_bits.m a0 11 5)) rfl rfl rfl (e_move (tm rfl rfl)) ?_
          refine sv (v := .int .i64 (selvageref15_bits.m a0 16 16)) rfl rfl rfl (e_move (tm rfl rfl)) ?_
          refine s_call (.cons (tm rfl rfl) (.cons rfl .nil)) Try.call22 (selvageref15_signed.calls (selvageref15_bits.m a0 16 16) 16 _) rfl ?_
          rintro v_ w98 ⟨rfl, hb99⟩
          have hp100 := hp39.grow hb99
          refine sv (v := .agg #[.int .i64 x30, .int .i64 0, .int .i64 (selvageref15_bits.m a0 11 5), .int .i64 0, .int .i64 (selvageref15_signed.m (selvageref15_bits.m a0 16 16) 16)]) rfl rfl rfl (e_build (vs := [(0, .int .i64 x30), (2, .int .i64 (selvageref15_bits.m a0 11 5)), (4, .int .i64 (selvageref15_signed.m (selvageref15_bits.m a0 16 16) 16))]) (.cons (tm rfl rfl) (.cons (tm rfl rfl) (.cons (tm rfl rfl) .nil))) (by kernel_rfl)) ?_
          refine s_buildSlice (zv := .agg #[.int .i64 0, .int .i64 0, .int .i64 0, .int .i64 0, .int .i64 0]) (E := api_Inst_E) (vs := [(0, .agg #[.int .i64 x30, .int .i64 0, .int .i64 (selvageref15_bits.m a0 11 5), .int .i64 0, .int .i64 (selvageref15_signed.m (selvageref15_bits.m a0 16 16) 16)])]) (xs := ([(⟨x30, 0, (selvageref15_bits.m a0 11 5), 0, (selvageref15_signed.m (selvageref15_bits.m a0 16 16) 16)⟩ : api_Inst)] : List api_Inst)) hp100 (.cons (tm rfl rfl) .nil) Try.runUnderlying58 Try.sizeOf23 (by intro w_; kernel_rfl) rfl rfl rfl (by kernel_rfl) rfl (fun A101 c102 w103 X104 hp105 O106 => ?_)
          refine sv (v := .slice A101 (([(⟨x30, 0, (selvageref15_bits.m a0 11 5), 0, (selvageref15_signed.m (selvageref15_bits.m a0 16 16) 16)⟩ : api_Inst)] : List api_Inst).length) c102) rfl rfl rfl (e_assign (tm rfl rfl)) ?_
          refine k_nil ?_
          obtain rfl := Option.some.inj H
          exact ⟨_, b35, A101, c102, X104, seenF ⟨rfl, rfl, rfl, rfl, rfl, rfl, rfl, rfl, trivial⟩, hp105, O106⟩
        have H := iff_ h97 H
        refine k_seq ?_
        refine k_region ?_
        refine sv (v := .bool (decide (r40 = 8))) rfl rfl rfl (e_bin (tm rfl rfl) rfl (r_eql rfl)) ?_
        refine sv (v := .bool (decide (r40 = 8))) rfl rfl rfl (e_assign (tm rfl rfl)) ?_
        refine k_nil ?_
        refine k_if (tm rfl rfl) (fun h108 => ?_) (fun h108 => ?_)
        · have H := ift h108 H
          refine k_seq ?_
          refine k_region ?_
          refine sv (v := .int .i64 0) rfl rfl rfl (e_assign rfl) ?_
          refine k_nil ?_
          obtain ⟨o109, H, G110⟩ := bindSome H
          refine k_cut (fun a w' => ∃ (σ172 : Nat → Value) (b173 : Nat) (A174 : Option Addr) (c175 : Nat) (X176 : Rsc), a = st 147 [(0, .int .u32 a0), (2, .pointer (some ⟨b173, 0, none⟩)), (4, .int .i64 (selvageref15_bits.m a0 6 5)), (5, .int .i64 (selvageref15_bits.m a0 11 5)), (6, .int .i64 (selvageref15_bits.m a0 16 5)), (7, .int .i64 (selvageref15_bits.m a0 16 16)), (8, .int .i64 x30), (9, .slice A174 (o109.length) c175)] σ172 [] ∧ Hp0 w w' [[(b173, .cells #[.int .i64 0, .int .i64 0, .int .i64 0, .int .i64 0, .int .i64 0] 23 (0, 0))], X176] ∧ Own api_Inst_E 23 A174 c175 o109 X176) ?_ ?_
          · refine k_block ?_
            refine k_loopg (fun m a w' => ∃ (x127 : (List api_Inst) × Int) (σ162 : Nat → Value) (b163 : Nat) (A164 : Option Addr) (c165 : Nat) (X166 : Rsc), a = st 147 [(0, .int .u32 a0), (2, .pointer (some ⟨b163, 0, none⟩)), (4, .int .i64 (selvageref15_bits.m a0 6 5)), (5, .int .i64 (selvageref15_bits.m a0 11 5)), (6, .int .i64 (selvageref15_bits.m a0 16 5)), (7, .int .i64 (selvageref15_bits.m a0 16 16)), (8, .int .i64 x30), (9, .slice A164 (x127.1.length) c165), (10, .int .i64 x127.2)] σ162 [] ∧ Hp0 w w' [[(b163, .cells #[.int .i64 0, .int .i64 0, .int .i64 0, .int .i64 0, .int .i64 0] 23 (0, 0))], X166] ∧ Own api_Inst_E 23 A164 c165 x127.1 X166 ∧ selvageref15_Decode.l1 a0 x30 m x127 = some o109) k ⟨(([] : List api_Inst), 0), _, b35, none, 0, [], seenF ⟨rfl, rfl, rfl, rfl, rfl, rfl, rfl, rfl, rfl, trivial⟩, hp39.pick [0, 1] (by decide) rfl, Own.nil _ _, H⟩ ?_
            clear H
            rintro m a w' ⟨x127, σ131, b132, A133, c134, X135, rfl, hp129, O136, H⟩
            obtain ⟨k, rfl⟩ := fuel (f := fun k => selvageref15_Decode.l1 a0 x30 k x127) rfl H
            rw [selvageref15_Decode.l1] at H
            refine k_seq ?_
            refine k_seq ?_
            refine k_region ?_
            refine sv (v := .int .i64 x127.2) rfl rfl rfl (e_move (tm rfl rfl)) ?_
            refine sv (v := .bool (decide (x127.2 < 4))) rfl rfl rfl (e_bin (tm rfl rfl) rfl (r_lss rfl)) ?_
            refine k_nil ?_
            refine k_if (tm rfl rfl) (fun h137 => ?_) (fun h137 => ?_)
            · have H := ift h137 H
              refine k_skip ?_
              refine k_seq ?_
              refine k_block ?_
              refine k_region ?_
              refine sv (v := .slice A133 (x127.1.length) c134) rfl rfl rfl (e_move (tm rfl rfl)) ?_
              refine sv (v := .int .i64 x30) rfl rfl rfl (e_move (tm rfl rfl)) ?_
              refine sv (v := .int .i64 x127.2) rfl rfl rfl (e_move (tm rfl rfl)) ?_
              refine sv (v := .int .u32 a0) rfl rfl rfl (e_move (tm rfl rfl)) ?_
              refine s_call (.cons (tm rfl rfl) (.cons rfl (.cons rfl .nil))) Try.call21 (selvageref15_bits.calls a0 16 14 _) rfl ?_
              rintro v_ w138 ⟨rfl, hb139⟩
              have hp140 := hp129.grow hb139
              refine s_call (.cons (tm rfl rfl) (.cons rfl .nil)) Try.call22 (selvageref15_signed.calls (selvageref15_bits.m a0 16 14) 14 _) rfl ?_
              rintro v_ w141 ⟨rfl, hb142⟩
              have hp143 := hp140.grow hb142
              refine sv (v := .int .i64 (wrap64 (4 * (selvageref15_signed.m (selvageref15_bits.m a0 16 14) 14)))) rfl rfl rfl (e_bin rfl (tm rfl rfl) (r_mul (wrap_i64 _))) ?_
              refine sv (v := .agg #[.int .i64 x30, .int .i64 x127.2, .int .i64 0, .int .i64 0, .int .i64 (wrap64 (4 * (selvageref15_signed.m (selvageref15_bits.m a0 16 14) 14)))]) rfl rfl rfl (e_build (vs := [(0, .int .i64 x30), (1, .int .i64 x127.2), (4, .int .i64 (wrap64 (4 * (selvageref15_signed.m (selvageref15_bits.m a0 16 14) 14))))]) (.cons (tm rfl rfl) (.cons (tm rfl rfl) (.cons (tm rfl rfl) .nil))) (by kernel_rfl)) ?_
              refine s_buildSlice (zv := .agg #[.int .i64 0, .int .i64 0, .int .i64 0, .int .i64 0, .int .i64 0]) (E := api_Inst_E) (vs := [(0, .agg #[.int .i64 x30, .int .i64 x127.2, .int .i64 0, .int .i64 0, .int .i64 (wrap64 (4 * (selvageref15_signed.m (selvageref15_bits.m a0 16 14) 14)))])]) (xs := ([(⟨x30, x127.2, 0, 0, wrap64 (4 * (selvageref15_signed.m (selvageref15_bits.m a0 16 14) 14))⟩ : api_Inst)] : List api_Inst)) hp143 (.cons (tm rfl rfl) .nil) Try.runUnderlying58 Try.sizeOf23 (by intro w_; kernel_rfl) rfl rfl rfl (by kernel_rfl) rfl (fun A144 c145 w146 X147 hp148 O149 => ?_)
              obtain ⟨g150, H⟩ := grd H
              refine s_append (E := api_Inst_E) (xs := x127.1) (ys := ([(⟨x30, x127.2, 0, 0, wrap64 (4 * (selvageref15_signed.m (selvageref15_bits.m a0 16 14) 14))⟩ : api_Inst)] : List api_Inst)) (r := 1) hp148 (tm rfl rfl) (tm rfl rfl) Try.underlying58 rfl rfl rfl rfl rfl rfl rfl O136 (O149.rd hp148 (i := 2) rfl) g150 rfl (fun A151 c152 w153 X154 hp155 O156 => ?_)
              refine sv (v := .slice A151 ((x127.1 ++ ([(⟨x30, x127.2, 0, 0, wrap64 (4 * (selvageref15_signed.m (selvageref15_bits.m a0 16 14) 14))⟩ : api_Inst)] : List api_Inst)).length) c152) rfl rfl rfl (e_assign (tm rfl rfl)) ?_
              refine k_nil ?_
              refine k_region ?_
              refine sv (v := .int .i64 x127.2) rfl rfl rfl (e_move (tm rfl rfl)) ?_
              refine sv (v := .int .i64 (wrap64 (x127.2 + 1))) rfl rfl rfl (e_bin (tm rfl rfl) rfl (r_add (wrap_i64 _))) ?_
              refine sv (v := .int .i64 (wrap64 (x127.2 + 1))) rfl rfl rfl (e_assign (tm rfl rfl)) ?_
              refine k_nil ?_
              exact ⟨_, Nat.lt_succ_self _, ⟨((x127.1 ++ ([(⟨x30, x127.2, 0, 0, wrap64 (4 * (selvageref15_signed.m (selvageref15_bits.m a0 16 14) 14))⟩ : api_Inst)] : List api_Inst)), wrap64 (x127.2 + 1)), _, b132, A151, c152, X154, seenF ⟨rfl, rfl, rfl, rfl, rfl, rfl, rfl, rfl, rfl, trivial⟩, hp155.pick [0, 1] (by decide) rfl, O156, H⟩⟩
            have H := iff_ h137 H
            refine k_exit ?_
            refine q_here ?_
            obtain rfl := Option.some.inj H
            exact ⟨_, b132, A133, c134, X135, seenF ⟨rfl, rfl, rfl, rfl, rfl, rfl, rfl, rfl, trivial⟩, hp129, O136⟩
          clear H
          rintro a w' ⟨σ162, b163, A164, c165, X166, rfl, hp160, O167⟩
          have H := G110
          obtain rfl := Option.some.inj H
          exact ⟨_, b163, A164, c165, X166, seenF ⟨rfl, rfl, rfl, rfl, rfl, rfl, rfl, rfl, trivial⟩, hp160, O167⟩
        have H := iff_ h108 H
        refine k_seq ?_
        refine k_region ?_
        refine sv (v := .bool (decide (r40 = 9))) rfl rfl rfl (e_bin (tm rfl rfl) rfl (r_eql rfl)) ?_
        refine sv (v := .bool (decide (r40 = 9))) rfl rfl rfl (e_assign (tm rfl rfl)) ?_
        refine k_nil ?_
        refine k_if (tm rfl rfl) (fun h169 => ?_) (fun h169 => ?_)
        · have H := ift h169 H
          refine k_region ?_
          refine sv (v := .int .i64 x30) rfl rfl rfl (e_move (tm rfl rfl)) ?_
          refine sv (v := .int .u32 a0) rfl rfl rfl (e_move (tm rfl rfl)) ?_
          refine s_call (.cons (tm rfl rfl) (.cons rfl (.cons rfl .nil))) Try.call21 (selvageref15_bits.calls a0 6 24 _) rfl ?_
          rintro v_ w170 ⟨rfl, hb171⟩
          have hp172 := hp39.grow hb171
          refine s_call (.cons (tm rfl rfl) (.cons rfl .nil)) Try.call22 (selvageref15_signed.calls (selvageref15_bits.m a0 6 24) 24 _) rfl ?_
          rintro v_ w173 ⟨rfl, hb174⟩
          have hp175 := hp172.grow hb174
          refine sv (v := .int .i64 (wrap64 (4 * (selvageref15_signed.m (selvageref15_bits.m a0 6 24) 24)))) rfl rfl rfl (e_bin rfl (tm rfl rfl) (r_mul (wrap_i64 _))) ?_
          refine sv (v := .agg #[.int .i64 x30, .int .i64 0, .int .i64 0, .int .i64 0, .int .i64 (wrap64 (4 * (selvageref15_signed.m (selvageref15_bits.m a0 6 24) 24)))]) rfl rfl rfl (e_build (vs := [(0, .int .i64 x30), (4, .int .i64 (wrap64 (4 * (selvageref15_signed.m (selvageref15_bits.m a0 6 24) 24))))]) (.cons (tm rfl rfl) (.cons (tm rfl rfl) .nil)) (by kernel_rfl)) ?_
          refine s_buildSlice (zv := .agg #[.int .i64 0, .int .i64 0, .int .i64 0, .int .i64 0, .int .i64 0]) (E := api_Inst_E) (vs := [(0, .agg #[.int .i64 x30, .int .i64 0, .int .i64 0, .int .i64 0, .int .i64 (wrap64 (4 * (selvageref15_signed.m (selvageref15_bits.m a0 6 24) 24)))])]) (xs := ([(⟨x30, 0, 0, 0, wrap64 (4 * (selvageref15_signed.m (selvageref15_bits.m a0 6 24) 24))⟩ : api_Inst)] : List api_Inst)) hp175 (.cons (tm rfl rfl) .nil) Try.runUnderlying58 Try.sizeOf23 (by intro w_; kernel_rfl) rfl rfl rfl (by kernel_rfl) rfl (fun A176 c177 w178 X179 hp180 O181 => ?_)
          refine sv (v := .slice A176 (([(⟨x30, 0, 0, 0, wrap64 (4 * (selvageref15_signed.m (selvageref15_bits.m a0 6 24) 24))⟩ : api_Inst)] : List api_Inst).length) c177) rfl rfl rfl (e_assign (tm rfl rfl)) ?_
          refine k_nil ?_
          obtain rfl := Option.some.inj H
          exact ⟨_, b35, A176, c177, X179, seenF ⟨rfl, rfl, rfl, rfl, rfl, rfl, rfl, rfl, trivial⟩, hp180, O181⟩
        have H := iff_ h169 H
        refine k_region ?_
        refine sv (v := .int .i64 x30) rfl rfl rfl (e_move (tm rfl rfl)) ?_
        refine sv (v := .agg #[.int .i64 x30, .int .i64 0, .int .i64 0, .int .i64 0, .int .i64 0]) rfl rfl rfl (e_build (vs := [(0, .int .i64 x30)]) (.cons (tm rfl rfl) .nil) (by kernel_rfl)) ?_
        refine s_buildSlice (zv := .agg #[.int .i64 0, .int .i64 0, .int .i64 0, .int .i64 0, .int .i64 0]) (E := api_Inst_E) (vs := [(0, .agg #[.int .i64 x30, .int .i64 0, .int .i64 0, .int .i64 0, .int .i64 0])]) (xs := ([(⟨x30, 0, 0, 0, 0⟩ : api_Inst)] : List api_Inst)) hp39 (.cons (tm rfl rfl) .nil) Try.runUnderlying58 Try.sizeOf23 (by intro w_; kernel_rfl) rfl rfl rfl (by kernel_rfl) rfl (fun A184 c185 w186 X187 hp188 O189 => ?_)
        refine sv (v := .slice A184 (([(⟨x30, 0, 0, 0, 0⟩ : api_Inst)] : List api_Inst).length) c185) rfl rfl rfl (e_assign (tm rfl rfl)) ?_
        refine k_nil ?_
        obtain rfl := Option.some.inj H
        exact ⟨_, b35, A184, c185, X187, seenF ⟨rfl, rfl, rfl, rfl, rfl, rfl, rfl, rfl, trivial⟩, hp188, O189⟩
      clear H
      rintro a w' ⟨σ193, b194, A195, c196, X197, rfl, hp191, O198⟩
      have H := G42
      refine k_seq ?_
      refine k_region ?_
      refine sv (v := .int .i64 0) rfl rfl rfl (e_assign rfl) ?_
      refine k_nil ?_
      obtain ⟨o199, H, G200⟩ := bindSome H
      refine k_cut (fun a w' => ∃ (s201 : Unit) (σ255 : Nat → Value) (b256 : Nat), o199 = Sum.inl s201 ∧ a = st 147 [(0, .int .u32 a0), (2, .pointer (some ⟨b256, 0, none⟩)), (4, .int .i64 (selvageref15_bits.m a0 6 5)), (5, .int .i64 (selvageref15_bits.m a0 11 5)), (6, .int .i64 (selvageref15_bits.m a0 16 5)), (7, .int .i64 (selvageref15_bits.m a0 16 16)), (8, .int .i64 x30)] σ255 [] ∧ Hp0 w w' [[(b256, .cells #[.int .i64 0, .int .i64 0, .int .i64 0, .int .i64 0, .int .i64 0] 23 (0, 0))]]) ?_ ?_
      · refine k_block ?_
        refine k_loopg (fun m a w' => ∃ (x222 : (List api_Inst) × Int) (σ249 : Nat → Value) (b250 : Nat) (A251 : Option Addr) (c252 : Nat) (X253 : Rsc), a = st 147 [(0, .int .u32 a0), (2, .pointer (some ⟨b250, 0, none⟩)), (4, .int .i64 (selvageref15_bits.m a0 6 5)), (5, .int .i64 (selvageref15_bits.m a0 11 5)), (6, .int .i64 (selvageref15_bits.m a0 16 5)), (7, .int .i64 (selvageref15_bits.m a0 16 16)), (8, .int .i64 x30), (9, .slice A251 (x222.1.length) c252), (11, .int .i64 x222.2)] σ249 [] ∧ Hp0 w w' [[(b250, .cells #[.int .i64 0, .int .i64 0, .int .i64 0, .int .i64 0, .int .i64 0] 23 (0, 0))], X253] ∧ Own api_Inst_E 23 A251 c252 x222.1 X253 ∧ selvageref15_Decode.l2 a0 m x222 = some o199) k ⟨(o41, 0), _, b194, A195, c196, X197, seenF ⟨rfl, rfl, rfl, rfl, rfl, rfl, rfl, rfl, rfl, trivial⟩, hp191, O198, H⟩ ?_
        clear H
        rintro m a w' ⟨x222, σ226, b227, A228, c229, X230, rfl, hp224, O231, H⟩
        obtain ⟨k, rfl⟩ := fuel (f := fun k => selvageref15_Decode.l2 a0 k x222) rfl H
        rw [selvageref15_Decode.l2] at H
        refine k_seq ?_
        refine k_seq ?_
        refine k_region ?_
        refine sv (v := .int .i64 x222.2) rfl rfl rfl (e_move (tm rfl rfl)) ?_
        refine sv (v := .slice A228 (x222.1.length) c229) rfl rfl rfl (e_move (tm rfl rfl)) ?_
        refine sv (v := .int .i64 ((x222.1.length) : Int)) rfl rfl rfl (e_builtin (.cons (tm rfl rfl) .nil) (r_lens Try.runUnderlying58)) ?_
        refine sv (v := .bool (decide (x222.2 < ((x222.1.length) : Int)))) rfl rfl rfl (e_bin (tm rfl rfl) (tm rfl rfl) (r_lss rfl)) ?_
        refine k_nil ?_
        refine k_if (tm rfl rfl) (fun h232 => ?_) (fun h232 => ?_)
        · have H := ift h232 H
          refine k_skip ?_
          refine k_seq ?_
          refine k_block ?_
          refine k_seq ?_
          refine k_region ?_
          refine sv (v := .slice A228 (x222.1.length) c229) rfl rfl rfl (e_move (tm rfl rfl)) ?_
          refine sv (v := .int .i64 x222.2) rfl rfl rfl (e_move (tm rfl rfl)) ?_
          obtain ⟨g233, H⟩ := grd H
          refine s_idx (tm rfl rfl) (tm rfl rfl) Try.runUnderlying58 Try.sizeOf23 (O231.rd hp224 (i := 1) rfl) g233.1 g233.2 rfl (fun a234 C235 => ?_)
          refine sv (v := .agg #[.int .i64 ((gi api_Inst_E x222.1 x222.2).Op), .int .i64 ((gi api_Inst_E x222.1 x222.2).T), .int .i64 ((gi api_Inst_E x222.1 x222.2).A), .int .i64 ((gi api_Inst_E x222.1 x222.2).B), .int .i64 ((gi api_Inst_E x222.1 x222.2).Imm)]) rfl rfl rfl (e_loadA (tm rfl rfl) Try.isAgg23 Try.sizeOf23 rfl (C235)) ?_
          obtain ⟨r239, hx245, H⟩ := bindSome H
          refine s_call (.cons (tm rfl rfl) .nil) Try.call9 (selvageref15_Encode.calls k (gi api_Inst_E x222.1 x222.2) r239 _ hx245) rfl ?_
          rintro v_ w236 ⟨rfl, hb237⟩
          have hp238 := hp224.grow hb237
          refine sv (v := .tuple #[.int .u32 r239.1, .int .i64 r239.2]) rfl rfl rfl (e_move (tm rfl rfl)) ?_
          refine sv (v := .int .u32 r239.1) rfl rfl rfl (e_extract (tm rfl rfl) rfl) ?_
          refine sv (v := .int .i64 r239.2) rfl rfl rfl (e_extract (tm rfl rfl) rfl) ?_
          refine sv (v := .int .u32 r239.1) rfl rfl rfl (e_assign (tm rfl rfl)) ?_
          refine sv (v := .int .i64 r239.2) rfl rfl rfl (e_assign (tm rfl rfl)) ?_
          refine k_nil ?_
          refine k_seq ?_
          refine k_region ?_
          refine sv (v := .int .i64 r239.2) rfl rfl rfl (e_move (tm rfl rfl)) ?_
          refine sv (v := .bool (decide (r239.2 = 0))) rfl rfl rfl (e_bin (tm rfl rfl) rfl (r_eql rfl)) ?_
          refine sv (v := .bool (decide (r239.2 = 0))) rfl rfl rfl (e_move (tm rfl rfl)) ?_
          refine s_gp (v := .int .u32 r239.1) rfl rfl rfl (beq_t _) (fun g_ => e_move (tm rfl rfl)) rfl ?_
          refine s_gp (v := .int .u32 a0) rfl rfl rfl (beq_t _) (fun g_ => e_move (tm rfl rfl)) rfl ?_
          refine s_gp (v := .bool (decide (r239.1 = a0))) rfl rfl rfl (beq_t _) (fun g_ => e_bin (tmg (decide (r239.2 = 0)) (.int .u32 r239.1) rfl rfl g_) (tmg (decide (r239.2 = 0)) (.int .u32 a0) rfl rfl g_) (r_eql rfl)) rfl ?_
          refine sv (v := .bool ((decide (r239.2 = 0)) && (decide (r239.1 = a0)))) rfl rfl rfl (e_pick (v1 := .bool (decide (r239.1 = a0))) (v2 := .bool false) (tm rfl rfl) (fun h_ => tmg (decide (r239.2 = 0)) (.bool (decide (r239.1 = a0))) rfl rfl h_) (fun _ => rfl) (pk_and (decide (r239.2 = 0)))) ?_
          refine k_nil ?_
          refine k_if (tm rfl rfl) (fun h240 => ?_) (fun h240 => ?_)
          · have H := ift h240 H
            refine k_seq ?_
            refine k_region ?_
            refine sv (v := .slice A228 (x222.1.length) c229) rfl rfl rfl (e_move (tm rfl rfl)) ?_
            refine sv (v := .int .i64 x222.2) rfl rfl rfl (e_move (tm rfl rfl)) ?_
            refine s_idx (tm rfl rfl) (tm rfl rfl) Try.runUnderlying58 Try.sizeOf23 (O231.rd hp238 (i := 1) rfl) g233.1 g233.2 rfl (fun a241 C242 => ?_)
            refine sv (v := .agg #[.int .i64 ((gi api_Inst_E x222.1 x222.2).Op), .int .i64 ((gi api_Inst_E x222.1 x222.2).T), .int .i64 ((gi api_Inst_E x222.1 x222.2).A), .int .i64 ((gi api_Inst_E x222.1 x222.2).B), .int .i64 ((gi api_Inst_E x222.1 x222.2).Imm)]) rfl rfl rfl (e_loadA (tm rfl rfl) Try.isAgg23 Try.sizeOf23 rfl (C242)) ?_
            refine s_store (i := 0) (j := 0) (vs := [.int .i64 ((gi api_Inst_E x222.1 x222.2).Op), .int .i64 ((gi api_Inst_E x222.1 x222.2).T), .int .i64 ((gi api_Inst_E x222.1 x222.2).A), .int .i64 ((gi api_Inst_E x222.1 x222.2).B), .int .i64 ((gi api_Inst_E x222.1 x222.2).Imm)]) (l' := [.int .i64 ((gi api_Inst_E x222.1 x222.2).Op), .int .i64 ((gi api_Inst_E x222.1 x222.2).T), .int .i64 ((gi api_Inst_E x222.1 x222.2).A), .int .i64 ((gi api_Inst_E x222.1 x222.2).B), .int .i64 ((gi api_Inst_E x222.1 x222.2).Imm)]) hp238 (tm rfl rfl) (tm rfl rfl) rfl Try.sizeOf23 rfl rfl rfl rfl rfl rfl (fun w243 hp244 => ?_)
            refine sv (v := .int .i64 0) rfl rfl rfl (e_assign rfl) ?_
            refine k_nil ?_
            refine k_ret ?_
            refine q_ret ?_
            refine q_ret ?_
            refine q_ret ?_
            refine q_ret ?_
            obtain rfl := Option.some.inj H
            have H := G200
            obtain rfl := Option.some.inj H
            have H := G17
            obtain rfl := Option.some.inj H
            exact k_end rfl (.cell rfl rfl (r_loadA Try.isAgg23 Try.sizeOf23 rfl (cells_box (sz := 5) (hp244.get (i := 0) (j := 0) rfl rfl) rfl)) (.tmp rfl rfl .nil)) rfl ⟨rfl, hp244.below⟩
          have H := iff_ h240 H
          refine k_skip ?_
          refine k_region ?_
          refine sv (v := .int .i64 x222.2) rfl rfl rfl (e_move (tm rfl rfl)) ?_
          refine sv (v := .int .i64 (wrap64 (x222.2 + 1))) rfl rfl rfl (e_bin (tm rfl rfl) rfl (r_add (wrap_i64 _))) ?_
          refine sv (v := .int .i64 (wrap64 (x222.2 + 1))) rfl rfl rfl (e_assign (tm rfl rfl)) ?_
          refine k_nil ?_
          exact ⟨_, Nat.lt_succ_self _, ⟨(x222.1, wrap64 (x222.2 + 1)), _, b227, A228, c229, X230, seenF ⟨rfl, rfl, rfl, rfl, rfl, rfl, rfl, rfl, rfl, trivial⟩, hp238, O231, H⟩⟩
        have H := iff_ h232 H
        refine k_exit ?_
        refine q_here ?_
        obtain rfl := Option.some.inj H
        exact ⟨(), _, b227, rfl, seenF ⟨rfl, rfl, rfl, rfl, rfl, rfl, rfl, trivial⟩, hp224.pick [0] (by decide) rfl⟩
      clear H
      rintro a w' ⟨s201, σ249, b250, rfl, rfl, hp247⟩
      have H := G200
      rw [Sum.elim_inl] at H
      refine k_region ?_
      refine sv (v := .int .i64 x30) rfl rfl rfl (e_move (tm rfl rfl)) ?_
      refine sv (v := .int .i64 (wrap64 (x30 + 1))) rfl rfl rfl (e_bin (tm rfl rfl) rfl (r_add (wrap_i64 _))) ?_
      refine sv (v := .int .i64 (wrap64 (x30 + 1))) rfl rfl rfl (e_assign (tm rfl rfl)) ?_
      refine k_nil ?_
      exact ⟨_, Nat.lt_succ_self _, ⟨wrap64 (x30 + 1), _, b250, seenF ⟨rfl, rfl, rfl, rfl, rfl, rfl, rfl, trivial⟩, hp247, H⟩⟩
    have H := iff_ h36 H
    refine k_exit ?_
    refine q_here ?_
    obtain rfl := Option.some.inj H
    exact ⟨(), _, b35, rfl, seenF ⟨rfl, trivial⟩, hp32⟩
  clear H
  rintro a w' ⟨s18, σ257, b258, rfl, rfl, hp255⟩
  have H := G17
  rw [Sum.elim_inl] at H
  refine k_seq ?_
  refine k_region ?_
  refine sv (v := .agg #[.int .i64 0, .int .i64 0, .int .i64 0, .int .i64 0, .int .i64 0]) rfl rfl rfl (e_build (vs := []) .nil (by kernel_rfl)) ?_
  refine s_store (i := 0) (j := 0) (vs := [.int .i64 0, .int .i64 0, .int .i64 0, .int .i64 0, .int .i64 0]) (l' := [.int .i64 0, .int .i64 0, .int .i64 0, .int .i64 0, .int .i64 0]) hp255 (tm rfl rfl) (tm rfl rfl) rfl Try.sizeOf23 rfl rfl rfl rfl rfl rfl (fun w259 hp260 => ?_)
  refine sv (v := .int .i64 3) rfl rfl rfl (e_assign rfl) ?_
  refine k_nil ?_
  refine k_ret ?_
  obtain rfl := Option.some.inj H
  exact k_end rfl (.cell rfl rfl (r_loadA Try.isAgg23 Try.sizeOf23 rfl (cells_box (sz := 5) (hp260.get (i := 0) (j := 0) rfl rfl) rfl)) (.tmp rfl rfl .nil)) rfl ⟨rfl, hp260.below⟩

end Go.Proofs.Ytallojficgiemaa.W
