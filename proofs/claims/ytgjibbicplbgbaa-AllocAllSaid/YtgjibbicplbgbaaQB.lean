/- QB: several texts in one. -/
import Derived.Test.YtgjibbicplbgbaaQA
set_option linter.unusedVariables false
set_option linter.unusedSimpArgs false
set_option linter.unusedSectionVars false
set_option maxRecDepth 100000
namespace Go.Proofs.Ytgjibbicplbgbaa
open Go Go.RowKit Go.Proofs Go.Proofs.Ytgjibbicplbgbaa.X
open Go.Proofs.Ytgjibbicplbgbaa.B (wr sb feq fls qf flt i2f aget aset isnan isnan_flt)
noncomputable def alloc_Span.F : FI Try.prog 10 := ⟨Try.f10, 20, (Try.f10.body.getD .skip), Try.f10.results.toList, Try.call10, Try.func10, by kernel_rfl, by kernel_rfl, by kernel_rfl⟩
def alloc_Span.m (a_1 : List api_Ins) (a_2 : Int) : Option (Int × Int × Bool) :=
  (alloc_spanOf.m a_1 a_2).bind fun r_3 => some (r_3.1.from_, r_3.1.to_, r_3.2)
noncomputable def alloc_Span.o (a_1 : List api_Ins) (a_2 : Int) (r : Int × Int × Bool) : Out := .ret (.tup [.v (.int .i64 r.1), .v (.int .i64 r.2.1), .v (.bool r.2.2)]) [] []
theorem alloc_Span.ev {a_1 : List api_Ins} {a_2 : Int} {r : Int × Int × Bool} (H : alloc_Span.m a_1 a_2 = some r) : Ev Try.prog 10 [.ro false 8 a_1.length (a_1.map api_Ins.c), .v (.int .i64 a_2)] [] [] (alloc_Span.o a_1 a_2 r) := by
  unfold alloc_Span.m at H
  obtain ⟨r_3, e_4, H⟩ := bdE H
  obtain rfl := Option.some.inj H
  exact alloc_Span.F.run tb mixed [ca [] (alloc_spanOf.ev e_4)] rfl (by kernel_rfl)
end Go.Proofs.Ytgjibbicplbgbaa
