/- QF: several texts in one. -/
import Derived.Test.YtgjibbicplbgbaaQA
import Derived.Test.YtgjibbicplbgbaaLE
set_option linter.unusedVariables false
set_option linter.unusedSimpArgs false
set_option linter.unusedSectionVars false
set_option maxRecDepth 100000
namespace Go.Proofs.Ytgjibbicplbgbaa
open Go Go.RowKit Go.Proofs Go.Proofs.Ytgjibbicplbgbaa.X
open Go.Proofs.Ytgjibbicplbgbaa.B (wr sb feq fls qf flt i2f aget aset isnan isnan_flt)
noncomputable def selvageref10_letters.F : FI Try.prog 31 := ⟨Try.f31, 35, (Try.f31.body.getD .skip), Try.f31.results.toList, Try.call31, Try.func31, by kernel_rfl, by kernel_rfl, by kernel_rfl⟩
def selvageref10_letters.m (a_1 : Int) : ByteArray :=
  if a_1 = (1 : Int) then ((⟨#[100, 107]⟩ : ByteArray)) else (letC (if a_1 = (2 : Int) then ((true : Bool)) else (if a_1 = (3 : Int) then ((true : Bool)) else (if a_1 = (4 : Int) then ((true : Bool)) else (((decide (a_1 = (5 : Int))) : Bool)))) : Bool) fun o_3 => if o_3 = true then ((⟨#[100, 97, 98]⟩ : ByteArray)) else (if a_1 = (6 : Int) then ((⟨#[100, 108]⟩ : ByteArray)) else (if a_1 = (7 : Int) then ((⟨#[97, 108]⟩ : ByteArray)) else (if a_1 = (8 : Int) then ((⟨#[100, 109]⟩ : ByteArray)) else (if a_1 = (9 : Int) then ((⟨#[97, 109]⟩ : ByteArray)) else (letC (if a_1 = (10 : Int) then ((true : Bool)) else (((decide (a_1 = (11 : Int))) : Bool)) : Bool) fun o_14 => if o_14 = true then ((⟨#[100, 97, 109]⟩ : ByteArray)) else (if a_1 = (12 : Int) then ((⟨#[97, 98, 109, 116]⟩ : ByteArray)) else (if a_1 = (13 : Int) then ((⟨#[100, 97, 114]⟩ : ByteArray)) else (if a_1 = (14 : Int) then ((⟨#[97, 98, 114]⟩ : ByteArray)) else (if a_1 = (15 : Int) then ((⟨#[97]⟩ : ByteArray)) else (if a_1 = (16 : Int) then ((⟨#[97, 98, 116]⟩ : ByteArray)) else (if a_1 = (17 : Int) then ((⟨#[97, 98, 116]⟩ : ByteArray)) else (if a_1 = (18 : Int) then ((⟨#[46]⟩ : ByteArray)) else ((⟨#[]⟩ : ByteArray)))))))))))))))
noncomputable def selvageref10_letters.o (a_1 : Int) (r : ByteArray) : Out := .ret (.v (.string r)) [] []
theorem selvageref10_letters.ev {a_1 : Int} {r : ByteArray} (H : selvageref10_letters.m a_1 = r) : Ev Try.prog 31 [.v (.int .i64 a_1)] [] [] (selvageref10_letters.o a_1 r) := by
  unfold selvageref10_letters.m at H
  rcases b2 (decide (a_1 = (1 : Int))) with h_2 | h_2
  · have H := itT h_2 H
    subst H
    exact selvageref10_letters.F.run tb mixed [br h_2] rfl (by kernel_rfl)
  · have H := itF h_2 H
    obtain ⟨o_3, e_4, H⟩ := ltE H
    have j_5 : Runs Try.prog selvageref10_letters.F.N 0 (sub_ selvageref10_letters.F.c [1, 0, 1, 0, 1, 1, 0, 1]) ⟨[(3, .v (.int .i64 a_1)), (6, .v (.bool (decide (a_1 = (2 : Int)))))], [], []⟩ ((fun _ => .normal : Bool → Ex) o_3) ((fun o_3 => ⟨[(3, .v (.int .i64 a_1)), (6, .v (.bool o_3))], [], []⟩ : Bool → ASt) o_3) := by
      clear H
      have H := e_4
      clear e_4
      rcases b2 (decide (a_1 = (2 : Int))) with h_6 | h_6
      · have H := itT h_6 H
        subst H
        exact Runs.fin (T := tb) mixed [br h_6] (by kernel_rfl)
      · have H := itF h_6 H
        rcases b2 (decide (a_1 = (3 : Int))) with h_7 | h_7
        · have H := itT h_7 H
          subst H
          exact Runs.fin (T := tb) mixed [br h_6, br h_7] (by kernel_rfl)
        · have H := itF h_7 H
          rcases b2 (decide (a_1 = (4 : Int))) with h_8 | h_8
          · have H := itT h_8 H
            subst H
            exact Runs.fin (T := tb) mixed [br h_6, br h_7, br h_8] (by kernel_rfl)
          · have H := itF h_8 H
            subst H
            exact Runs.fin (T := tb) mixed [br h_6, br h_7, br h_8] (by kernel_rfl)
    rcases b2 o_3 with h_9 | h_9
    · have H := ibT h_9 H
      subst H
      exact selvageref10_letters.F.run tb mixed [br h_2, sc_ j_5, br h_9] rfl (by kernel_rfl)
    · have H := ibF h_9 H
      rcases b2 (decide (a_1 = (6 : Int))) with h_10 | h_10
      · have H := itT h_10 H
        subst H
        exact selvageref10_letters.F.run tb mixed [br h_2, sc_ j_5, br h_9, br h_10] rfl (by kernel_rfl)
      · have H := itF h_10 H
        rcases b2 (decide (a_1 = (7 : Int))) with h_11 | h_11
        · have H := itT h_11 H
          subst H
          exact selvageref10_letters.F.run tb mixed [br h_2, sc_ j_5, br h_9, br h_10, br h_11] rfl (by kernel_rfl)
        · have H := itF h_11 H
          rcases b2 (decide (a_1 = (8 : Int))) with h_12 | h_12
          · have H := itT h_12 H
            subst H
            exact selvageref10_letters.F.run tb mixed [br h_2, sc_ j_5, br h_9, br h_10, br h_11, br h_12] rfl (by kernel_rfl)
          · have H := itF h_12 H
            rcases b2 (decide (a_1 = (9 : Int))) with h_13 | h_13
            · have H := itT h_13 H
              subst H
              exact selvageref10_letters.F.run tb mixed [br h_2, sc_ j_5, br h_9, br h_10, br h_11, br h_12, br h_13] rfl (by kernel_rfl)
            · have H := itF h_13 H
              obtain ⟨o_14, e_15, H⟩ := ltE H
              have j_16 : Runs Try.prog selvageref10_letters.F.N 0 (sub_ selvageref10_letters.F.c [1, 0, 1, 0, 1, 1, 1, 1, 1, 1, 1, 1, 1, 1, 1, 1, 0, 1]) ⟨[(3, .v (.int .i64 a_1)), (19, .v (.bool (decide (a_1 = (10 : Int)))))], [], []⟩ ((fun _ => .normal : Bool → Ex) o_14) ((fun o_14 => ⟨[(3, .v (.int .i64 a_1)), (19, .v (.bool o_14))], [], []⟩ : Bool → ASt) o_14) := by
                clear H
                have H := e_15
                clear e_15
                rcases b2 (decide (a_1 = (10 : Int))) with h_17 | h_17
                · have H := itT h_17 H
                  subst H
                  exact Runs.fin (T := tb) mixed [br h_17] (by kernel_rfl)
                · have H := itF h_17 H
                  subst H
                  exact Runs.fin (T := tb) mixed [br h_17] (by kernel_rfl)
              rcases b2 o_14 with h_18 | h_18
              · have H := ibT h_18 H
                subst H
                exact selvageref10_letters.F.run tb mixed [br h_2, sc_ j_5, br h_9, br h_10, br h_11, br h_12, br h_13, sc_ j_16, br h_18] rfl (by kernel_rfl)
              · have H := ibF h_18 H
                rcases b2 (decide (a_1 = (12 : Int))) with h_19 | h_19
                · have H := itT h_19 H
                  subst H
                  exact selvageref10_letters.F.run tb mixed [br h_2, sc_ j_5, br h_9, br h_10, br h_11, br h_12, br h_13, sc_ j_16, br h_18, br h_19] rfl (by kernel_rfl)
                · have H := itF h_19 H
                  rcases b2 (decide (a_1 = (13 : Int))) with h_20 | h_20
                  · have H := itT h_20 H
                    subst H
                    exact selvageref10_letters.F.run tb mixed [br h_2, sc_ j_5, br h_9, br h_10, br h_11, br h_12, br h_13, sc_ j_16, br h_18, br h_19, br h_20] rfl (by kernel_rfl)
                  · have H := itF h_20 H
                    rcases b2 (decide (a_1 = (14 : Int))) with h_21 | h_21
                    · have H := itT h_21 H
                      subst H
                      exact selvageref10_letters.F.run tb mixed [br h_2, sc_ j_5, br h_9, br h_10, br h_11, br h_12, br h_13, sc_ j_16, br h_18, br h_19, br h_20, br h_21] rfl (by kernel_rfl)
                    · have H := itF h_21 H
                      rcases b2 (decide (a_1 = (15 : Int))) with h_22 | h_22
                      · have H := itT h_22 H
                        subst H
                        exact selvageref10_letters.F.run tb mixed [br h_2, sc_ j_5, br h_9, br h_10, br h_11, br h_12, br h_13, sc_ j_16, br h_18, br h_19, br h_20, br h_21, br h_22] rfl (by kernel_rfl)
                      · have H := itF h_22 H
                        rcases b2 (decide (a_1 = (16 : Int))) with h_23 | h_23
                        · have H := itT h_23 H
                          subst H
                          exact selvageref10_letters.F.run tb mixed [br h_2, sc_ j_5, br h_9, br h_10, br h_11, br h_12, br h_13, sc_ j_16, br h_18, br h_19, br h_20, br h_21, br h_22, br h_23, au] rfl (by kernel_rfl)
                        · have H := itF h_23 H
                          rcases b2 (decide (a_1 = (17 : Int))) with h_24 | h_24
                          · have H := itT h_24 H
                            subst H
                            exact selvageref10_letters.F.run tb mixed [br h_2, sc_ j_5, br h_9, br h_10, br h_11, br h_12, br h_13, sc_ j_16, br h_18, br h_19, br h_20, br h_21, br h_22, br h_23, br h_24] rfl (by kernel_rfl)
                          · have H := itF h_24 H
                            rcases b2 (decide (a_1 = (18 : Int))) with h_25 | h_25
                            · have H := itT h_25 H
                              subst H
                              exact selvageref10_letters.F.run tb mixed [br h_2, sc_ j_5, br h_9, br h_10, br h_11, br h_12, br h_13, sc_ j_16, br h_18, br h_19, br h_20, br h_21, br h_22, br h_23, br h_24, br h_25] rfl (by kernel_rfl)
                            · have H := itF h_25 H
                              subst H
                              exact selvageref10_letters.F.run tb mixed [br h_2, sc_ j_5, br h_9, br h_10, br h_11, br h_12, br h_13, sc_ j_16, br h_18, br h_19, br h_20, br h_21, br h_22, br h_23, br h_24, br h_25] rfl (by kernel_rfl)
end Go.Proofs.Ytgjibbicplbgbaa
set_option maxRecDepth 100000
namespace Go.Proofs.Ytgjibbicplbgbaa
open Go Go.RowKit Go.Proofs Go.Proofs.Ytgjibbicplbgbaa.X
open Go.Proofs.Ytgjibbicplbgbaa.B (wr sb feq fls qf flt i2f aget aset isnan isnan_flt)
noncomputable def selvageref10_Has.F : FI Try.prog 16 := ⟨Try.f16, 20, (Try.f16.body.getD .skip), Try.f16.results.toList, Try.call16, Try.func16, by kernel_rfl, by kernel_rfl, by kernel_rfl⟩
def selvageref10_Has.l1 (a_2 : Int) (r_3 : ByteArray) (s_7 : Int) : Option (Int ⊕ (Unit ⊕ Unit)) :=
  if s_7 < (r_3.size : Int) then (if 0 ≤ s_7 ∧ s_7 < (r_3.size : Int) then (if (sb r_3 s_7) = a_2 then (some (Sum.inr (Sum.inl ()))) else (some (Sum.inl (wr .i64 (s_7 + (1 : Int)))))) else none) else (some (Sum.inr (Sum.inr ())))
def selvageref10_Has.m (a_1 : Int) (a_2 : Int) : Option (Bool) :=
  letC (selvageref10_letters.m a_1) fun r_3 => (B.loop (selvageref10_Has.l1 a_2 r_3) (0 : Int)).bind fun o_8 => match o_8 with | Sum.inl s_11 => (some true) | Sum.inr (s_12) => (some false)
noncomputable def selvageref10_Has.o (a_1 : Int) (a_2 : Int) (r : Bool) : Out := .ret (.v (.bool r)) [] []
theorem selvageref10_Has.ev {a_1 : Int} {a_2 : Int} {r : Bool} (H : selvageref10_Has.m a_1 a_2 = some r) : Ev Try.prog 16 [.v (.int .i64 a_1), .v (.int .u8 a_2)] [] [] (selvageref10_Has.o a_1 a_2 r) := by
  unfold selvageref10_Has.m at H
  obtain ⟨r_3, e_4, H⟩ := ltE H
  obtain ⟨o_8, e_9, H⟩ := bdE H
  have j_10 := Runs.loop (P := Try.prog) (N := selvageref10_Has.F.N) (m0 := 0) (c := sub_ selvageref10_Has.F.c [1, 1, 0, 1, 0, 0]) (f := (selvageref10_Has.l1 a_2 r_3)) (St := fun s_7 => ⟨[(1, .v (.int .u8 a_2)), (5, .v (.string r_3)), (6, .v (.int .i64 s_7))], [], []⟩) (xo := (fun o => match o with | Sum.inl _ => .ret | Sum.inr (_) => (.exit 0) : (Unit ⊕ Unit) → Ex)) (So := (fun o => match o with | Sum.inl s_11 => ⟨[(4, .v (.bool true))], [], []⟩ | Sum.inr (s_12) => ⟨[], [], []⟩ : (Unit ⊕ Unit) → ASt)) (by intro o; rcases o with _ | _ <;> simp) (fun s_7 z H => by
    unfold selvageref10_Has.l1 at H
    rcases b2 (decide (s_7 < (r_3.size : Int))) with h_13 | h_13
    · have H := itT h_13 H
      obtain ⟨g_14, H⟩ := gdE H
      rcases b2 (decide ((sb r_3 s_7) = a_2)) with h_15 | h_15
      · have H := itT h_15 H
        obtain rfl := Option.some.inj H
        exact Runs.fin (T := tb) mixed [br h_13, pf g_14, br h_15] (by kernel_rfl)
      · have H := itF h_15 H
        obtain rfl := Option.some.inj H
        exact Runs.fin (T := tb) mixed [br h_13, pf g_14, br h_15] (by kernel_rfl)
    · have H := itF h_13 H
      obtain rfl := Option.some.inj H
      exact Runs.fin (T := tb) mixed [br h_13] (by kernel_rfl)) e_9
  rcases o_8 with s_11 | s_12
  · obtain rfl := Option.some.inj H
    exact selvageref10_Has.F.run tb mixed [ca [] (selvageref10_letters.ev e_4), su j_10] rfl (by kernel_rfl)
  · obtain rfl := Option.some.inj H
    exact selvageref10_Has.F.run tb mixed [ca [] (selvageref10_letters.ev e_4), su j_10] rfl (by kernel_rfl)
end Go.Proofs.Ytgjibbicplbgbaa
set_option maxRecDepth 100000
namespace Go.Proofs.Ytgjibbicplbgbaa
open Go Go.RowKit Go.Proofs Go.Proofs.Ytgjibbicplbgbaa.X
open Go.Proofs.Ytgjibbicplbgbaa.B (wr sb feq fls qf flt i2f aget aset isnan isnan_flt)
noncomputable def selvageref14_Uses.F : FI Try.prog 15 := ⟨Try.f15, 25, (Try.f15.body.getD .skip), Try.f15.results.toList, Try.call15, Try.func15, by kernel_rfl, by kernel_rfl, by kernel_rfl⟩
def selvageref14_Uses.m (a_1 : api_Ins) (a_2 : Int) : Option (Bool) :=
  (selvageref10_Has.m a_1.Op 97).bind fun r_3 => if r_3 = true then (if a_1.A = a_2 then (some true) else ((selvageref10_Has.m a_1.Op 98).bind fun r_7 => if r_7 = true then (some (decide (a_1.B = a_2))) else (some false))) else ((selvageref10_Has.m a_1.Op 98).bind fun r_10 => if r_10 = true then (some (decide (a_1.B = a_2))) else (some false))
noncomputable def selvageref14_Uses.o (a_1 : api_Ins) (a_2 : Int) (r : Bool) : Out := .ret (.v (.bool r)) [] []
theorem selvageref14_Uses.ev {a_1 : api_Ins} {a_2 : Int} {r : Bool} (H : selvageref14_Uses.m a_1 a_2 = some r) : Ev Try.prog 15 [.agg (api_Ins.c a_1), .v (.int .i64 a_2)] [] [] (selvageref14_Uses.o a_1 a_2 r) := by
  unfold selvageref14_Uses.m at H
  obtain ⟨r_3, e_4, H⟩ := bdE H
  rcases b2 r_3 with h_5 | h_5
  · have H := ibT h_5 H
    rcases b2 (decide (a_1.A = a_2)) with h_6 | h_6
    · have H := itT h_6 H
      obtain rfl := Option.some.inj H
      exact selvageref14_Uses.F.run tb mixed [ca [] (selvageref10_Has.ev e_4), br h_5, pk (rfl : true = true), br h_6, pk (rfl : true = true)] rfl (by kernel_rfl)
    · have H := itF h_6 H
      obtain ⟨r_7, e_8, H⟩ := bdE H
      rcases b2 r_7 with h_9 | h_9
      · have H := ibT h_9 H
        obtain rfl := Option.some.inj H
        exact selvageref14_Uses.F.run tb mixed [ca [] (selvageref10_Has.ev e_4), br h_5, pk (rfl : true = true), br h_6, ca [] (selvageref10_Has.ev e_8), br h_9, pk (rfl : true = true), pk (rfl : false = false)] rfl (by kernel_rfl)
      · have H := ibF h_9 H
        obtain rfl := Option.some.inj H
        exact selvageref14_Uses.F.run tb mixed [ca [] (selvageref10_Has.ev e_4), br h_5, pk (rfl : true = true), br h_6, ca [] (selvageref10_Has.ev e_8), br h_9, pk (rfl : false = false), pk (rfl : false = false)] rfl (by kernel_rfl)
  · have H := ibF h_5 H
    obtain ⟨r_10, e_11, H⟩ := bdE H
    rcases b2 r_10 with h_12 | h_12
    · have H := ibT h_12 H
      obtain rfl := Option.some.inj H
      exact selvageref14_Uses.F.run tb mixed [ca [] (selvageref10_Has.ev e_4), br h_5, pk (rfl : false = false), au, ca [] (selvageref10_Has.ev e_11), br h_12, pk (rfl : true = true), pk (rfl : false = false)] rfl (by kernel_rfl)
    · have H := ibF h_12 H
      obtain rfl := Option.some.inj H
      exact selvageref14_Uses.F.run tb mixed [ca [] (selvageref10_Has.ev e_4), br h_5, pk (rfl : false = false), au, ca [] (selvageref10_Has.ev e_11), br h_12, pk (rfl : false = false), pk (rfl : false = false)] rfl (by kernel_rfl)
end Go.Proofs.Ytgjibbicplbgbaa
set_option maxRecDepth 100000
namespace Go.Proofs.Ytgjibbicplbgbaa
open Go Go.RowKit Go.Proofs Go.Proofs.Ytgjibbicplbgbaa.X
open Go.Proofs.Ytgjibbicplbgbaa.B (wr sb feq fls qf flt i2f aget aset isnan isnan_flt)
noncomputable def selvageref14_Span.F : FI Try.prog 11 := ⟨Try.f11, 53, (Try.f11.body.getD .skip), Try.f11.results.toList, Try.call11, Try.func11, by kernel_rfl, by kernel_rfl, by kernel_rfl⟩
def selvageref14_Span.l2 (a_1 : List api_Ins) (a_2 : Int) (s_24 : Int × Int) : Option ((Int × Int) ⊕ Int) :=
  if s_24.2 < (a_1.length : Int) then (if 0 ≤ s_24.2 ∧ s_24.2 < (a_1.length : Int) then (letC (gi a_1 s_24.2) fun v_30 => (selvageref14_Uses.m v_30 a_2).bind fun r_31 => if r_31 = true then (if s_24.2 > s_24.1 then (letC (wr .i64 (s_24.2 + (1 : Int))) fun v_35 => some (Sum.inl (s_24.2, v_35))) else (letC (wr .i64 (s_24.2 + (1 : Int))) fun v_36 => some (Sum.inl (s_24.1, v_36)))) else (letC (wr .i64 (s_24.2 + (1 : Int))) fun v_37 => some (Sum.inl (s_24.1, v_37)))) else none) else (some (Sum.inr s_24.1))
def selvageref14_Span.l1 (a_1 : List api_Ins) (a_2 : Int) (s_5 : Int) : Option (Int ⊕ ((Int × Int) ⊕ Unit)) :=
  if s_5 < (a_1.length : Int) then ((if 0 ≤ s_5 ∧ s_5 < (a_1.length : Int) then (letC (gi a_1 s_5) fun v_16 => (selvageref10_Has.m v_16.Op 100).bind fun r_17 => if r_17 = true then (letC (gi a_1 s_5) fun v_20 => some ((!(decide (v_20.D = a_2))) : Bool)) else (some (true : Bool))) else none : Option Bool).bind fun o_12 => if o_12 = true then (some (Sum.inl (wr .i64 (s_5 + (1 : Int))))) else ((B.loop (selvageref14_Span.l2 a_1 a_2) ((s_5, 0) : Int × Int)).bind fun o_25 => some (Sum.inr (Sum.inl (s_5, o_25))))) else (some (Sum.inr (Sum.inr ())))
def selvageref14_Span.m (a_1 : List api_Ins) (a_2 : Int) : Option (Int × Int × Bool) :=
  (B.loop (selvageref14_Span.l1 a_1 a_2) (0 : Int)).bind fun o_6 => match o_6 with | Sum.inl s_9 => (some (s_9.1, s_9.2, true)) | Sum.inr (s_10) => (some (0, 0, false))
noncomputable def selvageref14_Span.o (a_1 : List api_Ins) (a_2 : Int) (r : Int × Int × Bool) : Out := .ret (.tup [.v (.int .i64 r.1), .v (.int .i64 r.2.1), .v (.bool r.2.2)]) [] []
theorem selvageref14_Span.ev {a_1 : List api_Ins} {a_2 : Int} {r : Int × Int × Bool} (H : selvageref14_Span.m a_1 a_2 = some r) : Ev Try.prog 11 [.ro false 8 a_1.length (a_1.map api_Ins.c), .v (.int .i64 a_2)] [] [] (selvageref14_Span.o a_1 a_2 r) := by
  unfold selvageref14_Span.m at H
  obtain ⟨o_6, e_7, H⟩ := bdE H
  have j_8 := Runs.loop (P := Try.prog) (N := selvageref14_Span.F.N) (m0 := 0) (c := sub_ selvageref14_Span.F.c [1, 0, 1, 0, 0]) (f := (selvageref14_Span.l1 a_1 a_2)) (St := fun s_5 => ⟨[(0, .ro false 8 a_1.length (a_1.map api_Ins.c)), (1, .v (.int .i64 a_2)), (7, .v (.int .i64 s_5))], [], []⟩) (xo := (fun o => match o with | Sum.inl _ => .ret | Sum.inr (_) => (.exit 0) : ((Int × Int) ⊕ Unit) → Ex)) (So := (fun o => match o with | Sum.inl s_9 => ⟨[(4, .v (.int .i64 s_9.1)), (5, .v (.int .i64 s_9.2)), (6, .v (.bool true))], [], []⟩ | Sum.inr (s_10) => ⟨[], [], []⟩ : ((Int × Int) ⊕ Unit) → ASt)) (by intro o; rcases o with _ | _ <;> simp) (fun s_5 z H => by
    unfold selvageref14_Span.l1 at H
    rcases b2 (decide (s_5 < (a_1.length : Int))) with h_11 | h_11
    · have H := itT h_11 H
      obtain ⟨o_12, e_13, H⟩ := bdE H
      have j_14 : Runs Try.prog selvageref14_Span.F.N 0 (sub_ selvageref14_Span.F.c [1, 0, 1, 0, 0, 1, 0, 0, 0, 0]) ⟨[(0, .ro false 8 a_1.length (a_1.map api_Ins.c)), (1, .v (.int .i64 a_2)), (7, .v (.int .i64 s_5))], [], []⟩ ((fun _ => .normal : Bool → Ex) o_12) ((fun o_12 => ⟨[(0, .ro false 8 a_1.length (a_1.map api_Ins.c)), (1, .v (.int .i64 a_2)), (7, .v (.int .i64 s_5)), (31, .v (.bool o_12))], [], []⟩ : Bool → ASt) o_12) := by
        clear H
        have H := e_13
        clear e_13
        obtain ⟨g_15, H⟩ := gdE H
        let v_16 : api_Ins := gi a_1 s_5
        replace H := ltD H
        obtain ⟨r_17, e_18, H⟩ := bdE H
        rcases b2 r_17 with h_19 | h_19
        · have H := ibT h_19 H
          let v_20 : api_Ins := gi a_1 s_5
          replace H := ltD H
          obtain rfl := Option.some.inj H
          exact Runs.fin (T := tb) mixed [ix api_Ins.c g_15, ca [] (selvageref10_Has.ev e_18), bn h_19, ix api_Ins.c g_15, pk (rfl : false = false)] (by kernel_rfl)
        · have H := ibF h_19 H
          obtain rfl := Option.some.inj H
          exact Runs.fin (T := tb) mixed [ix api_Ins.c g_15, ca [] (selvageref10_Has.ev e_18), bn h_19, pk (rfl : true = true)] (by kernel_rfl)
      rcases b2 o_12 with h_21 | h_21
      · have H := ibT h_21 H
        obtain rfl := Option.some.inj H
        exact Runs.fin (T := tb) mixed [br h_11, sg_ 4 j_14, br h_21] (by kernel_rfl)
      · have H := ibF h_21 H
        obtain ⟨o_25, e_26, H⟩ := bdE H
        have j_27 := Runs.loop (P := Try.prog) (N := selvageref14_Span.F.N) (m0 := 0) (c := sub_ selvageref14_Span.F.c [1, 0, 1, 0, 0, 1, 0, 0, 1, 1, 0, 1, 0, 0]) (f := (selvageref14_Span.l2 a_1 a_2)) (St := fun s_24 => ⟨[(0, .ro false 8 a_1.length (a_1.map api_Ins.c)), (1, .v (.int .i64 a_2)), (7, .v (.int .i64 s_5)), (8, .v (.int .i64 s_24.1)), (9, .v (.int .i64 s_24.2))], [], []⟩) (xo := (fun _ => (.exit 2) : Int → Ex)) (So := (fun o_25 => ⟨[(7, .v (.int .i64 s_5)), (8, .v (.int .i64 o_25))], [], []⟩ : Int → ASt)) (by intro o; simp) (fun s_24 z H => by
          unfold selvageref14_Span.l2 at H
          rcases b2 (decide (s_24.2 < (a_1.length : Int))) with h_28 | h_28
          · have H := itT h_28 H
            obtain ⟨g_29, H⟩ := gdE H
            let v_30 : api_Ins := gi a_1 s_24.2
            replace H := ltD H
            obtain ⟨r_31, e_32, H⟩ := bdE H
            rcases b2 r_31 with h_33 | h_33
            · have H := ibT h_33 H
              rcases b2 (decide (s_24.2 > s_24.1)) with h_34 | h_34
              · have H := itT h_34 H
                let v_35 : Int := wr .i64 (s_24.2 + (1 : Int))
                replace H := ltD H
                obtain rfl := Option.some.inj H
                exact Runs.fin (T := tb) mixed [br h_28, ix api_Ins.c g_29, ca [] (selvageref14_Uses.ev e_32), br h_33, pk (rfl : true = true), br h_34] (by kernel_rfl)
              · have H := itF h_34 H
                let v_36 : Int := wr .i64 (s_24.2 + (1 : Int))
                replace H := ltD H
                obtain rfl := Option.some.inj H
                exact Runs.fin (T := tb) mixed [br h_28, ix api_Ins.c g_29, ca [] (selvageref14_Uses.ev e_32), br h_33, pk (rfl : true = true), br h_34] (by kernel_rfl)
            · have H := ibF h_33 H
              let v_37 : Int := wr .i64 (s_24.2 + (1 : Int))
              replace H := ltD H
              obtain rfl := Option.some.inj H
              exact Runs.fin (T := tb) mixed [br h_28, ix api_Ins.c g_29, ca [] (selvageref14_Uses.ev e_32), br h_33, pk (rfl : false = false), au] (by kernel_rfl)
          · have H := itF h_28 H
            obtain rfl := Option.some.inj H
            exact Runs.fin (T := tb) mixed [br h_28] (by kernel_rfl)) e_26
        obtain rfl := Option.some.inj H
        exact Runs.fin (T := tb) mixed [br h_11, sg_ 4 j_14, br h_21, su j_27] (by kernel_rfl)
    · have H := itF h_11 H
      obtain rfl := Option.some.inj H
      exact Runs.fin (T := tb) mixed [br h_11] (by kernel_rfl)) e_7
  rcases o_6 with s_9 | s_10
  · obtain rfl := Option.some.inj H
    exact selvageref14_Span.F.run tb mixed [su j_8] rfl (by kernel_rfl)
  · obtain rfl := Option.some.inj H
    exact selvageref14_Span.F.run tb mixed [su j_8] rfl (by kernel_rfl)
end Go.Proofs.Ytgjibbicplbgbaa
set_option maxRecDepth 100000
namespace Go.Proofs.Ytgjibbicplbgbaa
open Go Go.RowKit Go.Proofs Go.Proofs.Ytgjibbicplbgbaa.X
open Go.Proofs.Ytgjibbicplbgbaa.B (wr sb feq fls qf flt i2f aget aset isnan isnan_flt)
noncomputable def selvageref10_field.F : FI Try.prog 46 := ⟨Try.f46, 14, (Try.f46.body.getD .skip), Try.f46.results.toList, Try.call46, Try.func46, by kernel_rfl, by kernel_rfl, by kernel_rfl⟩
def selvageref10_field.m (a_1 : Bool) (a_2 : Int) : Bool :=
  if a_1 = true then (if a_2 ≥ (0 : Int) then ((decide (a_2 ≤ (399 : Int)))) else (false)) else ((decide (a_2 = (0 : Int))))
noncomputable def selvageref10_field.o (a_1 : Bool) (a_2 : Int) (r : Bool) : Out := .ret (.v (.bool r)) [] []
theorem selvageref10_field.ev {a_1 : Bool} {a_2 : Int} {r : Bool} (H : selvageref10_field.m a_1 a_2 = r) : Ev Try.prog 46 [.v (.bool a_1), .v (.int .i64 a_2)] [] [] (selvageref10_field.o a_1 a_2 r) := by
  unfold selvageref10_field.m at H
  rcases b2 a_1 with h_3 | h_3
  · have H := ibT h_3 H
    rcases b2 (decide (a_2 ≥ (0 : Int))) with h_4 | h_4
    · have H := itT h_4 H
      subst H
      exact selvageref10_field.F.run tb mixed [br h_3, br h_4, pk (rfl : true = true)] rfl (by kernel_rfl)
    · have H := itF h_4 H
      subst H
      exact selvageref10_field.F.run tb mixed [br h_3, br h_4, pk (rfl : false = false)] rfl (by kernel_rfl)
  · have H := ibF h_3 H
    subst H
    exact selvageref10_field.F.run tb mixed [br h_3] rfl (by kernel_rfl)
end Go.Proofs.Ytgjibbicplbgbaa
set_option maxRecDepth 100000
namespace Go.Proofs.Ytgjibbicplbgbaa
open Go Go.RowKit Go.Proofs Go.Proofs.Ytgjibbicplbgbaa.X
open Go.Proofs.Ytgjibbicplbgbaa.B (wr sb feq fls qf flt i2f aget aset isnan isnan_flt)
noncomputable def selvageref10_plain.F : FI Try.prog 29 := ⟨Try.f29, 155, (Try.f29.body.getD .skip), Try.f29.results.toList, Try.call29, Try.func29, by kernel_rfl, by kernel_rfl, by kernel_rfl⟩
def selvageref10_plain.l1 (a_4 : List api_Loc) (r_43 : Bool) (o_65 : Int) (s_72 : Int) : Option (Int ⊕ (Unit ⊕ Unit)) :=
  if s_72 ≤ o_65 then (if s_72 ≥ (a_4.length : Int) then (some (Sum.inr (Sum.inl ()))) else (if 0 ≤ s_72 ∧ s_72 < (a_4.length : Int) then (letC (gi a_4 s_72) fun v_81 => if (v_81.Atomic == r_43) = true then (some (Sum.inl (wr .i64 (s_72 + (1 : Int))))) else (some (Sum.inr (Sum.inl ())))) else none)) else (some (Sum.inr (Sum.inr ())))
def selvageref10_plain.m (a_1 : api_Ins) (a_2 : Int) (a_3 : Int) (a_4 : List api_Loc) : Option (Bool) :=
  (letC (selvageref10_letters.m a_1.Op) fun r_8 => if (r_8.toList == (⟨#[]⟩ : ByteArray).toList) = true then (some (true : Bool)) else ((selvageref10_Has.m a_1.Op 100).bind fun r_11 => letC (selvageref10_field.m r_11 a_1.D) fun r_13 => if r_13 = true then ((selvageref10_Has.m a_1.Op 97).bind fun r_16 => letC (selvageref10_field.m r_16 a_1.A) fun r_18 => if r_18 = true then ((selvageref10_Has.m a_1.Op 98).bind fun r_21 => letC (selvageref10_field.m r_21 a_1.B) fun r_23 => if r_23 = true then (if a_1.K = (0 : Int) then (some (false : Bool)) else ((selvageref10_Has.m a_1.Op 107).bind fun r_27 => some ((!r_27) : Bool))) else (some (true : Bool))) else (some (true : Bool))) else (some (true : Bool))) : Option Bool).bind fun o_5 => if o_5 = true then (some false) else ((selvageref10_Has.m a_1.Op 116).bind fun r_30 => (if r_30 = true then (if a_1.To ≤ (wr .i64 (a_2 + (1 : Int))) then (some (Sum.inl () : Unit ⊕ Unit)) else (if a_1.To > (wr .i64 (a_3 - (1 : Int))) then (some (Sum.inl () : Unit ⊕ Unit)) else (some (Sum.inr () : Unit ⊕ Unit)))) else (if a_1.To = (0 : Int) then (some (Sum.inr () : Unit ⊕ Unit)) else (some (Sum.inl () : Unit ⊕ Unit))) : Option (Unit ⊕ Unit)).bind fun o_32 => match o_32 with | Sum.inl s_39 => (some false) | Sum.inr (s_40) => ((selvageref10_Has.m a_1.Op 108).bind fun r_41 => (selvageref10_Has.m a_1.Op 109).bind fun r_43 => (selvageref10_Has.m a_1.Op 114).bind fun r_45 => (if r_45 = true then (if a_1.Len < (1 : Int) then (some (true : Bool)) else (some ((decide (a_1.Len > (16 : Int))) : Bool))) else (if a_1.Len = (0 : Int) then (some (false : Bool)) else (some (true : Bool))) : Option Bool).bind fun o_47 => if o_47 = true then (some false) else ((if r_41 = true then (some (false : Bool)) else (if r_43 = true then (some (false : Bool)) else (some ((!r_45) : Bool))) : Option Bool).bind fun o_54 => if o_54 = true then (some (decide (a_1.Loc = (0 : Int)))) else ((if a_1.Loc < (0 : Int) then (some (true : Bool)) else (some ((decide (a_1.Loc ≥ (a_4.length : Int))) : Bool)) : Option Bool).bind fun o_60 => if o_60 = true then (some false) else ((if r_45 = true then (letC (wr .i64 (a_1.Loc + a_1.Len)) fun v_69 => some ((wr .i64 (v_69 - (1 : Int))) : Int)) else (some (a_1.Loc : Int)) : Option Int).bind fun o_65 => (B.loop (selvageref10_plain.l1 a_4 r_43 o_65) (a_1.Loc : Int)).bind fun o_73 => match o_73 with | Sum.inl s_76 => (some false) | Sum.inr (s_77) => (some true))))))
noncomputable def selvageref10_plain.o (a_1 : api_Ins) (a_2 : Int) (a_3 : Int) (a_4 : List api_Loc) (r : Bool) : Out := .ret (.v (.bool r)) [] []
theorem selvageref10_plain.ev {a_1 : api_Ins} {a_2 : Int} {a_3 : Int} {a_4 : List api_Loc} {r : Bool} (H : selvageref10_plain.m a_1 a_2 a_3 a_4 = some r) : Ev Try.prog 29 [.agg (api_Ins.c a_1), .v (.int .i64 a_2), .v (.int .i64 a_3), .ro false 2 a_4.length (a_4.map api_Loc.c)] [] [] (selvageref10_plain.o a_1 a_2 a_3 a_4 r) := by
  unfold selvageref10_plain.m at H
  obtain ⟨o_5, e_6, H⟩ := bdE H
  have j_7 : Runs Try.prog selvageref10_plain.F.N 0 (sub_ selvageref10_plain.F.c [1, 0, 0]) ⟨[(1, .v (.int .i64 a_2)), (2, .v (.int .i64 a_3)), (3, .ro false 2 a_4.length (a_4.map api_Loc.c)), (4, .ref 0 0)], [.box (api_Ins.c a_1)], []⟩ ((fun _ => .normal : Bool → Ex) o_5) ((fun o_5 => ⟨[(1, .v (.int .i64 a_2)), (2, .v (.int .i64 a_3)), (3, .ro false 2 a_4.length (a_4.map api_Loc.c)), (4, .ref 0 0), (55, .v (.bool o_5))], [.box (api_Ins.c a_1)], []⟩ : Bool → ASt) o_5) := by
    clear H
    have H := e_6
    clear e_6
    obtain ⟨r_8, e_9, H⟩ := ltE H
    rcases b2 (r_8.toList == (⟨#[]⟩ : ByteArray).toList) with h_10 | h_10
    · have H := ibT h_10 H
      obtain rfl := Option.some.inj H
      exact Runs.fin (T := tb) mixed [ca [] (selvageref10_letters.ev e_9), br h_10, pk (rfl : true = true), au, pk (rfl : true = true), au, pk (rfl : true = true), au, pk (rfl : true = true)] (by kernel_rfl)
    · have H := ibF h_10 H
      obtain ⟨r_11, e_12, H⟩ := bdE H
      obtain ⟨r_13, e_14, H⟩ := ltE H
      rcases b2 r_13 with h_15 | h_15
      · have H := ibT h_15 H
        obtain ⟨r_16, e_17, H⟩ := bdE H
        obtain ⟨r_18, e_19, H⟩ := ltE H
        rcases b2 r_18 with h_20 | h_20
        · have H := ibT h_20 H
          obtain ⟨r_21, e_22, H⟩ := bdE H
          obtain ⟨r_23, e_24, H⟩ := ltE H
          rcases b2 r_23 with h_25 | h_25
          · have H := ibT h_25 H
            rcases b2 (decide (a_1.K = (0 : Int))) with h_26 | h_26
            · have H := itT h_26 H
              obtain rfl := Option.some.inj H
              exact Runs.fin (T := tb) mixed [ca [] (selvageref10_letters.ev e_9), br h_10, ca [] (selvageref10_Has.ev e_12), ca [] (selvageref10_field.ev e_14), pk (rfl : false = false), bn h_15, ca [] (selvageref10_Has.ev e_17), ca [] (selvageref10_field.ev e_19), pk (rfl : false = false), bn h_20, ca [] (selvageref10_Has.ev e_22), ca [] (selvageref10_field.ev e_24), pk (rfl : false = false), bn h_25, bn h_26, pk (rfl : false = false), pk (rfl : false = false)] (by kernel_rfl)
            · have H := itF h_26 H
              obtain ⟨r_27, e_28, H⟩ := bdE H
              obtain rfl := Option.some.inj H
              exact Runs.fin (T := tb) mixed [ca [] (selvageref10_letters.ev e_9), br h_10, ca [] (selvageref10_Has.ev e_12), ca [] (selvageref10_field.ev e_14), pk (rfl : false = false), bn h_15, ca [] (selvageref10_Has.ev e_17), ca [] (selvageref10_field.ev e_19), pk (rfl : false = false), bn h_20, ca [] (selvageref10_Has.ev e_22), ca [] (selvageref10_field.ev e_24), pk (rfl : false = false), bn h_25, bn h_26, ca [] (selvageref10_Has.ev e_28), pk (rfl : true = true), pk (rfl : false = false)] (by kernel_rfl)
          · have H := ibF h_25 H
            obtain rfl := Option.some.inj H
            exact Runs.fin (T := tb) mixed [ca [] (selvageref10_letters.ev e_9), br h_10, ca [] (selvageref10_Has.ev e_12), ca [] (selvageref10_field.ev e_14), pk (rfl : false = false), bn h_15, ca [] (selvageref10_Has.ev e_17), ca [] (selvageref10_field.ev e_19), pk (rfl : false = false), bn h_20, ca [] (selvageref10_Has.ev e_22), ca [] (selvageref10_field.ev e_24), pk (rfl : false = false), bn h_25, pk (rfl : true = true)] (by kernel_rfl)
        · have H := ibF h_20 H
          obtain rfl := Option.some.inj H
          exact Runs.fin (T := tb) mixed [ca [] (selvageref10_letters.ev e_9), br h_10, ca [] (selvageref10_Has.ev e_12), ca [] (selvageref10_field.ev e_14), pk (rfl : false = false), bn h_15, ca [] (selvageref10_Has.ev e_17), ca [] (selvageref10_field.ev e_19), pk (rfl : false = false), bn h_20, pk (rfl : true = true), au, pk (rfl : true = true)] (by kernel_rfl)
      · have H := ibF h_15 H
        obtain rfl := Option.some.inj H
        exact Runs.fin (T := tb) mixed [ca [] (selvageref10_letters.ev e_9), br h_10, ca [] (selvageref10_Has.ev e_12), ca [] (selvageref10_field.ev e_14), pk (rfl : false = false), bn h_15, pk (rfl : true = true), au, pk (rfl : true = true), au, pk (rfl : true = true)] (by kernel_rfl)
  rcases b2 o_5 with h_29 | h_29
  · have H := ibT h_29 H
    obtain rfl := Option.some.inj H
    exact selvageref10_plain.F.run tb mixed [sg_ 1 j_7, br h_29] rfl (by kernel_rfl)
  · have H := ibF h_29 H
    obtain ⟨r_30, e_31, H⟩ := bdE H
    obtain ⟨o_32, e_33, H⟩ := bdE H
    have j_34 : Runs Try.prog selvageref10_plain.F.N 0 (sub_ selvageref10_plain.F.c [1, 1, 0, 1]) ⟨[(1, .v (.int .i64 a_2)), (2, .v (.int .i64 a_3)), (3, .ro false 2 a_4.length (a_4.map api_Loc.c)), (4, .ref 0 0), (58, .v (.bool r_30))], [.box (api_Ins.c a_1)], []⟩ ((fun o => match o with | Sum.inl _ => .ret | Sum.inr (_) => .normal : (Unit ⊕ Unit) → Ex) o_32) ((fun o => match o with | Sum.inl s_39 => ⟨[(8, .v (.bool false))], [], []⟩ | Sum.inr (s_40) => ⟨[(3, .ro false 2 a_4.length (a_4.map api_Loc.c)), (4, .ref 0 0)], [.box (api_Ins.c a_1)], []⟩ : (Unit ⊕ Unit) → ASt) o_32) := by
      clear H
      have H := e_33
      clear e_33
      rcases b2 r_30 with h_35 | h_35
      · have H := ibT h_35 H
        rcases b2 (decide (a_1.To ≤ (wr .i64 (a_2 + (1 : Int))))) with h_36 | h_36
        · have H := itT h_36 H
          obtain rfl := Option.some.inj H
          exact Runs.fin (T := tb) mixed [br h_35, br h_36, pk (rfl : true = true), au] (by kernel_rfl)
        · have H := itF h_36 H
          rcases b2 (decide (a_1.To > (wr .i64 (a_3 - (1 : Int))))) with h_37 | h_37
          · have H := itT h_37 H
            obtain rfl := Option.some.inj H
            exact Runs.fin (T := tb) mixed [br h_35, br h_36, pk (rfl : false = false), br h_37] (by kernel_rfl)
          · have H := itF h_37 H
            obtain rfl := Option.some.inj H
            exact Runs.fin (T := tb) mixed [br h_35, br h_36, pk (rfl : false = false), br h_37] (by kernel_rfl)
      · have H := ibF h_35 H
        rcases b2 (decide (a_1.To = (0 : Int))) with h_38 | h_38
        · have H := itT h_38 H
          obtain rfl := Option.some.inj H
          exact Runs.fin (T := tb) mixed [br h_35, bn h_38] (by kernel_rfl)
        · have H := itF h_38 H
          obtain rfl := Option.some.inj H
          exact Runs.fin (T := tb) mixed [br h_35, bn h_38] (by kernel_rfl)
    rcases o_32 with s_39 | s_40
    · obtain rfl := Option.some.inj H
      exact selvageref10_plain.F.run tb mixed [sg_ 1 j_7, br h_29, ca [] (selvageref10_Has.ev e_31), sc_ j_34] rfl (by kernel_rfl)
    · obtain ⟨r_41, e_42, H⟩ := bdE H
      obtain ⟨r_43, e_44, H⟩ := bdE H
      obtain ⟨r_45, e_46, H⟩ := bdE H
      obtain ⟨o_47, e_48, H⟩ := bdE H
      have j_49 : Runs Try.prog selvageref10_plain.F.N 0 (sub_ selvageref10_plain.F.c [1, 1, 1, 1, 0, 0]) ⟨[(3, .ro false 2 a_4.length (a_4.map api_Loc.c)), (4, .ref 0 0), (9, .v (.bool r_41)), (10, .v (.bool r_43)), (11, .v (.bool r_45))], [.box (api_Ins.c a_1)], []⟩ ((fun _ => .normal : Bool → Ex) o_47) ((fun o_47 => ⟨[(3, .ro false 2 a_4.length (a_4.map api_Loc.c)), (4, .ref 0 0), (9, .v (.bool r_41)), (10, .v (.bool r_43)), (11, .v (.bool r_45)), (102, .v (.bool o_47))], [.box (api_Ins.c a_1)], []⟩ : Bool → ASt) o_47) := by
        clear H
        have H := e_48
        clear e_48
        rcases b2 r_45 with h_50 | h_50
        · have H := ibT h_50 H
          rcases b2 (decide (a_1.Len < (1 : Int))) with h_51 | h_51
          · have H := itT h_51 H
            obtain rfl := Option.some.inj H
            exact Runs.fin (T := tb) mixed [bn h_50, pk (rfl : false = false), au, br h_50, br h_51, pk (rfl : true = true), pk (rfl : true = true), pk (rfl : false = false)] (by kernel_rfl)
          · have H := itF h_51 H
            obtain rfl := Option.some.inj H
            exact Runs.fin (T := tb) mixed [bn h_50, pk (rfl : false = false), au, br h_50, br h_51, pk (rfl : false = false), pk (rfl : true = true), pk (rfl : false = false)] (by kernel_rfl)
        · have H := ibF h_50 H
          rcases b2 (decide (a_1.Len = (0 : Int))) with h_52 | h_52
          · have H := itT h_52 H
            obtain rfl := Option.some.inj H
            exact Runs.fin (T := tb) mixed [bn h_50, pk (rfl : true = true), bn h_52, br h_50, pk (rfl : false = false), pk (rfl : false = false)] (by kernel_rfl)
          · have H := itF h_52 H
            obtain rfl := Option.some.inj H
            exact Runs.fin (T := tb) mixed [bn h_50, pk (rfl : true = true), bn h_52, pk (rfl : true = true)] (by kernel_rfl)
      rcases b2 o_47 with h_53 | h_53
      · have H := ibT h_53 H
        obtain rfl := Option.some.inj H
        exact selvageref10_plain.F.run tb mixed [sg_ 1 j_7, br h_29, ca [] (selvageref10_Has.ev e_31), sc_ j_34, ca [] (selvageref10_Has.ev e_42), ca [] (selvageref10_Has.ev e_44), ca [] (selvageref10_Has.ev e_46), sg_ 9 j_49, br h_53] rfl (by kernel_rfl)
      · have H := ibF h_53 H
        obtain ⟨o_54, e_55, H⟩ := bdE H
        have j_56 : Runs Try.prog selvageref10_plain.F.N 0 (sub_ selvageref10_plain.F.c [1, 1, 1, 1, 1, 0, 0]) ⟨[(3, .ro false 2 a_4.length (a_4.map api_Loc.c)), (4, .ref 0 0), (9, .v (.bool r_41)), (10, .v (.bool r_43)), (11, .v (.bool r_45))], [.box (api_Ins.c a_1)], []⟩ ((fun _ => .normal : Bool → Ex) o_54) ((fun o_54 => ⟨[(3, .ro false 2 a_4.length (a_4.map api_Loc.c)), (4, .ref 0 0), (10, .v (.bool r_43)), (11, .v (.bool r_45)), (112, .v (.bool o_54))], [.box (api_Ins.c a_1)], []⟩ : Bool → ASt) o_54) := by
          clear H
          have H := e_55
          clear e_55
          rcases b2 r_41 with h_57 | h_57
          · have H := ibT h_57 H
            obtain rfl := Option.some.inj H
            exact Runs.fin (T := tb) mixed [bn h_57, pk (rfl : false = false), au, pk (rfl : false = false)] (by kernel_rfl)
          · have H := ibF h_57 H
            rcases b2 r_43 with h_58 | h_58
            · have H := ibT h_58 H
              obtain rfl := Option.some.inj H
              exact Runs.fin (T := tb) mixed [bn h_57, pk (rfl : true = true), bn h_58, pk (rfl : false = false)] (by kernel_rfl)
            · have H := ibF h_58 H
              obtain rfl := Option.some.inj H
              exact Runs.fin (T := tb) mixed [bn h_57, pk (rfl : true = true), bn h_58, pk (rfl : true = true)] (by kernel_rfl)
        rcases b2 o_54 with h_59 | h_59
        · have H := ibT h_59 H
          obtain rfl := Option.some.inj H
          exact selvageref10_plain.F.run tb mixed [sg_ 1 j_7, br h_29, ca [] (selvageref10_Has.ev e_31), sc_ j_34, ca [] (selvageref10_Has.ev e_42), ca [] (selvageref10_Has.ev e_44), ca [] (selvageref10_Has.ev e_46), sg_ 9 j_49, br h_53, sg_ 11 j_56, br h_59] rfl (by kernel_rfl)
        · have H := ibF h_59 H
          obtain ⟨o_60, e_61, H⟩ := bdE H
          have j_62 : Runs Try.prog selvageref10_plain.F.N 0 (sub_ selvageref10_plain.F.c [1, 1, 1, 1, 1, 1, 0, 0]) ⟨[(3, .ro false 2 a_4.length (a_4.map api_Loc.c)), (4, .ref 0 0), (10, .v (.bool r_43)), (11, .v (.bool r_45))], [.box (api_Ins.c a_1)], []⟩ ((fun _ => .normal : Bool → Ex) o_60) ((fun o_60 => ⟨[(3, .ro false 2 a_4.length (a_4.map api_Loc.c)), (4, .ref 0 0), (10, .v (.bool r_43)), (11, .v (.bool r_45)), (125, .v (.bool o_60))], [.box (api_Ins.c a_1)], []⟩ : Bool → ASt) o_60) := by
            clear H
            have H := e_61
            clear e_61
            rcases b2 (decide (a_1.Loc < (0 : Int))) with h_63 | h_63
            · have H := itT h_63 H
              obtain rfl := Option.some.inj H
              exact Runs.fin (T := tb) mixed [br h_63, pk (rfl : true = true)] (by kernel_rfl)
            · have H := itF h_63 H
              obtain rfl := Option.some.inj H
              exact Runs.fin (T := tb) mixed [br h_63, pk (rfl : false = false)] (by kernel_rfl)
          rcases b2 o_60 with h_64 | h_64
          · have H := ibT h_64 H
            obtain rfl := Option.some.inj H
            exact selvageref10_plain.F.run tb mixed [sg_ 1 j_7, br h_29, ca [] (selvageref10_Has.ev e_31), sc_ j_34, ca [] (selvageref10_Has.ev e_42), ca [] (selvageref10_Has.ev e_44), ca [] (selvageref10_Has.ev e_46), sg_ 9 j_49, br h_53, sg_ 11 j_56, br h_59, sg_ 13 j_62, br h_64] rfl (by kernel_rfl)
          · have H := ibF h_64 H
            obtain ⟨o_65, e_66, H⟩ := bdE H
            have j_67 : Runs Try.prog selvageref10_plain.F.N 0 (sub_ selvageref10_plain.F.c [1, 1, 1, 1, 1, 1, 1, 1, 0, 1]) ⟨[(3, .ro false 2 a_4.length (a_4.map api_Loc.c)), (4, .ref 0 0), (10, .v (.bool r_43)), (12, .v (.int .i64 a_1.Loc)), (128, .v (.bool r_45))], [.box (api_Ins.c a_1)], []⟩ ((fun _ => .normal : Int → Ex) o_65) ((fun o_65 => ⟨[(3, .ro false 2 a_4.length (a_4.map api_Loc.c)), (4, .ref 0 0), (10, .v (.bool r_43)), (12, .v (.int .i64 o_65))], [.box (api_Ins.c a_1)], []⟩ : Int → ASt) o_65) := by
              clear H
              have H := e_66
              clear e_66
              rcases b2 r_45 with h_68 | h_68
              · have H := ibT h_68 H
                let v_69 : Int := wr .i64 (a_1.Loc + a_1.Len)
                replace H := ltD H
                obtain rfl := Option.some.inj H
                exact Runs.fin (T := tb) mixed [br h_68] (by kernel_rfl)
              · have H := ibF h_68 H
                obtain rfl := Option.some.inj H
                exact Runs.fin (T := tb) mixed [br h_68] (by kernel_rfl)
            obtain ⟨o_73, e_74, H⟩ := bdE H
            have j_75 := Runs.loop (P := Try.prog) (N := selvageref10_plain.F.N) (m0 := 0) (c := sub_ selvageref10_plain.F.c [1, 1, 1, 1, 1, 1, 1, 1, 1, 0, 1, 0, 0]) (f := (selvageref10_plain.l1 a_4 r_43 o_65)) (St := fun s_72 => ⟨[(3, .ro false 2 a_4.length (a_4.map api_Loc.c)), (10, .v (.bool r_43)), (12, .v (.int .i64 o_65)), (13, .v (.int .i64 s_72))], [], []⟩) (xo := (fun o => match o with | Sum.inl _ => .ret | Sum.inr (_) => (.exit 0) : (Unit ⊕ Unit) → Ex)) (So := (fun o => match o with | Sum.inl s_76 => ⟨[(8, .v (.bool false))], [], []⟩ | Sum.inr (s_77) => ⟨[], [], []⟩ : (Unit ⊕ Unit) → ASt)) (by intro o; rcases o with _ | _ <;> simp) (fun s_72 z H => by
              unfold selvageref10_plain.l1 at H
              rcases b2 (decide (s_72 ≤ o_65)) with h_78 | h_78
              · have H := itT h_78 H
                rcases b2 (decide (s_72 ≥ (a_4.length : Int))) with h_79 | h_79
                · have H := itT h_79 H
                  obtain rfl := Option.some.inj H
                  exact Runs.fin (T := tb) mixed [br h_78, br h_79, pk (rfl : true = true), au] (by kernel_rfl)
                · have H := itF h_79 H
                  obtain ⟨g_80, H⟩ := gdE H
                  let v_81 : api_Loc := gi a_4 s_72
                  replace H := ltD H
                  rcases b2 (v_81.Atomic == r_43) with h_82 | h_82
                  · have H := ibT h_82 H
                    obtain rfl := Option.some.inj H
                    exact Runs.fin (T := tb) mixed [br h_78, br h_79, ix api_Loc.c g_80, pk (rfl : false = false), bn h_82] (by kernel_rfl)
                  · have H := ibF h_82 H
                    obtain rfl := Option.some.inj H
                    exact Runs.fin (T := tb) mixed [br h_78, br h_79, ix api_Loc.c g_80, pk (rfl : false = false), bn h_82] (by kernel_rfl)
              · have H := itF h_78 H
                obtain rfl := Option.some.inj H
                exact Runs.fin (T := tb) mixed [br h_78] (by kernel_rfl)) e_74
            rcases o_73 with s_76 | s_77
            · obtain rfl := Option.some.inj H
              exact selvageref10_plain.F.run tb mixed [sg_ 1 j_7, br h_29, ca [] (selvageref10_Has.ev e_31), sc_ j_34, ca [] (selvageref10_Has.ev e_42), ca [] (selvageref10_Has.ev e_44), ca [] (selvageref10_Has.ev e_46), sg_ 9 j_49, br h_53, sg_ 11 j_56, br h_59, sg_ 13 j_62, br h_64, sc_ j_67, su j_75] rfl (by kernel_rfl)
            · obtain rfl := Option.some.inj H
              exact selvageref10_plain.F.run tb mixed [sg_ 1 j_7, br h_29, ca [] (selvageref10_Has.ev e_31), sc_ j_34, ca [] (selvageref10_Has.ev e_42), ca [] (selvageref10_Has.ev e_44), ca [] (selvageref10_Has.ev e_46), sg_ 9 j_49, br h_53, sg_ 11 j_56, br h_59, sg_ 13 j_62, br h_64, sc_ j_67, su j_75] rfl (by kernel_rfl)
end Go.Proofs.Ytgjibbicplbgbaa
set_option maxRecDepth 100000
namespace Go.Proofs.Ytgjibbicplbgbaa
open Go Go.RowKit Go.Proofs Go.Proofs.Ytgjibbicplbgbaa.X
open Go.Proofs.Ytgjibbicplbgbaa.B (wr sb feq fls qf flt i2f aget aset isnan isnan_flt)
noncomputable def selvageref10_Before.F : FI Try.prog 30 := ⟨Try.f30, 52, (Try.f30.body.getD .skip), Try.f30.results.toList, Try.call30, Try.func30, by kernel_rfl, by kernel_rfl, by kernel_rfl⟩
def selvageref10_Before.l1 (a_1 : List api_Ins) (a_2 : Int) (s_5 : (List Int) × Int) : Option (((List Int) × Int) ⊕ (List Int)) :=
  (if s_5.2 < (a_1.length : Int) then (some ((decide (s_5.2 < a_2)) : Bool)) else (some (false : Bool)) : Option Bool).bind fun o_9 => if o_9 = true then ((if s_5.2 = (wr .i64 (a_2 - (1 : Int))) then (if 0 ≤ s_5.2 ∧ s_5.2 < (a_1.length : Int) then (letC (gi a_1 s_5.2) fun v_19 => if v_19.Op = (18 : Int) then (letC (gi a_1 s_5.2) fun v_21 => (selvageref10_Has.m v_21.Op 116).bind fun r_22 => if r_22 = true then (letC (gi a_1 s_5.2) fun v_25 => some ((decide (v_25.To = a_2)) : Bool)) else (some (false : Bool))) else (some (true : Bool))) else none) else (if 0 ≤ s_5.2 ∧ s_5.2 < (a_1.length : Int) then (letC (gi a_1 s_5.2) fun v_27 => (selvageref10_Has.m v_27.Op 116).bind fun r_28 => if r_28 = true then (letC (gi a_1 s_5.2) fun v_31 => some ((decide (v_31.To = a_2)) : Bool)) else (some (false : Bool))) else none) : Option Bool).bind fun o_14 => if o_14 = true then (if (s_5.1.length + ([s_5.2] : List Int).length) * 8 ≤ 140737488355328 then (letC (s_5.1 ++ ([s_5.2] : List Int)) fun v_34 => letC (wr .i64 (s_5.2 + (1 : Int))) fun v_35 => some (Sum.inl (v_34, v_35))) else none) else (letC (wr .i64 (s_5.2 + (1 : Int))) fun v_36 => some (Sum.inl (s_5.1, v_36)))) else (some (Sum.inr s_5.1))
def selvageref10_Before.m (a_1 : List api_Ins) (a_2 : Int) : Option (List Int) :=
  (B.loop (selvageref10_Before.l1 a_1 a_2) ((([] : List Int), 0) : (List Int) × Int)).bind fun o_6 => some o_6
noncomputable def selvageref10_Before.o (a_1 : List api_Ins) (a_2 : Int) (r : List Int) : Out := .ret (.sl 0 0 r.length 0 r.length) [.arr true 3 1 r.length (r.map (cI .i64))] []
theorem selvageref10_Before.ev {a_1 : List api_Ins} {a_2 : Int} {r : List Int} (H : selvageref10_Before.m a_1 a_2 = some r) : Ev Try.prog 30 [.ro false 8 a_1.length (a_1.map api_Ins.c), .v (.int .i64 a_2)] [] [] (selvageref10_Before.o a_1 a_2 r) := by
  unfold selvageref10_Before.m at H
  obtain ⟨o_6, e_7, H⟩ := bdE H
  have j_8 := Runs.loop (P := Try.prog) (N := selvageref10_Before.F.N) (m0 := 0) (c := sub_ selvageref10_Before.F.c [1, 1, 0, 1, 0, 0]) (f := (selvageref10_Before.l1 a_1 a_2)) (St := fun s_5 => ⟨[(0, .ro false 8 a_1.length (a_1.map api_Ins.c)), (1, .v (.int .i64 a_2)), (5, .sl 0 0 s_5.1.length 0 s_5.1.length), (6, .v (.int .i64 s_5.2))], [.arr true 3 1 s_5.1.length (s_5.1.map (cI .i64))], []⟩) (xo := (fun _ => (.exit 0) : (List Int) → Ex)) (So := (fun o_6 => ⟨[(5, .sl 0 0 o_6.length 0 o_6.length)], [.arr true 3 1 o_6.length (o_6.map (cI .i64))], []⟩ : (List Int) → ASt)) (by intro o; simp) (fun s_5 z H => by
    unfold selvageref10_Before.l1 at H
    obtain ⟨o_9, e_10, H⟩ := bdE H
    have j_11 : Runs Try.prog selvageref10_Before.F.N 0 (sub_ selvageref10_Before.F.c [1, 1, 0, 1, 0, 0, 0, 0]) ⟨[(0, .ro false 8 a_1.length (a_1.map api_Ins.c)), (1, .v (.int .i64 a_2)), (5, .sl 0 0 s_5.1.length 0 s_5.1.length), (6, .v (.int .i64 s_5.2))], [.arr true 3 1 s_5.1.length (s_5.1.map (cI .i64))], []⟩ ((fun _ => .normal : Bool → Ex) o_9) ((fun o_9 => ⟨[(0, .ro false 8 a_1.length (a_1.map api_Ins.c)), (1, .v (.int .i64 a_2)), (5, .sl 0 0 s_5.1.length 0 s_5.1.length), (6, .v (.int .i64 s_5.2)), (15, .v (.bool o_9))], [.arr true 3 1 s_5.1.length (s_5.1.map (cI .i64))], []⟩ : Bool → ASt) o_9) := by
      clear H
      have H := e_10
      clear e_10
      rcases b2 (decide (s_5.2 < (a_1.length : Int))) with h_12 | h_12
      · have H := itT h_12 H
        obtain rfl := Option.some.inj H
        exact Runs.fin (T := tb) mixed [br h_12, pk (rfl : true = true)] (by kernel_rfl)
      · have H := itF h_12 H
        obtain rfl := Option.some.inj H
        exact Runs.fin (T := tb) mixed [br h_12, pk (rfl : false = false)] (by kernel_rfl)
    rcases b2 o_9 with h_13 | h_13
    · have H := ibT h_13 H
      obtain ⟨o_14, e_15, H⟩ := bdE H
      have j_16 : Runs Try.prog selvageref10_Before.F.N 0 (sub_ selvageref10_Before.F.c [1, 1, 0, 1, 0, 0, 1, 0, 0, 0]) ⟨[(0, .ro false 8 a_1.length (a_1.map api_Ins.c)), (1, .v (.int .i64 a_2)), (5, .sl 0 0 s_5.1.length 0 s_5.1.length), (6, .v (.int .i64 s_5.2))], [.arr true 3 1 s_5.1.length (s_5.1.map (cI .i64))], []⟩ ((fun _ => .normal : Bool → Ex) o_14) ((fun o_14 => ⟨[(0, .ro false 8 a_1.length (a_1.map api_Ins.c)), (1, .v (.int .i64 a_2)), (5, .sl 0 0 s_5.1.length 0 s_5.1.length), (6, .v (.int .i64 s_5.2)), (46, .v (.bool o_14))], [.arr true 3 1 s_5.1.length (s_5.1.map (cI .i64))], []⟩ : Bool → ASt) o_14) := by
        clear H
        have H := e_15
        clear e_15
        rcases b2 (decide (s_5.2 = (wr .i64 (a_2 - (1 : Int))))) with h_17 | h_17
        · have H := itT h_17 H
          obtain ⟨g_18, H⟩ := gdE H
          let v_19 : api_Ins := gi a_1 s_5.2
          replace H := ltD H
          rcases b2 (decide (v_19.Op = (18 : Int))) with h_20 | h_20
          · have H := itT h_20 H
            let v_21 : api_Ins := gi a_1 s_5.2
            replace H := ltD H
            obtain ⟨r_22, e_23, H⟩ := bdE H
            rcases b2 r_22 with h_24 | h_24
            · have H := ibT h_24 H
              let v_25 : api_Ins := gi a_1 s_5.2
              replace H := ltD H
              obtain rfl := Option.some.inj H
              exact Runs.fin (T := tb) mixed [br h_17, ix api_Ins.c g_18, pk (rfl : true = true), bn h_20, ix api_Ins.c g_18, ca [] (selvageref10_Has.ev e_23), br h_24, ix api_Ins.c g_18, pk (rfl : true = true), pk (rfl : false = false)] (by kernel_rfl)
            · have H := ibF h_24 H
              obtain rfl := Option.some.inj H
              exact Runs.fin (T := tb) mixed [br h_17, ix api_Ins.c g_18, pk (rfl : true = true), bn h_20, ix api_Ins.c g_18, ca [] (selvageref10_Has.ev e_23), br h_24, pk (rfl : false = false), pk (rfl : false = false)] (by kernel_rfl)
          · have H := itF h_20 H
            obtain rfl := Option.some.inj H
            exact Runs.fin (T := tb) mixed [br h_17, ix api_Ins.c g_18, pk (rfl : true = true), bn h_20, pk (rfl : true = true)] (by kernel_rfl)
        · have H := itF h_17 H
          obtain ⟨g_26, H⟩ := gdE H
          let v_27 : api_Ins := gi a_1 s_5.2
          replace H := ltD H
          obtain ⟨r_28, e_29, H⟩ := bdE H
          rcases b2 r_28 with h_30 | h_30
          · have H := ibT h_30 H
            let v_31 : api_Ins := gi a_1 s_5.2
            replace H := ltD H
            obtain rfl := Option.some.inj H
            exact Runs.fin (T := tb) mixed [br h_17, pk (rfl : false = false), au, ix api_Ins.c g_26, ca [] (selvageref10_Has.ev e_29), br h_30, ix api_Ins.c g_26, pk (rfl : true = true), pk (rfl : false = false)] (by kernel_rfl)
          · have H := ibF h_30 H
            obtain rfl := Option.some.inj H
            exact Runs.fin (T := tb) mixed [br h_17, pk (rfl : false = false), au, ix api_Ins.c g_26, ca [] (selvageref10_Has.ev e_29), br h_30, pk (rfl : false = false), pk (rfl : false = false)] (by kernel_rfl)
      rcases b2 o_14 with h_32 | h_32
      · have H := ibT h_32 H
        obtain ⟨g_33, H⟩ := gdE H
        let v_34 : List Int := s_5.1 ++ ([s_5.2] : List Int)
        replace H := ltD H
        let v_35 : Int := wr .i64 (s_5.2 + (1 : Int))
        replace H := ltD H
        obtain rfl := Option.some.inj H
        exact Runs.fin (T := tb) mixed [sg_ 3 j_11, br h_13, sg_ 5 j_16, br h_32, ap (cI .i64) 8 false s_5.1 ([s_5.2] : List Int) g_33 (fun h => by cases h)] (by kernel_rfl)
      · have H := ibF h_32 H
        let v_36 : Int := wr .i64 (s_5.2 + (1 : Int))
        replace H := ltD H
        obtain rfl := Option.some.inj H
        exact Runs.fin (T := tb) mixed [sg_ 3 j_11, br h_13, sg_ 5 j_16, br h_32] (by kernel_rfl)
    · have H := ibF h_13 H
      obtain rfl := Option.some.inj H
      exact Runs.fin (T := tb) mixed [sg_ 3 j_11, br h_13] (by kernel_rfl)) e_7
  obtain rfl := Option.some.inj H
  exact selvageref10_Before.F.run tb mixed [su j_8, adL 5 (some 3) 1] rfl (by kernel_rfl)
end Go.Proofs.Ytgjibbicplbgbaa
set_option maxRecDepth 100000
namespace Go.Proofs.Ytgjibbicplbgbaa
open Go Go.RowKit Go.Proofs Go.Proofs.Ytgjibbicplbgbaa.X
open Go.Proofs.Ytgjibbicplbgbaa.B (wr sb feq fls qf flt i2f aget aset isnan isnan_flt)
noncomputable def selvageref10_Right.F : FI Try.prog 14 := ⟨Try.f14, 154, (Try.f14.body.getD .skip), Try.f14.results.toList, Try.call14, Try.func14, by kernel_rfl, by kernel_rfl, by kernel_rfl⟩
def selvageref10_Right.l2 (a_1 : List api_Ins) (s_14 : Int) (s_28 : Int) : Option (Int ⊕ (Unit ⊕ Unit)) :=
  if s_28 < s_14 then ((if 0 ≤ s_14 ∧ s_14 < (a_1.length : Int) then (letC (gi a_1 s_14) fun v_39 => (selvageref10_Has.m v_39.Op 100).bind fun r_40 => if r_40 = true then (if 0 ≤ s_28 ∧ s_28 < (a_1.length : Int) then (letC (gi a_1 s_28) fun v_44 => (selvageref10_Has.m v_44.Op 100).bind fun r_45 => if r_45 = true then (letC (gi a_1 s_14) fun v_48 => letC (gi a_1 s_28) fun v_49 => some ((decide (v_48.D = v_49.D)) : Bool)) else (some (false : Bool))) else none) else (some (false : Bool))) else none : Option Bool).bind fun o_35 => if o_35 = true then (some (Sum.inr (Sum.inl ()))) else (some (Sum.inl (wr .i64 (s_28 + (1 : Int)))))) else (some (Sum.inr (Sum.inr ())))
def selvageref10_Right.l4 (a_1 : List api_Ins) (s_53 : Int) (s_76 : Bool × Bool × Int) : Option ((Bool × Bool × Int) ⊕ (Bool × Bool)) :=
  if s_76.2.2 > (0 : Int) then ((selvageref10_Before.m a_1 s_76.2.2).bind fun r_81 => if 0 ≤ (0 : Int) ∧ (0 : Int) < (r_81.length : Int) then (letC (gi r_81 0) fun v_84 => if 0 ≤ v_84 ∧ v_84 < (a_1.length : Int) then (letC (gi a_1 v_84) fun v_86 => (selvageref10_Has.m v_86.Op 100).bind fun r_87 => if r_87 = true then ((if s_76.1 = true then (some (true : Bool)) else (letC (gi a_1 v_84) fun v_94 => if 0 ≤ s_53 ∧ s_53 < (a_1.length : Int) then (letC (gi a_1 s_53) fun v_96 => some ((decide (v_94.D = v_96.A)) : Bool)) else none) : Option Bool).bind fun o_90 => if s_76.2.1 = true then (some (Sum.inl (o_90, true, v_84))) else (letC (gi a_1 v_84) fun v_98 => if 0 ≤ s_53 ∧ s_53 < (a_1.length : Int) then (letC (gi a_1 s_53) fun v_100 => some (Sum.inl (o_90, (decide (v_98.D = v_100.B)), v_84))) else none)) else (some (Sum.inl (s_76.1, s_76.2.1, v_84)))) else none) else none) else (some (Sum.inr (s_76.1, s_76.2.1)))
def selvageref10_Right.l3 (a_1 : List api_Ins) (s_53 : Int) : Option (Int ⊕ (Unit ⊕ Unit)) :=
  if s_53 < (a_1.length : Int) then ((if s_53 > (0 : Int) then ((selvageref10_Before.m a_1 s_53).bind fun r_64 => some ((!(decide ((r_64.length : Int) = (1 : Int)))) : Bool)) else (some (false : Bool)) : Option Bool).bind fun o_60 => if o_60 = true then (some (Sum.inr (Sum.inl ()))) else (if 0 ≤ s_53 ∧ s_53 < (a_1.length : Int) then (letC (gi a_1 s_53) fun v_68 => (selvageref10_Has.m v_68.Op 97).bind fun r_69 => letC (gi a_1 s_53) fun v_71 => (selvageref10_Has.m v_71.Op 98).bind fun r_72 => (B.loop (selvageref10_Right.l4 a_1 s_53) (((!r_69), (!r_72), s_53) : Bool × Bool × Int)).bind fun o_77 => if o_77.1 = true then (if o_77.2 = true then (some (Sum.inl (wr .i64 (s_53 + (1 : Int))))) else (some (Sum.inr (Sum.inl ())))) else (some (Sum.inr (Sum.inl ())))) else none)) else (some (Sum.inr (Sum.inr ())))
def selvageref10_Right.l1 (a_1 : List api_Ins) (a_2 : List api_Loc) (s_14 : Int) : Option (Int ⊕ (Unit ⊕ Unit)) :=
  if s_14 < (a_1.length : Int) then (if 0 ≤ s_14 ∧ s_14 < (a_1.length : Int) then (letC (gi a_1 s_14) fun v_22 => (selvageref10_plain.m v_22 s_14 (a_1.length : Int) a_2).bind fun r_23 => if r_23 = true then ((B.loop (selvageref10_Right.l2 a_1 s_14) (0 : Int)).bind fun o_29 => match o_29 with | Sum.inl s_32 => (some (Sum.inr (Sum.inl ()))) | Sum.inr (s_33) => (some (Sum.inl (wr .i64 (s_14 + (1 : Int)))))) else (some (Sum.inr (Sum.inl ())))) else none) else (some (Sum.inr (Sum.inr ())))
def selvageref10_Right.m (a_1 : List api_Ins) (a_2 : List api_Loc) : Option (Bool) :=
  (if (a_1.length : Int) < (1 : Int) then (some (true : Bool)) else (if (a_1.length : Int) > (400 : Int) then (some (true : Bool)) else (letC (wr .i64 ((a_1.length : Int) - (1 : Int))) fun v_8 => if 0 ≤ v_8 ∧ v_8 < (a_1.length : Int) then (letC (gi a_1 v_8) fun v_10 => some ((!(decide (v_10.Op = (18 : Int)))) : Bool)) else none)) : Option Bool).bind fun o_3 => if o_3 = true then (some false) else ((B.loop (selvageref10_Right.l1 a_1 a_2) (0 : Int)).bind fun o_15 => match o_15 with | Sum.inl s_18 => (some false) | Sum.inr (s_19) => ((B.loop (selvageref10_Right.l3 a_1) (0 : Int)).bind fun o_54 => match o_54 with | Sum.inl s_57 => (some false) | Sum.inr (s_58) => (some true)))
noncomputable def selvageref10_Right.o (a_1 : List api_Ins) (a_2 : List api_Loc) (r : Bool) : Out := .ret (.v (.bool r)) [] []
theorem selvageref10_Right.ev {a_1 : List api_Ins} {a_2 : List api_Loc} {r : Bool} (H : selvageref10_Right.m a_1 a_2 = some r) : Ev Try.prog 14 [.ro false 8 a_1.length (a_1.map api_Ins.c), .ro false 2 a_2.length (a_2.map api_Loc.c)] [] [] (selvageref10_Right.o a_1 a_2 r) := by
  unfold selvageref10_Right.m at H
  obtain ⟨o_3, e_4, H⟩ := bdE H
  have j_5 : Runs Try.prog selvageref10_Right.F.N 0 (sub_ selvageref10_Right.F.c [1, 0, 0]) ⟨[(0, .ro false 8 a_1.length (a_1.map api_Ins.c)), (1, .ro false 2 a_2.length (a_2.map api_Loc.c))], [], []⟩ ((fun _ => .normal : Bool → Ex) o_3) ((fun o_3 => ⟨[(0, .ro false 8 a_1.length (a_1.map api_Ins.c)), (1, .ro false 2 a_2.length (a_2.map api_Loc.c)), (28, .v (.bool o_3))], [], []⟩ : Bool → ASt) o_3) := by
    clear H
    have H := e_4
    clear e_4
    rcases b2 (decide ((a_1.length : Int) < (1 : Int))) with h_6 | h_6
    · have H := itT h_6 H
      obtain rfl := Option.some.inj H
      exact Runs.fin (T := tb) mixed [br h_6, pk (rfl : true = true), au, pk (rfl : true = true)] (by kernel_rfl)
    · have H := itF h_6 H
      rcases b2 (decide ((a_1.length : Int) > (400 : Int))) with h_7 | h_7
      · have H := itT h_7 H
        obtain rfl := Option.some.inj H
        exact Runs.fin (T := tb) mixed [br h_6, pk (rfl : false = false), br h_7, pk (rfl : true = true)] (by kernel_rfl)
      · have H := itF h_7 H
        let v_8 : Int := wr .i64 ((a_1.length : Int) - (1 : Int))
        replace H := ltD H
        obtain ⟨g_9, H⟩ := gdE H
        let v_10 : api_Ins := gi a_1 v_8
        replace H := ltD H
        obtain rfl := Option.some.inj H
        exact Runs.fin (T := tb) mixed [br h_6, pk (rfl : false = false), br h_7, ix api_Ins.c g_9, pk (rfl : false = false)] (by kernel_rfl)
  rcases b2 o_3 with h_11 | h_11
  · have H := ibT h_11 H
    obtain rfl := Option.some.inj H
    exact selvageref10_Right.F.run tb mixed [sg_ 1 j_5, br h_11] rfl (by kernel_rfl)
  · have H := ibF h_11 H
    obtain ⟨o_15, e_16, H⟩ := bdE H
    have j_17 := Runs.loop (P := Try.prog) (N := selvageref10_Right.F.N) (m0 := 0) (c := sub_ selvageref10_Right.F.c [1, 1, 0, 1, 0, 0]) (f := (selvageref10_Right.l1 a_1 a_2)) (St := fun s_14 => ⟨[(0, .ro false 8 a_1.length (a_1.map api_Ins.c)), (1, .ro false 2 a_2.length (a_2.map api_Loc.c)), (5, .v (.int .i64 s_14))], [], []⟩) (xo := (fun o => match o with | Sum.inl _ => .ret | Sum.inr (_) => (.exit 0) : (Unit ⊕ Unit) → Ex)) (So := (fun o => match o with | Sum.inl s_18 => ⟨[(4, .v (.bool false))], [], []⟩ | Sum.inr (s_19) => ⟨[(0, .ro false 8 a_1.length (a_1.map api_Ins.c))], [], []⟩ : (Unit ⊕ Unit) → ASt)) (by intro o; rcases o with _ | _ <;> simp) (fun s_14 z H => by
      unfold selvageref10_Right.l1 at H
      rcases b2 (decide (s_14 < (a_1.length : Int))) with h_20 | h_20
      · have H := itT h_20 H
        obtain ⟨g_21, H⟩ := gdE H
        let v_22 : api_Ins := gi a_1 s_14
        replace H := ltD H
        obtain ⟨r_23, e_24, H⟩ := bdE H
        rcases b2 r_23 with h_25 | h_25
        · have H := ibT h_25 H
          obtain ⟨o_29, e_30, H⟩ := bdE H
          have j_31 := Runs.loop (P := Try.prog) (N := selvageref10_Right.F.N) (m0 := 0) (c := sub_ selvageref10_Right.F.c [1, 1, 0, 1, 0, 0, 1, 0, 0, 1, 1, 0, 0]) (f := (selvageref10_Right.l2 a_1 s_14)) (St := fun s_28 => ⟨[(0, .ro false 8 a_1.length (a_1.map api_Ins.c)), (1, .ro false 2 a_2.length (a_2.map api_Loc.c)), (5, .v (.int .i64 s_14)), (6, .v (.int .i64 s_28))], [], []⟩) (xo := (fun o => match o with | Sum.inl _ => .ret | Sum.inr (_) => (.exit 2) : (Unit ⊕ Unit) → Ex)) (So := (fun o => match o with | Sum.inl s_32 => ⟨[(4, .v (.bool false))], [], []⟩ | Sum.inr (s_33) => ⟨[(0, .ro false 8 a_1.length (a_1.map api_Ins.c)), (1, .ro false 2 a_2.length (a_2.map api_Loc.c)), (5, .v (.int .i64 s_14))], [], []⟩ : (Unit ⊕ Unit) → ASt)) (by intro o; rcases o with _ | _ <;> simp) (fun s_28 z H => by
            unfold selvageref10_Right.l2 at H
            rcases b2 (decide (s_28 < s_14)) with h_34 | h_34
            · have H := itT h_34 H
              obtain ⟨o_35, e_36, H⟩ := bdE H
              have j_37 : Runs Try.prog selvageref10_Right.F.N 0 (sub_ selvageref10_Right.F.c [1, 1, 0, 1, 0, 0, 1, 0, 0, 1, 1, 0, 0, 1, 0, 0, 0]) ⟨[(0, .ro false 8 a_1.length (a_1.map api_Ins.c)), (1, .ro false 2 a_2.length (a_2.map api_Loc.c)), (5, .v (.int .i64 s_14)), (6, .v (.int .i64 s_28))], [], []⟩ ((fun _ => .normal : Bool → Ex) o_35) ((fun o_35 => ⟨[(0, .ro false 8 a_1.length (a_1.map api_Ins.c)), (1, .ro false 2 a_2.length (a_2.map api_Loc.c)), (5, .v (.int .i64 s_14)), (6, .v (.int .i64 s_28)), (76, .v (.bool o_35))], [], []⟩ : Bool → ASt) o_35) := by
                clear H
                have H := e_36
                clear e_36
                obtain ⟨g_38, H⟩ := gdE H
                let v_39 : api_Ins := gi a_1 s_14
                replace H := ltD H
                obtain ⟨r_40, e_41, H⟩ := bdE H
                rcases b2 r_40 with h_42 | h_42
                · have H := ibT h_42 H
                  obtain ⟨g_43, H⟩ := gdE H
                  let v_44 : api_Ins := gi a_1 s_28
                  replace H := ltD H
                  obtain ⟨r_45, e_46, H⟩ := bdE H
                  rcases b2 r_45 with h_47 | h_47
                  · have H := ibT h_47 H
                    let v_48 : api_Ins := gi a_1 s_14
                    replace H := ltD H
                    let v_49 : api_Ins := gi a_1 s_28
                    replace H := ltD H
                    obtain rfl := Option.some.inj H
                    exact Runs.fin (T := tb) mixed [ix api_Ins.c g_38, ca [] (selvageref10_Has.ev e_41), br h_42, ix api_Ins.c g_43, ca [] (selvageref10_Has.ev e_46), pk (rfl : true = true), br h_47, ix api_Ins.c g_38, ix api_Ins.c g_43, pk (rfl : true = true)] (by kernel_rfl)
                  · have H := ibF h_47 H
                    obtain rfl := Option.some.inj H
                    exact Runs.fin (T := tb) mixed [ix api_Ins.c g_38, ca [] (selvageref10_Has.ev e_41), br h_42, ix api_Ins.c g_43, ca [] (selvageref10_Has.ev e_46), pk (rfl : true = true), br h_47, pk (rfl : false = false)] (by kernel_rfl)
                · have H := ibF h_42 H
                  obtain rfl := Option.some.inj H
                  exact Runs.fin (T := tb) mixed [ix api_Ins.c g_38, ca [] (selvageref10_Has.ev e_41), br h_42, pk (rfl : false = false), au, pk (rfl : false = false)] (by kernel_rfl)
              rcases b2 o_35 with h_50 | h_50
              · have H := ibT h_50 H
                obtain rfl := Option.some.inj H
                exact Runs.fin (T := tb) mixed [br h_34, sg_ 11 j_37, br h_50] (by kernel_rfl)
              · have H := ibF h_50 H
                obtain rfl := Option.some.inj H
                exact Runs.fin (T := tb) mixed [br h_34, sg_ 11 j_37, br h_50] (by kernel_rfl)
            · have H := itF h_34 H
              obtain rfl := Option.some.inj H
              exact Runs.fin (T := tb) mixed [br h_34] (by kernel_rfl)) e_30
          rcases o_29 with s_32 | s_33
          · obtain rfl := Option.some.inj H
            exact Runs.fin (T := tb) mixed [br h_20, ix api_Ins.c g_21, ca [] (selvageref10_plain.ev e_24), bn h_25, su j_31] (by kernel_rfl)
          · obtain rfl := Option.some.inj H
            exact Runs.fin (T := tb) mixed [br h_20, ix api_Ins.c g_21, ca [] (selvageref10_plain.ev e_24), bn h_25, su j_31] (by kernel_rfl)
        · have H := ibF h_25 H
          obtain rfl := Option.some.inj H
          exact Runs.fin (T := tb) mixed [br h_20, ix api_Ins.c g_21, ca [] (selvageref10_plain.ev e_24), bn h_25] (by kernel_rfl)
      · have H := itF h_20 H
        obtain rfl := Option.some.inj H
        exact Runs.fin (T := tb) mixed [br h_20] (by kernel_rfl)) e_16
    rcases o_15 with s_18 | s_19
    · obtain rfl := Option.some.inj H
      exact selvageref10_Right.F.run tb mixed [sg_ 1 j_5, br h_11, su j_17] rfl (by kernel_rfl)
    · obtain ⟨o_54, e_55, H⟩ := bdE H
      have j_56 := Runs.loop (P := Try.prog) (N := selvageref10_Right.F.N) (m0 := 0) (c := sub_ selvageref10_Right.F.c [1, 1, 1, 0, 1, 0, 0]) (f := (selvageref10_Right.l3 a_1)) (St := fun s_53 => ⟨[(0, .ro false 8 a_1.length (a_1.map api_Ins.c)), (7, .v (.int .i64 s_53))], [], []⟩) (xo := (fun o => match o with | Sum.inl _ => .ret | Sum.inr (_) => (.exit 4) : (Unit ⊕ Unit) → Ex)) (So := (fun o => match o with | Sum.inl s_57 => ⟨[(4, .v (.bool false))], [], []⟩ | Sum.inr (s_58) => ⟨[], [], []⟩ : (Unit ⊕ Unit) → ASt)) (by intro o; rcases o with _ | _ <;> simp) (fun s_53 z H => by
        unfold selvageref10_Right.l3 at H
        rcases b2 (decide (s_53 < (a_1.length : Int))) with h_59 | h_59
        · have H := itT h_59 H
          obtain ⟨o_60, e_61, H⟩ := bdE H
          have j_62 : Runs Try.prog selvageref10_Right.F.N 0 (sub_ selvageref10_Right.F.c [1, 1, 1, 0, 1, 0, 0, 1, 0, 0, 0, 0]) ⟨[(0, .ro false 8 a_1.length (a_1.map api_Ins.c)), (7, .v (.int .i64 s_53))], [], []⟩ ((fun _ => .normal : Bool → Ex) o_60) ((fun o_60 => ⟨[(0, .ro false 8 a_1.length (a_1.map api_Ins.c)), (7, .v (.int .i64 s_53)), (91, .v (.bool o_60))], [], []⟩ : Bool → ASt) o_60) := by
            clear H
            have H := e_61
            clear e_61
            rcases b2 (decide (s_53 > (0 : Int))) with h_63 | h_63
            · have H := itT h_63 H
              obtain ⟨r_64, e_65, H⟩ := bdE H
              obtain rfl := Option.some.inj H
              exact Runs.fin (T := tb) mixed [br h_63, ca [] (selvageref10_Before.ev e_65), pk (rfl : true = true)] (by kernel_rfl)
            · have H := itF h_63 H
              obtain rfl := Option.some.inj H
              exact Runs.fin (T := tb) mixed [br h_63, pk (rfl : false = false)] (by kernel_rfl)
          rcases b2 o_60 with h_66 | h_66
          · have H := ibT h_66 H
            obtain rfl := Option.some.inj H
            exact Runs.fin (T := tb) mixed [br h_59, sg_ 16 j_62, br h_66] (by kernel_rfl)
          · have H := ibF h_66 H
            obtain ⟨g_67, H⟩ := gdE H
            let v_68 : api_Ins := gi a_1 s_53
            replace H := ltD H
            obtain ⟨r_69, e_70, H⟩ := bdE H
            let v_71 : api_Ins := gi a_1 s_53
            replace H := ltD H
            obtain ⟨r_72, e_73, H⟩ := bdE H
            obtain ⟨o_77, e_78, H⟩ := bdE H
            have j_79 := Runs.loop (P := Try.prog) (N := selvageref10_Right.F.N) (m0 := 0) (c := sub_ selvageref10_Right.F.c [1, 1, 1, 0, 1, 0, 0, 1, 0, 0, 1, 1, 0, 1, 0, 0]) (f := (selvageref10_Right.l4 a_1 s_53)) (St := fun s_76 => ⟨[(0, .ro false 8 a_1.length (a_1.map api_Ins.c)), (7, .v (.int .i64 s_53)), (8, .v (.bool s_76.1)), (9, .v (.bool s_76.2.1)), (10, .v (.int .i64 s_76.2.2))], [], []⟩) (xo := (fun _ => (.exit 6) : (Bool × Bool) → Ex)) (So := (fun o_77 => ⟨[(0, .ro false 8 a_1.length (a_1.map api_Ins.c)), (7, .v (.int .i64 s_53)), (8, .v (.bool o_77.1)), (9, .v (.bool o_77.2))], [], []⟩ : (Bool × Bool) → ASt)) (by intro o; simp) (fun s_76 z H => by
              unfold selvageref10_Right.l4 at H
              rcases b2 (decide (s_76.2.2 > (0 : Int))) with h_80 | h_80
              · have H := itT h_80 H
                obtain ⟨r_81, e_82, H⟩ := bdE H
                obtain ⟨g_83, H⟩ := gdE H
                let v_84 : Int := gi r_81 0
                replace H := ltD H
                obtain ⟨g_85, H⟩ := gdE H
                let v_86 : api_Ins := gi a_1 v_84
                replace H := ltD H
                obtain ⟨r_87, e_88, H⟩ := bdE H
                rcases b2 r_87 with h_89 | h_89
                · have H := ibT h_89 H
                  obtain ⟨o_90, e_91, H⟩ := bdE H
                  have j_92 : Runs Try.prog selvageref10_Right.F.N 0 (sub_ selvageref10_Right.F.c [1, 1, 1, 0, 1, 0, 0, 1, 0, 0, 1, 1, 0, 1, 0, 0, 1, 0, 1, 1, 0, 0]) ⟨[(0, .ro false 8 a_1.length (a_1.map api_Ins.c)), (7, .v (.int .i64 s_53)), (8, .v (.bool s_76.1)), (9, .v (.bool s_76.2.1)), (10, .v (.int .i64 v_84))], [], []⟩ ((fun _ => .normal : Bool → Ex) o_90) ((fun o_90 => ⟨[(0, .ro false 8 a_1.length (a_1.map api_Ins.c)), (7, .v (.int .i64 s_53)), (8, .v (.bool o_90)), (9, .v (.bool s_76.2.1)), (10, .v (.int .i64 v_84))], [], []⟩ : Bool → ASt) o_90) := by
                    clear H
                    have H := e_91
                    clear e_91
                    rcases b2 s_76.1 with h_93 | h_93
                    · have H := ibT h_93 H
                      obtain rfl := Option.some.inj H
                      exact Runs.fin (T := tb) mixed [br h_93, pk (rfl : true = true)] (by kernel_rfl)
                    · have H := ibF h_93 H
                      let v_94 : api_Ins := gi a_1 v_84
                      replace H := ltD H
                      obtain ⟨g_95, H⟩ := gdE H
                      let v_96 : api_Ins := gi a_1 s_53
                      replace H := ltD H
                      obtain rfl := Option.some.inj H
                      exact Runs.fin (T := tb) mixed [br h_93, ix api_Ins.c g_85, ix api_Ins.c g_95, pk (rfl : false = false)] (by kernel_rfl)
                  rcases b2 s_76.2.1 with h_97 | h_97
                  · have H := ibT h_97 H
                    obtain rfl := Option.some.inj H
                    exact Runs.fin (T := tb) mixed [br h_80, ca [] (selvageref10_Before.ev e_82), pf g_83, el (cI .i64) g_83, ix api_Ins.c g_85, ca [] (selvageref10_Has.ev e_88), br h_89, sg_ 23 j_92, br h_97, pk (rfl : true = true)] (by kernel_rfl)
                  · have H := ibF h_97 H
                    let v_98 : api_Ins := gi a_1 v_84
                    replace H := ltD H
                    obtain ⟨g_99, H⟩ := gdE H
                    let v_100 : api_Ins := gi a_1 s_53
                    replace H := ltD H
                    obtain rfl := Option.some.inj H
                    exact Runs.fin (T := tb) mixed [br h_80, ca [] (selvageref10_Before.ev e_82), pf g_83, el (cI .i64) g_83, ix api_Ins.c g_85, ca [] (selvageref10_Has.ev e_88), br h_89, sg_ 23 j_92, br h_97, ix api_Ins.c g_85, ix api_Ins.c g_99, pk (rfl : false = false)] (by kernel_rfl)
                · have H := ibF h_89 H
                  obtain rfl := Option.some.inj H
                  exact Runs.fin (T := tb) mixed [br h_80, ca [] (selvageref10_Before.ev e_82), pf g_83, el (cI .i64) g_83, ix api_Ins.c g_85, ca [] (selvageref10_Has.ev e_88), br h_89] (by kernel_rfl)
              · have H := itF h_80 H
                obtain rfl := Option.some.inj H
                exact Runs.fin (T := tb) mixed [br h_80] (by kernel_rfl)) e_78
            rcases b2 o_77.1 with h_101 | h_101
            · have H := ibT h_101 H
              rcases b2 o_77.2 with h_102 | h_102
              · have H := ibT h_102 H
                obtain rfl := Option.some.inj H
                exact Runs.fin (T := tb) mixed [br h_59, sg_ 16 j_62, br h_66, ix api_Ins.c g_67, ca [] (selvageref10_Has.ev e_70), ix api_Ins.c g_67, ca [] (selvageref10_Has.ev e_73), su j_79, bn h_101, pk (rfl : false = false), bn h_102] (by kernel_rfl)
              · have H := ibF h_102 H
                obtain rfl := Option.some.inj H
                exact Runs.fin (T := tb) mixed [br h_59, sg_ 16 j_62, br h_66, ix api_Ins.c g_67, ca [] (selvageref10_Has.ev e_70), ix api_Ins.c g_67, ca [] (selvageref10_Has.ev e_73), su j_79, bn h_101, pk (rfl : false = false), bn h_102] (by kernel_rfl)
            · have H := ibF h_101 H
              obtain rfl := Option.some.inj H
              exact Runs.fin (T := tb) mixed [br h_59, sg_ 16 j_62, br h_66, ix api_Ins.c g_67, ca [] (selvageref10_Has.ev e_70), ix api_Ins.c g_67, ca [] (selvageref10_Has.ev e_73), su j_79, bn h_101, pk (rfl : true = true), au] (by kernel_rfl)
        · have H := itF h_59 H
          obtain rfl := Option.some.inj H
          exact Runs.fin (T := tb) mixed [br h_59] (by kernel_rfl)) e_55
      rcases o_54 with s_57 | s_58
      · obtain rfl := Option.some.inj H
        exact selvageref10_Right.F.run tb mixed [sg_ 1 j_5, br h_11, su j_17, su j_56] rfl (by kernel_rfl)
      · obtain rfl := Option.some.inj H
        exact selvageref10_Right.F.run tb mixed [sg_ 1 j_5, br h_11, su j_17, su j_56] rfl (by kernel_rfl)
end Go.Proofs.Ytgjibbicplbgbaa
set_option maxRecDepth 100000
namespace Go.Proofs.Ytgjibbicplbgbaa
open Go Go.RowKit Go.Proofs Go.Proofs.Ytgjibbicplbgbaa.X
open Go.Proofs.Ytgjibbicplbgbaa.B (wr sb feq fls qf flt i2f aget aset isnan isnan_flt)
noncomputable def selvageref14_weightOf.F : FI Try.prog 28 := ⟨Try.f28, 38, (Try.f28.body.getD .skip), Try.f28.results.toList, Try.call28, Try.func28, by kernel_rfl, by kernel_rfl, by kernel_rfl⟩
def selvageref14_weightOf.l1 (a_1 : List api_Ins) (a_2 : Int) (s_7 : Int × Int) : Option ((Int × Int) ⊕ Int) :=
  if s_7.2 < (a_1.length : Int) then (if 0 ≤ s_7.2 ∧ s_7.2 < (a_1.length : Int) then (letC (gi a_1 s_7.2) fun v_13 => (selvageref14_Uses.m v_13 a_2).bind fun r_14 => if r_14 = true then (letC (wr .i64 (s_7.1 + (1 : Int))) fun v_17 => letC (wr .i64 (s_7.2 + (1 : Int))) fun v_18 => some (Sum.inl (v_17, v_18))) else (letC (wr .i64 (s_7.2 + (1 : Int))) fun v_19 => some (Sum.inl (s_7.1, v_19)))) else none) else (some (Sum.inr s_7.1))
def selvageref14_weightOf.m (a_1 : List api_Ins) (a_2 : Int) : Option (Nat) :=
  (selvageref14_Span.m a_1 a_2).bind fun r_3 => (B.loop (selvageref14_weightOf.l1 a_1 a_2) ((0, 0) : Int × Int)).bind fun o_8 => letC (qf (flt (i2f o_8)) (flt (i2f (wr .i64 (r_3.2.1 - r_3.1))))) fun v_20 => some v_20
noncomputable def selvageref14_weightOf.o (a_1 : List api_Ins) (a_2 : Int) (r : Nat) : Out := .ret (.flt r) [] []
theorem selvageref14_weightOf.ev {a_1 : List api_Ins} {a_2 : Int} {r : Nat} (H : selvageref14_weightOf.m a_1 a_2 = some r) : Ev Try.prog 28 [.ro false 8 a_1.length (a_1.map api_Ins.c), .v (.int .i64 a_2)] [] [] (selvageref14_weightOf.o a_1 a_2 r) := by
  unfold selvageref14_weightOf.m at H
  obtain ⟨r_3, e_4, H⟩ := bdE H
  obtain ⟨o_8, e_9, H⟩ := bdE H
  have j_10 := Runs.loop (P := Try.prog) (N := selvageref14_weightOf.F.N) (m0 := 0) (c := sub_ selvageref14_weightOf.F.c [1, 1, 1, 0, 1, 0, 0]) (f := (selvageref14_weightOf.l1 a_1 a_2)) (St := fun s_7 => ⟨[(0, .ro false 8 a_1.length (a_1.map api_Ins.c)), (1, .v (.int .i64 a_2)), (5, .v (.int .i64 r_3.1)), (6, .v (.int .i64 r_3.2.1)), (8, .v (.int .i64 s_7.1)), (9, .v (.int .i64 s_7.2))], [], []⟩) (xo := (fun _ => (.exit 0) : Int → Ex)) (So := (fun o_8 => ⟨[(5, .v (.int .i64 r_3.1)), (6, .v (.int .i64 r_3.2.1)), (8, .v (.int .i64 o_8))], [], []⟩ : Int → ASt)) (by intro o; simp) (fun s_7 z H => by
    unfold selvageref14_weightOf.l1 at H
    rcases b2 (decide (s_7.2 < (a_1.length : Int))) with h_11 | h_11
    · have H := itT h_11 H
      obtain ⟨g_12, H⟩ := gdE H
      let v_13 : api_Ins := gi a_1 s_7.2
      replace H := ltD H
      obtain ⟨r_14, e_15, H⟩ := bdE H
      rcases b2 r_14 with h_16 | h_16
      · have H := ibT h_16 H
        let v_17 : Int := wr .i64 (s_7.1 + (1 : Int))
        replace H := ltD H
        let v_18 : Int := wr .i64 (s_7.2 + (1 : Int))
        replace H := ltD H
        obtain rfl := Option.some.inj H
        exact Runs.fin (T := tb) mixed [br h_11, ix api_Ins.c g_12, ca [] (selvageref14_Uses.ev e_15), br h_16] (by kernel_rfl)
      · have H := ibF h_16 H
        let v_19 : Int := wr .i64 (s_7.2 + (1 : Int))
        replace H := ltD H
        obtain rfl := Option.some.inj H
        exact Runs.fin (T := tb) mixed [br h_11, ix api_Ins.c g_12, ca [] (selvageref14_Uses.ev e_15), br h_16] (by kernel_rfl)
    · have H := itF h_11 H
      obtain rfl := Option.some.inj H
      exact Runs.fin (T := tb) mixed [br h_11] (by kernel_rfl)) e_9
  let v_20 : Nat := qf (flt (i2f o_8)) (flt (i2f (wr .i64 (r_3.2.1 - r_3.1))))
  replace H := ltD H
  obtain rfl := Option.some.inj H
  exact selvageref14_weightOf.F.run tb mixed [ca [] (selvageref14_Span.ev e_4), su j_10] rfl (by kernel_rfl)
end Go.Proofs.Ytgjibbicplbgbaa
set_option maxRecDepth 100000
namespace Go.Proofs.Ytgjibbicplbgbaa
open Go Go.RowKit Go.Proofs Go.Proofs.Ytgjibbicplbgbaa.X
open Go.Proofs.Ytgjibbicplbgbaa.B (wr sb feq fls qf flt i2f aget aset isnan isnan_flt)
def selvageref10_Has.k1 (a_2 : Int) (r_3 : ByteArray) (s_7 : Int) : Option (Int ⊕ (Unit ⊕ Unit)) :=
  if s_7 < (r_3.size : Int) then (if 0 ≤ s_7 ∧ s_7 < (r_3.size : Int) then (if (sb r_3 s_7) = a_2 then (some (Sum.inr (Sum.inl ()))) else (some (Sum.inl (wr .i64 (s_7 + (1 : Int)))))) else none) else (some (Sum.inr (Sum.inr ())))
theorem selvageref10_Has.k1_le (a_2 : Int) (r_3 : ByteArray) (s_7 : Int) : OLe (selvageref10_Has.k1 a_2 r_3 s_7) (selvageref10_Has.l1 a_2 r_3 s_7) := by
  unfold selvageref10_Has.k1 selvageref10_Has.l1
  try dsimp only [letC]
  repeat' with_reducible first | refine OLe.lp (fun _ => ?_) | refine OLe.bind ?_ (fun _ => ?_) | refine OLe.ite ?_ ?_ | exact OLe.rfl' | split
  all_goals try simp_all only [Option.some.injEq, reduceCtorEq]
  all_goals try subst_vars
  repeat' with_reducible first | refine OLe.lp (fun _ => ?_) | refine OLe.bind ?_ (fun _ => ?_) | refine OLe.ite ?_ ?_ | exact OLe.rfl' | split
  all_goals (exfalso; simp_all)
def selvageref10_Has.k (a_1 : Int) (a_2 : Int) : Option (Bool) :=
  letC (selvageref10_letters.m a_1) fun r_3 => (lpK (selvageref10_Has.k1 a_2 r_3) (0 : Int)).bind fun o_8 => match o_8 with | Sum.inl s_11 => (some true) | Sum.inr (s_12) => (some false)
theorem selvageref10_Has.k_le (a_1 : Int) (a_2 : Int) : OLe (selvageref10_Has.k a_1 a_2) (selvageref10_Has.m a_1 a_2) := by
  unfold selvageref10_Has.k selvageref10_Has.m
  try dsimp only [letC]
  repeat' with_reducible first | exact selvageref10_Has.k1_le .. | refine OLe.lp (fun _ => ?_) | refine OLe.bind ?_ (fun _ => ?_) | refine OLe.ite ?_ ?_ | exact OLe.rfl' | split
  all_goals try simp_all only [Option.some.injEq, reduceCtorEq]
  all_goals try subst_vars
  repeat' with_reducible first | exact selvageref10_Has.k1_le .. | refine OLe.lp (fun _ => ?_) | refine OLe.bind ?_ (fun _ => ?_) | refine OLe.ite ?_ ?_ | exact OLe.rfl' | split
  all_goals (exfalso; simp_all)
end Go.Proofs.Ytgjibbicplbgbaa
